/- Principals are named from one on with keys that were drawn, a pair is one either way, and who is put in a place is got, for every number and list; no condition. -/
import Derived.Test.YtlgbahgddpggfaaPPeopleKeysx5
namespace Go.Proofs.Ytlgbahgddpggfaa.Pure
open Go Go.RowKit Go.Proofs.Ytlgbahgddpggfaa.PPeopleKeys Go.Proofs.YtlgbahgddpggfaaW.PrintWords Go.Proofs.YtlgbahgddpggfaaW.PrintLast Go.Proofs.YtlgbahgddpggfaaW.PrintMore

theorem wf32 {x : Int} (h : (Lit.int .u32 x).wf = true) : 0 ≤ x ∧ x < 4294967296 := by
  simp only [Lit.wf, IntKind.min, IntKind.max, IntKind.signed, IntKind.bits, Bool.and_eq_true] at h
  simp at h
  omega
theorem wf8 {x : Int} (h : (Lit.int .u8 x).wf = true) : 0 ≤ x ∧ x < 256 := by
  simp only [Lit.wf, IntKind.min, IntKind.max, IntKind.signed, IntKind.bits, Bool.and_eq_true] at h
  simp at h
  omega
theorem wf16 {x : Int} (h : (Lit.int .u16 x).wf = true) : 0 ≤ x ∧ x < 65536 := by
  simp only [Lit.wf, IntKind.min, IntKind.max, IntKind.signed, IntKind.bits, Bool.and_eq_true] at h
  simp at h
  omega
theorem wf64 {x : Int} (h : (Lit.int .i64 x).wf = true) : -9223372036854775808 ≤ x ∧ x ≤ 9223372036854775807 := by
  simp only [Lit.wf, IntKind.min, IntKind.max, IntKind.signed, IntKind.bits, Bool.and_eq_true] at h
  simp at h
  omega
theorem w64 {x : Int} (h1 : -9223372036854775808 ≤ x) (h2 : x ≤ 9223372036854775807) : wrap64 x = x := by
  unfold wrap64
  omega
theorem rd_nat (xs : List Int) (i : Nat) (h : i < xs.length) : rd xs (i : Int) = xs[i] := by
  unfold rd
  simp [List.getD_eq_getElem?_getD, h]
/-- From place i on, n places: does p hold of all? -/
def allF (p : Nat → Bool) : Nat → Nat → Bool
  | 0, _ => true
  | n + 1, i => p i && allF p n (i + 1)
theorem allF_iff (p : Nat → Bool) (n i : Nat) : allF p n i = true ↔ ∀ j, i ≤ j → j < i + n → p j = true := by
  induction n generalizing i with
  | zero => simp [allF]; intro j h1 h2; omega
  | succ n ih =>
    simp only [allF, Bool.and_eq_true, ih]
    constructor
    · rintro ⟨h0, h⟩ j h1 h2
      by_cases e : j = i
      · subst e; exact h0
      · exact h j (by omega) (by omega)
    · intro h
      exact ⟨h i (by omega) (by omega), fun j h1 h2 => h j (by omega) (by omega)⟩
/-- The first place from i on, of n, of which p holds. -/
def fnd (p : Nat → Bool) : Nat → Nat → Option Nat
  | 0, _ => none
  | n + 1, i => if p i = true then some i else fnd p n (i + 1)
theorem fnd_some {p : Nat → Bool} {n i j : Nat} (h : fnd p n i = some j) : i ≤ j ∧ j < i + n ∧ p j = true ∧ ∀ m, i ≤ m → m < j → p m = false := by
  induction n generalizing i with
  | zero => simp [fnd] at h
  | succ n ih =>
    simp only [fnd] at h
    by_cases e : p i = true
    · rw [if_pos e] at h
      cases h
      exact ⟨Nat.le_refl _, by omega, e, fun m h1 h2 => by omega⟩
    · rw [if_neg e] at h
      obtain ⟨h1, h2, h3, h4⟩ := ih h
      refine ⟨by omega, by omega, h3, fun m m1 m2 => ?_⟩
      by_cases c : m = i
      · subst c; simpa using e
      · exact h4 m (by omega) m2
theorem fnd_none {p : Nat → Bool} {n i : Nat} (h : fnd p n i = none) : ∀ m, i ≤ m → m < i + n → p m = false := by
  induction n generalizing i with
  | zero => intro m h1 h2; omega
  | succ n ih =>
    simp only [fnd] at h
    by_cases e : p i = true
    · rw [if_pos e] at h; cases h
    · rw [if_neg e] at h
      intro m h1 h2
      by_cases c : m = i
      · subst c; simpa using e
      · exact ih h m (by omega) (by omega)
theorem fnd_eq_some {p : Nat → Bool} {n i j : Nat} (h1 : i ≤ j) (h2 : j < i + n) (h3 : p j = true) (h4 : ∀ m, i ≤ m → m < j → p m = false) : fnd p n i = some j := by
  cases h : fnd p n i with
  | none => have := fnd_none h j h1 h2; rw [this] at h3; cases h3
  | some q =>
    obtain ⟨a, b, c, d⟩ := fnd_some h
    congr 1
    rcases Nat.lt_trichotomy q j with e | e | e
    · have := h4 q a e; rw [this] at c; cases c
    · exact e
    · have := d j h1 e; rw [this] at h3; cases h3
theorem fnd_eq_none {p : Nat → Bool} {n i : Nat} (h : ∀ m, i ≤ m → m < i + n → p m = false) : fnd p n i = none := by
  cases e : fnd p n i with
  | none => rfl
  | some q =>
    obtain ⟨a, b, c, _⟩ := fnd_some e
    rw [h q a b] at c; cases c
theorem rows_eq (a b : List Int) (h : a.length = b.length) : allF (fun i => decide (rd a (i : Int) = rd b (i : Int))) a.length 0 = decide (a = b) := by
  rw [Bool.eq_iff_iff, allF_iff]
  simp only [decide_eq_true_eq]
  constructor
  · intro H
    apply List.ext_getElem h
    intro i h1 h2
    have := H i (by omega) (by omega)
    rw [rd_nat a i h1, rd_nat b i h2] at this
    exact this
  · intro e j _ _
    rw [e]
/-- A loop that asks place by place. -/
theorem all_loop (f : Nat → Nat → Option Bool) (n : Nat) (p : Nat → Bool) (h : ∀ k i, i ≤ n → f (k + 1) i = if i < n then (if p i = true then f k (i + 1) else some false) else some true) :
    ∀ (d k i : Nat), n - i = d → i ≤ n → d < k → f k i = some (allF p d i) := by
  intro d
  induction d with
  | zero =>
    intro k i h1 h2 h3
    obtain ⟨k, rfl⟩ : ∃ m, k = m + 1 := ⟨k - 1, by omega⟩
    rw [h k i h2, if_neg (by omega)]; rfl
  | succ d ih =>
    intro k i h1 h2 h3
    obtain ⟨k, rfl⟩ : ∃ m, k = m + 1 := ⟨k - 1, by omega⟩
    rw [h k i h2, if_pos (by omega)]
    simp only [allF]
    cases e : p i with
    | true => rw [if_pos rfl, ih k (i + 1) (by omega) (by omega) (by omega)]; simp
    | false => simp
/-- A loop that looks for the first place. -/
theorem fnd_loop {α : Type} (f : Nat → Nat → Option α) (n : Nat) (p : Nat → Bool) (yes : Nat → α) (no : α) (c : Nat) (h : ∀ k i, i ≤ n → c ≤ k → f (k + 1) i = if i < n then (if p i = true then some (yes i) else f k (i + 1)) else some no) :
    ∀ (d k i : Nat), n - i = d → i ≤ n → c + d < k → f k i = some (match fnd p d i with | some j => yes j | none => no) := by
  intro d
  induction d with
  | zero =>
    intro k i h1 h2 h3
    obtain ⟨k, rfl⟩ : ∃ m, k = m + 1 := ⟨k - 1, by omega⟩
    rw [h k i h2 (by omega), if_neg (by omega)]; rfl
  | succ d ih =>
    intro k i h1 h2 h3
    obtain ⟨k, rfl⟩ : ∃ m, k = m + 1 := ⟨k - 1, by omega⟩
    rw [h k i h2 (by omega), if_pos (by omega)]
    simp only [fnd]
    cases e : p i with
    | true => simp
    | false => rw [if_neg (by simp), if_neg (by simp), ih k (i + 1) (by omega) (by omega) (by omega)]
theorem wraps_u32 (n : Int) (h₀ : 0 ≤ n) (h₁ : n < 2 ^ 32) : IntKind.u32.wrap n = n := by rw [IntKind.wrap_u32]; omega
theorem bits_or (x : Int) (h : 0 ≤ x ∧ x < 4294967296) : Go.bits .or .u32 x 2147483648 = if x < 2147483648 then x + 2147483648 else x := by
  obtain ⟨n, rfl⟩ : ∃ n : Nat, x = (n : Int) := ⟨x.toNat, by omega⟩
  have hb := (bits_nat .u32 32 (by decide) wraps_u32 n 2147483648 (by omega) (by decide)).2
  have e : ((2147483648 : Nat) : Int) = 2147483648 := rfl
  rw [e] at hb
  rw [hb]
  by_cases c : n < 2147483648
  · rw [if_pos (by omega)]
    have h1 := Nat.two_pow_add_eq_or_of_lt (i := 31) (b := n) (by omega) 1
    have h2 : n ||| 2147483648 = 2147483648 + n := by rw [Nat.or_comm]; exact h1.symm
    omega
  · rw [if_neg (by omega)]
    have h1 := Nat.two_pow_add_eq_or_of_lt (i := 31) (b := n - 2147483648) (by omega) 1
    have h3 : n = 2147483648 ||| (n - 2147483648) := by
      have : 2 ^ 31 * 1 + (n - 2147483648) = n := by omega
      rw [this] at h1; exact h1
    have h2 : n ||| 2147483648 = n := by
      rw [Nat.or_comm, h3, ← Nat.or_assoc, Nat.or_self]
    rw [h2]
theorem draw_eq (x : Int) (h : 0 ≤ x ∧ x < 4294967296) : word_Draw.f x = some (if x < 2147483648 then x + 2147483648 else x) := by
  unfold word_Draw.f
  rw [bits_or x h]
theorem rsame_eq (a b : List Int) (k : Nat) (hb : a.length ≤ 4611686018427387904) (hk : a.length < k) : chamberlainref01_Same.f k a b = some (decide (a = b)) := by
  unfold chamberlainref01_Same.f
  by_cases hl : a.length = b.length
  · rw [if_pos (by omega)]
    have h := all_loop (fun k i => chamberlainref01_Same.l0 k a b (i : Int)) a.length (fun i => decide (rd a (i : Int) = rd b (i : Int))) (by
      intro k i hi
      simp only [chamberlainref01_Same.l0]
      by_cases c : i < a.length
      · rw [if_pos (by omega), if_pos (by omega), if_pos (by omega), if_pos c, w64 (by omega) (by omega)]
        simp
      · rw [if_neg (by omega), if_neg c]) a.length k 0 (by omega) (by omega) (by omega)
    simp only [Int.natCast_zero] at h
    rw [h, rows_eq a b hl]
  · rw [if_neg (by omega)]
    congr 1
    symm
    apply decide_eq_false
    intro e
    exact hl (by rw [e])
theorem bits_range (x : Int) (h : 0 ≤ x ∧ x < 4294967296) : 0 ≤ Go.bits .or .u32 1073741824 x ∧ Go.bits .or .u32 1073741824 x < 4294967296 := by
  obtain ⟨n, rfl⟩ : ∃ n : Nat, x = (n : Int) := ⟨x.toNat, by omega⟩
  have hb := (bits_nat .u32 32 (by decide) wraps_u32 1073741824 n (by decide) (by omega)).2
  have e : ((1073741824 : Nat) : Int) = 1073741824 := rfl
  rw [e] at hb
  rw [hb]
  have : 1073741824 ||| n < 2 ^ 32 := Nat.or_lt_two_pow (by decide) (by omega)
  omega
def rawAt (l : List Int) (i : Int) : Int := if i < (l.length : Int) then rd l i else Go.bits .or .u32 1073741824 (i % 4294967296)
def atOf (l : List Int) (i : Int) : Int := if rawAt l i < 2147483648 then rawAt l i + 2147483648 else rawAt l i
theorem rawAt_range (l : List Int) (i : Int) (hl : ∀ x ∈ l, (Lit.int .u32 x).wf = true) (h : 0 ≤ i) : 0 ≤ rawAt l i ∧ rawAt l i < 4294967296 := by
  unfold rawAt
  split
  · obtain ⟨n, rfl⟩ : ∃ n : Nat, i = (n : Int) := ⟨i.toNat, by omega⟩
    rw [rd_nat l n (by omega)]
    exact wf32 (hl _ (List.getElem_mem _))
  · exact bits_range _ (by omega)
theorem at_eq (l : List Int) (nx i : Int) (hl : ∀ x ∈ l, (Lit.int .u32 x).wf = true) (h : 0 ≤ i) : draw_at.f l nx i = some (atOf l i) := by
  have hr := rawAt_range l i hl h
  unfold draw_at.f atOf
  unfold rawAt at hr ⊢
  by_cases c : i < (l.length : Int)
  · rw [if_pos c] at hr
    rw [if_pos c, if_pos h, if_pos c, draw_eq _ hr]; rfl
  · rw [if_neg c] at hr
    rw [if_neg c, if_neg c, draw_eq _ hr]; rfl
theorem rat_eq (l : List Int) (nx i : Int) (hl : ∀ x ∈ l, (Lit.int .u32 x).wf = true) (h : 0 ≤ i) : chamberlainref04_At.f l nx i = some (atOf l i) := by
  have hr := rawAt_range l i hl h
  unfold chamberlainref04_At.f atOf
  unfold rawAt at hr ⊢
  by_cases c : i < (l.length : Int)
  · rw [if_pos c] at hr
    rw [if_pos c, if_pos h, if_pos c]
    by_cases d : rd l i < 2147483648
    · rw [if_pos d, if_pos d]; congr 1; omega
    · rw [if_neg d, if_neg d]
  · rw [if_neg c] at hr
    rw [if_neg c, if_neg c]
    generalize Go.bits .or .u32 1073741824 (i % 4294967296) = z at hr ⊢
    by_cases d : z < 2147483648
    · rw [if_pos d, if_pos d]; congr 1; omega
    · rw [if_neg d, if_neg d]
/-- So many draws, from one on. -/
def draws (l : List Int) (i : Int) : Nat → List Int
  | 0 => []
  | n + 1 => atOf l i :: draws l (i + 1) n
theorem draws_length (l : List Int) (n : Nat) : ∀ i, (draws l i n).length = n := by
  induction n with
  | zero => intro i; rfl
  | succ n ih => intro i; rw [draws, List.length_cons, ih]
theorem draws_get (l : List Int) (n : Nat) : ∀ (i : Int) (j : Nat) (h : j < (draws l i n).length), (draws l i n)[j] = atOf l (i + j) := by
  induction n with
  | zero => intro i j h; simp [draws] at h
  | succ n ih =>
    intro i j h
    cases j with
    | zero => simp [draws]
    | succ j =>
      simp only [draws, List.getElem_cons_succ]
      rw [ih]
      congr 1
      omega
theorem peek_l0 (l : List Int) (nx : Int) (hl : ∀ x ∈ l, (Lit.int .u32 x).wf = true) : ∀ (n k : Nat) (i : Int) (acc : List Int), 0 ≤ i → i + n ≤ 4611686018427387904 → acc.length + n ≤ 1000000 → n < k →
    draw_Peek.l0 k acc i (i + n) l nx = some (acc ++ draws l i n) := by
  intro n
  induction n with
  | zero =>
    intro k i acc h1 h2 h3 h4
    obtain ⟨k, rfl⟩ : ∃ m, k = m + 1 := ⟨k - 1, by omega⟩
    rw [draw_Peek.l0, if_neg (by omega), draws, List.append_nil]
  | succ n ih =>
    intro k i acc h1 h2 h3 h4
    obtain ⟨k, rfl⟩ : ∃ m, k = m + 1 := ⟨k - 1, by omega⟩
    rw [draw_Peek.l0, if_pos (by omega), at_eq l nx i hl h1, Option.bind_some, if_pos (by omega), w64 (by omega) (by omega)]
    have e : i + ((n + 1 : Nat) : Int) = (i + 1) + (n : Int) := by omega
    rw [e, ih k (i + 1) _ (by omega) (by omega) (by rw [List.length_append]; simp; omega) (by omega), draws]
    simp
theorem peek_eq (l : List Int) (nx : Int) (n k : Nat) (hl : ∀ x ∈ l, (Lit.int .u32 x).wf = true) (h1 : 0 ≤ nx) (h2 : nx ≤ 1000000000) (h3 : n ≤ 1000000) (h4 : n < k) : draw_Peek.f k l nx (n : Int) = some (draws l nx n) := by
  unfold draw_Peek.f
  rw [w64 (by omega) (by omega), peek_l0 l nx hl n k nx [] h1 (by omega) (by simpa using h3) h4, List.nil_append]
theorem rdP (xs : List S39) (i : Nat) (h : i < xs.length) : rd_T39 xs (i : Int) = xs[i] := by
  unfold rd_T39
  simp [List.getD_eq_getElem?_getD, h]
/-- Principals from one on, of these keys. -/
def ppl (i : Int) : List Int → List S39
  | [] => []
  | x :: xs => ⟨i, x, 0, [], [], false⟩ :: ppl (i + 1) xs
theorem ppl_length (xs : List Int) : ∀ i, (ppl i xs).length = xs.length := by
  induction xs with
  | nil => intro i; rfl
  | cons x xs ih => intro i; rw [ppl, List.length_cons, ih, List.length_cons]
theorem ppl_get (xs : List Int) : ∀ (i : Int) (j : Nat) (h : j < (ppl i xs).length) (h' : j < xs.length), (ppl i xs)[j] = ⟨i + j, xs[j], 0, [], [], false⟩ := by
  induction xs with
  | nil => intro i j h h'; simp at h'
  | cons x xs ih =>
    intro i j h h'
    cases j with
    | zero => simp [ppl]
    | succ j =>
      simp only [ppl, List.getElem_cons_succ]
      rw [ih (i + 1) j _ (by simpa using h')]
      congr 1
      omega
def rowOf (xs : List Int) : List S39 := ⟨0, 0, 0, [], [], false⟩ :: ppl 1 xs
theorem row_l0 (xs : List Int) (hx : xs.length ≤ 1000) : ∀ (d k i : Nat) (acc : List S39), xs.length - i = d → i ≤ xs.length → acc.length ≤ i + 1 → d < k →
    people_row.l0 k acc xs (xs.length : Int) (i : Int) = some (acc ++ ppl (i + 1) (xs.drop i)) := by
  intro d
  induction d with
  | zero =>
    intro k i acc h1 h2 h3 h4
    obtain ⟨k, rfl⟩ : ∃ m, k = m + 1 := ⟨k - 1, by omega⟩
    rw [people_row.l0, if_neg (by omega), List.drop_eq_nil_of_le (by omega), ppl, List.append_nil]
  | succ d ih =>
    intro k i acc h1 h2 h3 h4
    obtain ⟨k, rfl⟩ : ∃ m, k = m + 1 := ⟨k - 1, by omega⟩
    have hi : i < xs.length := by omega
    have ei : (i : Int) + 1 = ((i + 1 : Nat) : Int) := by omega
    have em : ((i + 1 : Nat) : Int) % 4294967296 = ((i + 1 : Nat) : Int) := by omega
    rw [people_row.l0, if_pos (by omega), if_pos (by omega), if_pos (by omega), if_pos (by omega), w64 (by omega) (by omega), rd_nat xs i hi, ei, em, ih k (i + 1) _ (by omega) (by omega) (by rw [List.length_append]; simp; omega) (by omega), List.drop_eq_getElem_cons hi, ppl]
    simp
theorem row_eq (xs : List Int) (k : Nat) (hx : xs.length ≤ 1000) (hk : xs.length < k) : people_row.f k xs = some (rowOf xs) := by
  unfold people_row.f rowOf
  have h := row_l0 xs hx xs.length k 0 [⟨0, 0, 0, [], [], false⟩] (by omega) (by omega) (by simp) hk
  simp only [Int.natCast_zero, Int.zero_add, List.drop_zero, List.singleton_append] at h
  exact h
theorem new_eq (n : Int) (l : List Int) (nx : Int) (k : Nat) (hl : ∀ x ∈ l, (Lit.int .u32 x).wf = true) (h1 : 0 ≤ nx) (h2 : nx ≤ 1000000000) (hk : 20 < k) :
    people_New.f k n l nx = some (if n < 1 ∨ n > 6 then ([], l, nx, 1) else (rowOf (draws l nx n.toNat), l, nx + n, 0)) := by
  unfold people_New.f
  obtain ⟨k, rfl⟩ : ∃ m, k = m + 1 := ⟨k - 1, by omega⟩
  by_cases c : n < 1
  · rw [if_pos c, people_New.j0, if_pos rfl, if_pos (Or.inl c)]
  rw [if_neg c, people_New.j0]
  by_cases d : n > 6
  · rw [if_pos (decide_eq_true d), if_pos (Or.inr d)]
  obtain ⟨m, rfl⟩ : ∃ m : Nat, n = (m : Int) := ⟨n.toNat, by omega⟩
  rw [if_neg (by simpa using d), peek_eq l nx m k hl h1 h2 (by omega) (by omega), Option.bind_some, row_eq _ k (by rw [draws_length]; omega) (by rw [draws_length]; omega), Option.bind_some, w64 (by omega) (by omega), if_neg (by omega)]
  simp
def rightP (l : List S39) : Bool := allF (fun i => decide ((rd_T39 l (i : Int)).f0 = (i : Int) % 4294967296)) l.length 0 && decide (2 ≤ l.length ∧ l.length ≤ 7)
theorem right_eq (l : List S39) (k : Nat) (hl : l.length ≤ 4611686018427387904) (hk : l.length < k) : people_Right.f k l = some (rightP l) := by
  unfold people_Right.f rightP
  have h : ∀ (d k i : Nat), l.length - i = d → i ≤ l.length → d < k → people_Right.l0 k l l (l.length : Int) (i : Int) = some (allF (fun i => decide ((rd_T39 l (i : Int)).f0 = (i : Int) % 4294967296)) d i && decide (2 ≤ l.length ∧ l.length ≤ 7)) := by
    intro d
    induction d with
    | zero =>
      intro k i h1 h2 h3
      obtain ⟨k, rfl⟩ : ∃ m, k = m + 1 := ⟨k - 1, by omega⟩
      rw [people_Right.l0, if_neg (by omega), allF, Bool.true_and]
      by_cases c : (l.length : Int) ≥ 2
      · rw [if_pos c]; congr 1; apply decide_eq_decide.mpr; omega
      · rw [if_neg c]; congr 1; symm; apply decide_eq_false; omega
    | succ d ih =>
      intro k i h1 h2 h3
      obtain ⟨k, rfl⟩ : ∃ m, k = m + 1 := ⟨k - 1, by omega⟩
      have ei : (i : Int) + 1 = ((i + 1 : Nat) : Int) := by omega
      rw [people_Right.l0, if_pos (by omega), if_pos (by omega), if_pos (by omega), allF]
      by_cases c : (rd_T39 l (i : Int)).f0 = (i : Int) % 4294967296
      · rw [if_pos c, w64 (by omega) (by omega), ei, ih k (i + 1) (by omega) (by omega) (by omega), decide_eq_true c, Bool.true_and]
      · rw [if_neg c, decide_eq_false c]; rfl
  have h0 := h l.length k 0 (by omega) (by omega) hk
  simp only [Int.natCast_zero] at h0
  exact h0
theorem rightP_iff (l : List S39) : rightP l = true ↔ (∀ i (h : i < l.length), l[i].f0 = (i : Int)) ∧ 2 ≤ l.length ∧ l.length ≤ 7 := by
  unfold rightP
  rw [Bool.and_eq_true, allF_iff, decide_eq_true_eq]
  constructor
  · rintro ⟨h1, h2⟩
    refine ⟨fun i hi => ?_, h2⟩
    have := h1 i (by omega) (by omega)
    rw [decide_eq_true_eq, rdP l i hi] at this
    omega
  · rintro ⟨h1, h2⟩
    refine ⟨fun i _ hi => ?_, h2⟩
    rw [decide_eq_true_eq, rdP l i (by omega), h1 i (by omega)]
    omega
theorem in_eq (l : List S39) (a : Int) (hl : l.length ≤ 1000000) (ha : 0 ≤ a ∧ a < 4294967296) : people_in.f l a = some (decide (a < (l.length : Int))) := by
  unfold people_in.f
  simp only [IntKind.wrap_u64]
  congr 1
  apply decide_eq_decide.mpr
  omega
/-- A person and whether there is one, as a tuple. -/
def six (p : S39) (ok : Bool) : Int × Int × Int × List Int × List S66 × Bool × Bool := (p.f0, p.f1, p.f2, p.f3, p.f4, p.f5, ok)
def getOf (l : List S39) (a : Int) : Int × Int × Int × List Int × List S66 × Bool × Bool := if a < (l.length : Int) then six (rd_T39 l a) true else (0, 0, 0, [], [], false, false)
theorem get_eq (l : List S39) (a : Int) (hl : l.length ≤ 1000000) (ha : 0 ≤ a ∧ a < 4294967296) : people_Get.f l a = some (getOf l a) := by
  unfold people_Get.f getOf six
  rw [in_eq l a hl ha, Option.bind_some]
  by_cases c : a < (l.length : Int)
  · rw [if_pos (decide_eq_true c), if_pos ha.1, if_pos c, if_pos c]
  · rw [if_neg (by simpa using c), if_neg c]
theorem clone_eq (l : List S39) (h : l.length < 1954687338268) : api_Person.f l = some l := by
  unfold api_Person.f
  rw [Option.bind_some, List.length_nil, if_pos (by omega), List.nil_append]
def setOf (l : List S39) (p : S39) : List S39 × Int := if p.f0 < (l.length : Int) then (l.set p.f0.toNat p, 0) else (l, 1)
theorem set_eq (l : List S39) (a b c : Int) (d : List Int) (e : List S66) (f : Bool) (hl : l.length ≤ 1000000) (ha : 0 ≤ a ∧ a < 4294967296) : people_Set.f l a b c d e f = some (setOf l ⟨a, b, c, d, e, f⟩) := by
  unfold people_Set.f setOf
  rw [in_eq l a hl ha, Option.bind_some]
  by_cases q : a < (l.length : Int)
  · rw [if_pos (decide_eq_true q), clone_eq l (by omega), Option.bind_some, if_pos ha.1, if_pos q, if_pos q]
  · rw [if_neg (by simpa using q), if_neg q]
def pairOf (l : List S39) (a b : Int) : Bool := decide (a ≠ b ∧ a ≠ 0 ∧ b ≠ 0 ∧ a < (l.length : Int) ∧ b < (l.length : Int))
theorem pair_eq (l : List S39) (a b : Int) (hl : l.length ≤ 1000000) (ha : 0 ≤ a ∧ a < 4294967296) (hb : 0 ≤ b ∧ b < 4294967296) : people_Pair.f l a b = some (pairOf l a b) := by
  unfold people_Pair.f pairOf
  by_cases c1 : a = b
  · rw [if_pos c1, decide_eq_false (fun h => h.1 c1)]
  rw [if_neg c1]
  by_cases c2 : a = 0
  · rw [if_pos c2, decide_eq_false (fun h => h.2.1 c2)]
  rw [if_neg c2]
  by_cases c3 : b = 0
  · rw [if_pos c3, decide_eq_false (fun h => h.2.2.1 c3)]
  rw [if_neg c3, in_eq l a hl ha, Option.bind_some, in_eq l b hl hb]
  by_cases c4 : a < (l.length : Int)
  · rw [if_pos (decide_eq_true c4), Option.bind_some]
    congr 1
    apply decide_eq_decide.mpr
    exact ⟨fun h => ⟨c1, c2, c3, c4, h⟩, fun h => h.2.2.2.2⟩
  · rw [if_neg (by simpa using c4), decide_eq_false (fun h => c4 h.2.2.2.1)]
theorem awake60 (k : Nat) (h : 60 ≤ k) : chamberlainlaw10_awake.f k = some true := at_rounds (chamberlainlaw10_awake.mono) h chamberlainlaw10_awake.at60
theorem rdT (xs : List S66) (i : Nat) (h : i < xs.length) : rd_T66 xs (i : Int) = xs[i] := by
  unfold rd_T66
  simp [List.getD_eq_getElem?_getD, h]
theorem runs_self (l : List S66) (k : Nat) (hl : l.length ≤ 1000000) (hk : l.length < k) : chamberlainref09_Same.f k l l = some true := by
  unfold chamberlainref09_Same.f
  rw [if_pos rfl]
  have h : ∀ (d k i : Nat), l.length - i = d → i ≤ l.length → d < k → chamberlainref09_Same.l0 k l l (i : Int) = some true := by
    intro d
    induction d with
    | zero =>
      intro k i h1 h2 h3
      obtain ⟨k, rfl⟩ : ∃ m, k = m + 1 := ⟨k - 1, by omega⟩
      rw [chamberlainref09_Same.l0, if_neg (by omega)]
    | succ d ih =>
      intro k i h1 h2 h3
      obtain ⟨k, rfl⟩ : ∃ m, k = m + 1 := ⟨k - 1, by omega⟩
      have ei : (i : Int) + 1 = ((i + 1 : Nat) : Int) := by omega
      rw [chamberlainref09_Same.l0, if_pos (by omega), if_pos (by omega), if_pos (by omega), if_neg (by simp), w64 (by omega) (by omega), ei, ih k (i + 1) (by omega) (by omega) (by omega)]
  have h0 := h l.length k 0 (by omega) (by omega) (by omega)
  simp only [Int.natCast_zero] at h0
  exact h0
/-- What a person has is short. -/
def small (p : S39) : Prop := p.f3.length ≤ 100 ∧ p.f4.length ≤ 100
theorem one_self (p : S39) (k : Nat) (h : small p) (hk : 200 < k) : chamberlainref10_One.f k p.f0 p.f1 p.f2 p.f3 p.f4 p.f5 p.f0 p.f1 p.f2 p.f3 p.f4 p.f5 = some true := by
  obtain ⟨h1, h2⟩ := h
  unfold chamberlainref10_One.f
  rw [if_pos rfl, if_pos rfl, if_pos rfl, if_pos (by simp), rsame_eq _ _ k (by omega) (by omega), Option.bind_some, if_pos (by simp), runs_self _ k (by omega) (by omega)]
  rfl
theorem rowOf_length (xs : List Int) : (rowOf xs).length = xs.length + 1 := by unfold rowOf; rw [List.length_cons, ppl_length]
theorem rowOf_succ (xs : List Int) (i : Nat) (h : i < xs.length) (h' : i + 1 < (rowOf xs).length) : (rowOf xs)[i + 1] = ⟨1 + i, xs[i], 0, [], [], false⟩ := by
  simp only [rowOf, List.getElem_cons_succ]
  rw [ppl_get xs 1 i _ h]
theorem rowOf_f0 (xs : List Int) (i : Nat) (h : i < (rowOf xs).length) : (rowOf xs)[i].f0 = (i : Int) := by
  cases i with
  | zero => rfl
  | succ i => rw [rowOf_succ xs i (by rw [rowOf_length] at h; omega)]; dsimp only; omega
theorem row_small (xs : List Int) : ∀ p ∈ rowOf xs, small p := by
  have h : ∀ (xs : List Int) (i : Int), ∀ p ∈ ppl i xs, small p := by
    intro xs
    induction xs with
    | nil => intro i p hp; simp [ppl] at hp
    | cons x xs ih =>
      intro i p hp
      rw [ppl, List.mem_cons] at hp
      rcases hp with rfl | hp
      · exact ⟨by simp, by simp⟩
      · exact ih _ p hp
  intro p hp
  unfold rowOf at hp
  rw [List.mem_cons] at hp
  rcases hp with rfl | hp
  · exact ⟨by simp, by simp⟩
  · exact h xs 1 p hp
theorem getOf_in (L : List S39) (i : Nat) (h : i < L.length) : getOf L (i : Int) = six L[i] true := by
  unfold getOf; rw [if_pos (by omega), rdP L i h]
/-- The second loop: behind one that is set all others are as they were. -/
theorem keys_l1 (L : List S39) (m a : Nat) (c : Int) (p : S39) (hL : L.length = m + 1) (h1 : 1 ≤ m) (h6 : m ≤ 6) (hf : ∀ i (h : i < L.length), L[i].f0 = (i : Int)) (hs : ∀ q ∈ L, small q) (hp : p.f0 = (a : Int)) (hc : p.f2 = c) (ha : a < L.length) :
    ∀ (d k i : Nat), m + 1 - i = d → i ≤ m + 1 → d + 300 < k → chamberlainlaw10_PeopleKeys.l1 k (a : Int) c (m : Int) L (L.set a p) 0 (i : Int) = some true := by
  intro d
  induction d with
  | zero =>
    intro k i e1 e2 e3
    obtain ⟨k, rfl⟩ : ∃ z, k = z + 1 := ⟨k - 1, by omega⟩
    rw [chamberlainlaw10_PeopleKeys.l1, if_neg (by omega), if_pos rfl, right_eq _ k (by rw [List.length_set]; omega) (by rw [List.length_set]; omega)]
    have hr : rightP (L.set a p) = true := by
      rw [rightP_iff]
      refine ⟨fun j hj => ?_, by rw [List.length_set]; omega, by rw [List.length_set]; omega⟩
      rw [List.getElem_set]
      split
      · omega
      · exact hf j _
    rw [hr]; rfl
  | succ d ih =>
    intro k i e1 e2 e3
    obtain ⟨k, rfl⟩ : ∃ z, k = z + 1 := ⟨k - 1, by omega⟩
    have ei : (i : Int) % 4294967296 = (i : Int) := by omega
    have ej : (i : Int) + 1 = ((i + 1 : Nat) : Int) := by omega
    rw [chamberlainlaw10_PeopleKeys.l1, if_pos (by omega), ei, get_eq L (i : Int) (by omega) (by omega), Option.bind_some, get_eq _ (i : Int) (by rw [List.length_set]; omega) (by omega), Option.bind_some, getOf_in L i (by omega), getOf_in _ i (by rw [List.length_set]; omega), w64 (by omega) (by omega), ej]
    by_cases z : (i : Int) = (a : Int)
    · obtain rfl : i = a := by omega
      rw [if_pos z]
      have e : (L.set i p)[i]'(by rw [List.length_set]; omega) = p := by simp
      simp only [six, e]
      rw [if_pos hc]
      exact ih k (i + 1) (by omega) (by omega) (by omega)
    · rw [if_neg z]
      have e : (L.set a p)[i]'(by rw [List.length_set]; omega) = L[i]'(by omega) := by
        rw [List.getElem_set, if_neg (by omega)]
      simp only [six, e]
      rw [one_self (L[i]'(by omega)) k (hs _ (List.getElem_mem _)) (by omega), Option.bind_some, if_pos rfl]
      exact ih k (i + 1) (by omega) (by omega) (by omega)
theorem keys_j3 (L : List S39) (m : Nat) (a c : Int) (k : Nat) (hL : L.length = m + 1) (h1 : 1 ≤ m) (h6 : m ≤ 6) (hf : ∀ i (h : i < L.length), L[i].f0 = (i : Int)) (hs : ∀ q ∈ L, small q) (ha : 0 ≤ a ∧ a < 4294967296) (hk : 400 < k) :
    chamberlainlaw10_PeopleKeys.j3 k a c (m : Int) L false = some true := by
  obtain ⟨k, rfl⟩ : ∃ z, k = z + 1 := ⟨k - 1, by omega⟩
  rw [chamberlainlaw10_PeopleKeys.j3, if_neg (by decide), get_eq L a (by omega) ha, Option.bind_some]
  obtain ⟨a, rfl⟩ : ∃ z : Nat, a = (z : Int) := ⟨a.toNat, by omega⟩
  by_cases z : a < L.length
  · rw [getOf_in L a z, if_pos (show (six L[a] true).2.2.2.2.2.2 = true from rfl)]
    dsimp only [six]
    rw [hf a z, set_eq L _ _ _ _ _ _ (by omega) (by omega), Option.bind_some]
    unfold setOf
    rw [if_pos (by dsimp only; omega)]
    dsimp only
    rw [Int.toNat_natCast]
    exact keys_l1 L m a c _ hL h1 h6 hf hs rfl rfl z (m + 1) k 0 (by omega) (by omega) (by omega)
  · have e : getOf L (a : Int) = (0, 0, 0, [], [], false, false) := by unfold getOf; rw [if_neg (by omega)]
    rw [e, if_neg (show ¬ ((0, 0, 0, [], [], false, false) : Int × Int × Int × List Int × List S66 × Bool × Bool).2.2.2.2.2.2 = true by decide), decide_eq_true (by omega)]
theorem keys_l0 (dl : List Int) (m : Nat) (a b c : Int) (hl : ∀ x ∈ dl, (Lit.int .u32 x).wf = true) (h1 : 1 ≤ m) (h6 : m ≤ 6) (ha : 0 ≤ a ∧ a < 4294967296) (hb : 0 ≤ b ∧ b < 4294967296) :
    ∀ (d k i : Nat), m - i = d → i ≤ m → d + 500 < k → chamberlainlaw10_PeopleKeys.l0 k a b c (m : Int) (rowOf (draws dl 0 m)) (i : Int) dl (m : Int) = some true := by
  have hL : (rowOf (draws dl 0 m)).length = m + 1 := by rw [rowOf_length, draws_length]
  have hf := rowOf_f0 (draws dl 0 m)
  have hs := row_small (draws dl 0 m)
  intro d
  induction d with
  | zero =>
    intro k i e1 e2 e3
    obtain ⟨k, rfl⟩ : ∃ z, k = z + 1 := ⟨k - 1, by omega⟩
    obtain rfl : i = m := by omega
    have hj : chamberlainlaw10_PeopleKeys.j3 k a c (i : Int) (rowOf (draws dl 0 i)) false = some true := keys_j3 _ i a c k hL h1 h6 hf hs ha (by omega)
    have sw : pairOf (rowOf (draws dl 0 i)) b a = pairOf (rowOf (draws dl 0 i)) a b := by
      unfold pairOf; exact decide_eq_decide.mpr (by omega)
    have em : ((i : Nat) : Int) % 4294967296 = (i : Int) := by omega
    rw [chamberlainlaw10_PeopleKeys.l0, if_neg (by omega), pair_eq _ a b (by omega) ha hb, Option.bind_some, pair_eq _ b a (by omega) hb ha, Option.bind_some, sw, if_neg (by simp), Option.bind_some, em]
    have no : ¬(a ≠ b ∧ a ≠ 0 ∧ b ≠ 0 ∧ a < ((rowOf (draws dl 0 i)).length : Int) ∧ b < ((rowOf (draws dl 0 i)).length : Int)) → (pairOf (rowOf (draws dl 0 i)) a b != false) = false := by
      intro h; unfold pairOf; rw [decide_eq_false h]; rfl
    by_cases c1 : a = b
    · rw [if_pos c1, no (by omega)]; exact hj
    rw [if_neg c1]
    by_cases c2 : a ≥ 1
    · rw [if_pos c2]
      by_cases c3 : b ≥ 1
      · rw [if_pos c3]
        by_cases c4 : a ≤ (i : Int)
        · have e : pairOf (rowOf (draws dl 0 i)) a b = decide (b ≤ (i : Int)) := by
            unfold pairOf; exact decide_eq_decide.mpr (by omega)
          rw [if_pos c4, e, bne_self_eq_false]; exact hj
        · rw [if_neg c4, no (by omega)]; exact hj
      · rw [if_neg c3, no (by omega)]; exact hj
    · rw [if_neg c2, no (by omega)]; exact hj
  | succ d ih =>
    intro k i e1 e2 e3
    obtain ⟨k, rfl⟩ : ∃ z, k = z + 1 := ⟨k - 1, by omega⟩
    have ej : (i : Int) + 1 = ((i + 1 : Nat) : Int) := by omega
    have ei : ((i + 1 : Nat) : Int) % 4294967296 = ((i + 1 : Nat) : Int) := by omega
    rw [chamberlainlaw10_PeopleKeys.l0, if_pos (by omega), w64 (by omega) (by omega), ej, ei, get_eq _ ((i + 1 : Nat) : Int) (by omega) (by omega), Option.bind_some, getOf_in _ (i + 1) (by omega), rowOf_succ _ i (by rw [draws_length]; omega), draws_get dl m 0 i (by rw [draws_length]; omega)]
    obtain ⟨p, hp⟩ : ∃ p : S39, p = ⟨1 + (i : Int), atOf dl (0 + (i : Int)), 0, [], [], false⟩ := ⟨_, rfl⟩
    rw [← hp, if_pos (show (six p true).2.2.2.2.2.2 = true from rfl), if_pos (show (six p true).1 = ((i + 1 : Nat) : Int) by rw [hp]; show (1 : Int) + i = _; omega), rat_eq dl (m : Int) (i : Int) hl (by omega), Option.bind_some,
      if_pos (show (six p true).2.1 = atOf dl (i : Int) by rw [hp]; show atOf dl (0 + (i : Int)) = _; rw [Int.zero_add]), if_neg (show ¬ (six p true).2.2.2.2.2.1 = true by rw [hp]; exact Bool.false_ne_true), if_pos (show (six p true).2.2.1 = 0 by rw [hp]; rfl),
      if_pos (show wrap64 (((six p true).2.2.2.2.1.length : Int) + ((six p true).2.2.2.1.length : Int)) = 0 by rw [hp]; show wrap64 (0 + 0) = 0; rw [Int.add_zero, w64 (by omega) (by omega)])]
    exact ih k (i + 1) (by omega) (by omega) (by omega)
theorem PeopleKeys : chamberlainlaw10_PeopleKeys.Pure := by
  intro n dl a b c hn _ _ hdw ha hb _
  have ha := wf32 ha
  have hb := wf32 hb
  have hn := wf8 hn
  obtain ⟨k, hk⟩ : ∃ k, k = 20000 := ⟨_, rfl⟩
  refine ⟨k + 1 + 1, ?_⟩
  unfold chamberlainlaw10_PeopleKeys.f
  rw [awake60 _ (by omega), Option.bind_some, if_pos rfl]
  by_cases h0 : (dl.length : Int) > 100
  · rw [decide_eq_true h0, chamberlainlaw10_PeopleKeys.j0, if_pos rfl, awake60 _ (by omega)]; rfl
  obtain ⟨m, hm, h1, h6⟩ : ∃ m : Nat, wrap64 (1 + Int.tmod (wrap64 n) 6) = (m : Int) ∧ 1 ≤ m ∧ m ≤ 6 := by
    have e : Int.tmod n 6 = n % 6 := Int.tmod_eq_emod_of_nonneg hn.1
    rw [w64 (x := n) (by omega) (by omega), e, w64 (by omega) (by omega)]
    exact ⟨(1 + n % 6).toNat, by omega, by omega, by omega⟩
  rw [decide_eq_false h0, chamberlainlaw10_PeopleKeys.j0, if_neg (by decide), hm, new_eq (m : Int) dl 0 (k + 1) hdw (by omega) (by omega) (by omega), if_neg (by omega), Option.bind_some]
  dsimp only
  rw [Int.toNat_natCast, if_pos rfl, w64 (by omega) (by omega), if_pos (by rw [rowOf_length, draws_length]; omega), Int.zero_add, bne_self_eq_false, chamberlainlaw10_PeopleKeys.j1, if_neg (by decide)]
  exact keys_l0 dl m a b c hdw h1 h6 ha hb m k 0 (by omega) (by omega) (by omega)

end Go.Proofs.Ytlgbahgddpggfaa.Pure
