/- What is looked at ahead is the asker's own, and a source stays as it is, for every source; no condition. -/
import Derived.Test.YtinfkgbbfmeiaaaQDrawKeeps
namespace Go.Proofs.Ytinfkgbbfmeiaaa.Pure
open Go Go.RowKit Go.Proofs.Ytinfkgbbfmeiaaa.PDrawKeeps Go.Proofs.YtinfkgbbfmeiaaaW.PrintWords Go.Proofs.YtinfkgbbfmeiaaaW.PrintLast Go.Proofs.YtinfkgbbfmeiaaaW.PrintMore

theorem wf32 {x : Int} (h : (Lit.int .u32 x).wf = true) : 0 ≤ x ∧ x < 4294967296 := by
  simp only [Lit.wf, IntKind.min, IntKind.max, IntKind.signed, IntKind.bits, Bool.and_eq_true] at h
  simp at h
  omega
theorem wf8 {x : Int} (h : (Lit.int .u8 x).wf = true) : 0 ≤ x ∧ x < 256 := by
  simp only [Lit.wf, IntKind.min, IntKind.max, IntKind.signed, IntKind.bits, Bool.and_eq_true] at h
  simp at h
  omega
theorem wf16 {x : Int} (h : (Lit.int .u16 x).wf = true) : 0 ≤ x ∧ x < 65536 := by
  simp only [Lit.wf, IntKind.min, IntKind.max, IntKind.signed, IntKind.bits, Bool.and_eq_true] at h
  simp at h
  omega
theorem wf64 {x : Int} (h : (Lit.int .i64 x).wf = true) : -9223372036854775808 ≤ x ∧ x ≤ 9223372036854775807 := by
  simp only [Lit.wf, IntKind.min, IntKind.max, IntKind.signed, IntKind.bits, Bool.and_eq_true] at h
  simp at h
  omega
theorem w64 {x : Int} (h1 : -9223372036854775808 ≤ x) (h2 : x ≤ 9223372036854775807) : wrap64 x = x := by
  unfold wrap64
  omega
theorem rd_nat (xs : List Int) (i : Nat) (h : i < xs.length) : rd xs (i : Int) = xs[i] := by
  unfold rd
  simp [List.getD_eq_getElem?_getD, h]
/-- From place i on, n places: does p hold of all? -/
def allF (p : Nat → Bool) : Nat → Nat → Bool
  | 0, _ => true
  | n + 1, i => p i && allF p n (i + 1)
theorem allF_iff (p : Nat → Bool) (n i : Nat) : allF p n i = true ↔ ∀ j, i ≤ j → j < i + n → p j = true := by
  induction n generalizing i with
  | zero => simp [allF]; intro j h1 h2; omega
  | succ n ih =>
    simp only [allF, Bool.and_eq_true, ih]
    constructor
    · rintro ⟨h0, h⟩ j h1 h2
      by_cases e : j = i
      · subst e; exact h0
      · exact h j (by omega) (by omega)
    · intro h
      exact ⟨h i (by omega) (by omega), fun j h1 h2 => h j (by omega) (by omega)⟩
/-- The first place from i on, of n, of which p holds. -/
def fnd (p : Nat → Bool) : Nat → Nat → Option Nat
  | 0, _ => none
  | n + 1, i => if p i = true then some i else fnd p n (i + 1)
theorem fnd_some {p : Nat → Bool} {n i j : Nat} (h : fnd p n i = some j) : i ≤ j ∧ j < i + n ∧ p j = true ∧ ∀ m, i ≤ m → m < j → p m = false := by
  induction n generalizing i with
  | zero => simp [fnd] at h
  | succ n ih =>
    simp only [fnd] at h
    by_cases e : p i = true
    · rw [if_pos e] at h
      cases h
      exact ⟨Nat.le_refl _, by omega, e, fun m h1 h2 => by omega⟩
    · rw [if_neg e] at h
      obtain ⟨h1, h2, h3, h4⟩ := ih h
      refine ⟨by omega, by omega, h3, fun m m1 m2 => ?_⟩
      by_cases c : m = i
      · subst c; simpa using e
      · exact h4 m (by omega) m2
theorem fnd_none {p : Nat → Bool} {n i : Nat} (h : fnd p n i = none) : ∀ m, i ≤ m → m < i + n → p m = false := by
  induction n generalizing i with
  | zero => intro m h1 h2; omega
  | succ n ih =>
    simp only [fnd] at h
    by_cases e : p i = true
    · rw [if_pos e] at h; cases h
    · rw [if_neg e] at h
      intro m h1 h2
      by_cases c : m = i
      · subst c; simpa using e
      · exact ih h m (by omega) (by omega)
theorem fnd_eq_some {p : Nat → Bool} {n i j : Nat} (h1 : i ≤ j) (h2 : j < i + n) (h3 : p j = true) (h4 : ∀ m, i ≤ m → m < j → p m = false) : fnd p n i = some j := by
  cases h : fnd p n i with
  | none => have := fnd_none h j h1 h2; rw [this] at h3; cases h3
  | some q =>
    obtain ⟨a, b, c, d⟩ := fnd_some h
    congr 1
    rcases Nat.lt_trichotomy q j with e | e | e
    · have := h4 q a e; rw [this] at c; cases c
    · exact e
    · have := d j h1 e; rw [this] at h3; cases h3
theorem fnd_eq_none {p : Nat → Bool} {n i : Nat} (h : ∀ m, i ≤ m → m < i + n → p m = false) : fnd p n i = none := by
  cases e : fnd p n i with
  | none => rfl
  | some q =>
    obtain ⟨a, b, c, _⟩ := fnd_some e
    rw [h q a b] at c; cases c
theorem rows_eq (a b : List Int) (h : a.length = b.length) : allF (fun i => decide (rd a (i : Int) = rd b (i : Int))) a.length 0 = decide (a = b) := by
  rw [Bool.eq_iff_iff, allF_iff]
  simp only [decide_eq_true_eq]
  constructor
  · intro H
    apply List.ext_getElem h
    intro i h1 h2
    have := H i (by omega) (by omega)
    rw [rd_nat a i h1, rd_nat b i h2] at this
    exact this
  · intro e j _ _
    rw [e]
/-- A loop that asks place by place. -/
theorem all_loop (f : Nat → Nat → Option Bool) (n : Nat) (p : Nat → Bool) (h : ∀ k i, i ≤ n → f (k + 1) i = if i < n then (if p i = true then f k (i + 1) else some false) else some true) :
    ∀ (d k i : Nat), n - i = d → i ≤ n → d < k → f k i = some (allF p d i) := by
  intro d
  induction d with
  | zero =>
    intro k i h1 h2 h3
    obtain ⟨k, rfl⟩ : ∃ m, k = m + 1 := ⟨k - 1, by omega⟩
    rw [h k i h2, if_neg (by omega)]; rfl
  | succ d ih =>
    intro k i h1 h2 h3
    obtain ⟨k, rfl⟩ : ∃ m, k = m + 1 := ⟨k - 1, by omega⟩
    rw [h k i h2, if_pos (by omega)]
    simp only [allF]
    cases e : p i with
    | true => rw [if_pos rfl, ih k (i + 1) (by omega) (by omega) (by omega)]; simp
    | false => simp
/-- A loop that looks for the first place. -/
theorem fnd_loop {α : Type} (f : Nat → Nat → Option α) (n : Nat) (p : Nat → Bool) (yes : Nat → α) (no : α) (c : Nat) (h : ∀ k i, i ≤ n → c ≤ k → f (k + 1) i = if i < n then (if p i = true then some (yes i) else f k (i + 1)) else some no) :
    ∀ (d k i : Nat), n - i = d → i ≤ n → c + d < k → f k i = some (match fnd p d i with | some j => yes j | none => no) := by
  intro d
  induction d with
  | zero =>
    intro k i h1 h2 h3
    obtain ⟨k, rfl⟩ : ∃ m, k = m + 1 := ⟨k - 1, by omega⟩
    rw [h k i h2 (by omega), if_neg (by omega)]; rfl
  | succ d ih =>
    intro k i h1 h2 h3
    obtain ⟨k, rfl⟩ : ∃ m, k = m + 1 := ⟨k - 1, by omega⟩
    rw [h k i h2 (by omega), if_pos (by omega)]
    simp only [fnd]
    cases e : p i with
    | true => simp
    | false => rw [if_neg (by simp), if_neg (by simp), ih k (i + 1) (by omega) (by omega) (by omega)]
theorem wraps_u32 (n : Int) (h₀ : 0 ≤ n) (h₁ : n < 2 ^ 32) : IntKind.u32.wrap n = n := by rw [IntKind.wrap_u32]; omega
theorem bits_or (x : Int) (h : 0 ≤ x ∧ x < 4294967296) : Go.bits .or .u32 x 2147483648 = if x < 2147483648 then x + 2147483648 else x := by
  obtain ⟨n, rfl⟩ : ∃ n : Nat, x = (n : Int) := ⟨x.toNat, by omega⟩
  have hb := (bits_nat .u32 32 (by decide) wraps_u32 n 2147483648 (by omega) (by decide)).2
  have e : ((2147483648 : Nat) : Int) = 2147483648 := rfl
  rw [e] at hb
  rw [hb]
  by_cases c : n < 2147483648
  · rw [if_pos (by omega)]
    have h1 := Nat.two_pow_add_eq_or_of_lt (i := 31) (b := n) (by omega) 1
    have h2 : n ||| 2147483648 = 2147483648 + n := by rw [Nat.or_comm]; exact h1.symm
    omega
  · rw [if_neg (by omega)]
    have h1 := Nat.two_pow_add_eq_or_of_lt (i := 31) (b := n - 2147483648) (by omega) 1
    have h3 : n = 2147483648 ||| (n - 2147483648) := by
      have : 2 ^ 31 * 1 + (n - 2147483648) = n := by omega
      rw [this] at h1; exact h1
    have h2 : n ||| 2147483648 = n := by
      rw [Nat.or_comm, h3, ← Nat.or_assoc, Nat.or_self]
    rw [h2]
theorem draw_eq (x : Int) (h : 0 ≤ x ∧ x < 4294967296) : word_Draw.f x = some (if x < 2147483648 then x + 2147483648 else x) := by
  unfold word_Draw.f
  rw [bits_or x h]
theorem rsame_eq (a b : List Int) (k : Nat) (hb : a.length ≤ 4611686018427387904) (hk : a.length < k) : chamberlainref01_Same.f k a b = some (decide (a = b)) := by
  unfold chamberlainref01_Same.f
  by_cases hl : a.length = b.length
  · rw [if_pos (by omega)]
    have h := all_loop (fun k i => chamberlainref01_Same.l0 k a b (i : Int)) a.length (fun i => decide (rd a (i : Int) = rd b (i : Int))) (by
      intro k i hi
      simp only [chamberlainref01_Same.l0]
      by_cases c : i < a.length
      · rw [if_pos (by omega), if_pos (by omega), if_pos (by omega), if_pos c, w64 (by omega) (by omega)]
        simp
      · rw [if_neg (by omega), if_neg c]) a.length k 0 (by omega) (by omega) (by omega)
    simp only [Int.natCast_zero] at h
    rw [h, rows_eq a b hl]
  · rw [if_neg (by omega)]
    congr 1
    symm
    apply decide_eq_false
    intro e
    exact hl (by rw [e])
theorem bits_range (x : Int) (h : 0 ≤ x ∧ x < 4294967296) : 0 ≤ Go.bits .or .u32 1073741824 x ∧ Go.bits .or .u32 1073741824 x < 4294967296 := by
  obtain ⟨n, rfl⟩ : ∃ n : Nat, x = (n : Int) := ⟨x.toNat, by omega⟩
  have hb := (bits_nat .u32 32 (by decide) wraps_u32 1073741824 n (by decide) (by omega)).2
  have e : ((1073741824 : Nat) : Int) = 1073741824 := rfl
  rw [e] at hb
  rw [hb]
  have : 1073741824 ||| n < 2 ^ 32 := Nat.or_lt_two_pow (by decide) (by omega)
  omega
def rawAt (l : List Int) (i : Int) : Int := if i < (l.length : Int) then rd l i else Go.bits .or .u32 1073741824 (i % 4294967296)
def atOf (l : List Int) (i : Int) : Int := if rawAt l i < 2147483648 then rawAt l i + 2147483648 else rawAt l i
theorem rawAt_range (l : List Int) (i : Int) (hl : ∀ x ∈ l, (Lit.int .u32 x).wf = true) (h : 0 ≤ i) : 0 ≤ rawAt l i ∧ rawAt l i < 4294967296 := by
  unfold rawAt
  split
  · obtain ⟨n, rfl⟩ : ∃ n : Nat, i = (n : Int) := ⟨i.toNat, by omega⟩
    rw [rd_nat l n (by omega)]
    exact wf32 (hl _ (List.getElem_mem _))
  · exact bits_range _ (by omega)
theorem at_eq (l : List Int) (nx i : Int) (hl : ∀ x ∈ l, (Lit.int .u32 x).wf = true) (h : 0 ≤ i) : draw_at.f l nx i = some (atOf l i) := by
  have hr := rawAt_range l i hl h
  unfold draw_at.f atOf
  unfold rawAt at hr ⊢
  by_cases c : i < (l.length : Int)
  · rw [if_pos c] at hr
    rw [if_pos c, if_pos h, if_pos c, draw_eq _ hr]; rfl
  · rw [if_neg c] at hr
    rw [if_neg c, if_neg c, draw_eq _ hr]; rfl
theorem rat_eq (l : List Int) (nx i : Int) (hl : ∀ x ∈ l, (Lit.int .u32 x).wf = true) (h : 0 ≤ i) : chamberlainref04_At.f l nx i = some (atOf l i) := by
  have hr := rawAt_range l i hl h
  unfold chamberlainref04_At.f atOf
  unfold rawAt at hr ⊢
  by_cases c : i < (l.length : Int)
  · rw [if_pos c] at hr
    rw [if_pos c, if_pos h, if_pos c]
    by_cases d : rd l i < 2147483648
    · rw [if_pos d, if_pos d]; congr 1; omega
    · rw [if_neg d, if_neg d]
  · rw [if_neg c] at hr
    rw [if_neg c, if_neg c]
    generalize Go.bits .or .u32 1073741824 (i % 4294967296) = z at hr ⊢
    by_cases d : z < 2147483648
    · rw [if_pos d, if_pos d]; congr 1; omega
    · rw [if_neg d, if_neg d]
/-- So many draws, from one on. -/
def draws (l : List Int) (i : Int) : Nat → List Int
  | 0 => []
  | n + 1 => atOf l i :: draws l (i + 1) n
theorem draws_length (l : List Int) (n : Nat) : ∀ i, (draws l i n).length = n := by
  induction n with
  | zero => intro i; rfl
  | succ n ih => intro i; rw [draws, List.length_cons, ih]
theorem draws_get (l : List Int) (n : Nat) : ∀ (i : Int) (j : Nat) (h : j < (draws l i n).length), (draws l i n)[j] = atOf l (i + j) := by
  induction n with
  | zero => intro i j h; simp [draws] at h
  | succ n ih =>
    intro i j h
    cases j with
    | zero => simp [draws]
    | succ j =>
      simp only [draws, List.getElem_cons_succ]
      rw [ih]
      congr 1
      omega
theorem peek_l0 (l : List Int) (nx : Int) (hl : ∀ x ∈ l, (Lit.int .u32 x).wf = true) : ∀ (n k : Nat) (i : Int) (acc : List Int), 0 ≤ i → i + n ≤ 4611686018427387904 → acc.length + n ≤ 1000000 → n < k →
    draw_Peek.l0 k acc i (i + n) l nx = some (acc ++ draws l i n) := by
  intro n
  induction n with
  | zero =>
    intro k i acc h1 h2 h3 h4
    obtain ⟨k, rfl⟩ : ∃ m, k = m + 1 := ⟨k - 1, by omega⟩
    rw [draw_Peek.l0, if_neg (by omega), draws, List.append_nil]
  | succ n ih =>
    intro k i acc h1 h2 h3 h4
    obtain ⟨k, rfl⟩ : ∃ m, k = m + 1 := ⟨k - 1, by omega⟩
    rw [draw_Peek.l0, if_pos (by omega), at_eq l nx i hl h1, Option.bind_some, if_pos (by omega), w64 (by omega) (by omega)]
    have e : i + ((n + 1 : Nat) : Int) = (i + 1) + (n : Int) := by omega
    rw [e, ih k (i + 1) _ (by omega) (by omega) (by rw [List.length_append]; simp; omega) (by omega), draws]
    simp
theorem peek_eq (l : List Int) (nx : Int) (n k : Nat) (hl : ∀ x ∈ l, (Lit.int .u32 x).wf = true) (h1 : 0 ≤ nx) (h2 : nx ≤ 1000000000) (h3 : n ≤ 1000000) (h4 : n < k) : draw_Peek.f k l nx (n : Int) = some (draws l nx n) := by
  unfold draw_Peek.f
  rw [w64 (by omega) (by omega), peek_l0 l nx hl n k nx [] h1 (by omega) (by simpa using h3) h4, List.nil_append]
theorem take_eq (l : List Int) (nx : Int) (hl : ∀ x ∈ l, (Lit.int .u32 x).wf = true) (h1 : 0 ≤ nx) (h2 : nx ≤ 1000000000) : draw_Take.f l nx = some (l, nx + 1, atOf l nx) := by
  unfold draw_Take.f
  rw [at_eq l nx nx hl h1, Option.bind_some, w64 (by omega) (by omega)]
theorem drawn_eq (l : List Int) (n k : Nat) (hl : ∀ x ∈ l, (Lit.int .u32 x).wf = true) (h3 : n ≤ 1000000) (h4 : n < k) : draw_Drawn.f k l (n : Int) = some (draws l 0 n) := by
  unfold draw_Drawn.f
  rw [peek_eq l 0 n k hl (by omega) (by omega) h3 h4, Option.bind_some]
theorem awake60 (k : Nat) (h : 60 ≤ k) : chamberlainlaw04_awake.f k = some true := at_rounds (chamberlainlaw04_awake.mono) h chamberlainlaw04_awake.at60
theorem rrow_l0 (l : List Int) (nx fr : Int) (hl : ∀ x ∈ l, (Lit.int .u32 x).wf = true) (h1 : 0 ≤ fr) (h2 : fr ≤ 1000000000) (n : Nat) (h3 : n ≤ 1000000) : ∀ (d k i : Nat) (acc : List Int), n - i = d → i ≤ n → acc.length ≤ i → d < k →
    chamberlainref04_Row.l0 k fr (n : Int) acc (i : Int) l nx = some (acc ++ draws l (fr + i) d) := by
  intro d
  induction d with
  | zero =>
    intro k i acc e1 e2 e3 e4
    obtain ⟨k, rfl⟩ : ∃ m, k = m + 1 := ⟨k - 1, by omega⟩
    rw [chamberlainref04_Row.l0, if_neg (by omega), draws, List.append_nil]
  | succ d ih =>
    intro k i acc e1 e2 e3 e4
    obtain ⟨k, rfl⟩ : ∃ m, k = m + 1 := ⟨k - 1, by omega⟩
    have ei : (i : Int) + 1 = ((i + 1 : Nat) : Int) := by omega
    rw [chamberlainref04_Row.l0, if_pos (by omega), w64 (by omega) (by omega), rat_eq l nx _ hl (by omega), Option.bind_some, if_pos (by omega), w64 (by omega) (by omega), ei, ih k (i + 1) _ (by omega) (by omega) (by rw [List.length_append]; simp; omega) (by omega), draws]
    have ej : fr + ((i + 1 : Nat) : Int) = fr + (i : Int) + 1 := by omega
    rw [ej]
    simp
theorem rrow_eq (l : List Int) (nx fr : Int) (n k : Nat) (hl : ∀ x ∈ l, (Lit.int .u32 x).wf = true) (h1 : 0 ≤ fr) (h2 : fr ≤ 1000000000) (h3 : n ≤ 1000000) (hk : n < k) : chamberlainref04_Row.f k l nx fr (n : Int) = some (draws l fr n) := by
  unfold chamberlainref04_Row.f
  have h := rrow_l0 l nx fr hl h1 h2 n h3 n k 0 [] (by omega) (by omega) (by simp) hk
  simp only [Int.natCast_zero, Int.add_zero, List.nil_append] at h
  exact h
theorem fits_eq (l : List Int) (nx : Int) : chamberlainlaw04_fits.f l nx = some (decide (0 ≤ nx ∧ nx ≤ 600 ∧ l.length ≤ 600)) := by
  unfold chamberlainlaw04_fits.f
  by_cases a : nx ≥ 0
  · rw [if_pos a]
    by_cases b : nx ≤ 600
    · rw [if_pos b]; congr 1; exact decide_eq_decide.mpr (by omega)
    · rw [if_neg b, decide_eq_false (by omega)]
  · rw [if_neg a, decide_eq_false (by omega)]
theorem keeps_l0 (l : List Int) (x n k : Nat) (hl : ∀ x ∈ l, (Lit.int .u32 x).wf = true) (hL : l.length ≤ 600) (hx : x ≤ 600) (hn : n < 256) (hk : 10000 < k) :
    ∀ (d i : Nat) (r : List Int), r.length - i = d → i ≤ r.length → r.length ≤ 1000 → chamberlainlaw04_DrawKeeps.l0 (k + d + 1) (n : Int) l r (i : Int) l (x : Int) l (x : Int) = some true := by
  intro d
  induction d with
  | zero =>
    intro i r e1 e2 e3
    rw [chamberlainlaw04_DrawKeeps.l0, if_neg (by omega), rsame_eq _ _ _ (by omega) (by omega), decide_eq_true rfl, Option.bind_some, if_pos rfl, w64 (by omega) (by omega), peek_eq l _ n _ hl (by omega) (by omega) (by omega) (by omega), Option.bind_some, rrow_eq l _ _ n _ hl (by omega) (by omega) (by omega) (by omega), Option.bind_some,
      rsame_eq _ _ _ (by rw [draws_length]; omega) (by rw [draws_length]; omega), decide_eq_true rfl, Option.bind_some]
  | succ d ih =>
    intro i r e1 e2 e3
    have ei : (i : Int) + 1 = ((i + 1 : Nat) : Int) := by omega
    rw [chamberlainlaw04_DrawKeeps.l0, if_pos (by omega), if_pos (by omega), w64 (by omega) (by omega), ei]
    have h := ih (i + 1) (r.set (i : Int).toNat 0) (by rw [List.length_set]; omega) (by rw [List.length_set]; omega) (by rw [List.length_set]; omega)
    exact h
theorem DrawKeeps : chamberlainlaw04_DrawKeeps.Pure := by
  intro l nx n _ hl _ hn
  have hn := wf8 hn
  obtain ⟨k, hk⟩ : ∃ k, k = 20000 := ⟨_, rfl⟩
  by_cases c : 0 ≤ nx ∧ nx ≤ 600 ∧ l.length ≤ 600
  · obtain ⟨n, rfl⟩ : ∃ m : Nat, n = (m : Int) := ⟨n.toNat, by omega⟩
    obtain ⟨x, rfl⟩ : ∃ m : Nat, nx = (m : Int) := ⟨nx.toNat, by omega⟩
    refine ⟨k + n + 1 + 1, ?_⟩
    unfold chamberlainlaw04_DrawKeeps.f
    rw [awake60 _ (by omega), Option.bind_some, if_pos rfl, fits_eq, Option.bind_some, chamberlainlaw04_DrawKeeps.j0, decide_eq_true c, if_neg (by decide), Option.bind_some, if_pos (by simp; omega), Option.bind_some, List.nil_append, w64 (by omega) (by omega),
      peek_eq l _ n _ hl (by omega) (by omega) (by omega) (by omega), Option.bind_some, take_eq l _ hl (by omega) (by omega), Option.bind_some, drawn_eq l x _ hl (by omega) (by omega), Option.bind_some]
    exact keeps_l0 l x n k hl (by omega) (by omega) (by omega) (by omega) n 0 _ (by rw [draws_length]; omega) (by omega) (by rw [draws_length]; omega)
  · refine ⟨k + 1, ?_⟩
    unfold chamberlainlaw04_DrawKeeps.f
    rw [awake60 _ (by omega), Option.bind_some, if_pos rfl, fits_eq, Option.bind_some, chamberlainlaw04_DrawKeeps.j0, decide_eq_false c, Bool.not_false, if_pos rfl, awake60 _ (by omega), Option.bind_some]

end Go.Proofs.Ytinfkgbbfmeiaaa.Pure
