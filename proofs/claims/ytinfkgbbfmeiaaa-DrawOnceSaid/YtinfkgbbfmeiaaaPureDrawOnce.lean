/- What was looked at ahead is what comes, and words of a list that are unlike are drawn unlike, for every list; no condition. -/
import Derived.Test.YtinfkgbbfmeiaaaQDrawOnce
namespace Go.Proofs.Ytinfkgbbfmeiaaa.Pure
open Go Go.RowKit Go.Proofs.Ytinfkgbbfmeiaaa.PDrawOnce Go.Proofs.YtinfkgbbfmeiaaaW.PrintWords Go.Proofs.YtinfkgbbfmeiaaaW.PrintLast Go.Proofs.YtinfkgbbfmeiaaaW.PrintMore

theorem wf32 {x : Int} (h : (Lit.int .u32 x).wf = true) : 0 ≤ x ∧ x < 4294967296 := by
  simp only [Lit.wf, IntKind.min, IntKind.max, IntKind.signed, IntKind.bits, Bool.and_eq_true] at h
  simp at h
  omega
theorem wf8 {x : Int} (h : (Lit.int .u8 x).wf = true) : 0 ≤ x ∧ x < 256 := by
  simp only [Lit.wf, IntKind.min, IntKind.max, IntKind.signed, IntKind.bits, Bool.and_eq_true] at h
  simp at h
  omega
theorem wf16 {x : Int} (h : (Lit.int .u16 x).wf = true) : 0 ≤ x ∧ x < 65536 := by
  simp only [Lit.wf, IntKind.min, IntKind.max, IntKind.signed, IntKind.bits, Bool.and_eq_true] at h
  simp at h
  omega
theorem wf64 {x : Int} (h : (Lit.int .i64 x).wf = true) : -9223372036854775808 ≤ x ∧ x ≤ 9223372036854775807 := by
  simp only [Lit.wf, IntKind.min, IntKind.max, IntKind.signed, IntKind.bits, Bool.and_eq_true] at h
  simp at h
  omega
theorem w64 {x : Int} (h1 : -9223372036854775808 ≤ x) (h2 : x ≤ 9223372036854775807) : wrap64 x = x := by
  unfold wrap64
  omega
theorem rd_nat (xs : List Int) (i : Nat) (h : i < xs.length) : rd xs (i : Int) = xs[i] := by
  unfold rd
  simp [List.getD_eq_getElem?_getD, h]
/-- From place i on, n places: does p hold of all? -/
def allF (p : Nat → Bool) : Nat → Nat → Bool
  | 0, _ => true
  | n + 1, i => p i && allF p n (i + 1)
theorem allF_iff (p : Nat → Bool) (n i : Nat) : allF p n i = true ↔ ∀ j, i ≤ j → j < i + n → p j = true := by
  induction n generalizing i with
  | zero => simp [allF]; intro j h1 h2; omega
  | succ n ih =>
    simp only [allF, Bool.and_eq_true, ih]
    constructor
    · rintro ⟨h0, h⟩ j h1 h2
      by_cases e : j = i
      · subst e; exact h0
      · exact h j (by omega) (by omega)
    · intro h
      exact ⟨h i (by omega) (by omega), fun j h1 h2 => h j (by omega) (by omega)⟩
/-- The first place from i on, of n, of which p holds. -/
def fnd (p : Nat → Bool) : Nat → Nat → Option Nat
  | 0, _ => none
  | n + 1, i => if p i = true then some i else fnd p n (i + 1)
theorem fnd_some {p : Nat → Bool} {n i j : Nat} (h : fnd p n i = some j) : i ≤ j ∧ j < i + n ∧ p j = true ∧ ∀ m, i ≤ m → m < j → p m = false := by
  induction n generalizing i with
  | zero => simp [fnd] at h
  | succ n ih =>
    simp only [fnd] at h
    by_cases e : p i = true
    · rw [if_pos e] at h
      cases h
      exact ⟨Nat.le_refl _, by omega, e, fun m h1 h2 => by omega⟩
    · rw [if_neg e] at h
      obtain ⟨h1, h2, h3, h4⟩ := ih h
      refine ⟨by omega, by omega, h3, fun m m1 m2 => ?_⟩
      by_cases c : m = i
      · subst c; simpa using e
      · exact h4 m (by omega) m2
theorem fnd_none {p : Nat → Bool} {n i : Nat} (h : fnd p n i = none) : ∀ m, i ≤ m → m < i + n → p m = false := by
  induction n generalizing i with
  | zero => intro m h1 h2; omega
  | succ n ih =>
    simp only [fnd] at h
    by_cases e : p i = true
    · rw [if_pos e] at h; cases h
    · rw [if_neg e] at h
      intro m h1 h2
      by_cases c : m = i
      · subst c; simpa using e
      · exact ih h m (by omega) (by omega)
theorem fnd_eq_some {p : Nat → Bool} {n i j : Nat} (h1 : i ≤ j) (h2 : j < i + n) (h3 : p j = true) (h4 : ∀ m, i ≤ m → m < j → p m = false) : fnd p n i = some j := by
  cases h : fnd p n i with
  | none => have := fnd_none h j h1 h2; rw [this] at h3; cases h3
  | some q =>
    obtain ⟨a, b, c, d⟩ := fnd_some h
    congr 1
    rcases Nat.lt_trichotomy q j with e | e | e
    · have := h4 q a e; rw [this] at c; cases c
    · exact e
    · have := d j h1 e; rw [this] at h3; cases h3
theorem fnd_eq_none {p : Nat → Bool} {n i : Nat} (h : ∀ m, i ≤ m → m < i + n → p m = false) : fnd p n i = none := by
  cases e : fnd p n i with
  | none => rfl
  | some q =>
    obtain ⟨a, b, c, _⟩ := fnd_some e
    rw [h q a b] at c; cases c
theorem rows_eq (a b : List Int) (h : a.length = b.length) : allF (fun i => decide (rd a (i : Int) = rd b (i : Int))) a.length 0 = decide (a = b) := by
  rw [Bool.eq_iff_iff, allF_iff]
  simp only [decide_eq_true_eq]
  constructor
  · intro H
    apply List.ext_getElem h
    intro i h1 h2
    have := H i (by omega) (by omega)
    rw [rd_nat a i h1, rd_nat b i h2] at this
    exact this
  · intro e j _ _
    rw [e]
/-- A loop that asks place by place. -/
theorem all_loop (f : Nat → Nat → Option Bool) (n : Nat) (p : Nat → Bool) (h : ∀ k i, i ≤ n → f (k + 1) i = if i < n then (if p i = true then f k (i + 1) else some false) else some true) :
    ∀ (d k i : Nat), n - i = d → i ≤ n → d < k → f k i = some (allF p d i) := by
  intro d
  induction d with
  | zero =>
    intro k i h1 h2 h3
    obtain ⟨k, rfl⟩ : ∃ m, k = m + 1 := ⟨k - 1, by omega⟩
    rw [h k i h2, if_neg (by omega)]; rfl
  | succ d ih =>
    intro k i h1 h2 h3
    obtain ⟨k, rfl⟩ : ∃ m, k = m + 1 := ⟨k - 1, by omega⟩
    rw [h k i h2, if_pos (by omega)]
    simp only [allF]
    cases e : p i with
    | true => rw [if_pos rfl, ih k (i + 1) (by omega) (by omega) (by omega)]; simp
    | false => simp
/-- A loop that looks for the first place. -/
theorem fnd_loop {α : Type} (f : Nat → Nat → Option α) (n : Nat) (p : Nat → Bool) (yes : Nat → α) (no : α) (c : Nat) (h : ∀ k i, i ≤ n → c ≤ k → f (k + 1) i = if i < n then (if p i = true then some (yes i) else f k (i + 1)) else some no) :
    ∀ (d k i : Nat), n - i = d → i ≤ n → c + d < k → f k i = some (match fnd p d i with | some j => yes j | none => no) := by
  intro d
  induction d with
  | zero =>
    intro k i h1 h2 h3
    obtain ⟨k, rfl⟩ : ∃ m, k = m + 1 := ⟨k - 1, by omega⟩
    rw [h k i h2 (by omega), if_neg (by omega)]; rfl
  | succ d ih =>
    intro k i h1 h2 h3
    obtain ⟨k, rfl⟩ : ∃ m, k = m + 1 := ⟨k - 1, by omega⟩
    rw [h k i h2 (by omega), if_pos (by omega)]
    simp only [fnd]
    cases e : p i with
    | true => simp
    | false => rw [if_neg (by simp), if_neg (by simp), ih k (i + 1) (by omega) (by omega) (by omega)]
theorem wraps_u32 (n : Int) (h₀ : 0 ≤ n) (h₁ : n < 2 ^ 32) : IntKind.u32.wrap n = n := by rw [IntKind.wrap_u32]; omega
theorem bits_or (x : Int) (h : 0 ≤ x ∧ x < 4294967296) : Go.bits .or .u32 x 2147483648 = if x < 2147483648 then x + 2147483648 else x := by
  obtain ⟨n, rfl⟩ : ∃ n : Nat, x = (n : Int) := ⟨x.toNat, by omega⟩
  have hb := (bits_nat .u32 32 (by decide) wraps_u32 n 2147483648 (by omega) (by decide)).2
  have e : ((2147483648 : Nat) : Int) = 2147483648 := rfl
  rw [e] at hb
  rw [hb]
  by_cases c : n < 2147483648
  · rw [if_pos (by omega)]
    have h1 := Nat.two_pow_add_eq_or_of_lt (i := 31) (b := n) (by omega) 1
    have h2 : n ||| 2147483648 = 2147483648 + n := by rw [Nat.or_comm]; exact h1.symm
    omega
  · rw [if_neg (by omega)]
    have h1 := Nat.two_pow_add_eq_or_of_lt (i := 31) (b := n - 2147483648) (by omega) 1
    have h3 : n = 2147483648 ||| (n - 2147483648) := by
      have : 2 ^ 31 * 1 + (n - 2147483648) = n := by omega
      rw [this] at h1; exact h1
    have h2 : n ||| 2147483648 = n := by
      rw [Nat.or_comm, h3, ← Nat.or_assoc, Nat.or_self]
    rw [h2]
theorem draw_eq (x : Int) (h : 0 ≤ x ∧ x < 4294967296) : word_Draw.f x = some (if x < 2147483648 then x + 2147483648 else x) := by
  unfold word_Draw.f
  rw [bits_or x h]
theorem mem_fnd (l : List Int) (w : Int) : (∃ j, fnd (fun i => decide (w = rd l (i : Int))) l.length 0 = some j) ↔ w ∈ l := by
  constructor
  · rintro ⟨j, h⟩
    obtain ⟨_, h2, h3, _⟩ := fnd_some h
    simp only [decide_eq_true_eq] at h3
    rw [rd_nat l j (by omega)] at h3
    rw [h3]; exact List.getElem_mem _
  · intro h
    obtain ⟨i, hi, e⟩ := List.getElem_of_mem h
    cases c : fnd (fun i => decide (w = rd l (i : Int))) l.length 0 with
    | some j => exact ⟨j, rfl⟩
    | none =>
      have := fnd_none c i (by omega) (by omega)
      simp only [decide_eq_false_iff_not, rd_nat l i hi] at this
      exact absurd e.symm this
theorem rsame_eq (a b : List Int) (k : Nat) (hb : a.length ≤ 4611686018427387904) (hk : a.length < k) : chamberlainref01_Same.f k a b = some (decide (a = b)) := by
  unfold chamberlainref01_Same.f
  by_cases hl : a.length = b.length
  · rw [if_pos (by omega)]
    have h := all_loop (fun k i => chamberlainref01_Same.l0 k a b (i : Int)) a.length (fun i => decide (rd a (i : Int) = rd b (i : Int))) (by
      intro k i hi
      simp only [chamberlainref01_Same.l0]
      by_cases c : i < a.length
      · rw [if_pos (by omega), if_pos (by omega), if_pos (by omega), if_pos c, w64 (by omega) (by omega)]
        simp
      · rw [if_neg (by omega), if_neg c]) a.length k 0 (by omega) (by omega) (by omega)
    simp only [Int.natCast_zero] at h
    rw [h, rows_eq a b hl]
  · rw [if_neg (by omega)]
    congr 1
    symm
    apply decide_eq_false
    intro e
    exact hl (by rw [e])
theorem rhas_eq (l : List Int) (w : Int) (k : Nat) (hl : l.length ≤ 4611686018427387904) (hk : l.length < k) : chamberlainref01_Has.f k l w = some (decide (w ∈ l)) := by
  unfold chamberlainref01_Has.f
  have h := fnd_loop (fun k i => chamberlainref01_Has.l0 k l w (i : Int)) l.length (fun i => decide (w = rd l (i : Int))) (fun _ => true) false 0 (by
    intro k i hi _
    simp only [chamberlainref01_Has.l0]
    by_cases c : i < l.length
    · rw [if_pos (by omega), if_pos (by omega), if_pos c, w64 (by omega) (by omega)]
      by_cases e : w = rd l (i : Int)
      · rw [if_pos e.symm, if_pos (decide_eq_true e)]
      · rw [if_neg (fun h => e h.symm), if_neg (by simpa using e)]; rfl
    · rw [if_neg (by omega), if_neg c]) l.length k 0 (by omega) (by omega) (by omega)
  simp only [Int.natCast_zero] at h
  rw [h]
  have := mem_fnd l w
  cases c : fnd (fun i => decide (w = rd l (i : Int))) l.length 0 with
  | some j => rw [c] at this; have : w ∈ l := this.mp ⟨j, rfl⟩; simp [this]
  | none => rw [c] at this; have : ¬ w ∈ l := fun h => by obtain ⟨j, hj⟩ := this.mpr h; cases hj
            simp [this]
theorem bits_range (x : Int) (h : 0 ≤ x ∧ x < 4294967296) : 0 ≤ Go.bits .or .u32 1073741824 x ∧ Go.bits .or .u32 1073741824 x < 4294967296 := by
  obtain ⟨n, rfl⟩ : ∃ n : Nat, x = (n : Int) := ⟨x.toNat, by omega⟩
  have hb := (bits_nat .u32 32 (by decide) wraps_u32 1073741824 n (by decide) (by omega)).2
  have e : ((1073741824 : Nat) : Int) = 1073741824 := rfl
  rw [e] at hb
  rw [hb]
  have : 1073741824 ||| n < 2 ^ 32 := Nat.or_lt_two_pow (by decide) (by omega)
  omega
def rawAt (l : List Int) (i : Int) : Int := if i < (l.length : Int) then rd l i else Go.bits .or .u32 1073741824 (i % 4294967296)
def atOf (l : List Int) (i : Int) : Int := if rawAt l i < 2147483648 then rawAt l i + 2147483648 else rawAt l i
theorem rawAt_range (l : List Int) (i : Int) (hl : ∀ x ∈ l, (Lit.int .u32 x).wf = true) (h : 0 ≤ i) : 0 ≤ rawAt l i ∧ rawAt l i < 4294967296 := by
  unfold rawAt
  split
  · obtain ⟨n, rfl⟩ : ∃ n : Nat, i = (n : Int) := ⟨i.toNat, by omega⟩
    rw [rd_nat l n (by omega)]
    exact wf32 (hl _ (List.getElem_mem _))
  · exact bits_range _ (by omega)
theorem at_eq (l : List Int) (nx i : Int) (hl : ∀ x ∈ l, (Lit.int .u32 x).wf = true) (h : 0 ≤ i) : draw_at.f l nx i = some (atOf l i) := by
  have hr := rawAt_range l i hl h
  unfold draw_at.f atOf
  unfold rawAt at hr ⊢
  by_cases c : i < (l.length : Int)
  · rw [if_pos c] at hr
    rw [if_pos c, if_pos h, if_pos c, draw_eq _ hr]; rfl
  · rw [if_neg c] at hr
    rw [if_neg c, if_neg c, draw_eq _ hr]; rfl
/-- So many draws, from one on. -/
def draws (l : List Int) (i : Int) : Nat → List Int
  | 0 => []
  | n + 1 => atOf l i :: draws l (i + 1) n
theorem draws_length (l : List Int) (n : Nat) : ∀ i, (draws l i n).length = n := by
  induction n with
  | zero => intro i; rfl
  | succ n ih => intro i; rw [draws, List.length_cons, ih]
theorem draws_get (l : List Int) (n : Nat) : ∀ (i : Int) (j : Nat) (h : j < (draws l i n).length), (draws l i n)[j] = atOf l (i + j) := by
  induction n with
  | zero => intro i j h; simp [draws] at h
  | succ n ih =>
    intro i j h
    cases j with
    | zero => simp [draws]
    | succ j =>
      simp only [draws, List.getElem_cons_succ]
      rw [ih]
      congr 1
      omega
theorem peek_l0 (l : List Int) (nx : Int) (hl : ∀ x ∈ l, (Lit.int .u32 x).wf = true) : ∀ (n k : Nat) (i : Int) (acc : List Int), 0 ≤ i → i + n ≤ 4611686018427387904 → acc.length + n ≤ 1000000 → n < k →
    draw_Peek.l0 k acc i (i + n) l nx = some (acc ++ draws l i n) := by
  intro n
  induction n with
  | zero =>
    intro k i acc h1 h2 h3 h4
    obtain ⟨k, rfl⟩ : ∃ m, k = m + 1 := ⟨k - 1, by omega⟩
    rw [draw_Peek.l0, if_neg (by omega), draws, List.append_nil]
  | succ n ih =>
    intro k i acc h1 h2 h3 h4
    obtain ⟨k, rfl⟩ : ∃ m, k = m + 1 := ⟨k - 1, by omega⟩
    rw [draw_Peek.l0, if_pos (by omega), at_eq l nx i hl h1, Option.bind_some, if_pos (by omega), w64 (by omega) (by omega)]
    have e : i + ((n + 1 : Nat) : Int) = (i + 1) + (n : Int) := by omega
    rw [e, ih k (i + 1) _ (by omega) (by omega) (by rw [List.length_append]; simp; omega) (by omega), draws]
    simp
theorem peek_eq (l : List Int) (nx : Int) (n k : Nat) (hl : ∀ x ∈ l, (Lit.int .u32 x).wf = true) (h1 : 0 ≤ nx) (h2 : nx ≤ 1000000000) (h3 : n ≤ 1000000) (h4 : n < k) : draw_Peek.f k l nx (n : Int) = some (draws l nx n) := by
  unfold draw_Peek.f
  rw [w64 (by omega) (by omega), peek_l0 l nx hl n k nx [] h1 (by omega) (by simpa using h3) h4, List.nil_append]
theorem take_eq (l : List Int) (nx : Int) (hl : ∀ x ∈ l, (Lit.int .u32 x).wf = true) (h1 : 0 ≤ nx) (h2 : nx ≤ 1000000000) : draw_Take.f l nx = some (l, nx + 1, atOf l nx) := by
  unfold draw_Take.f
  rw [at_eq l nx nx hl h1, Option.bind_some, w64 (by omega) (by omega)]
theorem drawn_eq (l : List Int) (n k : Nat) (hl : ∀ x ∈ l, (Lit.int .u32 x).wf = true) (h3 : n ≤ 1000000) (h4 : n < k) : draw_Drawn.f k l (n : Int) = some (draws l 0 n) := by
  unfold draw_Drawn.f
  rw [peek_eq l 0 n k hl (by omega) (by omega) h3 h4, Option.bind_some]
theorem awake60 (k : Nat) (h : 60 ≤ k) : chamberlainlaw04_awake.f k = some true := at_rounds (chamberlainlaw04_awake.mono) h chamberlainlaw04_awake.at60
/-- No word of the list stands ahead of the same one. -/
def lone (l : List Int) (i : Nat) : Prop := ∀ b, i ≤ b → b < l.length → ∀ t, t < b → rd l (t : Int) ≠ rd l (b : Int)
theorem lone_zero (l : List Int) : lone l 0 ↔ l.Nodup := by
  unfold lone List.Nodup
  rw [List.pairwise_iff_getElem]
  constructor
  · intro h i j hi hj hij
    have q := h j (by omega) hj i hij
    rw [rd_nat l i hi, rd_nat l j hj] at q
    exact q
  · intro h b _ hb t ht
    rw [rd_nat l t (by omega), rd_nat l b hb]
    exact h t b (by omega) hb ht
theorem unl_in (l : List Int) (i : Nat) (hi : i < l.length) (hm : l.length ≤ 1000000) (hn : ∃ K r, draw_Unlike.l0 K l ((i + 1 : Nat) : Int) = some r ∧ (r = true ↔ lone l (i + 1))) :
    ∀ (d j : Nat), i - j = d → j ≤ i → ∃ K r, draw_Unlike.l1 K l (i : Int) (j : Int) = some r ∧ (r = true ↔ (∀ t, j ≤ t → t < i → rd l (t : Int) ≠ rd l (i : Int)) ∧ lone l (i + 1)) := by
  intro d
  induction d with
  | zero =>
    intro j e1 e2
    obtain ⟨K, r, h, q⟩ := hn
    refine ⟨K + 1, r, ?_, ?_⟩
    · rw [draw_Unlike.l1, if_neg (by omega), w64 (by omega) (by omega)]
      have e : (i : Int) + 1 = ((i + 1 : Nat) : Int) := by omega
      rw [e]; exact h
    · rw [q]
      exact ⟨fun z => ⟨fun t a b => by omega, z⟩, fun z => z.2⟩
  | succ d ih =>
    intro j e1 e2
    by_cases c : rd l (j : Int) = rd l (i : Int)
    · refine ⟨0 + 1, false, ?_, ?_⟩
      · rw [draw_Unlike.l1, if_pos (by omega), if_pos (by omega), if_pos (by omega), if_pos (by omega), if_pos (by omega), if_pos c]
      · exact ⟨fun z => (by cases z), fun z => absurd c (z.1 j (Nat.le_refl _) (by omega))⟩
    · obtain ⟨K, r, h, q⟩ := ih (j + 1) (by omega) (by omega)
      refine ⟨K + 1, r, ?_, ?_⟩
      · have e : (j : Int) + 1 = ((j + 1 : Nat) : Int) := by omega
        rw [draw_Unlike.l1, if_pos (by omega), if_pos (by omega), if_pos (by omega), if_pos (by omega), if_pos (by omega), if_neg c, w64 (by omega) (by omega), e]
        exact h
      · rw [q]
        refine ⟨fun z => ⟨fun t a b => ?_, z.2⟩, fun z => ⟨fun t a b => z.1 t (by omega) b, z.2⟩⟩
        rcases Nat.lt_or_ge j t with y | y
        · exact z.1 t y b
        · have : t = j := by omega
          subst this
          exact c
theorem unl_l0 (l : List Int) (hm : l.length ≤ 1000000) (hw : ∀ x ∈ l, (Lit.int .u32 x).wf = true) : ∀ (d i : Nat), l.length - i = d → i ≤ l.length → ∃ K r, draw_Unlike.l0 K l (i : Int) = some r ∧ (r = true ↔ lone l i) := by
  intro d
  induction d with
  | zero =>
    intro i e1 e2
    refine ⟨0 + 1, true, ?_, ?_⟩
    · rw [draw_Unlike.l0, if_neg (by omega)]
    · exact ⟨fun _ b h1 h2 => by omega, fun _ => rfl⟩
  | succ d ih =>
    intro i e1 e2
    obtain ⟨K, r, h, q⟩ := unl_in l i (by omega) hm (ih (i + 1) (by omega) (by omega)) i 0 (by omega) (by omega)
    refine ⟨K + 1, r, ?_, ?_⟩
    · have z := wf32 (hw (l[i]'(by omega)) (List.getElem_mem _))
      rw [draw_Unlike.l0, if_pos (by omega), if_pos (by omega), if_pos (by rw [rd_nat l i (by omega), w64 (by omega) (by omega)]; omega)]
      exact h
    · rw [q]
      refine ⟨fun z b h1 h2 t h3 => ?_, fun z => ⟨fun t _ h2 => z i (Nat.le_refl _) (by omega) t h2, fun b h1 h2 t h3 => z b (by omega) h2 t h3⟩⟩
      rcases Nat.lt_or_ge i b with y | y
      · exact z.2 b y h2 t h3
      · have : b = i := by omega
        subst this
        exact z.1 t (Nat.zero_le _) h3
theorem unl_eq (l : List Int) (hm : l.length ≤ 1000000) (hw : ∀ x ∈ l, (Lit.int .u32 x).wf = true) : ∃ K, ∀ k, K ≤ k → draw_Unlike.f k l = some (decide l.Nodup) := by
  obtain ⟨K, r, h, q⟩ := unl_l0 l hm hw l.length 0 (by omega) (by omega)
  have e : draw_Unlike.f K l = some (decide l.Nodup) := by
    unfold draw_Unlike.f
    rw [if_neg (by omega)]
    simp only [Int.natCast_zero] at h
    rw [h]
    congr 1
    rw [lone_zero] at q
    cases r with
    | true => exact (decide_eq_true (q.1 rfl)).symm
    | false => exact (decide_eq_false (fun z => by have := q.2 z; cases this)).symm
  exact ⟨K, fun k hk => at_rounds (draw_Unlike.mono l) hk e⟩
theorem runl_l0 (l : List Int) (hm : l.length ≤ 1000000) : ∀ (d k i : Nat), l.length - i = d → i ≤ l.length → l.length + d + 2 < k → ∃ r, chamberlainref04_Unlike.l0 k l (i : Int) = some r ∧ (r = true ↔ lone l i) := by
  intro d
  induction d with
  | zero =>
    intro k i e1 e2 e3
    obtain ⟨k, rfl⟩ : ∃ m, k = m + 1 := ⟨k - 1, by omega⟩
    refine ⟨true, ?_, ?_⟩
    · rw [chamberlainref04_Unlike.l0, if_neg (by omega)]
    · exact ⟨fun _ b h1 h2 => by omega, fun _ => rfl⟩
  | succ d ih =>
    intro k i e1 e2 e3
    obtain ⟨k, rfl⟩ : ∃ m, k = m + 1 := ⟨k - 1, by omega⟩
    obtain ⟨r, h, q⟩ := ih k (i + 1) (by omega) (by omega) (by omega)
    have ei : (i : Int) + 1 = ((i + 1 : Nat) : Int) := by omega
    have has : rd l (i : Int) ∈ l.take i ↔ ∃ t, t < i ∧ rd l (t : Int) = rd l (i : Int) := by
      rw [List.mem_iff_getElem]
      constructor
      · rintro ⟨t, ht, e⟩
        rw [List.length_take] at ht
        refine ⟨t, by omega, ?_⟩
        rw [← e, List.getElem_take, rd_nat l t (by omega)]
      · rintro ⟨t, ht, e⟩
        refine ⟨t, by rw [List.length_take]; omega, ?_⟩
        rw [← e, List.getElem_take, rd_nat l t (by omega)]
    by_cases c : rd l (i : Int) ∈ l.take i
    · refine ⟨false, ?_, ?_⟩
      · rw [chamberlainref04_Unlike.l0, if_pos (by omega), if_pos (by omega), if_pos (by omega), Int.toNat_natCast, rhas_eq _ _ k (by rw [List.length_take]; omega) (by rw [List.length_take]; omega), decide_eq_true c, Option.bind_some, if_pos rfl]
      · refine ⟨fun z => (by cases z), fun z => ?_⟩
        obtain ⟨t, ht, e⟩ := has.1 c
        exact absurd e (z i (Nat.le_refl _) (by omega) t ht)
    · refine ⟨r, ?_, ?_⟩
      · rw [chamberlainref04_Unlike.l0, if_pos (by omega), if_pos (by omega), if_pos (by omega), Int.toNat_natCast, rhas_eq _ _ k (by rw [List.length_take]; omega) (by rw [List.length_take]; omega), decide_eq_false c, Option.bind_some, if_neg (by decide), w64 (by omega) (by omega), ei]
        exact h
      · rw [q]
        refine ⟨fun z b h1 h2 t h3 => ?_, fun z b h1 h2 t h3 => z b (by omega) h2 t h3⟩
        rcases Nat.lt_or_ge i b with y | y
        · exact z b y h2 t h3
        · have : b = i := by omega
          subst this
          exact fun e => c (has.2 ⟨t, h3, e⟩)
theorem runl_eq (l : List Int) (k : Nat) (hm : l.length ≤ 1000000) (hk : l.length + l.length + 2 < k) : chamberlainref04_Unlike.f k l = some (decide l.Nodup) := by
  obtain ⟨r, h, q⟩ := runl_l0 l hm l.length k 0 (by omega) (by omega) hk
  unfold chamberlainref04_Unlike.f
  simp only [Int.natCast_zero] at h
  rw [h]
  congr 1
  rw [lone_zero] at q
  cases r with
  | true => exact (decide_eq_true (q.1 rfl)).symm
  | false => exact (decide_eq_false (fun z => by have := q.2 z; cases this)).symm
theorem bits_far (i : Nat) (h : i < 1073741824) : Go.bits .or .u32 1073741824 ((i : Int) % 4294967296) = 1073741824 + (i : Int) := by
  have e : (i : Int) % 4294967296 = (i : Int) := by omega
  have n : (1073741824 : Nat) ||| i = 1073741824 + i := by
    have := Nat.two_pow_add_eq_or_of_lt (i := 30) h 1
    simpa using this.symm
  have hb := (bits_nat .u32 32 (by decide) wraps_u32 1073741824 i (by decide) (by omega)).2
  have e2 : ((1073741824 : Nat) : Int) = 1073741824 := rfl
  rw [e2] at hb
  rw [e, hb, n]
  omega
theorem atOf_range (l : List Int) (i : Int) (hl : ∀ x ∈ l, (Lit.int .u32 x).wf = true) (h : 0 ≤ i) : 2147483648 ≤ atOf l i ∧ atOf l i < 4294967296 := by
  have r := rawAt_range l i hl h
  unfold atOf
  split <;> omega
theorem u32wf (x : Int) (h : 0 ≤ x ∧ x < 4294967296) : (Lit.int .u32 x).wf = true := by
  simp only [Lit.wf, IntKind.min, IntKind.max, IntKind.signed, IntKind.bits, Bool.and_eq_true]
  simp
  omega
theorem draws_mem (l : List Int) (hl : ∀ x ∈ l, (Lit.int .u32 x).wf = true) : ∀ (n : Nat) (i : Int), 0 ≤ i → ∀ x ∈ draws l i n, (Lit.int .u32 x).wf = true := by
  intro n
  induction n with
  | zero => intro i _ x hx; simp [draws] at hx
  | succ n ih =>
    intro i hi x hx
    rw [draws, List.mem_cons] at hx
    rcases hx with rfl | hx
    · have := atOf_range l i hl hi
      exact u32wf _ ⟨by omega, by omega⟩
    · exact ih (i + 1) (by omega) x hx
theorem draws_append (l : List Int) : ∀ (a b : Nat) (i : Int), draws l i (a + b) = draws l i a ++ draws l (i + a) b := by
  intro a
  induction a with
  | zero => intro b i; simp [draws]
  | succ a ih =>
    intro b i
    have e : a + 1 + b = (a + b) + 1 := by omega
    have e2 : i + 1 + (a : Int) = i + ((a + 1 : Nat) : Int) := by omega
    rw [e, draws, draws, ih, e2, List.cons_append]
theorem atOf_low (l : List Int) (i : Nat) (h : i < l.length) (h2 : rd l (i : Int) < 1073741824) : atOf l (i : Int) = rd l (i : Int) + 2147483648 := by
  have e : rawAt l (i : Int) = rd l (i : Int) := by unfold rawAt; rw [if_pos (by omega)]
  unfold atOf
  rw [e, if_pos (by omega)]
theorem atOf_far (l : List Int) (i : Nat) (h : l.length ≤ i) (h2 : i < 1073741824) : atOf l (i : Int) = 1073741824 + (i : Int) + 2147483648 := by
  have e : rawAt l (i : Int) = 1073741824 + (i : Int) := by unfold rawAt; rw [if_neg (by omega), bits_far i h2]
  unfold atOf
  rw [e, if_pos (by omega)]
theorem draws_nodup (l : List Int) (hn : l.Nodup) (hlow : ∀ j : Nat, j < l.length → rd l (j : Int) < 1073741824) (m : Nat) (hm : m ≤ 1000) : (draws l 0 m).Nodup := by
  unfold List.Nodup
  rw [List.pairwise_iff_getElem]
  intro a b ha hb hab
  rw [draws_length] at ha hb
  rw [draws_get l m 0 a (by rw [draws_length]; exact ha), draws_get l m 0 b (by rw [draws_length]; exact hb), Int.zero_add, Int.zero_add]
  by_cases ca : a < l.length
  · rw [atOf_low l a ca (hlow a ca)]
    by_cases cb : b < l.length
    · rw [atOf_low l b cb (hlow b cb)]
      have q := (lone_zero l).2 hn b (Nat.zero_le _) cb a hab
      omega
    · rw [atOf_far l b (by omega) (by omega)]
      have := hlow a ca
      omega
  · rw [atOf_far l a (by omega) (by omega), atOf_far l b (by omega) (by omega)]
    omega
theorem once_l2 (l : List Int) (s n K : Nat) (hl : l.length ≤ 100) (hs : s ≤ 255) (hn : n ≤ 255) (hu : ∀ k, K ≤ k → draw_Unlike.f k (draws l 0 (s + n)) = some (decide (draws l 0 (s + n)).Nodup)) :
    ∀ (d k i : Nat) (low : Bool), l.length - i = d → i ≤ l.length → (low = true → ∀ j : Nat, j < i → rd l (j : Int) < 1073741824) → d + K + 2000 < k → chamberlainlaw04_DrawOnce.l2 k l (draws l 0 s) (draws l (s : Int) n) (draws l 0 (s + n)) low (i : Int) = some true := by
  have ea : ([] ++ draws l 0 s : List Int) ++ draws l (s : Int) n = draws l 0 (s + n) := by
    rw [draws_append, List.nil_append, Int.zero_add]
  have same : ∀ k, 1000 < k → chamberlainref01_Same.f k (draws l 0 (s + n)) (([] ++ draws l 0 s : List Int) ++ draws l (s : Int) n) = some true := by
    intro k hk
    rw [ea, rsame_eq _ _ k (by rw [draws_length]; omega) (by rw [draws_length]; omega), decide_eq_true rfl]
  have tail : ∀ k, 1000 < k → ((some (([] : List Int) : List Int)).bind fun y217 => (if y217.length + (draws l 0 s).length < 35184372088832 then ((some (y217 ++ draws l 0 s : List Int)).bind fun y220 => (if y220.length + (draws l (s : Int) n).length < 35184372088832 then ((chamberlainref01_Same.f k (draws l 0 (s + n)) (y220 ++ draws l (s : Int) n)).bind fun t226 => (some t226)) else (none))) else (none))) = some true := by
    intro k hk
    rw [Option.bind_some, if_pos (by rw [draws_length]; simp; omega), Option.bind_some, if_pos (by rw [List.length_append, draws_length, draws_length]; simp; omega), same k hk, Option.bind_some]
  intro d
  induction d with
  | zero =>
    intro k i low e1 e2 e3 e4
    obtain ⟨k, rfl⟩ : ∃ m, k = m + 1 := ⟨k - 1, by omega⟩
    rw [chamberlainlaw04_DrawOnce.l2, if_neg (by omega)]
    cases low with
    | false => rw [if_neg (by decide)]; exact tail k (by omega)
    | true =>
      rw [if_pos rfl, runl_eq l k (by omega) (by omega), Option.bind_some]
      by_cases c : l.Nodup
      · rw [decide_eq_true c, if_pos rfl, hu k (by omega), decide_eq_true (draws_nodup l c (fun j hj => e3 rfl j (by omega)) (s + n) (by omega)), Option.bind_some, if_pos rfl]
        exact tail k (by omega)
      · rw [decide_eq_false c, if_neg (by decide)]
        exact tail k (by omega)
  | succ d ih =>
    intro k i low e1 e2 e3 e4
    obtain ⟨k, rfl⟩ : ∃ m, k = m + 1 := ⟨k - 1, by omega⟩
    have ei : (i : Int) + 1 = ((i + 1 : Nat) : Int) := by omega
    rw [chamberlainlaw04_DrawOnce.l2, if_pos (by omega), w64 (by omega) (by omega), ei]
    cases low with
    | false =>
      rw [if_neg (by decide)]
      exact ih k (i + 1) false (by omega) (by omega) (fun z => by cases z) (by omega)
    | true =>
      rw [if_pos rfl, if_pos (by omega)]
      refine ih k (i + 1) _ (by omega) (by omega) (fun z j hj => ?_) (by omega)
      rcases Nat.lt_or_ge j i with y | y
      · exact e3 rfl j y
      · have : j = i := by omega
        subst this
        exact of_decide_eq_true z
theorem once_l1 (l : List Int) (s n K : Nat) (hw : ∀ x ∈ l, (Lit.int .u32 x).wf = true) (hl : l.length ≤ 100) (hs : s ≤ 255) (hn : n ≤ 255) (hu : ∀ k, K ≤ k → draw_Unlike.f k (draws l 0 (s + n)) = some (decide (draws l 0 (s + n)).Nodup)) :
    ∀ (d k j : Nat), n - j = d → j ≤ n → d + K + 4000 < k → chamberlainlaw04_DrawOnce.l1 k l (n : Int) (draws l 0 s) (draws l (s : Int) n) (j : Int) l ((s + j : Nat) : Int) = some true := by
  intro d
  induction d with
  | zero =>
    intro k j e1 e2 e3
    obtain ⟨k, rfl⟩ : ∃ m, k = m + 1 := ⟨k - 1, by omega⟩
    obtain rfl : j = n := by omega
    rw [chamberlainlaw04_DrawOnce.l1, if_neg (by rw [w64 (by omega) (by omega)]; omega), drawn_eq l (s + j) k hw (by omega) (by omega), Option.bind_some]
    exact once_l2 l s j K hl hs hn hu l.length k 0 true (by omega) (by omega) (fun _ q hq => by omega) (by omega)
  | succ d ih =>
    intro k j e1 e2 e3
    obtain ⟨k, rfl⟩ : ∃ m, k = m + 1 := ⟨k - 1, by omega⟩
    have ei : (j : Int) + 1 = ((j + 1 : Nat) : Int) := by omega
    have es : ((s + j : Nat) : Int) + 1 = ((s + (j + 1) : Nat) : Int) := by omega
    have eg : rd (draws l (s : Int) n) (j : Int) = atOf l ((s + j : Nat) : Int) := by
      rw [rd_nat _ j (by rw [draws_length]; omega), draws_get l n _ j (by rw [draws_length]; omega)]
      congr 1
    have ra := atOf_range l ((s + j : Nat) : Int) hw (by omega)
    rw [chamberlainlaw04_DrawOnce.l1, if_pos (by rw [w64 (by omega) (by omega)]; omega), take_eq l _ hw (by omega) (by omega), Option.bind_some]
    dsimp only
    rw [if_pos (by omega), if_pos (by rw [draws_length]; omega), if_pos eg.symm, if_neg (by omega), w64 (by omega) (by omega), if_pos rfl, w64 (by omega) (by omega), ei, es]
    exact ih k (j + 1) (by omega) (by omega) (by omega)
theorem once_l0 (l : List Int) (s n K : Nat) (hw : ∀ x ∈ l, (Lit.int .u32 x).wf = true) (hl : l.length ≤ 100) (hs : s ≤ 255) (hn : n ≤ 255) (hu : ∀ k, K ≤ k → draw_Unlike.f k (draws l 0 (s + n)) = some (decide (draws l 0 (s + n)).Nodup)) :
    ∀ (d k i : Nat), s - i = d → i ≤ s → d + K + 6000 < k → chamberlainlaw04_DrawOnce.l0 k l (s : Int) (n : Int) (i : Int) l (i : Int) = some true := by
  intro d
  induction d with
  | zero =>
    intro k i e1 e2 e3
    obtain ⟨k, rfl⟩ : ∃ m, k = m + 1 + 1 := ⟨k - 2, by omega⟩
    obtain rfl : i = s := by omega
    rw [chamberlainlaw04_DrawOnce.l0, if_neg (by rw [w64 (by omega) (by omega)]; omega), drawn_eq l i _ hw (by omega) (by omega), Option.bind_some, w64 (x := (n : Int)) (by omega) (by omega), peek_eq l _ n _ hw (by omega) (by omega) (by omega) (by omega), Option.bind_some, if_pos (by rw [draws_length]), w64 (by omega) (by omega), draws_length, bne_self_eq_false, chamberlainlaw04_DrawOnce.j2, if_neg (by decide)]
    exact once_l1 l i n K hw hl hs hn hu n k 0 (by omega) (by omega) (by omega)
  | succ d ih =>
    intro k i e1 e2 e3
    obtain ⟨k, rfl⟩ : ∃ m, k = m + 1 := ⟨k - 1, by omega⟩
    have ei : (i : Int) + 1 = ((i + 1 : Nat) : Int) := by omega
    rw [chamberlainlaw04_DrawOnce.l0, if_pos (by rw [w64 (by omega) (by omega)]; omega), take_eq l _ hw (by omega) (by omega), Option.bind_some]
    dsimp only
    rw [w64 (by omega) (by omega), ei]
    exact ih k (i + 1) (by omega) (by omega) (by omega)
theorem DrawOnce : chamberlainlaw04_DrawOnce.Pure := by
  intro l s n _ hw hs hn
  have hs := wf8 hs
  have hn := wf8 hn
  by_cases c : (l.length : Int) > 100
  · obtain ⟨k, hk⟩ : ∃ k, k = 20000 := ⟨_, rfl⟩
    refine ⟨k + 1, ?_⟩
    unfold chamberlainlaw04_DrawOnce.f
    rw [awake60 _ (by omega), Option.bind_some, if_pos rfl, decide_eq_true c, chamberlainlaw04_DrawOnce.j0, if_pos rfl, awake60 _ (by omega), Option.bind_some]
  · obtain ⟨s, rfl⟩ : ∃ m : Nat, s = (m : Int) := ⟨s.toNat, by omega⟩
    obtain ⟨n, rfl⟩ : ∃ m : Nat, n = (m : Int) := ⟨n.toNat, by omega⟩
    obtain ⟨K, hu⟩ := unl_eq (draws l 0 (s + n)) (by rw [draws_length]; omega) (draws_mem l hw (s + n) 0 (by omega))
    obtain ⟨k, hk⟩ : ∃ k, k = K + 20000 := ⟨_, rfl⟩
    refine ⟨k + 1, ?_⟩
    unfold chamberlainlaw04_DrawOnce.f
    rw [awake60 _ (by omega), Option.bind_some, if_pos rfl, decide_eq_false c, chamberlainlaw04_DrawOnce.j0, if_neg (by decide)]
    exact once_l0 l s n K hw (by omega) (by omega) (by omega) hu s k 0 (by omega) (by omega) (by omega)

end Go.Proofs.Ytinfkgbbfmeiaaa.Pure
