/- Whether no word is there twice is the document's, either way round, for every list; no condition. -/
import Derived.Test.YtinfkgbbfmeiaaaPDrawUnlikesx3
namespace Go.Proofs.Ytinfkgbbfmeiaaa.Pure
open Go Go.RowKit Go.Proofs.Ytinfkgbbfmeiaaa.PDrawUnlikes Go.Proofs.YtinfkgbbfmeiaaaW.PrintWords Go.Proofs.YtinfkgbbfmeiaaaW.PrintLast Go.Proofs.YtinfkgbbfmeiaaaW.PrintMore

theorem wf32 {x : Int} (h : (Lit.int .u32 x).wf = true) : 0 ≤ x ∧ x < 4294967296 := by
  simp only [Lit.wf, IntKind.min, IntKind.max, IntKind.signed, IntKind.bits, Bool.and_eq_true] at h
  simp at h
  omega
theorem wf8 {x : Int} (h : (Lit.int .u8 x).wf = true) : 0 ≤ x ∧ x < 256 := by
  simp only [Lit.wf, IntKind.min, IntKind.max, IntKind.signed, IntKind.bits, Bool.and_eq_true] at h
  simp at h
  omega
theorem wf16 {x : Int} (h : (Lit.int .u16 x).wf = true) : 0 ≤ x ∧ x < 65536 := by
  simp only [Lit.wf, IntKind.min, IntKind.max, IntKind.signed, IntKind.bits, Bool.and_eq_true] at h
  simp at h
  omega
theorem wf64 {x : Int} (h : (Lit.int .i64 x).wf = true) : -9223372036854775808 ≤ x ∧ x ≤ 9223372036854775807 := by
  simp only [Lit.wf, IntKind.min, IntKind.max, IntKind.signed, IntKind.bits, Bool.and_eq_true] at h
  simp at h
  omega
theorem w64 {x : Int} (h1 : -9223372036854775808 ≤ x) (h2 : x ≤ 9223372036854775807) : wrap64 x = x := by
  unfold wrap64
  omega
theorem rd_nat (xs : List Int) (i : Nat) (h : i < xs.length) : rd xs (i : Int) = xs[i] := by
  unfold rd
  simp [List.getD_eq_getElem?_getD, h]
/-- From place i on, n places: does p hold of all? -/
def allF (p : Nat → Bool) : Nat → Nat → Bool
  | 0, _ => true
  | n + 1, i => p i && allF p n (i + 1)
theorem allF_iff (p : Nat → Bool) (n i : Nat) : allF p n i = true ↔ ∀ j, i ≤ j → j < i + n → p j = true := by
  induction n generalizing i with
  | zero => simp [allF]; intro j h1 h2; omega
  | succ n ih =>
    simp only [allF, Bool.and_eq_true, ih]
    constructor
    · rintro ⟨h0, h⟩ j h1 h2
      by_cases e : j = i
      · subst e; exact h0
      · exact h j (by omega) (by omega)
    · intro h
      exact ⟨h i (by omega) (by omega), fun j h1 h2 => h j (by omega) (by omega)⟩
/-- The first place from i on, of n, of which p holds. -/
def fnd (p : Nat → Bool) : Nat → Nat → Option Nat
  | 0, _ => none
  | n + 1, i => if p i = true then some i else fnd p n (i + 1)
theorem fnd_some {p : Nat → Bool} {n i j : Nat} (h : fnd p n i = some j) : i ≤ j ∧ j < i + n ∧ p j = true ∧ ∀ m, i ≤ m → m < j → p m = false := by
  induction n generalizing i with
  | zero => simp [fnd] at h
  | succ n ih =>
    simp only [fnd] at h
    by_cases e : p i = true
    · rw [if_pos e] at h
      cases h
      exact ⟨Nat.le_refl _, by omega, e, fun m h1 h2 => by omega⟩
    · rw [if_neg e] at h
      obtain ⟨h1, h2, h3, h4⟩ := ih h
      refine ⟨by omega, by omega, h3, fun m m1 m2 => ?_⟩
      by_cases c : m = i
      · subst c; simpa using e
      · exact h4 m (by omega) m2
theorem fnd_none {p : Nat → Bool} {n i : Nat} (h : fnd p n i = none) : ∀ m, i ≤ m → m < i + n → p m = false := by
  induction n generalizing i with
  | zero => intro m h1 h2; omega
  | succ n ih =>
    simp only [fnd] at h
    by_cases e : p i = true
    · rw [if_pos e] at h; cases h
    · rw [if_neg e] at h
      intro m h1 h2
      by_cases c : m = i
      · subst c; simpa using e
      · exact ih h m (by omega) (by omega)
theorem fnd_eq_some {p : Nat → Bool} {n i j : Nat} (h1 : i ≤ j) (h2 : j < i + n) (h3 : p j = true) (h4 : ∀ m, i ≤ m → m < j → p m = false) : fnd p n i = some j := by
  cases h : fnd p n i with
  | none => have := fnd_none h j h1 h2; rw [this] at h3; cases h3
  | some q =>
    obtain ⟨a, b, c, d⟩ := fnd_some h
    congr 1
    rcases Nat.lt_trichotomy q j with e | e | e
    · have := h4 q a e; rw [this] at c; cases c
    · exact e
    · have := d j h1 e; rw [this] at h3; cases h3
theorem fnd_eq_none {p : Nat → Bool} {n i : Nat} (h : ∀ m, i ≤ m → m < i + n → p m = false) : fnd p n i = none := by
  cases e : fnd p n i with
  | none => rfl
  | some q =>
    obtain ⟨a, b, c, _⟩ := fnd_some e
    rw [h q a b] at c; cases c
theorem rows_eq (a b : List Int) (h : a.length = b.length) : allF (fun i => decide (rd a (i : Int) = rd b (i : Int))) a.length 0 = decide (a = b) := by
  rw [Bool.eq_iff_iff, allF_iff]
  simp only [decide_eq_true_eq]
  constructor
  · intro H
    apply List.ext_getElem h
    intro i h1 h2
    have := H i (by omega) (by omega)
    rw [rd_nat a i h1, rd_nat b i h2] at this
    exact this
  · intro e j _ _
    rw [e]
/-- A loop that asks place by place. -/
theorem all_loop (f : Nat → Nat → Option Bool) (n : Nat) (p : Nat → Bool) (h : ∀ k i, i ≤ n → f (k + 1) i = if i < n then (if p i = true then f k (i + 1) else some false) else some true) :
    ∀ (d k i : Nat), n - i = d → i ≤ n → d < k → f k i = some (allF p d i) := by
  intro d
  induction d with
  | zero =>
    intro k i h1 h2 h3
    obtain ⟨k, rfl⟩ : ∃ m, k = m + 1 := ⟨k - 1, by omega⟩
    rw [h k i h2, if_neg (by omega)]; rfl
  | succ d ih =>
    intro k i h1 h2 h3
    obtain ⟨k, rfl⟩ : ∃ m, k = m + 1 := ⟨k - 1, by omega⟩
    rw [h k i h2, if_pos (by omega)]
    simp only [allF]
    cases e : p i with
    | true => rw [if_pos rfl, ih k (i + 1) (by omega) (by omega) (by omega)]; simp
    | false => simp
/-- A loop that looks for the first place. -/
theorem fnd_loop {α : Type} (f : Nat → Nat → Option α) (n : Nat) (p : Nat → Bool) (yes : Nat → α) (no : α) (c : Nat) (h : ∀ k i, i ≤ n → c ≤ k → f (k + 1) i = if i < n then (if p i = true then some (yes i) else f k (i + 1)) else some no) :
    ∀ (d k i : Nat), n - i = d → i ≤ n → c + d < k → f k i = some (match fnd p d i with | some j => yes j | none => no) := by
  intro d
  induction d with
  | zero =>
    intro k i h1 h2 h3
    obtain ⟨k, rfl⟩ : ∃ m, k = m + 1 := ⟨k - 1, by omega⟩
    rw [h k i h2 (by omega), if_neg (by omega)]; rfl
  | succ d ih =>
    intro k i h1 h2 h3
    obtain ⟨k, rfl⟩ : ∃ m, k = m + 1 := ⟨k - 1, by omega⟩
    rw [h k i h2 (by omega), if_pos (by omega)]
    simp only [fnd]
    cases e : p i with
    | true => simp
    | false => rw [if_neg (by simp), if_neg (by simp), ih k (i + 1) (by omega) (by omega) (by omega)]
theorem wraps_u32 (n : Int) (h₀ : 0 ≤ n) (h₁ : n < 2 ^ 32) : IntKind.u32.wrap n = n := by rw [IntKind.wrap_u32]; omega
theorem bits_or (x : Int) (h : 0 ≤ x ∧ x < 4294967296) : Go.bits .or .u32 x 2147483648 = if x < 2147483648 then x + 2147483648 else x := by
  obtain ⟨n, rfl⟩ : ∃ n : Nat, x = (n : Int) := ⟨x.toNat, by omega⟩
  have hb := (bits_nat .u32 32 (by decide) wraps_u32 n 2147483648 (by omega) (by decide)).2
  have e : ((2147483648 : Nat) : Int) = 2147483648 := rfl
  rw [e] at hb
  rw [hb]
  by_cases c : n < 2147483648
  · rw [if_pos (by omega)]
    have h1 := Nat.two_pow_add_eq_or_of_lt (i := 31) (b := n) (by omega) 1
    have h2 : n ||| 2147483648 = 2147483648 + n := by rw [Nat.or_comm]; exact h1.symm
    omega
  · rw [if_neg (by omega)]
    have h1 := Nat.two_pow_add_eq_or_of_lt (i := 31) (b := n - 2147483648) (by omega) 1
    have h3 : n = 2147483648 ||| (n - 2147483648) := by
      have : 2 ^ 31 * 1 + (n - 2147483648) = n := by omega
      rw [this] at h1; exact h1
    have h2 : n ||| 2147483648 = n := by
      rw [Nat.or_comm, h3, ← Nat.or_assoc, Nat.or_self]
    rw [h2]
theorem draw_eq (x : Int) (h : 0 ≤ x ∧ x < 4294967296) : word_Draw.f x = some (if x < 2147483648 then x + 2147483648 else x) := by
  unfold word_Draw.f
  rw [bits_or x h]
theorem mem_fnd (l : List Int) (w : Int) : (∃ j, fnd (fun i => decide (w = rd l (i : Int))) l.length 0 = some j) ↔ w ∈ l := by
  constructor
  · rintro ⟨j, h⟩
    obtain ⟨_, h2, h3, _⟩ := fnd_some h
    simp only [decide_eq_true_eq] at h3
    rw [rd_nat l j (by omega)] at h3
    rw [h3]; exact List.getElem_mem _
  · intro h
    obtain ⟨i, hi, e⟩ := List.getElem_of_mem h
    cases c : fnd (fun i => decide (w = rd l (i : Int))) l.length 0 with
    | some j => exact ⟨j, rfl⟩
    | none =>
      have := fnd_none c i (by omega) (by omega)
      simp only [decide_eq_false_iff_not, rd_nat l i hi] at this
      exact absurd e.symm this
theorem rsame_eq (a b : List Int) (k : Nat) (hb : a.length ≤ 4611686018427387904) (hk : a.length < k) : chamberlainref01_Same.f k a b = some (decide (a = b)) := by
  unfold chamberlainref01_Same.f
  by_cases hl : a.length = b.length
  · rw [if_pos (by omega)]
    have h := all_loop (fun k i => chamberlainref01_Same.l0 k a b (i : Int)) a.length (fun i => decide (rd a (i : Int) = rd b (i : Int))) (by
      intro k i hi
      simp only [chamberlainref01_Same.l0]
      by_cases c : i < a.length
      · rw [if_pos (by omega), if_pos (by omega), if_pos (by omega), if_pos c, w64 (by omega) (by omega)]
        simp
      · rw [if_neg (by omega), if_neg c]) a.length k 0 (by omega) (by omega) (by omega)
    simp only [Int.natCast_zero] at h
    rw [h, rows_eq a b hl]
  · rw [if_neg (by omega)]
    congr 1
    symm
    apply decide_eq_false
    intro e
    exact hl (by rw [e])
theorem rhas_eq (l : List Int) (w : Int) (k : Nat) (hl : l.length ≤ 4611686018427387904) (hk : l.length < k) : chamberlainref01_Has.f k l w = some (decide (w ∈ l)) := by
  unfold chamberlainref01_Has.f
  have h := fnd_loop (fun k i => chamberlainref01_Has.l0 k l w (i : Int)) l.length (fun i => decide (w = rd l (i : Int))) (fun _ => true) false 0 (by
    intro k i hi _
    simp only [chamberlainref01_Has.l0]
    by_cases c : i < l.length
    · rw [if_pos (by omega), if_pos (by omega), if_pos c, w64 (by omega) (by omega)]
      by_cases e : w = rd l (i : Int)
      · rw [if_pos e.symm, if_pos (decide_eq_true e)]
      · rw [if_neg (fun h => e h.symm), if_neg (by simpa using e)]; rfl
    · rw [if_neg (by omega), if_neg c]) l.length k 0 (by omega) (by omega) (by omega)
  simp only [Int.natCast_zero] at h
  rw [h]
  have := mem_fnd l w
  cases c : fnd (fun i => decide (w = rd l (i : Int))) l.length 0 with
  | some j => rw [c] at this; have : w ∈ l := this.mp ⟨j, rfl⟩; simp [this]
  | none => rw [c] at this; have : ¬ w ∈ l := fun h => by obtain ⟨j, hj⟩ := this.mpr h; cases hj
            simp [this]
theorem bits_range (x : Int) (h : 0 ≤ x ∧ x < 4294967296) : 0 ≤ Go.bits .or .u32 1073741824 x ∧ Go.bits .or .u32 1073741824 x < 4294967296 := by
  obtain ⟨n, rfl⟩ : ∃ n : Nat, x = (n : Int) := ⟨x.toNat, by omega⟩
  have hb := (bits_nat .u32 32 (by decide) wraps_u32 1073741824 n (by decide) (by omega)).2
  have e : ((1073741824 : Nat) : Int) = 1073741824 := rfl
  rw [e] at hb
  rw [hb]
  have : 1073741824 ||| n < 2 ^ 32 := Nat.or_lt_two_pow (by decide) (by omega)
  omega
def rawAt (l : List Int) (i : Int) : Int := if i < (l.length : Int) then rd l i else Go.bits .or .u32 1073741824 (i % 4294967296)
def atOf (l : List Int) (i : Int) : Int := if rawAt l i < 2147483648 then rawAt l i + 2147483648 else rawAt l i
theorem rawAt_range (l : List Int) (i : Int) (hl : ∀ x ∈ l, (Lit.int .u32 x).wf = true) (h : 0 ≤ i) : 0 ≤ rawAt l i ∧ rawAt l i < 4294967296 := by
  unfold rawAt
  split
  · obtain ⟨n, rfl⟩ : ∃ n : Nat, i = (n : Int) := ⟨i.toNat, by omega⟩
    rw [rd_nat l n (by omega)]
    exact wf32 (hl _ (List.getElem_mem _))
  · exact bits_range _ (by omega)
theorem at_eq (l : List Int) (nx i : Int) (hl : ∀ x ∈ l, (Lit.int .u32 x).wf = true) (h : 0 ≤ i) : draw_at.f l nx i = some (atOf l i) := by
  have hr := rawAt_range l i hl h
  unfold draw_at.f atOf
  unfold rawAt at hr ⊢
  by_cases c : i < (l.length : Int)
  · rw [if_pos c] at hr
    rw [if_pos c, if_pos h, if_pos c, draw_eq _ hr]; rfl
  · rw [if_neg c] at hr
    rw [if_neg c, if_neg c, draw_eq _ hr]; rfl
/-- So many draws, from one on. -/
def draws (l : List Int) (i : Int) : Nat → List Int
  | 0 => []
  | n + 1 => atOf l i :: draws l (i + 1) n
theorem draws_length (l : List Int) (n : Nat) : ∀ i, (draws l i n).length = n := by
  induction n with
  | zero => intro i; rfl
  | succ n ih => intro i; rw [draws, List.length_cons, ih]
theorem draws_get (l : List Int) (n : Nat) : ∀ (i : Int) (j : Nat) (h : j < (draws l i n).length), (draws l i n)[j] = atOf l (i + j) := by
  induction n with
  | zero => intro i j h; simp [draws] at h
  | succ n ih =>
    intro i j h
    cases j with
    | zero => simp [draws]
    | succ j =>
      simp only [draws, List.getElem_cons_succ]
      rw [ih]
      congr 1
      omega
theorem peek_l0 (l : List Int) (nx : Int) (hl : ∀ x ∈ l, (Lit.int .u32 x).wf = true) : ∀ (n k : Nat) (i : Int) (acc : List Int), 0 ≤ i → i + n ≤ 4611686018427387904 → acc.length + n ≤ 1000000 → n < k →
    draw_Peek.l0 k acc i (i + n) l nx = some (acc ++ draws l i n) := by
  intro n
  induction n with
  | zero =>
    intro k i acc h1 h2 h3 h4
    obtain ⟨k, rfl⟩ : ∃ m, k = m + 1 := ⟨k - 1, by omega⟩
    rw [draw_Peek.l0, if_neg (by omega), draws, List.append_nil]
  | succ n ih =>
    intro k i acc h1 h2 h3 h4
    obtain ⟨k, rfl⟩ : ∃ m, k = m + 1 := ⟨k - 1, by omega⟩
    rw [draw_Peek.l0, if_pos (by omega), at_eq l nx i hl h1, Option.bind_some, if_pos (by omega), w64 (by omega) (by omega)]
    have e : i + ((n + 1 : Nat) : Int) = (i + 1) + (n : Int) := by omega
    rw [e, ih k (i + 1) _ (by omega) (by omega) (by rw [List.length_append]; simp; omega) (by omega), draws]
    simp
theorem peek_eq (l : List Int) (nx : Int) (n k : Nat) (hl : ∀ x ∈ l, (Lit.int .u32 x).wf = true) (h1 : 0 ≤ nx) (h2 : nx ≤ 1000000000) (h3 : n ≤ 1000000) (h4 : n < k) : draw_Peek.f k l nx (n : Int) = some (draws l nx n) := by
  unfold draw_Peek.f
  rw [w64 (by omega) (by omega), peek_l0 l nx hl n k nx [] h1 (by omega) (by simpa using h3) h4, List.nil_append]
theorem take_eq (l : List Int) (nx : Int) (hl : ∀ x ∈ l, (Lit.int .u32 x).wf = true) (h1 : 0 ≤ nx) (h2 : nx ≤ 1000000000) : draw_Take.f l nx = some (l, nx + 1, atOf l nx) := by
  unfold draw_Take.f
  rw [at_eq l nx nx hl h1, Option.bind_some, w64 (by omega) (by omega)]
theorem drawn_eq (l : List Int) (n k : Nat) (hl : ∀ x ∈ l, (Lit.int .u32 x).wf = true) (h3 : n ≤ 1000000) (h4 : n < k) : draw_Drawn.f k l (n : Int) = some (draws l 0 n) := by
  unfold draw_Drawn.f
  rw [peek_eq l 0 n k hl (by omega) (by omega) h3 h4, Option.bind_some]
theorem awake60 (k : Nat) (h : 60 ≤ k) : chamberlainlaw04_awake.f k = some true := at_rounds (chamberlainlaw04_awake.mono) h chamberlainlaw04_awake.at60
/-- No word of the list stands ahead of the same one. -/
def lone (l : List Int) (i : Nat) : Prop := ∀ b, i ≤ b → b < l.length → ∀ t, t < b → rd l (t : Int) ≠ rd l (b : Int)
theorem lone_zero (l : List Int) : lone l 0 ↔ l.Nodup := by
  unfold lone List.Nodup
  rw [List.pairwise_iff_getElem]
  constructor
  · intro h i j hi hj hij
    have q := h j (by omega) hj i hij
    rw [rd_nat l i hi, rd_nat l j hj] at q
    exact q
  · intro h b _ hb t ht
    rw [rd_nat l t (by omega), rd_nat l b hb]
    exact h t b (by omega) hb ht
theorem unl_in (l : List Int) (i : Nat) (hi : i < l.length) (hm : l.length ≤ 1000000) (hn : ∃ K r, draw_Unlike.l0 K l ((i + 1 : Nat) : Int) = some r ∧ (r = true ↔ lone l (i + 1))) :
    ∀ (d j : Nat), i - j = d → j ≤ i → ∃ K r, draw_Unlike.l1 K l (i : Int) (j : Int) = some r ∧ (r = true ↔ (∀ t, j ≤ t → t < i → rd l (t : Int) ≠ rd l (i : Int)) ∧ lone l (i + 1)) := by
  intro d
  induction d with
  | zero =>
    intro j e1 e2
    obtain ⟨K, r, h, q⟩ := hn
    refine ⟨K + 1, r, ?_, ?_⟩
    · rw [draw_Unlike.l1, if_neg (by omega), w64 (by omega) (by omega)]
      have e : (i : Int) + 1 = ((i + 1 : Nat) : Int) := by omega
      rw [e]; exact h
    · rw [q]
      exact ⟨fun z => ⟨fun t a b => by omega, z⟩, fun z => z.2⟩
  | succ d ih =>
    intro j e1 e2
    by_cases c : rd l (j : Int) = rd l (i : Int)
    · refine ⟨0 + 1, false, ?_, ?_⟩
      · rw [draw_Unlike.l1, if_pos (by omega), if_pos (by omega), if_pos (by omega), if_pos (by omega), if_pos (by omega), if_pos c]
      · exact ⟨fun z => (by cases z), fun z => absurd c (z.1 j (Nat.le_refl _) (by omega))⟩
    · obtain ⟨K, r, h, q⟩ := ih (j + 1) (by omega) (by omega)
      refine ⟨K + 1, r, ?_, ?_⟩
      · have e : (j : Int) + 1 = ((j + 1 : Nat) : Int) := by omega
        rw [draw_Unlike.l1, if_pos (by omega), if_pos (by omega), if_pos (by omega), if_pos (by omega), if_pos (by omega), if_neg c, w64 (by omega) (by omega), e]
        exact h
      · rw [q]
        refine ⟨fun z => ⟨fun t a b => ?_, z.2⟩, fun z => ⟨fun t a b => z.1 t (by omega) b, z.2⟩⟩
        rcases Nat.lt_or_ge j t with y | y
        · exact z.1 t y b
        · have : t = j := by omega
          subst this
          exact c
theorem unl_l0 (l : List Int) (hm : l.length ≤ 1000000) (hw : ∀ x ∈ l, (Lit.int .u32 x).wf = true) : ∀ (d i : Nat), l.length - i = d → i ≤ l.length → ∃ K r, draw_Unlike.l0 K l (i : Int) = some r ∧ (r = true ↔ lone l i) := by
  intro d
  induction d with
  | zero =>
    intro i e1 e2
    refine ⟨0 + 1, true, ?_, ?_⟩
    · rw [draw_Unlike.l0, if_neg (by omega)]
    · exact ⟨fun _ b h1 h2 => by omega, fun _ => rfl⟩
  | succ d ih =>
    intro i e1 e2
    obtain ⟨K, r, h, q⟩ := unl_in l i (by omega) hm (ih (i + 1) (by omega) (by omega)) i 0 (by omega) (by omega)
    refine ⟨K + 1, r, ?_, ?_⟩
    · have z := wf32 (hw (l[i]'(by omega)) (List.getElem_mem _))
      rw [draw_Unlike.l0, if_pos (by omega), if_pos (by omega), if_pos (by rw [rd_nat l i (by omega), w64 (by omega) (by omega)]; omega)]
      exact h
    · rw [q]
      refine ⟨fun z b h1 h2 t h3 => ?_, fun z => ⟨fun t _ h2 => z i (Nat.le_refl _) (by omega) t h2, fun b h1 h2 t h3 => z b (by omega) h2 t h3⟩⟩
      rcases Nat.lt_or_ge i b with y | y
      · exact z.2 b y h2 t h3
      · have : b = i := by omega
        subst this
        exact z.1 t (Nat.zero_le _) h3
theorem unl_eq (l : List Int) (hm : l.length ≤ 1000000) (hw : ∀ x ∈ l, (Lit.int .u32 x).wf = true) : ∃ K, ∀ k, K ≤ k → draw_Unlike.f k l = some (decide l.Nodup) := by
  obtain ⟨K, r, h, q⟩ := unl_l0 l hm hw l.length 0 (by omega) (by omega)
  have e : draw_Unlike.f K l = some (decide l.Nodup) := by
    unfold draw_Unlike.f
    rw [if_neg (by omega)]
    simp only [Int.natCast_zero] at h
    rw [h]
    congr 1
    rw [lone_zero] at q
    cases r with
    | true => exact (decide_eq_true (q.1 rfl)).symm
    | false => exact (decide_eq_false (fun z => by have := q.2 z; cases this)).symm
  exact ⟨K, fun k hk => at_rounds (draw_Unlike.mono l) hk e⟩
theorem runl_l0 (l : List Int) (hm : l.length ≤ 1000000) : ∀ (d k i : Nat), l.length - i = d → i ≤ l.length → l.length + d + 2 < k → ∃ r, chamberlainref04_Unlike.l0 k l (i : Int) = some r ∧ (r = true ↔ lone l i) := by
  intro d
  induction d with
  | zero =>
    intro k i e1 e2 e3
    obtain ⟨k, rfl⟩ : ∃ m, k = m + 1 := ⟨k - 1, by omega⟩
    refine ⟨true, ?_, ?_⟩
    · rw [chamberlainref04_Unlike.l0, if_neg (by omega)]
    · exact ⟨fun _ b h1 h2 => by omega, fun _ => rfl⟩
  | succ d ih =>
    intro k i e1 e2 e3
    obtain ⟨k, rfl⟩ : ∃ m, k = m + 1 := ⟨k - 1, by omega⟩
    obtain ⟨r, h, q⟩ := ih k (i + 1) (by omega) (by omega) (by omega)
    have ei : (i : Int) + 1 = ((i + 1 : Nat) : Int) := by omega
    have has : rd l (i : Int) ∈ l.take i ↔ ∃ t, t < i ∧ rd l (t : Int) = rd l (i : Int) := by
      rw [List.mem_iff_getElem]
      constructor
      · rintro ⟨t, ht, e⟩
        rw [List.length_take] at ht
        refine ⟨t, by omega, ?_⟩
        rw [← e, List.getElem_take, rd_nat l t (by omega)]
      · rintro ⟨t, ht, e⟩
        refine ⟨t, by rw [List.length_take]; omega, ?_⟩
        rw [← e, List.getElem_take, rd_nat l t (by omega)]
    by_cases c : rd l (i : Int) ∈ l.take i
    · refine ⟨false, ?_, ?_⟩
      · rw [chamberlainref04_Unlike.l0, if_pos (by omega), if_pos (by omega), if_pos (by omega), Int.toNat_natCast, rhas_eq _ _ k (by rw [List.length_take]; omega) (by rw [List.length_take]; omega), decide_eq_true c, Option.bind_some, if_pos rfl]
      · refine ⟨fun z => (by cases z), fun z => ?_⟩
        obtain ⟨t, ht, e⟩ := has.1 c
        exact absurd e (z i (Nat.le_refl _) (by omega) t ht)
    · refine ⟨r, ?_, ?_⟩
      · rw [chamberlainref04_Unlike.l0, if_pos (by omega), if_pos (by omega), if_pos (by omega), Int.toNat_natCast, rhas_eq _ _ k (by rw [List.length_take]; omega) (by rw [List.length_take]; omega), decide_eq_false c, Option.bind_some, if_neg (by decide), w64 (by omega) (by omega), ei]
        exact h
      · rw [q]
        refine ⟨fun z b h1 h2 t h3 => ?_, fun z b h1 h2 t h3 => z b (by omega) h2 t h3⟩
        rcases Nat.lt_or_ge i b with y | y
        · exact z b y h2 t h3
        · have : b = i := by omega
          subst this
          exact fun e => c (has.2 ⟨t, h3, e⟩)
theorem runl_eq (l : List Int) (k : Nat) (hm : l.length ≤ 1000000) (hk : l.length + l.length + 2 < k) : chamberlainref04_Unlike.f k l = some (decide l.Nodup) := by
  obtain ⟨r, h, q⟩ := runl_l0 l hm l.length k 0 (by omega) (by omega) hk
  unfold chamberlainref04_Unlike.f
  simp only [Int.natCast_zero] at h
  rw [h]
  congr 1
  rw [lone_zero] at q
  cases r with
  | true => exact (decide_eq_true (q.1 rfl)).symm
  | false => exact (decide_eq_false (fun z => by have := q.2 z; cases this)).symm
theorem unlikes_l0 (l : List Int) (k : Nat) (hL : l.length ≤ 200) (hk : 1000 < k) (h1 : draw_Unlike.f k l = some (decide l.Nodup)) (h2 : draw_Unlike.f k l.reverse = some (decide l.reverse.Nodup)) (h3 : draw_Unlike.f k (3 :: l ++ [3]) = some (decide (3 :: l ++ [3]).Nodup)) :
    ∀ i : Nat, i ≤ l.length → chamberlainlaw04_DrawUnlikes.l0 (k + i + 1) l ((l.drop i).reverse) ((i : Int) - 1) = some true := by
  intro i
  induction i with
  | zero =>
    intro _
    have e3 : decide (3 :: l ++ [3] : List Int).Nodup = false := decide_eq_false (fun z => by simp at z)
    have e2 : decide l.reverse.Nodup = decide l.Nodup := decide_eq_decide.mpr (by unfold List.Nodup; rw [List.pairwise_reverse]; exact ⟨fun h => h.imp (fun h e => h e.symm), fun h => h.imp (fun h e => h e.symm)⟩)
    rw [chamberlainlaw04_DrawUnlikes.l0, if_neg (by omega), List.drop_zero, h1, Option.bind_some, runl_eq l k (by omega) (by omega), Option.bind_some, if_pos (by simp), h2, Option.bind_some, Option.bind_some, if_pos (by rw [e2]; simp), Option.bind_some, if_pos (by simp; omega), Option.bind_some, if_pos (by simp; omega)]
    have e4 : ([3] ++ l : List Int) ++ [3] = 3 :: l ++ [3] := by simp
    rw [e4, h3, e3, Option.bind_some]
    rfl
  | succ i ih =>
    intro h
    have ei : ((i + 1 : Nat) : Int) - 1 = (i : Int) := by omega
    have ed : (l.drop i).reverse = (l.drop (i + 1)).reverse ++ [rd l (i : Int)] := by
      rw [rd_nat l i (by omega), List.drop_eq_getElem_cons (by omega), List.reverse_cons]
    rw [ei, chamberlainlaw04_DrawUnlikes.l0, if_pos (by omega), if_pos (by omega), if_pos (by omega), if_pos (by rw [List.length_reverse, List.length_drop]; omega), w64 (by omega) (by omega), ← ed]
    exact ih (by omega)
theorem DrawUnlikes : chamberlainlaw04_DrawUnlikes.Pure := by
  intro l _ _ hw
  by_cases c : (l.length : Int) > 200
  · obtain ⟨k, hk⟩ : ∃ k, k = 20000 := ⟨_, rfl⟩
    refine ⟨k + 1, ?_⟩
    unfold chamberlainlaw04_DrawUnlikes.f
    rw [awake60 _ (by omega), Option.bind_some, if_pos rfl, decide_eq_true c, chamberlainlaw04_DrawUnlikes.j0, if_pos rfl, awake60 _ (by omega), Option.bind_some]
  · obtain ⟨K1, u1⟩ := unl_eq l (by omega) hw
    obtain ⟨K2, u2⟩ := unl_eq l.reverse (by rw [List.length_reverse]; omega) (fun x hx => hw x (List.mem_reverse.1 hx))
    obtain ⟨K3, u3⟩ := unl_eq (3 :: l ++ [3]) (by simp; omega) (fun x hx => by
      simp only [List.cons_append, List.mem_cons, List.mem_append, List.not_mem_nil, or_false] at hx
      rcases hx with rfl | hx | rfl
      · decide
      · exact hw x hx
      · decide)
    obtain ⟨k, hk⟩ : ∃ k, k = K1 + K2 + K3 + 20000 := ⟨_, rfl⟩
    refine ⟨k + l.length + 1 + 1, ?_⟩
    unfold chamberlainlaw04_DrawUnlikes.f
    rw [awake60 _ (by omega), Option.bind_some, if_pos rfl, decide_eq_false c, chamberlainlaw04_DrawUnlikes.j0, if_neg (by decide), w64 (by omega) (by omega)]
    have h := unlikes_l0 l k (by omega) (by omega) (u1 k (by omega)) (u2 k (by omega)) (u3 k (by omega)) l.length (Nat.le_refl _)
    rw [List.drop_length, List.reverse_nil] at h
    exact h

end Go.Proofs.Ytinfkgbbfmeiaaa.Pure
