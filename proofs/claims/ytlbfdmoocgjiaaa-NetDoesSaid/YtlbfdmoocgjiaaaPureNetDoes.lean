/- Whether a net is right, and what is sent, taken and doubled, are the document's, for every net, frame and place; no condition. -/
import Derived.Test.YtlbfdmoocgjiaaaQNetDoes
namespace Go.Proofs.Ytlbfdmoocgjiaaa.Pure
open Go Go.RowKit Go.Proofs.Ytlbfdmoocgjiaaa.PNetDoes Go.Proofs.YtlbfdmoocgjiaaaW.PrintWords Go.Proofs.YtlbfdmoocgjiaaaW.PrintLast Go.Proofs.YtlbfdmoocgjiaaaW.PrintMore
set_option linter.unusedSimpArgs false
set_option linter.unusedVariables false

theorem wf32 {x : Int} (h : (Lit.int .u32 x).wf = true) : 0 ≤ x ∧ x < 4294967296 := by
  simp only [Lit.wf, IntKind.min, IntKind.max, IntKind.signed, IntKind.bits, Bool.and_eq_true] at h
  simp at h
  omega
theorem wf8 {x : Int} (h : (Lit.int .u8 x).wf = true) : 0 ≤ x ∧ x < 256 := by
  simp only [Lit.wf, IntKind.min, IntKind.max, IntKind.signed, IntKind.bits, Bool.and_eq_true] at h
  simp at h
  omega
theorem wf16 {x : Int} (h : (Lit.int .u16 x).wf = true) : 0 ≤ x ∧ x < 65536 := by
  simp only [Lit.wf, IntKind.min, IntKind.max, IntKind.signed, IntKind.bits, Bool.and_eq_true] at h
  simp at h
  omega
theorem wf64 {x : Int} (h : (Lit.int .i64 x).wf = true) : -9223372036854775808 ≤ x ∧ x ≤ 9223372036854775807 := by
  simp only [Lit.wf, IntKind.min, IntKind.max, IntKind.signed, IntKind.bits, Bool.and_eq_true] at h
  simp at h
  omega
theorem w64 {x : Int} (h1 : -9223372036854775808 ≤ x) (h2 : x ≤ 9223372036854775807) : wrap64 x = x := by
  unfold wrap64
  omega
theorem rd_nat (xs : List Int) (i : Nat) (h : i < xs.length) : rd xs (i : Int) = xs[i] := by
  unfold rd
  simp [List.getD_eq_getElem?_getD, h]
/-- From place i on, n places: does p hold of all? -/
def allF (p : Nat → Bool) : Nat → Nat → Bool
  | 0, _ => true
  | n + 1, i => p i && allF p n (i + 1)
theorem allF_iff (p : Nat → Bool) (n i : Nat) : allF p n i = true ↔ ∀ j, i ≤ j → j < i + n → p j = true := by
  induction n generalizing i with
  | zero => simp [allF]; intro j h1 h2; omega
  | succ n ih =>
    simp only [allF, Bool.and_eq_true, ih]
    constructor
    · rintro ⟨h0, h⟩ j h1 h2
      by_cases e : j = i
      · subst e; exact h0
      · exact h j (by omega) (by omega)
    · intro h
      exact ⟨h i (by omega) (by omega), fun j h1 h2 => h j (by omega) (by omega)⟩
/-- The first place from i on, of n, of which p holds. -/
def fnd (p : Nat → Bool) : Nat → Nat → Option Nat
  | 0, _ => none
  | n + 1, i => if p i = true then some i else fnd p n (i + 1)
theorem fnd_some {p : Nat → Bool} {n i j : Nat} (h : fnd p n i = some j) : i ≤ j ∧ j < i + n ∧ p j = true ∧ ∀ m, i ≤ m → m < j → p m = false := by
  induction n generalizing i with
  | zero => simp [fnd] at h
  | succ n ih =>
    simp only [fnd] at h
    by_cases e : p i = true
    · rw [if_pos e] at h
      cases h
      exact ⟨Nat.le_refl _, by omega, e, fun m h1 h2 => by omega⟩
    · rw [if_neg e] at h
      obtain ⟨h1, h2, h3, h4⟩ := ih h
      refine ⟨by omega, by omega, h3, fun m m1 m2 => ?_⟩
      by_cases c : m = i
      · subst c; simpa using e
      · exact h4 m (by omega) m2
theorem fnd_none {p : Nat → Bool} {n i : Nat} (h : fnd p n i = none) : ∀ m, i ≤ m → m < i + n → p m = false := by
  induction n generalizing i with
  | zero => intro m h1 h2; omega
  | succ n ih =>
    simp only [fnd] at h
    by_cases e : p i = true
    · rw [if_pos e] at h; cases h
    · rw [if_neg e] at h
      intro m h1 h2
      by_cases c : m = i
      · subst c; simpa using e
      · exact ih h m (by omega) (by omega)
theorem fnd_eq_some {p : Nat → Bool} {n i j : Nat} (h1 : i ≤ j) (h2 : j < i + n) (h3 : p j = true) (h4 : ∀ m, i ≤ m → m < j → p m = false) : fnd p n i = some j := by
  cases h : fnd p n i with
  | none => have := fnd_none h j h1 h2; rw [this] at h3; cases h3
  | some q =>
    obtain ⟨a, b, c, d⟩ := fnd_some h
    congr 1
    rcases Nat.lt_trichotomy q j with e | e | e
    · have := h4 q a e; rw [this] at c; cases c
    · exact e
    · have := d j h1 e; rw [this] at h3; cases h3
theorem fnd_eq_none {p : Nat → Bool} {n i : Nat} (h : ∀ m, i ≤ m → m < i + n → p m = false) : fnd p n i = none := by
  cases e : fnd p n i with
  | none => rfl
  | some q =>
    obtain ⟨a, b, c, _⟩ := fnd_some e
    rw [h q a b] at c; cases c
theorem rows_eq (a b : List Int) (h : a.length = b.length) : allF (fun i => decide (rd a (i : Int) = rd b (i : Int))) a.length 0 = decide (a = b) := by
  rw [Bool.eq_iff_iff, allF_iff]
  simp only [decide_eq_true_eq]
  constructor
  · intro H
    apply List.ext_getElem h
    intro i h1 h2
    have := H i (by omega) (by omega)
    rw [rd_nat a i h1, rd_nat b i h2] at this
    exact this
  · intro e j _ _
    rw [e]
/-- A loop that asks place by place. -/
theorem all_loop (f : Nat → Nat → Option Bool) (n : Nat) (p : Nat → Bool) (h : ∀ k i, i ≤ n → f (k + 1) i = if i < n then (if p i = true then f k (i + 1) else some false) else some true) :
    ∀ (d k i : Nat), n - i = d → i ≤ n → d < k → f k i = some (allF p d i) := by
  intro d
  induction d with
  | zero =>
    intro k i h1 h2 h3
    obtain ⟨k, rfl⟩ : ∃ m, k = m + 1 := ⟨k - 1, by omega⟩
    rw [h k i h2, if_neg (by omega)]; rfl
  | succ d ih =>
    intro k i h1 h2 h3
    obtain ⟨k, rfl⟩ : ∃ m, k = m + 1 := ⟨k - 1, by omega⟩
    rw [h k i h2, if_pos (by omega)]
    simp only [allF]
    cases e : p i with
    | true => rw [if_pos rfl, ih k (i + 1) (by omega) (by omega) (by omega)]; simp
    | false => simp
/-- A loop that looks for the first place. -/
theorem fnd_loop {α : Type} (f : Nat → Nat → Option α) (n : Nat) (p : Nat → Bool) (yes : Nat → α) (no : α) (c : Nat) (h : ∀ k i, i ≤ n → c ≤ k → f (k + 1) i = if i < n then (if p i = true then some (yes i) else f k (i + 1)) else some no) :
    ∀ (d k i : Nat), n - i = d → i ≤ n → c + d < k → f k i = some (match fnd p d i with | some j => yes j | none => no) := by
  intro d
  induction d with
  | zero =>
    intro k i h1 h2 h3
    obtain ⟨k, rfl⟩ : ∃ m, k = m + 1 := ⟨k - 1, by omega⟩
    rw [h k i h2 (by omega), if_neg (by omega)]; rfl
  | succ d ih =>
    intro k i h1 h2 h3
    obtain ⟨k, rfl⟩ : ∃ m, k = m + 1 := ⟨k - 1, by omega⟩
    rw [h k i h2 (by omega), if_pos (by omega)]
    simp only [fnd]
    cases e : p i with
    | true => simp
    | false => rw [if_neg (by simp), if_neg (by simp), ih k (i + 1) (by omega) (by omega) (by omega)]
theorem rsame_eq (a b : List Int) (k : Nat) (hb : a.length ≤ 4611686018427387904) (hk : a.length < k) : chamberlainref01_Same.f k a b = some (decide (a = b)) := by
  unfold chamberlainref01_Same.f
  by_cases hl : a.length = b.length
  · rw [if_pos (by omega)]
    have h := all_loop (fun k i => chamberlainref01_Same.l0 k a b (i : Int)) a.length (fun i => decide (rd a (i : Int) = rd b (i : Int))) (by
      intro k i hi
      simp only [chamberlainref01_Same.l0]
      by_cases c : i < a.length
      · rw [if_pos (by omega), if_pos (by omega), if_pos (by omega), if_pos c, w64 (by omega) (by omega)]
        simp
      · rw [if_neg (by omega), if_neg c]) a.length k 0 (by omega) (by omega) (by omega)
    simp only [Int.natCast_zero] at h
    rw [h, rows_eq a b hl]
  · rw [if_neg (by omega)]
    congr 1
    symm
    apply decide_eq_false
    intro e
    exact hl (by rw [e])
theorem rdS (l : List S29) (i : Nat) (h : i < l.length) : rd_T29 l (i : Int) = l[i] := by
  unfold rd_T29
  simp [List.getD_eq_getElem?_getD, h]
theorem rdL (l : List (List Int)) (i : Nat) (h : i < l.length) : rd_L1 l (i : Int) = l[i] := by
  unfold rd_L1
  simp [List.getD_eq_getElem?_getD, h]
theorem awake60 (k : Nat) (hk : 60 ≤ k) : chamberlainlaw06_awake.f k = some true := at_rounds chamberlainlaw06_awake.mono hk chamberlainlaw06_awake.at60
/-- The rows of a small net. -/
structure Few (l : List S29) (s : List (List Int)) : Prop where
  lg : l.length ≤ 64
  ls : s.length ≤ 300
  wg : ∀ x ∈ l, x.f1.length ≤ 100
  ws : ∀ x ∈ s, x.length ≤ 100
theorem few_seen (a : Int) (l : List S29) (s : List (List Int)) (hl : s.length ≤ 9223372036854775807) : ∀ (d k i : Nat), 400 - i = d → i ≤ 400 → 2 * d + 2 ≤ k → ∃ b, chamberlainref06_Few.l1 k (i : Int) a l s = some b ∧ (b = true → l.length ≤ 64 ∧ s.length ≤ 300 ∧ ∀ j (hj : j < s.length), i ≤ j → j < 400 → s[j].length ≤ 100) := by
  intro d
  have e : (if (l.length : Int) ≤ 64 then (some (decide ((s.length : Int) ≤ 300))) else (some false)) = some (decide (l.length ≤ 64) && decide (s.length ≤ 300)) := by
    by_cases c : l.length ≤ 64
    · rw [if_pos (by omega), decide_eq_true c, Bool.true_and]; congr 1; rw [Bool.eq_iff_iff]; simp; omega
    · rw [if_neg (by omega), decide_eq_false c, Bool.false_and]
  have f : (decide (l.length ≤ 64) && decide (s.length ≤ 300)) = true → l.length ≤ 64 ∧ s.length ≤ 300 := by simp
  induction d with
  | zero =>
    intro k i h1 h2 h3
    obtain ⟨k, rfl⟩ : ∃ m, k = m + 2 := ⟨k - 2, by omega⟩
    refine ⟨_, ?_, fun h => ⟨(f h).1, (f h).2, fun j hj h1 h2 => by omega⟩⟩
    rw [chamberlainref06_Few.l1]
    by_cases c : (i : Int) < (s.length : Int)
    · rw [if_pos c, show decide ((i : Int) < 400) = false from decide_eq_false (by omega), chamberlainref06_Few.j3, if_neg (by decide), e]
    · rw [if_neg c, chamberlainref06_Few.j3, if_neg (by decide), e]
  | succ d ih =>
    intro k i h1 h2 h3
    obtain ⟨k, rfl⟩ : ∃ m, k = m + 2 := ⟨k - 2, by omega⟩
    rw [chamberlainref06_Few.l1]
    by_cases c : i < s.length
    · rw [if_pos (by omega), show decide ((i : Int) < 400) = true from decide_eq_true (by omega), chamberlainref06_Few.j3, if_pos rfl, if_pos (by omega), if_pos (by omega), rdL s i c]
      by_cases g : (s[i].length : Int) > 100
      · rw [if_pos g]
        exact ⟨false, rfl, fun h => by cases h⟩
      · rw [if_neg g, w64 (by omega) (by omega), show (i : Int) + 1 = ((i + 1 : Nat) : Int) by omega]
        obtain ⟨b, hb, hs⟩ := ih k (i + 1) (by omega) (by omega) (by omega)
        refine ⟨b, hb, fun h => ⟨(hs h).1, (hs h).2.1, fun j hj h1 h2 => ?_⟩⟩
        rcases Nat.lt_or_ge i j with q | q
        · exact (hs h).2.2 j hj q h2
        · obtain rfl : j = i := by omega
          omega
    · rw [if_neg (by omega), chamberlainref06_Few.j3, if_neg (by decide), e]
      exact ⟨_, rfl, fun h => ⟨(f h).1, (f h).2, fun j hj h1 h2 => by omega⟩⟩
theorem few_grams (a : Int) (l : List S29) (s : List (List Int)) (hl : l.length ≤ 9223372036854775807) (hs : s.length ≤ 9223372036854775807) : ∀ (d k i : Nat), 100 - i = d → i ≤ 100 → 2 * d + 1000 ≤ k → ∃ b, chamberlainref06_Few.l0 k (i : Int) a l s = some b ∧ (b = true → l.length ≤ 64 ∧ s.length ≤ 300 ∧ (∀ j (hj : j < s.length), j < 400 → s[j].length ≤ 100) ∧ ∀ j (hj : j < l.length), i ≤ j → j < 100 → l[j].f1.length ≤ 100) := by
  intro d
  induction d with
  | zero =>
    intro k i h1 h2 h3
    obtain ⟨k, rfl⟩ : ∃ m, k = m + 2 := ⟨k - 2, by omega⟩
    obtain ⟨b, hb, hq⟩ := few_seen a l s hs 400 k 0 rfl (by omega) (by omega)
    simp only [Int.natCast_zero] at hb
    refine ⟨b, ?_, fun h => ⟨(hq h).1, (hq h).2.1, fun j hj h2 => (hq h).2.2 j hj (Nat.zero_le _) h2, fun j hj h1 h2 => by omega⟩⟩
    rw [chamberlainref06_Few.l0]
    by_cases c : (i : Int) < (l.length : Int)
    · rw [if_pos c, show decide ((i : Int) < 100) = false from decide_eq_false (by omega), chamberlainref06_Few.j1, if_neg (by decide), hb]
    · rw [if_neg c, chamberlainref06_Few.j1, if_neg (by decide), hb]
  | succ d ih =>
    intro k i h1 h2 h3
    obtain ⟨k, rfl⟩ : ∃ m, k = m + 2 := ⟨k - 2, by omega⟩
    rw [chamberlainref06_Few.l0]
    by_cases c : i < l.length
    · rw [if_pos (by omega), show decide ((i : Int) < 100) = true from decide_eq_true (by omega), chamberlainref06_Few.j1, if_pos rfl, if_pos (by omega), if_pos (by omega), rdS l i c]
      by_cases g : (l[i].f1.length : Int) > 100
      · rw [if_pos g]
        exact ⟨false, rfl, fun h => by cases h⟩
      · rw [if_neg g, w64 (by omega) (by omega), show (i : Int) + 1 = ((i + 1 : Nat) : Int) by omega]
        obtain ⟨b, hb, hq⟩ := ih k (i + 1) (by omega) (by omega) (by omega)
        refine ⟨b, hb, fun h => ⟨(hq h).1, (hq h).2.1, (hq h).2.2.1, fun j hj h1 h2 => ?_⟩⟩
        rcases Nat.lt_or_ge i j with q | q
        · exact (hq h).2.2.2 j hj q h2
        · obtain rfl : j = i := by omega
          omega
    · obtain ⟨b, hb, hq⟩ := few_seen a l s hs 400 k 0 rfl (by omega) (by omega)
      simp only [Int.natCast_zero] at hb
      rw [if_neg (by omega), chamberlainref06_Few.j1, if_neg (by decide), hb]
      exact ⟨_, rfl, fun h => ⟨(hq h).1, (hq h).2.1, fun j hj h2 => (hq h).2.2 j hj (Nat.zero_le _) h2, fun j hj h1 h2 => by omega⟩⟩
theorem few_some (a : Int) (l : List S29) (s : List (List Int)) (k : Nat) (hl : l.length ≤ 9223372036854775807) (hs : s.length ≤ 9223372036854775807) (hk : 2000 ≤ k) : ∃ b, chamberlainref06_Few.f k a l s = some b ∧ (b = true → Few l s) := by
  unfold chamberlainref06_Few.f
  obtain ⟨b, hb, hq⟩ := few_grams a l s hl hs 100 k 0 rfl (by omega) (by omega)
  refine ⟨b, hb, fun h => ?_⟩
  obtain ⟨q1, q2, q3, q4⟩ := hq h
  refine ⟨q1, q2, fun x hx => ?_, fun x hx => ?_⟩
  · obtain ⟨j, hj, rfl⟩ := List.getElem_of_mem hx
    exact q4 j hj (Nat.zero_le _) (by omega)
  · obtain ⟨j, hj, rfl⟩ := List.getElem_of_mem hx
    exact q3 j hj (by omega)
theorem rows_self (s : List (List Int)) (k : Nat) (hl : s.length ≤ 4611686018427387904) (hw : ∀ x ∈ s, x.length ≤ 100) (hk : s.length + 200 < k) : chamberlainref01_Rows.f k s s = some true := by
  unfold chamberlainref01_Rows.f
  rw [if_pos rfl]
  have : ∀ (d k i : Nat), s.length - i = d → i ≤ s.length → d + 200 < k → chamberlainref01_Rows.l0 k s s (i : Int) = some true := by
    intro d
    induction d with
    | zero =>
      intro k i h1 h2 h3
      obtain ⟨k, rfl⟩ : ∃ m, k = m + 1 := ⟨k - 1, by omega⟩
      rw [chamberlainref01_Rows.l0, if_neg (by omega)]
    | succ d ih =>
      intro k i h1 h2 h3
      obtain ⟨k, rfl⟩ : ∃ m, k = m + 1 := ⟨k - 1, by omega⟩
      have hi : i < s.length := by omega
      have hx := hw _ (List.getElem_mem hi)
      rw [chamberlainref01_Rows.l0, if_pos (by omega), if_pos (by omega), if_pos (by omega), rdL s i hi, rsame_eq _ _ _ (by omega) (by omega), Option.bind_some, if_pos (by simp), w64 (by omega) (by omega), show (i : Int) + 1 = ((i + 1 : Nat) : Int) by omega, ih k (i + 1) (by omega) (by omega) (by omega)]
  have := this s.length k 0 (by omega) (by omega) hk
  simpa using this
theorem one_self (a : Int) (l : List Int) (k : Nat) (hl : l.length ≤ 100) (hk : 200 ≤ k) : chamberlainref06_One.f k a l a l = some true := by
  unfold chamberlainref06_One.f
  rw [if_pos rfl, rsame_eq _ _ _ (by omega) (by omega), Option.bind_some]; simp
theorem same_self (a : Int) (l : List S29) (s : List (List Int)) (k : Nat) (h1 : l.length ≤ 100) (h2 : s.length ≤ 400) (h3 : ∀ x ∈ l, x.f1.length ≤ 100) (h4 : ∀ x ∈ s, x.length ≤ 100) (hk : 2000 ≤ k) : chamberlainref06_Same.f k a l s a l s = some true := by
  unfold chamberlainref06_Same.f
  rw [if_pos rfl, if_pos rfl, rows_self s k (by omega) h4 (by omega), Option.bind_some]
  obtain ⟨k, rfl⟩ : ∃ m, k = m + 1 := ⟨k - 1, by omega⟩
  rw [chamberlainref06_Same.j0, if_neg (by simp)]
  have : ∀ (d k i : Nat), l.length - i = d → i ≤ l.length → d + 300 < k → chamberlainref06_Same.l0 k (i : Int) a l s a l s = some true := by
    intro d
    induction d with
    | zero =>
      intro k i h1 h2 h3
      obtain ⟨k, rfl⟩ : ∃ m, k = m + 1 := ⟨k - 1, by omega⟩
      rw [chamberlainref06_Same.l0, if_neg (by omega)]
    | succ d ih =>
      intro k i q1 q2 q3
      obtain ⟨k, rfl⟩ : ∃ m, k = m + 1 := ⟨k - 1, by omega⟩
      have hi : i < l.length := by omega
      have hx := h3 _ (List.getElem_mem hi)
      rw [chamberlainref06_Same.l0, if_pos (by omega), if_pos (by omega), if_pos (by omega), rdS l i hi, one_self _ _ _ hx (by omega), Option.bind_some, if_pos rfl, w64 (by omega) (by omega), show (i : Int) + 1 = ((i + 1 : Nat) : Int) by omega, ih k (i + 1) (by omega) (by omega) (by omega)]
  have := this l.length k 0 (by omega) (by omega) (by omega)
  simpa using this
/-- Is a net right? -/
def rightB (a : Int) (l : List S29) : Bool := decide (0 ≤ a) && decide (a ≤ 64) && decide ((l.length : Int) ≤ a)
theorem right_eq (a : Int) (l : List S29) (s : List (List Int)) : net_Right.f a l s = some (rightB a l) := by
  unfold net_Right.f rightB
  by_cases c : a ≥ 0
  · by_cases d : a ≤ 64
    · rw [if_pos c, if_pos d, decide_eq_true c, decide_eq_true d]; rfl
    · rw [if_pos c, if_neg d, decide_eq_false d]; simp
  · rw [if_neg c, decide_eq_false c]; rfl
theorem rright_eq (a : Int) (l : List S29) (s : List (List Int)) : chamberlainref06_Right.f a l s = some (rightB a l) := by
  unfold chamberlainref06_Right.f rightB
  by_cases c : a ≥ 0
  · by_cases d : a ≤ 64
    · rw [if_pos c, if_pos d, decide_eq_true c, decide_eq_true d]; rfl
    · rw [if_pos c, if_neg d, decide_eq_false d]; simp
  · rw [if_neg c, decide_eq_false c]; rfl
theorem rightB_iff (a : Int) (l : List S29) : rightB a l = true ↔ 0 ≤ a ∧ a ≤ 64 ∧ (l.length : Int) ≤ a := by
  unfold rightB
  simp [and_assoc]
/-- What is sent. -/
def sendM (a : Int) (l : List S29) (s : List (List Int)) (t : Int) (w : List Int) : Int × List S29 × List (List Int) × Int :=
  if (l.length : Int) < a then (a, l ++ [⟨t, w⟩], s ++ [w], 0) else (a, l, s, 10)
theorem send_eq (a : Int) (l : List S29) (s : List (List Int)) (t : Int) (w : List Int) (h0 : 0 ≤ a) (h1 : a ≤ 1000) (h2 : l.length ≤ 1000) (h3 : s.length ≤ 1000) : net_Send.f a l s t w = some (sendM a l s t w) := by
  unfold net_Send.f sendM
  rw [w64 (by omega) (by omega)]
  by_cases c : (l.length : Int) < a
  · rw [if_neg (by omega), if_pos (by omega), if_pos (by omega), if_pos c]
  · rw [if_pos (by omega), if_neg c]
theorem rsend_eq (a : Int) (l : List S29) (s : List (List Int)) (t : Int) (w : List Int) (h2 : l.length ≤ 1000) (h3 : s.length ≤ 1000) : chamberlainref06_Send.f a l s t w = some (sendM a l s t w) := by
  unfold chamberlainref06_Send.f sendM
  by_cases c : (l.length : Int) < a
  · rw [if_neg (by omega), if_pos c]
    simp only [Option.bind_some, List.nil_append, List.length_nil, List.length_cons]
    rw [if_pos (by omega), if_pos (by omega), if_pos (by omega), if_pos (by omega)]
  · rw [if_pos (by omega), if_neg c]
/-- What is taken. -/
def takeM (a : Int) (l : List S29) (s : List (List Int)) (i : Int) : Int × List S29 × List (List Int) × Int × List Int × Int :=
  if 0 ≤ i ∧ i < (l.length : Int) then (a, l.eraseIdx i.toNat, s, (rd_T29 l i).f0, (rd_T29 l i).f1, 0) else (a, l, s, 0, [], 1)
theorem take_eq (a : Int) (l : List S29) (s : List (List Int)) (i : Int) (h2 : l.length ≤ 1000) : net_Take.f a l s i = some (takeM a l s i) := by
  unfold net_Take.f takeM
  by_cases c : i < 0
  · rw [if_pos c, if_neg (by omega)]
  · by_cases d : i ≥ (l.length : Int)
    · rw [if_neg c, if_pos d, if_neg (by omega)]
    · rw [if_neg c, if_neg d, if_pos (by omega), if_pos (by omega)]
theorem rtake_loop (a : Int) (l : List S29) (s : List (List Int)) (i : Nat) (hi : i < l.length) (h2 : l.length ≤ 1000) : ∀ (d k j : Nat) (acc : List S29), l.length - j = d → j ≤ l.length → acc.length ≤ j → d < k → chamberlainref06_Take.l0 k (i : Int) acc (j : Int) a l s = some (a, acc ++ (if i < j then l.drop j else (l.drop j).eraseIdx (i - j)), s, (rd_T29 l i).f0, (rd_T29 l i).f1, 0) := by
  intro d
  induction d with
  | zero =>
    intro k j acc q1 q2 q3 q4
    obtain ⟨k, rfl⟩ : ∃ m, k = m + 1 := ⟨k - 1, by omega⟩
    rw [chamberlainref06_Take.l0, if_neg (by omega), if_pos (by omega), if_pos (by omega), if_pos (by omega), List.drop_eq_nil_of_le (by omega), List.append_nil]
  | succ d ih =>
    intro k j acc q1 q2 q3 q4
    obtain ⟨k, rfl⟩ : ∃ m, k = m + 1 := ⟨k - 1, by omega⟩
    have hj : j < l.length := by omega
    rw [chamberlainref06_Take.l0, if_pos (by omega)]
    by_cases c : j = i
    · subst c
      rw [if_pos rfl, w64 (by omega) (by omega), show (j : Int) + 1 = ((j + 1 : Nat) : Int) by omega, ih k (j + 1) acc (by omega) (by omega) (by omega) (by omega), if_pos (by omega), if_neg (by omega), Nat.sub_self, List.drop_eq_getElem_cons hj, List.eraseIdx_cons_zero]
    · rw [if_neg (by omega), if_pos (by omega), if_pos (by omega), w64 (by omega) (by omega), show (j : Int) + 1 = ((j + 1 : Nat) : Int) by omega, ih k (j + 1) _ (by omega) (by omega) (by simp; omega) (by omega), rdS l j hj, List.append_assoc]
      by_cases g : i < j
      · rw [if_pos (by omega), if_pos g, List.drop_eq_getElem_cons hj]; rfl
      · rw [if_neg (by omega), if_neg g, List.drop_eq_getElem_cons hj, show i - j = (i - (j + 1)) + 1 by omega, List.eraseIdx_cons_succ]; rfl
theorem rtake_eq (a : Int) (l : List S29) (s : List (List Int)) (i : Int) (k : Nat) (h2 : l.length ≤ 1000) (hk : l.length + 2 < k) : chamberlainref06_Take.f k a l s i = some (takeM a l s i) := by
  unfold chamberlainref06_Take.f takeM
  obtain ⟨k, rfl⟩ : ∃ m, k = m + 1 := ⟨k - 1, by omega⟩
  by_cases c : i < 0
  · rw [if_pos c, if_neg (by omega), chamberlainref06_Take.j0, if_pos rfl]
  · by_cases d : i ≥ (l.length : Int)
    · rw [if_neg c, if_neg (by omega), decide_eq_true d, chamberlainref06_Take.j0, if_pos rfl]
    · rw [if_neg c, if_pos (by omega), decide_eq_false d, chamberlainref06_Take.j0, if_neg (by simp)]
      obtain ⟨n, rfl⟩ : ∃ n : Nat, i = n := ⟨i.toNat, by omega⟩
      have := rtake_loop a l s n (by omega) h2 l.length k 0 [] (by omega) (by omega) (by simp) (by omega)
      simp only [Int.natCast_zero] at this
      rw [this, if_neg (by omega)]
      simp
/-- What is doubled. -/
def doubleM (a : Int) (l : List S29) (s : List (List Int)) (i : Int) : Int × List S29 × List (List Int) × Int :=
  if 0 ≤ i ∧ i < (l.length : Int) then (if (l.length : Int) < a then (a, l ++ [rd_T29 l i], s, 0) else (a, l, s, 10)) else (a, l, s, 1)
theorem double_eq (a : Int) (l : List S29) (s : List (List Int)) (i : Int) (h0 : 0 ≤ a) (h1 : a ≤ 1000) (h2 : l.length ≤ 1000) : net_Double.f a l s i = some (doubleM a l s i) := by
  unfold net_Double.f doubleM
  by_cases c : i < 0
  · rw [if_pos c, if_neg (by omega)]
  · by_cases d : i ≥ (l.length : Int)
    · rw [if_neg c, if_pos d, if_neg (by omega)]
    · rw [if_neg c, if_neg d, w64 (by omega) (by omega), if_pos (show 0 ≤ i ∧ i < (l.length : Int) by omega)]
      by_cases e : (l.length : Int) < a
      · rw [if_neg (by omega), if_pos (by omega), if_pos e]
      · rw [if_pos (by omega), if_neg e]
theorem rdouble_eq (a : Int) (l : List S29) (s : List (List Int)) (i : Int) (h2 : l.length ≤ 1000) : chamberlainref06_Double.f a l s i = some (doubleM a l s i) := by
  unfold chamberlainref06_Double.f doubleM
  by_cases c : i < 0
  · rw [if_pos c, if_neg (by omega)]
  · by_cases d : i ≥ (l.length : Int)
    · rw [if_neg c, if_pos d, if_neg (by omega)]
    · rw [if_neg c, if_neg d, if_pos (show 0 ≤ i ∧ i < (l.length : Int) by omega)]
      by_cases e : (l.length : Int) < a
      · rw [if_neg (by omega), if_pos (by omega), if_pos e]
      · rw [if_pos (by omega), if_neg e]
theorem send_fst (a : Int) (l : List S29) (s : List (List Int)) (t : Int) (w : List Int) : (sendM a l s t w).1 = a := by unfold sendM; split <;> rfl
theorem take_fst (a : Int) (l : List S29) (s : List (List Int)) (i : Int) : (takeM a l s i).1 = a := by unfold takeM; split <;> rfl
theorem double_fst (a : Int) (l : List S29) (s : List (List Int)) (i : Int) : (doubleM a l s i).1 = a := by unfold doubleM; split <;> (try split) <;> rfl
theorem mem_rd (l : List S29) (i : Int) (h : 0 ≤ i ∧ i < (l.length : Int)) : rd_T29 l i ∈ l := by
  obtain ⟨n, rfl⟩ : ∃ n : Nat, i = n := ⟨i.toNat, by omega⟩
  rw [rdS l n (by omega)]
  exact List.getElem_mem _
/-- The rows of a nearly small net. -/
structure Mid (l : List S29) (s : List (List Int)) : Prop where
  lg : l.length ≤ 100
  ls : s.length ≤ 400
  wg : ∀ x ∈ l, x.f1.length ≤ 100
  ws : ∀ x ∈ s, x.length ≤ 100
theorem Few.mid {l : List S29} {s : List (List Int)} (h : Few l s) : Mid l s := ⟨by have := h.lg; omega, by have := h.ls; omega, h.wg, h.ws⟩
theorem send_mid (a : Int) (l : List S29) (s : List (List Int)) (t : Int) (w : List Int) (h : Few l s) (hw : w.length ≤ 100) : Mid (sendM a l s t w).2.1 (sendM a l s t w).2.2.1 := by
  unfold sendM
  split
  · refine ⟨by have := h.lg; simp; omega, by have := h.ls; simp; omega, fun x hx => ?_, fun x hx => ?_⟩
    · rcases List.mem_append.1 hx with q | q
      · exact h.wg x q
      · rw [List.mem_singleton] at q; subst q; exact hw
    · rcases List.mem_append.1 hx with q | q
      · exact h.ws x q
      · rw [List.mem_singleton] at q; subst q; exact hw
  · exact h.mid
theorem take_mid (a : Int) (l : List S29) (s : List (List Int)) (i : Int) (h : Few l s) : Mid (takeM a l s i).2.1 (takeM a l s i).2.2.1 := by
  unfold takeM
  split
  · refine ⟨?_, h.mid.ls, fun x hx => h.wg x (List.mem_of_mem_eraseIdx hx), h.ws⟩
    have := h.lg
    have := List.length_eraseIdx_le l i.toNat
    show (l.eraseIdx i.toNat).length ≤ 100
    omega
  · exact h.mid
theorem take_word (a : Int) (l : List S29) (s : List (List Int)) (i : Int) (h : Few l s) : (takeM a l s i).2.2.2.2.1.length ≤ 100 := by
  unfold takeM
  split
  · rename_i c; exact h.wg _ (mem_rd l i c)
  · simp
theorem double_mid (a : Int) (l : List S29) (s : List (List Int)) (i : Int) (h : Few l s) : Mid (doubleM a l s i).2.1 (doubleM a l s i).2.2.1 := by
  unfold doubleM
  split
  · rename_i c
    split
    · refine ⟨by have := h.lg; simp; omega, h.mid.ls, fun x hx => ?_, h.ws⟩
      rcases List.mem_append.1 hx with q | q
      · exact h.wg x q
      · rw [List.mem_singleton] at q; subst q; exact h.wg _ (mem_rd l i c)
    · exact h.mid
  · exact h.mid
theorem NetDoes : chamberlainlaw06_NetDoes.Pure := by
  intro a l s t w i ha hl _ hs _ _ _ _ hi
  have ha := wf64 ha
  have hi := wf64 hi
  have hlx : l.length ≤ 9223372036854775807 := Nat.le_trans hl (by decide)
  have hsx : s.length ≤ 9223372036854775807 := Nat.le_trans hs (by decide)
  obtain ⟨k, hk⟩ : ∃ k, k = 20000 := ⟨_, rfl⟩
  refine ⟨k + 2, ?_⟩
  unfold chamberlainlaw06_NetDoes.f
  rw [awake60 _ (by omega), Option.bind_some, if_pos rfl]
  have jt : chamberlainlaw06_NetDoes.j0 (k + 2) i true a l s t w = some true := by
    rw [chamberlainlaw06_NetDoes.j0, if_pos rfl, awake60 _ (by omega)]; rfl
  obtain ⟨b, hb, hf⟩ := few_some a l s (k + 2) hlx hsx (by omega)
  rw [hb, Option.bind_some]
  cases b with
  | false => rw [if_neg (by decide), jt]
  | true =>
    have F := hf rfl
    have := F.lg
    have := F.ls
    rw [if_pos rfl]
    by_cases c1 : (w.length : Int) > 100
    · rw [decide_eq_true c1, jt]
    · rw [decide_eq_false c1, chamberlainlaw06_NetDoes.j0, if_neg (by decide), right_eq, Option.bind_some, rright_eq, Option.bind_some, if_neg (by simp), Option.bind_some, chamberlainlaw06_NetDoes.j1]
      cases e : rightB a l with
      | false => rw [if_pos (by decide), right_eq, Option.bind_some, rright_eq, Option.bind_some]; simp
      | true =>
        obtain ⟨g1, g2, g3⟩ := (rightB_iff a l).1 e
        have S := send_mid a l s t w F (by omega)
        have T := take_mid a l s i F
        have D := double_mid a l s i F
        rw [if_neg (by decide), send_eq a l s t w g1 (by omega) (by omega) (by omega), Option.bind_some, rsend_eq a l s t w (by omega) (by omega), Option.bind_some, take_eq a l s i (by omega), Option.bind_some, rtake_eq a l s i k (by omega) (by omega), Option.bind_some, double_eq a l s i g1 (by omega) (by omega), Option.bind_some, rdouble_eq a l s i (by omega), Option.bind_some, same_self _ _ _ _ S.lg S.ls S.wg S.ws (by omega), Option.bind_some, if_pos rfl, if_pos rfl, same_self _ _ _ _ T.lg T.ls T.wg T.ws (by omega), Option.bind_some, if_pos rfl, one_self _ _ _ (take_word a l s i F) (by omega), Option.bind_some, if_pos rfl, if_pos rfl, same_self _ _ _ _ D.lg D.ls D.wg D.ws (by omega), Option.bind_some, if_pos rfl, if_pos rfl]
        unfold net_Free.f
        simp

end Go.Proofs.Ytlbfdmoocgjiaaa.Pure
