/- Places that are found one behind the other rise and are all of that kind, and one that is changed is found no more, for every row and kind; no condition. -/
import Derived.Test.YtjhopebkflgcbaaQRunsOrder
namespace Go.Proofs.Ytjhopebkflgcbaa.Pure
open Go Go.RowKit Go.Proofs.Ytjhopebkflgcbaa.PRunsOrder Go.Proofs.YtjhopebkflgcbaaW.PrintWords Go.Proofs.YtjhopebkflgcbaaW.PrintLast Go.Proofs.YtjhopebkflgcbaaW.PrintMore

theorem wf32 {x : Int} (h : (Lit.int .u32 x).wf = true) : 0 ≤ x ∧ x < 4294967296 := by
  simp only [Lit.wf, IntKind.min, IntKind.max, IntKind.signed, IntKind.bits, Bool.and_eq_true] at h
  simp at h
  omega
theorem wf8 {x : Int} (h : (Lit.int .u8 x).wf = true) : 0 ≤ x ∧ x < 256 := by
  simp only [Lit.wf, IntKind.min, IntKind.max, IntKind.signed, IntKind.bits, Bool.and_eq_true] at h
  simp at h
  omega
theorem wf16 {x : Int} (h : (Lit.int .u16 x).wf = true) : 0 ≤ x ∧ x < 65536 := by
  simp only [Lit.wf, IntKind.min, IntKind.max, IntKind.signed, IntKind.bits, Bool.and_eq_true] at h
  simp at h
  omega
theorem wf64 {x : Int} (h : (Lit.int .i64 x).wf = true) : -9223372036854775808 ≤ x ∧ x ≤ 9223372036854775807 := by
  simp only [Lit.wf, IntKind.min, IntKind.max, IntKind.signed, IntKind.bits, Bool.and_eq_true] at h
  simp at h
  omega
theorem w64 {x : Int} (h1 : -9223372036854775808 ≤ x) (h2 : x ≤ 9223372036854775807) : wrap64 x = x := by
  unfold wrap64
  omega
theorem rd_nat (xs : List Int) (i : Nat) (h : i < xs.length) : rd xs (i : Int) = xs[i] := by
  unfold rd
  simp [List.getD_eq_getElem?_getD, h]
/-- From place i on, n places: does p hold of all? -/
def allF (p : Nat → Bool) : Nat → Nat → Bool
  | 0, _ => true
  | n + 1, i => p i && allF p n (i + 1)
theorem allF_iff (p : Nat → Bool) (n i : Nat) : allF p n i = true ↔ ∀ j, i ≤ j → j < i + n → p j = true := by
  induction n generalizing i with
  | zero => simp [allF]; intro j h1 h2; omega
  | succ n ih =>
    simp only [allF, Bool.and_eq_true, ih]
    constructor
    · rintro ⟨h0, h⟩ j h1 h2
      by_cases e : j = i
      · subst e; exact h0
      · exact h j (by omega) (by omega)
    · intro h
      exact ⟨h i (by omega) (by omega), fun j h1 h2 => h j (by omega) (by omega)⟩
/-- The first place from i on, of n, of which p holds. -/
def fnd (p : Nat → Bool) : Nat → Nat → Option Nat
  | 0, _ => none
  | n + 1, i => if p i = true then some i else fnd p n (i + 1)
theorem fnd_some {p : Nat → Bool} {n i j : Nat} (h : fnd p n i = some j) : i ≤ j ∧ j < i + n ∧ p j = true ∧ ∀ m, i ≤ m → m < j → p m = false := by
  induction n generalizing i with
  | zero => simp [fnd] at h
  | succ n ih =>
    simp only [fnd] at h
    by_cases e : p i = true
    · rw [if_pos e] at h
      cases h
      exact ⟨Nat.le_refl _, by omega, e, fun m h1 h2 => by omega⟩
    · rw [if_neg e] at h
      obtain ⟨h1, h2, h3, h4⟩ := ih h
      refine ⟨by omega, by omega, h3, fun m m1 m2 => ?_⟩
      by_cases c : m = i
      · subst c; simpa using e
      · exact h4 m (by omega) m2
theorem fnd_none {p : Nat → Bool} {n i : Nat} (h : fnd p n i = none) : ∀ m, i ≤ m → m < i + n → p m = false := by
  induction n generalizing i with
  | zero => intro m h1 h2; omega
  | succ n ih =>
    simp only [fnd] at h
    by_cases e : p i = true
    · rw [if_pos e] at h; cases h
    · rw [if_neg e] at h
      intro m h1 h2
      by_cases c : m = i
      · subst c; simpa using e
      · exact ih h m (by omega) (by omega)
theorem fnd_eq_some {p : Nat → Bool} {n i j : Nat} (h1 : i ≤ j) (h2 : j < i + n) (h3 : p j = true) (h4 : ∀ m, i ≤ m → m < j → p m = false) : fnd p n i = some j := by
  cases h : fnd p n i with
  | none => have := fnd_none h j h1 h2; rw [this] at h3; cases h3
  | some q =>
    obtain ⟨a, b, c, d⟩ := fnd_some h
    congr 1
    rcases Nat.lt_trichotomy q j with e | e | e
    · have := h4 q a e; rw [this] at c; cases c
    · exact e
    · have := d j h1 e; rw [this] at h3; cases h3
theorem fnd_eq_none {p : Nat → Bool} {n i : Nat} (h : ∀ m, i ≤ m → m < i + n → p m = false) : fnd p n i = none := by
  cases e : fnd p n i with
  | none => rfl
  | some q =>
    obtain ⟨a, b, c, _⟩ := fnd_some e
    rw [h q a b] at c; cases c
theorem rows_eq (a b : List Int) (h : a.length = b.length) : allF (fun i => decide (rd a (i : Int) = rd b (i : Int))) a.length 0 = decide (a = b) := by
  rw [Bool.eq_iff_iff, allF_iff]
  simp only [decide_eq_true_eq]
  constructor
  · intro H
    apply List.ext_getElem h
    intro i h1 h2
    have := H i (by omega) (by omega)
    rw [rd_nat a i h1, rd_nat b i h2] at this
    exact this
  · intro e j _ _
    rw [e]
/-- A loop that asks place by place. -/
theorem all_loop (f : Nat → Nat → Option Bool) (n : Nat) (p : Nat → Bool) (h : ∀ k i, i ≤ n → f (k + 1) i = if i < n then (if p i = true then f k (i + 1) else some false) else some true) :
    ∀ (d k i : Nat), n - i = d → i ≤ n → d < k → f k i = some (allF p d i) := by
  intro d
  induction d with
  | zero =>
    intro k i h1 h2 h3
    obtain ⟨k, rfl⟩ : ∃ m, k = m + 1 := ⟨k - 1, by omega⟩
    rw [h k i h2, if_neg (by omega)]; rfl
  | succ d ih =>
    intro k i h1 h2 h3
    obtain ⟨k, rfl⟩ : ∃ m, k = m + 1 := ⟨k - 1, by omega⟩
    rw [h k i h2, if_pos (by omega)]
    simp only [allF]
    cases e : p i with
    | true => rw [if_pos rfl, ih k (i + 1) (by omega) (by omega) (by omega)]; simp
    | false => simp
/-- A loop that looks for the first place. -/
theorem fnd_loop {α : Type} (f : Nat → Nat → Option α) (n : Nat) (p : Nat → Bool) (yes : Nat → α) (no : α) (c : Nat) (h : ∀ k i, i ≤ n → c ≤ k → f (k + 1) i = if i < n then (if p i = true then some (yes i) else f k (i + 1)) else some no) :
    ∀ (d k i : Nat), n - i = d → i ≤ n → c + d < k → f k i = some (match fnd p d i with | some j => yes j | none => no) := by
  intro d
  induction d with
  | zero =>
    intro k i h1 h2 h3
    obtain ⟨k, rfl⟩ : ∃ m, k = m + 1 := ⟨k - 1, by omega⟩
    rw [h k i h2 (by omega), if_neg (by omega)]; rfl
  | succ d ih =>
    intro k i h1 h2 h3
    obtain ⟨k, rfl⟩ : ∃ m, k = m + 1 := ⟨k - 1, by omega⟩
    rw [h k i h2 (by omega), if_pos (by omega)]
    simp only [fnd]
    cases e : p i with
    | true => simp
    | false => rw [if_neg (by simp), if_neg (by simp), ih k (i + 1) (by omega) (by omega) (by omega)]
theorem rdL_nat (xs : List (List S25)) (i : Nat) (h : i < xs.length) : rd_L3 xs (i : Int) = xs[i] := by
  unfold rd_L3
  simp [List.getD_eq_getElem?_getD, h]
theorem grow_eq (n : Nat) (h : n < 2932031007402) : api_Run_24.f [] (n : Int) = some [] := by
  unfold api_Run_24.f
  rw [if_neg (by omega), if_neg (by simp)]
  by_cases c : (n : Int) > 0
  · rw [if_pos c, if_pos (by omega), if_pos (by simp; omega)]
    simp
  · rw [if_neg c]
theorem concat_l1 (ll : List (List S25)) (hll : ll.length ≤ 1000000) : ∀ (d k i : Nat) (acc : List S25), ll.length - i = d → i ≤ ll.length → acc.length + ((ll.drop i).map List.length).sum < 2932031007402 → d < k →
    api_Run_21.l1 k acc ll (ll.length : Int) (i : Int) = some (acc ++ (ll.drop i).flatten) := by
  intro d
  induction d with
  | zero =>
    intro k i acc h1 h2 h3 h4
    obtain ⟨k, rfl⟩ : ∃ m, k = m + 1 := ⟨k - 1, by omega⟩
    rw [api_Run_21.l1, if_neg (by omega), List.drop_eq_nil_of_le (by omega)]
    simp
  | succ d ih =>
    intro k i acc h1 h2 h3 h4
    obtain ⟨k, rfl⟩ : ∃ m, k = m + 1 := ⟨k - 1, by omega⟩
    have hi : i < ll.length := by omega
    rw [List.drop_eq_getElem_cons hi] at h3 ⊢
    simp only [List.map_cons, List.sum_cons] at h3
    rw [api_Run_21.l1, if_pos (by omega), if_pos (by omega), if_pos (by omega), rdL_nat ll i hi, if_pos (by omega), w64 (by omega) (by omega)]
    have ei : (i : Int) + 1 = ((i + 1 : Nat) : Int) := by omega
    rw [ei, ih k (i + 1) _ (by omega) (by omega) (by rw [List.length_append]; omega) (by omega), List.flatten_cons, List.append_assoc]
theorem concat_l0 (ll : List (List S25)) (hll : ll.length ≤ 1000000) (hs : (ll.map List.length).sum < 2932031007402) : ∀ (d k i s : Nat), ll.length - i = d → i ≤ ll.length → s + ((ll.drop i).map List.length).sum = (ll.map List.length).sum → d + ll.length + 1 < k →
    api_Run_21.l0 k ll (s : Int) ll (ll.length : Int) (i : Int) = some ll.flatten := by
  intro d
  induction d with
  | zero =>
    intro k i s h1 h2 h3 h4
    obtain ⟨k, rfl⟩ : ∃ m, k = m + 1 := ⟨k - 1, by omega⟩
    rw [List.drop_eq_nil_of_le (by omega)] at h3
    simp only [List.map_nil, List.sum_nil, Nat.add_zero] at h3
    rw [api_Run_21.l0, if_neg (by omega), grow_eq s (by omega), Option.bind_some]
    have h := concat_l1 ll hll ll.length k 0 [] (by omega) (by omega) (by simpa using hs) (by omega)
    simp only [Int.natCast_zero, List.drop_zero, List.nil_append] at h
    exact h
  | succ d ih =>
    intro k i s h1 h2 h3 h4
    obtain ⟨k, rfl⟩ : ∃ m, k = m + 1 := ⟨k - 1, by omega⟩
    have hi : i < ll.length := by omega
    rw [List.drop_eq_getElem_cons hi] at h3
    simp only [List.map_cons, List.sum_cons] at h3
    rw [api_Run_21.l0, if_pos (by omega), if_pos (by omega), if_pos (by omega), rdL_nat ll i hi, w64 (x := (s : Int) + (ll[i].length : Int)) (by omega) (by omega), if_neg (by omega), w64 (by omega) (by omega)]
    have ei : (i : Int) + 1 = ((i + 1 : Nat) : Int) := by omega
    have es : (s : Int) + (ll[i].length : Int) = ((s + ll[i].length : Nat) : Int) := by omega
    rw [ei, es]
    exact ih k (i + 1) _ (by omega) (by omega) (by omega) (by omega)
theorem concat_eq (ll : List (List S25)) (k : Nat) (hll : ll.length ≤ 1000000) (hs : (ll.map List.length).sum < 2932031007402) (hk : ll.length + ll.length + 1 < k) : api_Run_21.f k ll = some ll.flatten := by
  unfold api_Run_21.f
  have h := concat_l0 ll hll hs ll.length k 0 0 (by omega) (by omega) (by simp) (by omega)
  simp only [Int.natCast_zero] at h
  exact h
theorem rdT (xs : List S25) (i : Nat) (h : i < xs.length) : rd_T25 xs (i : Int) = xs[i] := by
  unfold rd_T25
  simp [List.getD_eq_getElem?_getD, h]
theorem fnd_isSome (p : Nat → Bool) (n i : Nat) : (fnd p n i).isSome = !allF (fun j => !p j) n i := by
  induction n generalizing i with
  | zero => rfl
  | succ n ih =>
    simp only [fnd, allF]
    cases e : p i with
    | true => simp
    | false => simp [ih]
def mayB (a b s : Int) : Bool := decide ((a = 1 ∨ a = 2) ∧ (b = 1 ∨ b = 2) ∧ 1 ≤ s ∧ s ≤ 3)
theorem may_eq (a b c d e f g h s : Int) : runs_May.f a b c d e f g h s = some (mayB a b s) := by
  unfold runs_May.f mayB
  repeat' split
  all_goals (congr 1; first | (symm; apply decide_eq_true; omega) | (symm; apply decide_eq_false; omega) | (apply decide_eq_decide.mpr; omega))
def okR (r : S25) : Bool := mayB r.f0 r.f1 r.f8
def allR (l : List S25) : Bool := allF (fun i => okR (rd_T25 l (i : Int))) l.length 0
theorem allR_iff (l : List S25) : allR l = true ↔ ∀ i (h : i < l.length), okR l[i] = true := by
  unfold allR
  rw [allF_iff]
  constructor
  · intro H i hi
    have := H i (by omega) (by omega)
    rwa [rdT l i hi] at this
  · intro H i _ hi
    rw [rdT l i (by omega)]
    exact H i (by omega)
theorem right_eq (l : List S25) (room : Int) (k : Nat) (hl : l.length ≤ 1000000) (hk : l.length < k) : runs_Right.f k l room = some (decide ((l.length : Int) ≤ room) && allR l) := by
  unfold runs_Right.f
  by_cases c : (l.length : Int) ≤ room
  · rw [if_pos c, decide_eq_true c, Bool.true_and]
    have h := fnd_loop (fun k i => api_Run_23.l0 k l (l.length : Int) (i : Int)) l.length (fun i => !okR (rd_T25 l (i : Int))) (fun j => (j : Int)) (-1) 0 (by
      intro k i hi _
      rw [api_Run_23.l0]
      by_cases c : i < l.length
      · rw [if_pos (by omega), if_pos (by omega), if_pos (by omega), if_pos c, runs_Right_1.f, may_eq, Option.bind_some, Option.bind_some, w64 (by omega) (by omega)]
        have ei : (i : Int) + 1 = ((i + 1 : Nat) : Int) := by omega
        rw [ei]; rfl
      · rw [if_neg (by omega), if_neg c]) l.length k 0 (by omega) (by omega) (by omega)
    simp only [Int.natCast_zero] at h
    unfold api_Run_19.f api_Run_23.f
    rw [h, Option.bind_some, Option.bind_some]
    have hs := fnd_isSome (fun i => !okR (rd_T25 l (i : Int))) l.length 0
    simp only [Bool.not_not] at hs
    have hs2 : (fnd (fun i => !okR (rd_T25 l (i : Int))) l.length 0).isSome = !allR l := hs
    cases e : fnd (fun i => !okR (rd_T25 l (i : Int))) l.length 0 with
    | some j => rw [e] at hs2; simp at hs2; simp [hs2]
    | none => rw [e] at hs2; simp at hs2; simp [hs2]
  · rw [if_neg c, decide_eq_false c]; rfl
def kindB (l : List S25) (fr a b s : Int) (i : Nat) : Bool := decide (fr ≤ (i : Int) ∧ (rd_T25 l (i : Int)).f0 = a ∧ (rd_T25 l (i : Int)).f1 = b ∧ (rd_T25 l (i : Int)).f8 = s)
def nextOf (l : List S25) (fr a b s : Int) : Int × Bool := match fnd (kindB l fr a b s) l.length 0 with | some j => ((j : Int), true) | none => (0, false)
theorem next_eq (l : List S25) (fr a b s : Int) (k : Nat) (hl : l.length ≤ 1000000) (hk : l.length < k) : runs_Next.f k l fr a b s = some (nextOf l fr a b s) := by
  unfold runs_Next.f nextOf
  have h := fnd_loop (fun k i => runs_Next.l0 k l fr a b s (l.length : Int) (i : Int)) l.length (kindB l fr a b s) (fun j => ((j : Int), true)) (0, false) 0 (by
    intro k i hi _
    rw [runs_Next.l0]
    by_cases c : i < l.length
    · rw [if_pos (by omega), if_pos (by omega), if_pos (by omega), if_pos c, w64 (by omega) (by omega)]
      have ei : (i : Int) + 1 = ((i + 1 : Nat) : Int) := by omega
      rw [ei]
      unfold kindB
      by_cases h1 : (i : Int) ≥ fr
      · by_cases h2 : (rd_T25 l (i : Int)).f0 = a
        · by_cases h3 : (rd_T25 l (i : Int)).f1 = b
          · by_cases h4 : (rd_T25 l (i : Int)).f8 = s
            · rw [if_pos h1, if_pos h2, if_pos h3, if_pos h4, if_pos (decide_eq_true ⟨h1, h2, h3, h4⟩)]
            · rw [if_pos h1, if_pos h2, if_pos h3, if_neg h4, if_neg (by simp [h4])]
          · rw [if_pos h1, if_pos h2, if_neg h3, if_neg (by simp [h3])]
        · rw [if_pos h1, if_neg h2, if_neg (by simp [h2])]
      · rw [if_neg h1, if_neg (by simp; omega)]
    · rw [if_neg (by omega), if_neg c]) l.length k 0 (by omega) (by omega) (by omega)
  simp only [Int.natCast_zero] at h
  rw [h]
def addOf (l : List S25) (room : Int) (r : S25) : List S25 × Int := if okR r = true then (if (l.length : Int) ≥ room then (l, 10) else (l ++ [r], 0)) else (l, 1)
theorem add_eq (l : List S25) (room : Int) (a b c d e f g h s : Int) (k : Nat) (hl : l.length ≤ 1000000) (hk : 10 < k) : runs_Add.f k l room a b c d e f g h s = some (addOf l room ⟨a, b, c, d, e, f, g, h, s⟩) := by
  unfold runs_Add.f addOf okR
  rw [may_eq, Option.bind_some]
  by_cases c1 : mayB a b s = true
  · rw [if_pos c1, if_pos c1]
    by_cases c2 : (l.length : Int) ≥ room
    · rw [if_pos c2, if_pos c2]
    · rw [if_neg c2, if_neg c2, concat_eq _ k (by simp) (by simp; omega) (by simp; omega), Option.bind_some]
      simp
  · rw [if_neg c1, if_neg c1]
theorem clone_eq (l : List S25) (h : l.length < 2932031007402) : api_Run_22.f l = some l := by
  unfold api_Run_22.f
  rw [Option.bind_some, List.length_nil, if_pos (by omega), List.nil_append]
def setOf (l : List S25) (i : Int) (r : S25) : List S25 × Int := if i < 0 ∨ i ≥ (l.length : Int) ∨ okR r = false then (l, 1) else (l.set i.toNat r, 0)
theorem set_eq (l : List S25) (i : Int) (a b c d e f g h s : Int) (hl : l.length ≤ 1000000) : runs_Set.f l i a b c d e f g h s = some (setOf l i ⟨a, b, c, d, e, f, g, h, s⟩) := by
  unfold runs_Set.f setOf okR
  by_cases c1 : i < 0
  · rw [if_pos c1, if_pos (Or.inl c1)]
  rw [if_neg c1]
  by_cases c2 : i ≥ (l.length : Int)
  · rw [if_pos c2, if_pos (Or.inr (Or.inl c2))]
  rw [if_neg c2, may_eq, Option.bind_some]
  by_cases c3 : mayB a b s = true
  · rw [if_pos c3, clone_eq l (by omega), Option.bind_some, if_pos (by omega), if_pos (by omega), if_neg]
    intro q
    rcases q with q | q | q
    · exact c1 q
    · exact c2 q
    · simp [c3] at q
  · rw [if_neg c3, if_pos (Or.inr (Or.inr (by simpa using c3)))]
theorem awake60 (k : Nat) (h : 60 ≤ k) : chamberlainlaw09_awake.f k = some true := at_rounds (chamberlainlaw09_awake.mono) h chamberlainlaw09_awake.at60
theorem rmay_eq (a b c d e f g h s : Int) : chamberlainref09_May.f a b c d e f g h s = some (mayB a b s) := by
  unfold chamberlainref09_May.f mayB
  repeat' split
  all_goals first
    | (congr 1; symm; apply decide_eq_true; omega)
    | (congr 1; symm; apply decide_eq_false; omega)
    | (congr 1; rw [Bool.eq_iff_iff]; simp; omega)
theorem rright_eq (l : List S25) (room : Int) (k : Nat) (hl : l.length ≤ 1000000) (hk : l.length < k) : chamberlainref09_Right.f k l room = some (decide ((l.length : Int) ≤ room) && allR l) := by
  unfold chamberlainref09_Right.f
  have h : ∀ (d k i : Nat), l.length - i = d → i ≤ l.length → d < k → chamberlainref09_Right.l0 k l room (i : Int) = some (decide ((l.length : Int) ≤ room) && allF (fun i => okR (rd_T25 l (i : Int))) d i) := by
    intro d
    induction d with
    | zero =>
      intro k i h1 h2 h3
      obtain ⟨k, rfl⟩ : ∃ m, k = m + 1 := ⟨k - 1, by omega⟩
      rw [chamberlainref09_Right.l0, if_neg (by omega), allF, Bool.and_true]
    | succ d ih =>
      intro k i h1 h2 h3
      obtain ⟨k, rfl⟩ : ∃ m, k = m + 1 := ⟨k - 1, by omega⟩
      have ei : (i : Int) + 1 = ((i + 1 : Nat) : Int) := by omega
      rw [chamberlainref09_Right.l0, if_pos (by omega), if_pos (by omega), rmay_eq, Option.bind_some, w64 (by omega) (by omega), ei, ih k (i + 1) (by omega) (by omega) (by omega), allF]
      have eo : okR (rd_T25 l (i : Int)) = mayB (rd_T25 l (i : Int)).f0 (rd_T25 l (i : Int)).f1 (rd_T25 l (i : Int)).f8 := rfl
      rw [eo]
      cases mayB (rd_T25 l (i : Int)).f0 (rd_T25 l (i : Int)).f1 (rd_T25 l (i : Int)).f8 <;> simp
  have h0 := h l.length k 0 (by omega) (by omega) (by omega)
  simp only [Int.natCast_zero] at h0
  exact h0
def cntB (p : Nat → Bool) : Nat → Nat → Nat
  | 0, _ => 0
  | n + 1, i => (if p i = true then 1 else 0) + cntB p n (i + 1)
theorem cntB_zero (p : Nat → Bool) (n i : Nat) (h : ∀ m, i ≤ m → m < i + n → p m = false) : cntB p n i = 0 := by
  induction n generalizing i with
  | zero => rfl
  | succ n ih =>
    rw [cntB, if_neg (by rw [h i (by omega) (by omega)]; decide), ih (i + 1) (fun m m1 m2 => h m (by omega) (by omega))]
theorem cntB_first (p : Nat → Bool) (n i j : Nat) (h1 : i ≤ j) (h2 : j < i + n) (h3 : p j = true) (h : ∀ m, i ≤ m → m < j → p m = false) : cntB p n i = 1 + cntB p (i + n - (j + 1)) (j + 1) := by
  induction n generalizing i with
  | zero => omega
  | succ n ih =>
    rw [cntB]
    by_cases c : i = j
    · subst c
      rw [if_pos h3]
      congr 2
      omega
    · rw [if_neg (by rw [h i (by omega) (by omega)]; decide), Nat.zero_add, ih (i + 1) (by omega) (by omega) (fun m m1 m2 => h m (by omega) m2)]
      congr 2
      omega
theorem fnd_congr (p p' : Nat → Bool) (n i : Nat) (h : ∀ m, i ≤ m → m < i + n → p m = p' m) : fnd p n i = fnd p' n i := by
  induction n generalizing i with
  | zero => rfl
  | succ n ih => rw [fnd, fnd, h i (by omega) (by omega), ih (i + 1) (fun m m1 m2 => h m (by omega) (by omega))]
theorem order_l2 (l : List S25) (pa ro sa many n : Int) (j : Nat) (m : List S25) (hl : l.length ≤ 1000) (hm : m.length = l.length) (he : ∀ i : Nat, i < l.length → i ≠ j → rd_T25 m (i : Int) = rd_T25 l (i : Int)) (R : Bool) (K0 : Nat)
    (hR : ∀ K, K0 ≤ K → chamberlainlaw09_RunsOrder.l1 K l pa ro sa many (wrap64 ((j : Int) + 1)) (wrap64 (n + 1)) = some R) :
    ∀ (d k i : Nat), l.length - i = d → i ≤ l.length → K0 + d < k → chamberlainlaw09_RunsOrder.l2 k l pa ro sa many n (j : Int) m (i : Int) = some R := by
  intro d
  induction d with
  | zero =>
    intro k i h1 h2 h3
    obtain ⟨k, rfl⟩ : ∃ m, k = m + 1 := ⟨k - 1, by omega⟩
    rw [chamberlainlaw09_RunsOrder.l2, if_neg (by omega), hR k (by omega)]
  | succ d ih =>
    intro k i h1 h2 h3
    obtain ⟨k, rfl⟩ : ∃ m, k = m + 1 := ⟨k - 1, by omega⟩
    have ei : (i : Int) + 1 = ((i + 1 : Nat) : Int) := by omega
    rw [chamberlainlaw09_RunsOrder.l2, if_pos (by omega), w64 (x := (i : Int) + 1) (by omega) (by omega), ei, ih k (i + 1) (by omega) (by omega) (by omega)]
    by_cases c : i = j
    · rw [if_pos (by omega)]
    · rw [if_neg (by omega), if_pos (by omega), if_pos (by omega), he i (by omega) c, if_neg (by simp)]
theorem order_l1 (l : List S25) (pa ro sa : Int) (many : Nat) (hl : l.length ≤ 60) (hm : many ≤ 60) (hall : allR l = true) :
    ∀ (f k fr n : Nat), l.length - fr ≤ f → fr ≤ l.length → n ≤ fr → n + cntB (kindB l 0 pa ro sa) (l.length - fr) fr = many → f * (l.length + 10) + l.length + 10 < k →
      chamberlainlaw09_RunsOrder.l1 k l pa ro sa (many : Int) (fr : Int) (n : Int) = some true := by
  intro f
  induction f with
  | zero =>
    intro k fr n h1 h2 h3 h4 h5
    obtain ⟨k, rfl⟩ : ∃ m, k = m + 1 := ⟨k - 1, by omega⟩
    have hfr : fr = l.length := by omega
    have hn : nextOf l (fr : Int) pa ro sa = (0, false) := by
      unfold nextOf
      rw [fnd_eq_none (p := kindB l (fr : Int) pa ro sa)]
      intro m m1 m2
      unfold kindB
      apply decide_eq_false
      intro q; omega
    rw [chamberlainlaw09_RunsOrder.l1, if_pos (by omega), next_eq _ _ _ _ _ _ (by omega) (by omega), Option.bind_some, hn]
    subst hfr
    rw [Nat.sub_self, cntB] at h4
    dsimp only
    rw [if_neg (by decide), if_pos (by omega)]; rfl
  | succ f ih =>
    intro k fr n h1 h2 h3 h4 h5
    rw [Nat.add_mul] at h5
    obtain ⟨k, rfl⟩ : ∃ m, k = m + 1 + 1 + 1 := ⟨k - 3, by omega⟩
    rw [chamberlainlaw09_RunsOrder.l1, if_pos (by omega), next_eq _ _ _ _ _ _ (by omega) (by omega), Option.bind_some]
    cases q : fnd (kindB l (fr : Int) pa ro sa) l.length 0 with
    | none =>
      have hn : nextOf l (fr : Int) pa ro sa = (0, false) := by unfold nextOf; rw [q]
      have q0 := fnd_none q
      have hc : cntB (kindB l 0 pa ro sa) (l.length - fr) fr = 0 := by
        apply cntB_zero
        intro m m1 m2
        have := q0 m (by omega) (by omega)
        unfold kindB at this ⊢
        simp only [decide_eq_false_iff_not] at this ⊢
        intro z
        exact this ⟨by omega, z.2⟩
      rw [hn]
      dsimp only
      rw [if_neg (by decide), if_pos (by omega)]; rfl
    | some j =>
      have hn : nextOf l (fr : Int) pa ro sa = ((j : Int), true) := by unfold nextOf; rw [q]
      obtain ⟨_, q2, q3, q4⟩ := fnd_some q
      have q3' := q3
      unfold kindB at q3'
      simp only [decide_eq_true_eq] at q3'
      obtain ⟨z0, z1, z2, z3⟩ := q3'
      have hjl : j < l.length := by omega
      have hok := (allR_iff l).mp hall j hjl
      rw [rdT l j hjl] at z1 z2 z3
      have hc := cntB_first (kindB l 0 pa ro sa) (l.length - fr) fr j (by omega) (by omega) (by unfold kindB; rw [rdT l j hjl]; exact decide_eq_true ⟨by omega, z1, z2, z3⟩) (by
        intro m m1 m2
        have := q4 m (by omega) m2
        unfold kindB at this ⊢
        simp only [decide_eq_false_iff_not] at this ⊢
        intro z
        exact this ⟨by omega, z.2⟩)
      rw [hn]
      dsimp only
      rw [if_pos rfl, if_neg (by omega), if_neg (by omega), if_pos (by omega), if_pos (by omega), rdT l j hjl, if_pos z1, if_pos z2, z3, bne_self_eq_false, chamberlainlaw09_RunsOrder.j3, if_neg (by decide), if_pos (by omega), if_pos (by omega), rdT l j hjl]
      unfold okR mayB at hok
      simp only [decide_eq_true_eq] at hok
      have es : Int.tmod l[j].f8 3 = l[j].f8 % 3 := Int.tmod_eq_emod_of_nonneg (by omega)
      rw [es, w64 (by omega) (by omega), set_eq _ _ _ _ _ _ _ _ _ _ _ (by omega), Option.bind_some]
      obtain ⟨r, hr⟩ : ∃ r : S25, r = ⟨l[j].f0, l[j].f1, l[j].f2, l[j].f3, l[j].f4, l[j].f5, l[j].f6, l[j].f7, 1 + l[j].f8 % 3⟩ := ⟨_, rfl⟩
      have hset : setOf l (j : Int) r = (l.set j r, 0) := by
        unfold setOf
        rw [if_neg]
        · rfl
        · intro z
          rcases z with z | z | z
          · omega
          · omega
          · unfold okR mayB at z
            simp only [decide_eq_false_iff_not] at z
            apply z
            rw [hr]
            dsimp only
            omega
      rw [← hr, hset]
      dsimp only
      have hr8 : r.f8 ≠ sa := by rw [hr]; dsimp only; omega
      have hsame : ∀ i : Nat, i < l.length → i ≠ j → rd_T25 (l.set j r) (i : Int) = rd_T25 l (i : Int) := by
        intro i hi hne
        rw [rdT _ i (by simpa using hi), rdT l i hi, List.getElem_set_ne (by omega)]
      have hnext : nextOf (l.set j r) (j : Int) pa ro sa = nextOf l ((j : Int) + 1) pa ro sa := by
        unfold nextOf
        rw [List.length_set, fnd_congr (kindB (l.set j r) (j : Int) pa ro sa) (kindB l ((j : Int) + 1) pa ro sa)]
        intro i _ hi
        unfold kindB
        by_cases c : i = j
        · subst c
          rw [rdT _ i (by simpa using hjl)]
          simp only [List.getElem_set_self]
          rw [decide_eq_false (by intro z; exact hr8 z.2.2.2), decide_eq_false (by intro z; omega)]
        · rw [hsame i (by omega) c]
          apply decide_eq_decide.mpr
          constructor
          · intro z; exact ⟨by omega, z.2⟩
          · intro z; exact ⟨by omega, z.2⟩
      rw [next_eq _ _ _ _ _ _ (by simp; omega) (by simp; omega), w64 (x := (j : Int) + 1) (by omega) (by omega), next_eq _ _ _ _ _ _ (by omega) (by omega), hnext]
      simp only [Option.bind_some, bne_self_eq_false]
      rw [if_pos trivial, if_pos (by simp), if_neg (by decide), chamberlainlaw09_RunsOrder.j4, if_neg (by decide)]
      have hR : ∀ K, f * (l.length + 10) + l.length + 11 ≤ K → chamberlainlaw09_RunsOrder.l1 K l pa ro sa (many : Int) (wrap64 ((j : Int) + 1)) (wrap64 ((n : Int) + 1)) = some true := by
        intro K hK
        rw [w64 (by omega) (by omega), w64 (by omega) (by omega)]
        have ej : (j : Int) + 1 = ((j + 1 : Nat) : Int) := by omega
        have en : (n : Int) + 1 = ((n + 1 : Nat) : Int) := by omega
        rw [ej, en]
        apply ih K (j + 1) (n + 1) (by omega) (by omega) (by omega) _ (by omega)
        rw [hc] at h4
        have e1 : fr + (l.length - fr) - (j + 1) = l.length - (j + 1) := by omega
        rw [e1] at h4
        omega
      have h := order_l2 l pa ro sa (many : Int) (n : Int) j (l.set j r) (by omega) (by simp) hsame true _ hR l.length k 0 (by omega) (by omega) (by omega)
      simp only [Int.natCast_zero] at h
      exact h
theorem order_l0 (l : List S25) (pa ro sa : Int) (hl : l.length ≤ 60) (K0 : Nat) (R : Bool) (total : Nat)
    (hR : ∀ K, K0 ≤ K → chamberlainlaw09_RunsOrder.l1 K l pa ro sa (total : Int) 0 0 = some R) :
    ∀ (d k i m : Nat), l.length - i = d → i ≤ l.length → m ≤ i → m + cntB (kindB l 0 pa ro sa) d i = total → K0 + d < k →
      chamberlainlaw09_RunsOrder.l0 k l pa ro sa (m : Int) (i : Int) = some R := by
  intro d
  induction d with
  | zero =>
    intro k i m h1 h2 h3 h4 h5
    obtain ⟨k, rfl⟩ : ∃ m, k = m + 1 := ⟨k - 1, by omega⟩
    rw [cntB] at h4
    have : m = total := by omega
    subst this
    rw [chamberlainlaw09_RunsOrder.l0, if_neg (by omega), hR k (by omega)]
  | succ d ih =>
    intro k i m h1 h2 h3 h4 h5
    obtain ⟨k, rfl⟩ : ∃ m, k = m + 1 := ⟨k - 1, by omega⟩
    have ei : (i : Int) + 1 = ((i + 1 : Nat) : Int) := by omega
    have em : (m : Int) + 1 = ((m + 1 : Nat) : Int) := by omega
    rw [cntB] at h4
    rw [chamberlainlaw09_RunsOrder.l0, if_pos (by omega), if_pos (by omega), w64 (x := (m : Int) + 1) (by omega) (by omega), w64 (x := (i : Int) + 1) (by omega) (by omega), ei, em]
    unfold kindB at h4
    by_cases c1 : (rd_T25 l (i : Int)).f0 = pa
    · by_cases c2 : (rd_T25 l (i : Int)).f1 = ro
      · by_cases c3 : (rd_T25 l (i : Int)).f8 = sa
        · rw [if_pos c1, if_pos c2, if_pos c3]
          rw [if_pos (decide_eq_true ⟨by omega, c1, c2, c3⟩)] at h4
          exact ih k (i + 1) (m + 1) (by omega) (by omega) (by omega) (by unfold kindB; omega) (by omega)
        · rw [if_pos c1, if_pos c2, if_neg c3]
          rw [if_neg (by simp [c3])] at h4
          exact ih k (i + 1) m (by omega) (by omega) (by omega) (by unfold kindB; omega) (by omega)
      · rw [if_pos c1, if_neg c2]
        rw [if_neg (by simp [c2])] at h4
        exact ih k (i + 1) m (by omega) (by omega) (by omega) (by unfold kindB; omega) (by omega)
    · rw [if_neg c1]
      rw [if_neg (by simp [c1])] at h4
      exact ih k (i + 1) m (by omega) (by omega) (by omega) (by unfold kindB; omega) (by omega)
theorem cntB_le (p : Nat → Bool) (n i : Nat) : cntB p n i ≤ n := by
  induction n generalizing i with
  | zero => exact Nat.le_refl _
  | succ n ih =>
    rw [cntB]
    have := ih (i + 1)
    split <;> omega
theorem RunsOrder : chamberlainlaw09_RunsOrder.Pure := by
  intro l pa ro sa _ _ _ _ _
  obtain ⟨k, hk⟩ : ∃ k, k = 20000 := ⟨_, rfl⟩
  refine ⟨k + 1, ?_⟩
  unfold chamberlainlaw09_RunsOrder.f
  rw [awake60 _ (by omega), Option.bind_some, if_pos rfl]
  have jt : chamberlainlaw09_RunsOrder.j0 (k + 1) l pa ro sa true = some true := by
    rw [chamberlainlaw09_RunsOrder.j0, if_pos rfl, awake60 _ (by omega)]; rfl
  by_cases h0 : (l.length : Int) > 60
  · rw [if_pos h0, jt]
  rw [if_neg h0, rright_eq l 60 _ (by omega) (by omega), Option.bind_some, decide_eq_true (by omega), Bool.true_and]
  by_cases h1 : allR l = true
  · rw [h1, chamberlainlaw09_RunsOrder.j0, if_neg (by decide)]
    have hle := cntB_le (kindB l 0 pa ro sa) l.length 0
    have hmul : l.length * (l.length + 10) ≤ 60 * 70 := Nat.mul_le_mul (by omega) (by omega)
    have hR : ∀ K, 10000 ≤ K → chamberlainlaw09_RunsOrder.l1 K l pa ro sa ((cntB (kindB l 0 pa ro sa) l.length 0 : Nat) : Int) 0 0 = some true := by
      intro K hK
      have h := order_l1 l pa ro sa (cntB (kindB l 0 pa ro sa) l.length 0) (by omega) (by omega) h1 l.length K 0 0 (by omega) (by omega) (by omega) (by simp) (by omega)
      simp only [Int.natCast_zero] at h
      exact h
    have h := order_l0 l pa ro sa (by omega) 10000 true _ hR l.length k 0 0 (by omega) (by omega) (by omega) (by omega) (by omega)
    simp only [Int.natCast_zero] at h
    exact h
  · have h2 : allR l = false := by simpa using h1
    rw [h2]; exact jt

end Go.Proofs.Ytjhopebkflgcbaa.Pure
