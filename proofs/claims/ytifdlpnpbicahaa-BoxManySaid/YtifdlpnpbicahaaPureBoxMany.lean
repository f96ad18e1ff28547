/- Of whatever is sealed under handles of its own each is opened, as long as there is room, and nothing else is, for every room and keys; no condition. -/
import Derived.Test.YtifdlpnpbicahaaPBoxManyx4
namespace Go.Proofs.Ytifdlpnpbicahaa.Pure
open Go Go.RowKit Go.Proofs.Ytifdlpnpbicahaa.PBoxMany Go.Proofs.YtifdlpnpbicahaaW.PrintWords Go.Proofs.YtifdlpnpbicahaaW.PrintLast Go.Proofs.YtifdlpnpbicahaaW.PrintMore

theorem wf32 {x : Int} (h : (Lit.int .u32 x).wf = true) : 0 ≤ x ∧ x < 4294967296 := by
  simp only [Lit.wf, IntKind.min, IntKind.max, IntKind.signed, IntKind.bits, Bool.and_eq_true] at h
  simp at h
  omega
theorem wf8 {x : Int} (h : (Lit.int .u8 x).wf = true) : 0 ≤ x ∧ x < 256 := by
  simp only [Lit.wf, IntKind.min, IntKind.max, IntKind.signed, IntKind.bits, Bool.and_eq_true] at h
  simp at h
  omega
theorem wf16 {x : Int} (h : (Lit.int .u16 x).wf = true) : 0 ≤ x ∧ x < 65536 := by
  simp only [Lit.wf, IntKind.min, IntKind.max, IntKind.signed, IntKind.bits, Bool.and_eq_true] at h
  simp at h
  omega
theorem wf64 {x : Int} (h : (Lit.int .i64 x).wf = true) : -9223372036854775808 ≤ x ∧ x ≤ 9223372036854775807 := by
  simp only [Lit.wf, IntKind.min, IntKind.max, IntKind.signed, IntKind.bits, Bool.and_eq_true] at h
  simp at h
  omega
theorem w64 {x : Int} (h1 : -9223372036854775808 ≤ x) (h2 : x ≤ 9223372036854775807) : wrap64 x = x := by
  unfold wrap64
  omega
theorem rd_nat (xs : List Int) (i : Nat) (h : i < xs.length) : rd xs (i : Int) = xs[i] := by
  unfold rd
  simp [List.getD_eq_getElem?_getD, h]
/-- From place i on, n places: does p hold of all? -/
def allF (p : Nat → Bool) : Nat → Nat → Bool
  | 0, _ => true
  | n + 1, i => p i && allF p n (i + 1)
theorem allF_iff (p : Nat → Bool) (n i : Nat) : allF p n i = true ↔ ∀ j, i ≤ j → j < i + n → p j = true := by
  induction n generalizing i with
  | zero => simp [allF]; intro j h1 h2; omega
  | succ n ih =>
    simp only [allF, Bool.and_eq_true, ih]
    constructor
    · rintro ⟨h0, h⟩ j h1 h2
      by_cases e : j = i
      · subst e; exact h0
      · exact h j (by omega) (by omega)
    · intro h
      exact ⟨h i (by omega) (by omega), fun j h1 h2 => h j (by omega) (by omega)⟩
/-- The first place from i on, of n, of which p holds. -/
def fnd (p : Nat → Bool) : Nat → Nat → Option Nat
  | 0, _ => none
  | n + 1, i => if p i = true then some i else fnd p n (i + 1)
theorem fnd_some {p : Nat → Bool} {n i j : Nat} (h : fnd p n i = some j) : i ≤ j ∧ j < i + n ∧ p j = true ∧ ∀ m, i ≤ m → m < j → p m = false := by
  induction n generalizing i with
  | zero => simp [fnd] at h
  | succ n ih =>
    simp only [fnd] at h
    by_cases e : p i = true
    · rw [if_pos e] at h
      cases h
      exact ⟨Nat.le_refl _, by omega, e, fun m h1 h2 => by omega⟩
    · rw [if_neg e] at h
      obtain ⟨h1, h2, h3, h4⟩ := ih h
      refine ⟨by omega, by omega, h3, fun m m1 m2 => ?_⟩
      by_cases c : m = i
      · subst c; simpa using e
      · exact h4 m (by omega) m2
theorem fnd_none {p : Nat → Bool} {n i : Nat} (h : fnd p n i = none) : ∀ m, i ≤ m → m < i + n → p m = false := by
  induction n generalizing i with
  | zero => intro m h1 h2; omega
  | succ n ih =>
    simp only [fnd] at h
    by_cases e : p i = true
    · rw [if_pos e] at h; cases h
    · rw [if_neg e] at h
      intro m h1 h2
      by_cases c : m = i
      · subst c; simpa using e
      · exact ih h m (by omega) (by omega)
theorem fnd_eq_some {p : Nat → Bool} {n i j : Nat} (h1 : i ≤ j) (h2 : j < i + n) (h3 : p j = true) (h4 : ∀ m, i ≤ m → m < j → p m = false) : fnd p n i = some j := by
  cases h : fnd p n i with
  | none => have := fnd_none h j h1 h2; rw [this] at h3; cases h3
  | some q =>
    obtain ⟨a, b, c, d⟩ := fnd_some h
    congr 1
    rcases Nat.lt_trichotomy q j with e | e | e
    · have := h4 q a e; rw [this] at c; cases c
    · exact e
    · have := d j h1 e; rw [this] at h3; cases h3
theorem fnd_eq_none {p : Nat → Bool} {n i : Nat} (h : ∀ m, i ≤ m → m < i + n → p m = false) : fnd p n i = none := by
  cases e : fnd p n i with
  | none => rfl
  | some q =>
    obtain ⟨a, b, c, _⟩ := fnd_some e
    rw [h q a b] at c; cases c
theorem rows_eq (a b : List Int) (h : a.length = b.length) : allF (fun i => decide (rd a (i : Int) = rd b (i : Int))) a.length 0 = decide (a = b) := by
  rw [Bool.eq_iff_iff, allF_iff]
  simp only [decide_eq_true_eq]
  constructor
  · intro H
    apply List.ext_getElem h
    intro i h1 h2
    have := H i (by omega) (by omega)
    rw [rd_nat a i h1, rd_nat b i h2] at this
    exact this
  · intro e j _ _
    rw [e]
/-- A loop that asks place by place. -/
theorem all_loop (f : Nat → Nat → Option Bool) (n : Nat) (p : Nat → Bool) (h : ∀ k i, i ≤ n → f (k + 1) i = if i < n then (if p i = true then f k (i + 1) else some false) else some true) :
    ∀ (d k i : Nat), n - i = d → i ≤ n → d < k → f k i = some (allF p d i) := by
  intro d
  induction d with
  | zero =>
    intro k i h1 h2 h3
    obtain ⟨k, rfl⟩ : ∃ m, k = m + 1 := ⟨k - 1, by omega⟩
    rw [h k i h2, if_neg (by omega)]; rfl
  | succ d ih =>
    intro k i h1 h2 h3
    obtain ⟨k, rfl⟩ : ∃ m, k = m + 1 := ⟨k - 1, by omega⟩
    rw [h k i h2, if_pos (by omega)]
    simp only [allF]
    cases e : p i with
    | true => rw [if_pos rfl, ih k (i + 1) (by omega) (by omega) (by omega)]; simp
    | false => simp
/-- A loop that looks for the first place. -/
theorem fnd_loop {α : Type} (f : Nat → Nat → Option α) (n : Nat) (p : Nat → Bool) (yes : Nat → α) (no : α) (c : Nat) (h : ∀ k i, i ≤ n → c ≤ k → f (k + 1) i = if i < n then (if p i = true then some (yes i) else f k (i + 1)) else some no) :
    ∀ (d k i : Nat), n - i = d → i ≤ n → c + d < k → f k i = some (match fnd p d i with | some j => yes j | none => no) := by
  intro d
  induction d with
  | zero =>
    intro k i h1 h2 h3
    obtain ⟨k, rfl⟩ : ∃ m, k = m + 1 := ⟨k - 1, by omega⟩
    rw [h k i h2 (by omega), if_neg (by omega)]; rfl
  | succ d ih =>
    intro k i h1 h2 h3
    obtain ⟨k, rfl⟩ : ∃ m, k = m + 1 := ⟨k - 1, by omega⟩
    rw [h k i h2 (by omega), if_pos (by omega)]
    simp only [fnd]
    cases e : p i with
    | true => simp
    | false => rw [if_neg (by simp), if_neg (by simp), ih k (i + 1) (by omega) (by omega) (by omega)]
theorem rsame_eq (a b : List Int) (k : Nat) (hb : a.length ≤ 4611686018427387904) (hk : a.length < k) : chamberlainref01_Same.f k a b = some (decide (a = b)) := by
  unfold chamberlainref01_Same.f
  by_cases hl : a.length = b.length
  · rw [if_pos (by omega)]
    have h := all_loop (fun k i => chamberlainref01_Same.l0 k a b (i : Int)) a.length (fun i => decide (rd a (i : Int) = rd b (i : Int))) (by
      intro k i hi
      simp only [chamberlainref01_Same.l0]
      by_cases c : i < a.length
      · rw [if_pos (by omega), if_pos (by omega), if_pos (by omega), if_pos c, w64 (by omega) (by omega)]
        simp
      · rw [if_neg (by omega), if_neg c]) a.length k 0 (by omega) (by omega) (by omega)
    simp only [Int.natCast_zero] at h
    rw [h, rows_eq a b hl]
  · rw [if_neg (by omega)]
    congr 1
    symm
    apply decide_eq_false
    intro e
    exact hl (by rw [e])
theorem rdS (l : List S43) (i : Nat) (h : i < l.length) : rd_T43 l (i : Int) = l[i] := bfind.rd_get l i h
theorem awake60 (k : Nat) (hk : 60 ≤ k) : chamberlainlaw07_awake.f k = some true := at_rounds chamberlainlaw07_awake.mono hk chamberlainlaw07_awake.at60
/-- A small box's words. -/
def small (s : S43) : Prop := s.f3.length ≤ 100
/-- Is there an entry of a handle? -/
def there (l : List S43) (h : Int) : Bool := l.any (fun s => s.f0 == h)
theorem pos_there (l : List S43) (h : Int) : (0 ≤ bfind.pos h l) ↔ there l h = true := by
  unfold bfind.pos there
  rw [List.any_eq_true]
  constructor
  · intro q
    split at q
    · rename_i c
      rw [List.findIdx_lt_length] at c
      exact c
    · omega
  · intro q
    rw [if_pos (List.findIdx_lt_length.2 q)]
    omega
theorem seen_take (l : List S43) (i : Nat) (hi : i < l.length) : there (l.take i) (rd_T43 l i).f0 = bright.seen l i := by
  rw [Bool.eq_iff_iff, bright.seen_iff]
  unfold there
  rw [List.any_eq_true]
  constructor
  · rintro ⟨s, hs, e⟩
    obtain ⟨t, ht, rfl⟩ := List.getElem_of_mem hs
    rw [List.length_take] at ht
    refine ⟨t, by omega, ?_⟩
    simp only [List.getElem_take] at e
    have := rdS l t (by omega)
    show (rd_T43 l (t : Int)).f0 = _
    rw [this]; exact beq_iff_eq.1 e
  · rintro ⟨t, ht, e⟩
    refine ⟨l[t]'(by omega), ?_, ?_⟩
    · rw [List.mem_take_iff_getElem]; exact ⟨t, by omega, rfl⟩
    · have := rdS l t (by omega)
      simp only at e
      rw [this] at e
      exact beq_iff_eq.2 e
theorem ok_allF (l : List S43) : allF (fun i => !bright.seen l i && !bright.long l i) l.length 0 = bright.ok l := by
  rw [Bool.eq_iff_iff, allF_iff]
  unfold bright.ok
  rw [List.all_eq_true]
  exact ⟨fun h i hi => h i (Nat.zero_le _) (by have := List.mem_range.1 hi; omega), fun h j _ hj => h j (List.mem_range.2 (by omega))⟩
/-- Whether a box is right. -/
def rightB (r : Int) (l : List S43) : Bool := decide (0 ≤ r ∧ r ≤ 64 ∧ (l.length : Int) ≤ r) && bright.ok l
theorem right_eq (r : Int) (l : List S43) (h : ∀ s ∈ l, 0 ≤ s.f0 ∧ s.f0 < 4294967296) : box_Right.f r l = some (rightB r l) := by
  unfold box_Right.f rightB
  have hu : bright.u32 l = true := by
    unfold bright.u32
    rw [List.all_eq_true]
    intro s hs
    have := h s hs
    simp; omega
  by_cases c1 : r < 0
  · rw [if_pos c1, show decide (0 ≤ r ∧ r ≤ 64 ∧ (l.length : Int) ≤ r) = false from decide_eq_false (by omega)]; rfl
  · rw [if_neg c1]
    by_cases c2 : r > 64
    · rw [if_pos c2, show decide (0 ≤ r ∧ r ≤ 64 ∧ (l.length : Int) ≤ r) = false from decide_eq_false (by omega)]; rfl
    · rw [if_neg c2]
      by_cases c3 : (l.length : Int) > r
      · rw [if_pos c3, show decide (0 ≤ r ∧ r ≤ 64 ∧ (l.length : Int) ≤ r) = false from decide_eq_false (by omega)]; rfl
      · rw [if_neg c3, if_pos hu, show decide (0 ≤ r ∧ r ≤ 64 ∧ (l.length : Int) ≤ r) = true from decide_eq_true (by omega)]; rfl
theorem rightB_iff (r : Int) (l : List S43) : rightB r l = true ↔ 0 ≤ r ∧ r ≤ 64 ∧ (l.length : Int) ≤ r ∧ bright.ok l = true := by
  unfold rightB
  simp only [Bool.and_eq_true, decide_eq_true_eq]
  exact ⟨fun ⟨⟨a, b, c⟩, d⟩ => ⟨a, b, c, d⟩, fun ⟨a, b, c, d⟩ => ⟨⟨a, b, c⟩, d⟩⟩
/-- Handles are there once, and words are no more than 64. -/
theorem ok_iff (l : List S43) : bright.ok l = true ↔ (∀ i j (hi : i < l.length) (hj : j < l.length), l[i].f0 = l[j].f0 → i = j) ∧ ∀ s ∈ l, s.f3.length ≤ 64 := by
  unfold bright.ok
  rw [List.all_eq_true]
  constructor
  · intro h
    have h' : ∀ i (hi : i < l.length), bright.seen l i = false ∧ bright.long l i = false := fun i hi => by
      have := h i (List.mem_range.2 hi); simpa using this
    refine ⟨fun i j hi hj e => ?_, fun s hs => ?_⟩
    · rcases Nat.lt_trichotomy i j with q | q | q
      · have := (h' j hj).1
        rw [(bright.seen_iff l j).2 ⟨i, q, by simp only; rw [rdS l i hi, rdS l j hj]; exact e⟩] at this; cases this
      · exact q
      · have := (h' i hi).1
        rw [(bright.seen_iff l i).2 ⟨j, q, by simp only; rw [rdS l i hi, rdS l j hj]; exact e.symm⟩] at this; cases this
    · obtain ⟨i, hi, rfl⟩ := List.getElem_of_mem hs
      have := (h' i hi).2
      unfold bright.long at this
      rw [rdS l i hi] at this
      have := of_decide_eq_false this; omega
  · rintro ⟨h1, h2⟩ i hi
    have hi := List.mem_range.1 hi
    have a : bright.seen l i = false := by
      cases e : bright.seen l i with
      | false => rfl
      | true =>
        obtain ⟨t, ht, q⟩ := (bright.seen_iff l i).1 e
        simp only at q
        rw [rdS l i hi, rdS l t (by omega)] at q
        have := h1 t i (by omega) hi q; omega
    have b : bright.long l i = false := by
      unfold bright.long
      rw [rdS l i hi]
      have := h2 _ (List.getElem_mem hi)
      exact decide_eq_false (by omega)
    rw [a, b]; rfl
theorem clone_eq (l : List Int) (h : l.length ≤ 100) : slices_Clone_uint32_uint32.f l = some l := by
  unfold slices_Clone_uint32_uint32.f
  rw [Option.bind_some, if_pos (by simp; omega)]; rfl
/-- What is sealed. -/
def sealS (r : Int) (l : List S43) (h ky lb : Int) (p : List Int) : Int × List S43 × Int := if 64 < p.length then (r, l, 3) else if there l h = true then (r, l, 8) else if r ≤ l.length then (r, l, 10) else (r, l ++ [⟨h, ky, lb, p⟩], 0)
theorem seal_eq (r : Int) (l : List S43) (h ky lb : Int) (p : List Int) (hr0 : 0 ≤ r) (hr : r ≤ 64) (hl : l.length ≤ 1000) : box_Seal.f r l h ky lb p = some (sealS r l h ky lb p) := by
  unfold box_Seal.f sealS
  by_cases c1 : 64 < p.length
  · rw [if_pos (by omega), if_pos c1]
  · rw [if_neg (by omega), if_neg c1]
    by_cases c2 : there l h = true
    · rw [if_pos ((pos_there l h).2 c2), if_pos c2]
    · rw [if_neg (fun q => c2 ((pos_there l h).1 q)), if_neg c2, w64 (by omega) (by omega)]
      by_cases c3 : r ≤ l.length
      · rw [if_pos (by omega), if_pos c3]
      · rw [if_neg (by omega), if_neg c3, if_pos (by omega)]
/-- What a handle, a key and a label open. -/
def openS (l : List S43) (ky lb h : Int) : List Int × Bool := match l.find? (fun s => s.f0 == h) with | some s => if s.f1 = ky ∧ s.f2 = lb then (s.f3, true) else ([], false) | none => ([], false)
theorem find_pos (l : List S43) (h : Int) : (bfind.pos h l < 0 ∧ l.find? (fun s => s.f0 == h) = none) ∨ (∃ i : Nat, bfind.pos h l = i ∧ i < l.length ∧ l.find? (fun s => s.f0 == h) = some (rd_T43 l i)) := by
  unfold bfind.pos
  by_cases c : l.findIdx (fun s => s.f0 == h) < l.length
  · rw [if_pos c]
    refine .inr ⟨_, rfl, c, ?_⟩
    rw [rdS l _ c]
    exact List.find?_eq_some_iff_getElem.2 ⟨(by have := List.findIdx_getElem (xs := l) (p := fun s : S43 => s.f0 == h) (w := c); exact this), _, c, rfl, fun j hj => by have := List.not_of_lt_findIdx hj; simpa using this⟩
  · rw [if_neg c]
    refine .inl ⟨by omega, ?_⟩
    rw [List.find?_eq_none]
    intro x hx q
    exact c (List.findIdx_lt_length.2 ⟨x, hx, q⟩)
theorem open_eq (r : Int) (l : List S43) (ky lb h : Int) (hs : ∀ s ∈ l, s.f3.length ≤ 100) : box_Open.f r l ky lb h = some (openS l ky lb h) := by
  unfold box_Open.f openS box_find.f
  rcases find_pos l h with ⟨h1, h2⟩ | ⟨i, h1, h2, h3⟩
  · rw [if_pos h1, h2, Option.bind_some, if_neg (by decide)]
  · rw [if_neg (by omega), h1, h3, Option.bind_some, if_pos rfl]
    have hm : (rd_T43 l (i : Int)).f3.length ≤ 100 := by rw [rdS l i h2]; exact hs _ (List.getElem_mem h2)
    by_cases c1 : (rd_T43 l (i : Int)).f1 = ky
    · rw [if_pos c1]
      by_cases c2 : (rd_T43 l (i : Int)).f2 = lb
      · rw [if_pos c2, clone_eq _ hm]
        simp [c1, c2]
      · rw [if_neg c2]; simp [c2]
    · rw [if_neg c1]; simp [c1]
theorem seal_len (r : Int) (l : List S43) (h ky lb : Int) (p : List Int) (hl : l.length ≤ 70) (hs : ∀ s ∈ l, s.f3.length ≤ 100) : (sealS r l h ky lb p).1 = r ∧ (sealS r l h ky lb p).2.1.length ≤ 71 ∧ ∀ s ∈ (sealS r l h ky lb p).2.1, s.f3.length ≤ 100 := by
  unfold sealS
  split
  · exact ⟨rfl, by show l.length ≤ 71; omega, hs⟩
  · split
    · exact ⟨rfl, by show l.length ≤ 71; omega, hs⟩
    · split
      · exact ⟨rfl, by show l.length ≤ 71; omega, hs⟩
      · refine ⟨rfl, by simp; omega, fun s q => ?_⟩
        rcases List.mem_append.1 q with q | q
        · exact hs s q
        · obtain rfl := List.mem_singleton.1 q
          show p.length ≤ 100; omega
theorem open_len (l : List S43) (ky lb h : Int) (hs : ∀ s ∈ l, s.f3.length ≤ 100) : (openS l ky lb h).1.length ≤ 100 := by
  unfold openS
  split
  · rename_i s e
    split
    · exact hs s (List.mem_of_find?_eq_some e)
    · simp
  · simp
theorem there_app (l : List S43) (s : S43) (h : Int) : there (l ++ [s]) h = (there l h || (s.f0 == h)) := by
  unfold there
  simp
theorem find_there (l : List S43) (h : Int) : (there l h = true ∧ ∃ x, l.find? (fun s => s.f0 == h) = some x ∧ x ∈ l ∧ x.f0 = h) ∨ (there l h = false ∧ l.find? (fun s => s.f0 == h) = none) := by
  unfold there
  cases e : l.find? (fun s => s.f0 == h) with
  | some x =>
    have h1 := List.mem_of_find?_eq_some e
    have h2 := List.find?_some e
    exact .inl ⟨List.any_eq_true.2 ⟨x, h1, h2⟩, x, rfl, h1, beq_iff_eq.1 h2⟩
  | none =>
    refine .inr ⟨?_, rfl⟩
    rw [List.find?_eq_none] at e
    rw [List.any_eq_false]
    exact e
theorem open_app (l : List S43) (s : S43) (ky lb h : Int) : openS (l ++ [s]) ky lb h = if there l h = true then openS l ky lb h else if s.f0 = h then (if s.f1 = ky ∧ s.f2 = lb then (s.f3, true) else ([], false)) else ([], false) := by
  unfold openS
  rw [List.find?_append]
  rcases find_there l h with ⟨h1, x, h2, _⟩ | ⟨h1, h2⟩
  · rw [h2, if_pos h1]; simp
  · rw [h2, h1, if_neg (by decide)]
    by_cases c : s.f0 = h
    · simp [c]
    · simp [c]
theorem open_none (l : List S43) (ky lb h : Int) (hn : there l h = false) : openS l ky lb h = ([], false) := by
  unfold openS
  rcases find_there l h with ⟨h1, _⟩ | ⟨_, h2⟩
  · rw [hn] at h1; cases h1
  · rw [h2]
theorem ok_app (l : List S43) (s : S43) (h1 : bright.ok l = true) (h2 : there l s.f0 = false) (h3 : s.f3.length ≤ 64) : bright.ok (l ++ [s]) = true := by
  obtain ⟨o1, o2⟩ := (ok_iff l).1 h1
  have hno : ∀ i (hi : i < l.length), l[i].f0 ≠ s.f0 := fun i hi q => by
    unfold there at h2
    rw [List.any_eq_false] at h2
    exact h2 _ (List.getElem_mem hi) (beq_iff_eq.2 q)
  rw [ok_iff]
  refine ⟨fun i j hi hj e => ?_, fun x hx => ?_⟩
  · rw [List.length_append, List.length_singleton] at hi hj
    rw [List.getElem_append, List.getElem_append] at e
    split at e
    · rename_i a
      split at e
      · rename_i b; exact o1 i j a b e
      · simp at e; exact absurd e (hno i a)
    · rename_i a
      split at e
      · rename_i b; simp at e; exact absurd e.symm (hno j b)
      · rename_i b; omega
  · rcases List.mem_append.1 hx with q | q
    · exact o2 x q
    · obtain rfl := List.mem_singleton.1 q; exact h3
/-- What is sealed at a place. -/
def ent (ks : List Int) (t : Nat) : S43 := ⟨100 + (t : Int), rd ks (t : Int), ((t % 3 : Nat) : Int), [(t : Int)]⟩
def row (ks : List Int) (m : Nat) : List S43 := (List.range m).map (ent ks)
theorem row_len (ks : List Int) (m : Nat) : (row ks m).length = m := by simp [row]
theorem row_succ (ks : List Int) (m : Nat) : row ks (m + 1) = row ks m ++ [ent ks m] := by simp [row, List.range_succ]
theorem row_small (ks : List Int) (m : Nat) : ∀ s ∈ row ks m, s.f3.length ≤ 100 := by
  intro s hs
  obtain ⟨t, _, rfl⟩ := List.mem_map.1 hs
  simp [ent]
theorem row_find (ks : List Int) (h : Int) : ∀ m : Nat, (row ks m).find? (fun s => s.f0 == h) = if 100 ≤ h ∧ h < 100 + (m : Int) then some (ent ks (h - 100).toNat) else none := by
  intro m
  induction m with
  | zero => rw [if_neg (by omega)]; rfl
  | succ m ih =>
    rw [row_succ, List.find?_append, ih]
    by_cases c : 100 ≤ h ∧ h < 100 + (m : Int)
    · rw [if_pos c, if_pos (by omega)]; rfl
    · rw [if_neg c]
      by_cases e : 100 + (m : Int) = h
      · rw [if_pos (by omega), show (h - 100).toNat = m by omega]
        simp [ent, e]
      · rw [if_neg (by omega)]
        simp [ent, e]
theorem row_there (ks : List Int) (h : Int) (m : Nat) (hn : ¬ (100 ≤ h ∧ h < 100 + (m : Int))) : there (row ks m) h = false := by
  rcases find_there (row ks m) h with ⟨_, x, hx, _⟩ | ⟨h1, _⟩
  · rw [row_find, if_neg hn] at hx; cases hx
  · exact h1
theorem tm3 (i : Nat) : (Int.tmod (i : Int) 3) % 4294967296 = ((i % 3 : Nat) : Int) := by
  rw [Int.tmod_eq_emod_of_nonneg (by omega)]; omega
theorem many_l0 (ks : List Int) (hd ky : Int) (R : Nat) (hR : R ≤ 64) (hn : ks.length ≤ 70) (k : Nat) : ∀ (d i : Nat), ks.length - i = d → i ≤ ks.length → chamberlainlaw07_BoxMany.l0 (k + d + 1) ks hd ky (i : Int) (R : Int) (row ks (min i R)) = chamberlainlaw07_BoxMany.l1 k ks hd ky 0 (R : Int) (row ks (min ks.length R)) := by
  intro d
  induction d with
  | zero =>
    intro i h1 h2
    obtain rfl : i = ks.length := by omega
    rw [Nat.add_zero, chamberlainlaw07_BoxMany.l0, if_neg (by omega)]
  | succ d ih =>
    intro i h1 h2
    have hi : i < ks.length := by omega
    have ih := ih (i + 1) (by omega) (by omega)
    rw [show k + (d + 1) + 1 = (k + d + 1) + 1 by omega, chamberlainlaw07_BoxMany.l0, if_pos (by omega), if_pos (by omega), w64 (by omega) (by omega), show (100 + (i : Int)) % 4294967296 = 100 + (i : Int) by omega, tm3, show (i : Int) % 4294967296 = (i : Int) by omega, w64 (by omega) (by omega), show (i : Int) + 1 = ((i + 1 : Nat) : Int) by omega,
      seal_eq _ _ _ _ _ _ (by omega) (by omega) (by rw [row_len]; omega), Option.bind_some]
    by_cases c : i < R
    · have e : sealS (R : Int) (row ks (min i R)) (100 + (i : Int)) (rd ks (i : Int)) ((i % 3 : Nat) : Int) [(i : Int)] = ((R : Int), row ks (min (i + 1) R), 0) := by
        unfold sealS
        rw [if_neg (by simp), row_there ks _ _ (by omega), if_neg (by decide), if_neg (by rw [row_len]; omega), show min (i + 1) R = min i R + 1 by omega, row_succ, show min i R = i by omega]
        rfl
      rw [e, if_neg (by simp; omega), ih]
    · have e : sealS (R : Int) (row ks (min i R)) (100 + (i : Int)) (rd ks (i : Int)) ((i % 3 : Nat) : Int) [(i : Int)] = ((R : Int), row ks (min (i + 1) R), 10) := by
        unfold sealS
        rw [if_neg (by simp), row_there ks _ _ (by omega), if_neg (by decide), if_pos (by rw [row_len]; omega), show min (i + 1) R = min i R by omega]
      rw [e, if_neg (by simp; omega), ih]
theorem many_l1 (ks : List Int) (hd ky : Int) (R : Nat) (_hR : R ≤ 64) (hn : ks.length ≤ 70) (hh : 0 ≤ hd ∧ hd < 4294967296) : ∀ (d k i : Nat), ks.length - i = d → i ≤ ks.length → d + 100 < k → chamberlainlaw07_BoxMany.l1 k ks hd ky (i : Int) (R : Int) (row ks (min ks.length R)) = some true := by
  intro d
  induction d with
  | zero =>
    intro k i h1 h2 h3
    obtain ⟨k, rfl⟩ : ∃ m, k = m + 1 := ⟨k - 1, by omega⟩
    obtain rfl : i = ks.length := by omega
    rw [chamberlainlaw07_BoxMany.l1, if_neg (by omega), open_eq _ _ _ _ _ (row_small ks _), Option.bind_some]
    by_cases c : 100 ≤ hd ∧ hd < 100 + ((min ks.length R : Nat) : Int)
    · have et : ((hd - 100).toNat : Int) = hd - 100 := by omega
      by_cases c2 : (ent ks (hd - 100).toNat).f1 = ky ∧ (ent ks (hd - 100).toNat).f2 = 1
      · have eo : openS (row ks (min ks.length R)) ky 1 hd = ([((hd - 100).toNat : Int)], true) := by
          unfold openS
          rw [row_find, if_pos c]
          exact if_pos c2
        obtain ⟨c3, c4⟩ := c2
        have w1 : wrap64 (wrap64 hd - 100) = hd - 100 := by rw [w64 (x := hd) (by omega) (by omega), w64 (by omega) (by omega)]
        simp only [ent] at c3 c4
        rw [et] at c3
        rw [eo, if_pos rfl, w1, if_pos (by omega), if_pos (by omega), if_pos (by omega), if_pos (by omega), if_pos c3, Int.tmod_eq_emod_of_nonneg (by omega)]
        have : (hd - 100) % 3 = 1 := by omega
        rw [this]; rfl
      · have eo : openS (row ks (min ks.length R)) ky 1 hd = ([], false) := by
          unfold openS
          rw [row_find, if_pos c]
          exact if_neg c2
        rw [eo]; rfl
    · have eo : openS (row ks (min ks.length R)) ky 1 hd = ([], false) := by
        unfold openS
        rw [row_find, if_neg c]
      rw [eo]; rfl
  | succ d ih =>
    intro k i h1 h2 h3
    obtain ⟨k, rfl⟩ : ∃ m, k = m + 1 := ⟨k - 1, by omega⟩
    have hi : i < ks.length := by omega
    have ih := ih k (i + 1) (by omega) (by omega) (by omega)
    rw [chamberlainlaw07_BoxMany.l1, if_pos (by omega), if_pos (by omega), w64 (by omega) (by omega), show (100 + (i : Int)) % 4294967296 = 100 + (i : Int) by omega, tm3, show (i : Int) % 4294967296 = (i : Int) by omega, w64 (by omega) (by omega), show (i : Int) + 1 = ((i + 1 : Nat) : Int) by omega,
      open_eq _ _ _ _ _ (row_small ks _), Option.bind_some]
    have eo : openS (row ks (min ks.length R)) (rd ks (i : Int)) ((i % 3 : Nat) : Int) (100 + (i : Int)) = if i < R then ([(i : Int)], true) else ([], false) := by
      unfold openS
      rw [row_find]
      by_cases c : i < R
      · rw [if_pos (by omega), if_pos c, show (100 + (i : Int) - 100).toNat = i by omega]
        simp [ent]
      · rw [if_neg (by omega), if_neg c]
    rw [eo]
    by_cases c : i < R
    · rw [if_pos c, if_neg (by simp; omega), if_pos rfl, rsame_eq _ _ _ (by simp) (by simp; omega), Option.bind_some, if_pos (by simp), ih]
    · rw [if_neg c, if_neg (by simp; omega), if_neg (by decide), ih]
theorem BoxMany : chamberlainlaw07_BoxMany.Pure := by
  intro a0 ks hd ky ha _ _ _ hh _
  have ha := wf8 ha
  have hh := wf32 hh
  obtain ⟨k, hk⟩ : ∃ k, k = 20000 := ⟨_, rfl⟩
  by_cases c1 : (ks.length : Int) > 70
  · refine ⟨k + 2, ?_⟩
    unfold chamberlainlaw07_BoxMany.f
    rw [awake60 _ (by omega), Option.bind_some, if_pos rfl, show decide ((ks.length : Int) > 70) = true from decide_eq_true c1, chamberlainlaw07_BoxMany.j0, if_pos rfl, awake60 _ (by omega)]
    rfl
  · refine ⟨k + ks.length + 2, ?_⟩
    unfold chamberlainlaw07_BoxMany.f
    rw [awake60 _ (by omega), Option.bind_some, if_pos rfl, show decide ((ks.length : Int) > 70) = false from decide_eq_false c1, show k + ks.length + 2 = (k + ks.length + 1) + 1 by omega, chamberlainlaw07_BoxMany.j0, if_neg (by decide), w64 (by omega) (by omega), Int.tmod_eq_emod_of_nonneg (by omega)]
    have h0 := many_l0 ks hd ky (a0 % 65).toNat (by omega) (by omega) k ks.length 0 (by omega) (by omega)
    rw [show (((a0 % 65).toNat : Nat) : Int) = a0 % 65 by omega] at h0
    simp only [Nat.zero_min, Int.natCast_zero] at h0
    have h1 := many_l1 ks hd ky (a0 % 65).toNat (by omega) (by omega) hh ks.length k 0 (by omega) (by omega) (by omega)
    rw [show (((a0 % 65).toNat : Nat) : Int) = a0 % 65 by omega] at h1
    simp only [Int.natCast_zero] at h1
    exact h0.trans h1

end Go.Proofs.Ytifdlpnpbicahaa.Pure
