/- The pure lemmas of the lower layers, for the law AdvAlone. -/
import Derived.Test.YthlcpbendleihaaAAdvAlone12
namespace Go.Proofs.Ythlcpbendleihaa.Pure
open Go Go.RowKit Go.Proofs.Ythlcpbendleihaa.PAdvAlone Go.Proofs.YthlcpbendleihaaW.PrintWords Go.Proofs.YthlcpbendleihaaW.PrintLast Go.Proofs.YthlcpbendleihaaW.PrintMore
set_option linter.unusedVariables false
set_option linter.unusedSimpArgs false
theorem wf32 {x : Int} (h : (Lit.int .u32 x).wf = true) : 0 ≤ x ∧ x < 4294967296 := by
 simp only [Lit.wf, IntKind.min, IntKind.max, IntKind.signed, IntKind.bits, Bool.and_eq_true] at h
 simp at h
 omega
theorem w64 {x : Int} (h1 : -9223372036854775808 ≤ x) (h2 : x ≤ 9223372036854775807) : wrap64 x = x := by
 unfold wrap64
 omega
theorem rd_nat (xs : List Int) (i : Nat) (h : i < xs.length) : rd xs (i : Int) = xs[i] := by
 unfold rd
 simp [List.getD_eq_getElem?_getD, h]
/-- From place i on, n places: does p hold of all? -/
def allF (p : Nat → Bool) : Nat → Nat → Bool
 | 0, _ => true
 | n + 1, i => p i && allF p n (i + 1)
theorem allF_iff (p : Nat → Bool) (n i : Nat) : allF p n i = true ↔ ∀ j, i ≤ j → j < i + n → p j = true := by
 induction n generalizing i with
 | zero => simp [allF]; intro j h1 h2; omega
 | succ n ih =>
  simp only [allF, Bool.and_eq_true, ih]
  constructor
  ·
   rintro ⟨h0, h⟩ j h1 h2
   by_cases e : j = i
   ·
    subst e; exact h0
   ·
    exact h j (by omega) (by omega)
  ·
   intro h
   exact ⟨h i (by omega) (by omega), fun j h1 h2 => h j (by omega) (by omega)⟩
/-- The first place from i on, of n, of which p holds. -/
def fnd (p : Nat → Bool) : Nat → Nat → Option Nat
 | 0, _ => none
 | n + 1, i => if p i = true then some i else fnd p n (i + 1)
theorem rows_eq (a b : List Int) (h : a.length = b.length) : allF (fun i => decide (rd a (i : Int) = rd b (i : Int))) a.length 0 = decide (a = b) := by
 rw [Bool.eq_iff_iff, allF_iff]
 simp only [decide_eq_true_eq]
 constructor
 ·
  intro H
  apply List.ext_getElem h
  intro i h1 h2
  have := H i (by omega) (by omega)
  rw [rd_nat a i h1, rd_nat b i h2] at this
  exact this
 ·
  intro e j _ _
  rw [e]
/-- A loop that asks place by place. -/
theorem all_loop (f : Nat → Nat → Option Bool) (n : Nat) (p : Nat → Bool) (h : ∀ k i, i ≤ n → f (k + 1) i = if i < n then (if p i = true then f k (i + 1) else some false) else some true) :
  ∀ (d k i : Nat), n - i = d → i ≤ n → d < k → f k i = some (allF p d i) := by
 intro d
 induction d with
 | zero =>
  intro k i h1 h2 h3
  obtain ⟨k, rfl⟩ : ∃ m, k = m + 1 := ⟨k - 1, by omega⟩
  rw [h k i h2, if_neg (by omega)]; rfl
 | succ d ih =>
  intro k i h1 h2 h3
  obtain ⟨k, rfl⟩ : ∃ m, k = m + 1 := ⟨k - 1, by omega⟩
  rw [h k i h2, if_pos (by omega)]
  simp only [allF]
  cases e : p i with
  | true => rw [if_pos rfl, ih k (i + 1) (by omega) (by omega) (by omega)]; simp
  | false => simp
theorem wraps_u32 (n : Int) (h₀ : 0 ≤ n) (h₁ : n < 2 ^ 32) : IntKind.u32.wrap n = n := by rw [IntKind.wrap_u32]; omega
theorem bits_or (x : Int) (h : 0 ≤ x ∧ x < 4294967296) : Go.bits .or .u32 x 2147483648 = if x < 2147483648 then x + 2147483648 else x := by
 obtain ⟨n, rfl⟩ : ∃ n : Nat, x = (n : Int) := ⟨x.toNat, by omega⟩
 have hb := (bits_nat .u32 32 (by decide) wraps_u32 n 2147483648 (by omega) (by decide)).2
 have e : ((2147483648 : Nat) : Int) = 2147483648 := rfl
 rw [e] at hb
 rw [hb]
 by_cases c : n < 2147483648
 ·
  rw [if_pos (by omega)]
  have h1 := Nat.two_pow_add_eq_or_of_lt (i := 31) (b := n) (by omega) 1
  have h2 : n ||| 2147483648 = 2147483648 + n := by rw [Nat.or_comm]; exact h1.symm
  omega
 ·
  rw [if_neg (by omega)]
  have h1 := Nat.two_pow_add_eq_or_of_lt (i := 31) (b := n - 2147483648) (by omega) 1
  have h3 : n = 2147483648 ||| (n - 2147483648) := by
   have : 2 ^ 31 * 1 + (n - 2147483648) = n := by omega
   rw [this] at h1; exact h1
  have h2 : n ||| 2147483648 = n := by
   rw [Nat.or_comm, h3, ← Nat.or_assoc, Nat.or_self]
  rw [h2]
theorem draw_eq (x : Int) (h : 0 ≤ x ∧ x < 4294967296) : word_Draw.f x = some (if x < 2147483648 then x + 2147483648 else x) := by
 unfold word_Draw.f
 rw [bits_or x h]
theorem rsame_eq (a b : List Int) (k : Nat) (hb : a.length ≤ 4611686018427387904) (hk : a.length < k) : chamberlainref01_Same.f k a b = some (decide (a = b)) := by
 unfold chamberlainref01_Same.f
 by_cases hl : a.length = b.length
 ·
  rw [if_pos (by omega)]
  have h := all_loop (fun k i => chamberlainref01_Same.l0 k a b (i : Int)) a.length (fun i => decide (rd a (i : Int) = rd b (i : Int))) (by
   intro k i hi
   simp only [chamberlainref01_Same.l0]
   by_cases c : i < a.length
   ·
    rw [if_pos (by omega), if_pos (by omega), if_pos (by omega), if_pos c, w64 (by omega) (by omega)]
    simp
   ·
    rw [if_neg (by omega), if_neg c]) a.length k 0 (by omega) (by omega) (by omega)
  simp only [Int.natCast_zero] at h
  rw [h, rows_eq a b hl]
 ·
  rw [if_neg (by omega)]
  congr 1
  symm
  apply decide_eq_false
  intro e
  exact hl (by rw [e])
namespace pb
theorem bright.rd_get (l : List S92) (n : Nat) (hn : n < l.length) : rd_T92 l (n : Int) = l[n] := by
 unfold rd_T92
 rw [Int.toNat_natCast, List.getD_eq_getElem?_getD, List.getElem?_eq_getElem hn]
 rfl
/-- Whether the entry at i is one too many: its handle was there, or its words are too many. -/
def bright.seen (l : List S92) (i : Nat) : Bool := (List.range i).any (fun t => (rd_T92 l t).f0 == (rd_T92 l i).f0)
def bright.long (l : List S92) (i : Nat) : Bool := decide (64 < ((rd_T92 l i).f3.length : Int))
def bright.ok (l : List S92) : Bool := (List.range l.length).all (fun i => !bright.seen l i && !bright.long l i)
theorem bright.seen_iff (l : List S92) (i : Nat) : bright.seen l i = true ↔ ∃ t : Nat, t < i ∧ (fun j : Nat => (rd_T92 l j).f0) t = (rd_T92 l i).f0 := by
 unfold bright.seen
 rw [List.any_eq_true]
 constructor
 ·
  rintro ⟨t, h1, h2⟩; exact ⟨t, List.mem_range.1 h1, by simpa using h2⟩
 ·
  rintro ⟨t, h1, h2⟩; exact ⟨t, List.mem_range.2 h1, by simpa using h2⟩
def bright.u32 (l : List S92) : Bool := l.all (fun s => decide (0 ≤ s.f0) && decide (s.f0 < 4294967296))
theorem bright.wf (l : List S92) (h : bright.u32 l = true) (i : Nat) (hi : i < l.length) : (Lit.int .u32 (rd_T92 l i).f0).wf = true := by
 unfold bright.u32 at h
 have := List.all_eq_true.1 h l[i] (List.getElem_mem hi)
 simp at this
 rw [bright.rd_get l i hi]
 simp only [Lit.wf, IntKind.min, IntKind.max, IntKind.signed, IntKind.bits, Bool.and_eq_true]
 simp
 omega
theorem rdS (l : List S92) (i : Nat) (h : i < l.length) : rd_T92 l (i : Int) = l[i] := bfind.rd_get l i h
/-- A small box's words. -/
def small (s : S92) : Prop := s.f3.length ≤ 100
theorem few_loop (r : Int) (l : List S92) (hl : l.length ≤ 9223372036854775807) : ∀ (d k i : Nat), 100 - i = d → i ≤ 100 → 2 * d + 2 ≤ k → ∃ b, chamberlainref07_Few.l0 k (i : Int) r l = some b ∧ (b = true → l.length ≤ 70 ∧ ∀ j (hj : j < l.length), i ≤ j → j < 100 → small l[j]) := by
 intro d
 induction d with
 | zero =>
  intro k i h1 h2 h3
  obtain ⟨k, rfl⟩ : ∃ m, k = m + 2 := ⟨k - 2, by omega⟩
  refine ⟨decide (l.length ≤ 70), ?_, fun h => ⟨of_decide_eq_true h, fun j hj h1 h2 => by omega⟩⟩
  rw [chamberlainref07_Few.l0]
  have e : decide ((l.length : Int) ≤ 70) = decide (l.length ≤ 70) := by rw [Bool.eq_iff_iff]; simp; omega
  by_cases c : (i : Int) < (l.length : Int)
  ·
   rw [if_pos c, show decide ((i : Int) < 100) = false from decide_eq_false (by omega), chamberlainref07_Few.j1, if_neg (by decide), e]
  ·
   rw [if_neg c, chamberlainref07_Few.j1, if_neg (by decide), e]
 | succ d ih =>
  intro k i h1 h2 h3
  obtain ⟨k, rfl⟩ : ∃ m, k = m + 2 := ⟨k - 2, by omega⟩
  have e : decide ((l.length : Int) ≤ 70) = decide (l.length ≤ 70) := by rw [Bool.eq_iff_iff]; simp; omega
  rw [chamberlainref07_Few.l0]
  by_cases c : i < l.length
  ·
   rw [if_pos (by omega), show decide ((i : Int) < 100) = true from decide_eq_true (by omega), chamberlainref07_Few.j1, if_pos rfl, if_pos (by omega), if_pos (by omega), rdS l i c]
   by_cases g : (l[i].f3.length : Int) > 100
   ·
    rw [if_pos g]
    exact ⟨false, rfl, fun h => by cases h⟩
   ·
    rw [if_neg g, w64 (by omega) (by omega), show (i : Int) + 1 = ((i + 1 : Nat) : Int) by omega]
    obtain ⟨b, hb, hs⟩ := ih k (i + 1) (by omega) (by omega) (by omega)
    refine ⟨b, hb, fun h => ⟨(hs h).1, fun j hj h1 h2 => ?_⟩⟩
    rcases Nat.lt_or_ge i j with q | q
    ·
     exact (hs h).2 j hj q h2
    ·
     obtain rfl : j = i := by omega
     unfold small; omega
  ·
   rw [if_neg (by omega), chamberlainref07_Few.j1, if_neg (by decide), e]
   exact ⟨_, rfl, fun h => ⟨of_decide_eq_true h, fun j hj h1 h2 => by omega⟩⟩
theorem few_some (r : Int) (l : List S92) (k : Nat) (hl : l.length ≤ 9223372036854775807) (hk : 300 ≤ k) : ∃ b, chamberlainref07_Few.f k r l = some b ∧ (b = true → l.length ≤ 70 ∧ ∀ s ∈ l, small s) := by
 unfold chamberlainref07_Few.f
 obtain ⟨b, hb, hs⟩ := few_loop r l hl 100 k 0 rfl (by omega) (by omega)
 refine ⟨b, hb, fun h => ⟨(hs h).1, fun s hm => ?_⟩⟩
 obtain ⟨j, hj, rfl⟩ := List.getElem_of_mem hm
 exact (hs h).2 j hj (Nat.zero_le _) (by have := (hs h).1; omega)
/-- Is there an entry of a handle? -/
def there (l : List S92) (h : Int) : Bool := l.any (fun s => s.f0 == h)
theorem there_loop (l : List S92) (h r : Int) (hl : l.length ≤ 4611686018427387904) : ∀ (d k i : Nat), l.length - i = d → i ≤ l.length → d < k → chamberlainref07_There.l0 k h (i : Int) r l = some ((l.drop i).any (fun s => s.f0 == h)) := by
 intro d
 induction d with
 | zero =>
  intro k i h1 h2 h3
  obtain ⟨k, rfl⟩ : ∃ m, k = m + 1 := ⟨k - 1, by omega⟩
  rw [chamberlainref07_There.l0, if_neg (by omega), List.drop_eq_nil_of_le (by omega)]
  rfl
 | succ d ih =>
  intro k i h1 h2 h3
  obtain ⟨k, rfl⟩ : ∃ m, k = m + 1 := ⟨k - 1, by omega⟩
  have hi : i < l.length := by omega
  rw [chamberlainref07_There.l0, if_pos (by omega), if_pos (by omega), rdS l i hi, List.drop_eq_getElem_cons hi, List.any_cons]
  by_cases c : l[i].f0 = h
  ·
   rw [if_pos c, show (l[i].f0 == h) = true from beq_iff_eq.2 c]; rfl
  ·
   rw [if_neg c, w64 (by omega) (by omega), show (i : Int) + 1 = ((i + 1 : Nat) : Int) by omega, ih k (i + 1) (by omega) (by omega) (by omega), show (l[i].f0 == h) = false from beq_eq_false_iff_ne.2 c, Bool.false_or]
theorem there_eq (l : List S92) (h r : Int) (k : Nat) (hl : l.length ≤ 4611686018427387904) (hk : l.length < k) : chamberlainref07_There.f k r l h = some (there l h) := by
 unfold chamberlainref07_There.f
 have := there_loop l h r hl l.length k 0 (by omega) (by omega) hk
 simp only [Int.natCast_zero, List.drop_zero] at this
 exact this
theorem pos_there (l : List S92) (h : Int) : (0 ≤ bfind.pos h l) ↔ there l h = true := by
 unfold bfind.pos there
 rw [List.any_eq_true]
 constructor
 ·
  intro q
  split at q
  ·
   rename_i c
   rw [List.findIdx_lt_length] at c
   exact c
  ·
   omega
 ·
  intro q
  rw [if_pos (List.findIdx_lt_length.2 q)]
  omega
theorem seen_take (l : List S92) (i : Nat) (hi : i < l.length) : there (l.take i) (rd_T92 l i).f0 = bright.seen l i := by
 rw [Bool.eq_iff_iff, bright.seen_iff]
 unfold there
 rw [List.any_eq_true]
 constructor
 ·
  rintro ⟨s, hs, e⟩
  obtain ⟨t, ht, rfl⟩ := List.getElem_of_mem hs
  rw [List.length_take] at ht
  refine ⟨t, by omega, ?_⟩
  simp only [List.getElem_take] at e
  have := rdS l t (by omega)
  show (rd_T92 l (t : Int)).f0 = _
  rw [this]; exact beq_iff_eq.1 e
 ·
  rintro ⟨t, ht, e⟩
  refine ⟨l[t]'(by omega), ?_, ?_⟩
  ·
   rw [List.mem_take_iff_getElem]; exact ⟨t, by omega, rfl⟩
  ·
   have := rdS l t (by omega)
   simp only at e
   rw [this] at e
   exact beq_iff_eq.2 e
theorem rright_loop (l : List S92) (r : Int) (hl : l.length ≤ 4611686018427387904) : ∀ (d k i : Nat), l.length - i = d → i ≤ l.length → l.length + d < k → chamberlainref07_Right.l0 k (i : Int) r l = some (allF (fun i => !bright.seen l i && !bright.long l i) d i) := by
 intro d
 induction d with
 | zero =>
  intro k i h1 h2 h3
  obtain ⟨k, rfl⟩ : ∃ m, k = m + 1 := ⟨k - 1, by omega⟩
  rw [chamberlainref07_Right.l0, if_neg (by omega)]; rfl
 | succ d ih =>
  intro k i h1 h2 h3
  obtain ⟨k, rfl⟩ : ∃ m, k = m + 1 := ⟨k - 1, by omega⟩
  have hi : i < l.length := by omega
  rw [chamberlainref07_Right.l0, if_pos (by omega), if_pos (by omega)]
  simp only [allF]
  by_cases g : ((rd_T92 l (i : Int)).f3.length : Int) > 64
  ·
   rw [if_pos g, show bright.long l i = true from decide_eq_true g]; simp
  ·
   rw [if_neg g, if_pos (by omega), Int.toNat_natCast, there_eq _ _ _ _ (by rw [List.length_take]; omega) (by rw [List.length_take]; omega), Option.bind_some, seen_take l i hi, show bright.long l i = false from decide_eq_false g]
   cases e : bright.seen l i with
   | true => simp
   | false => rw [if_neg (by simp), w64 (by omega) (by omega), show (i : Int) + 1 = ((i + 1 : Nat) : Int) by omega, ih k (i + 1) (by omega) (by omega) (by omega)]; simp
theorem ok_allF (l : List S92) : allF (fun i => !bright.seen l i && !bright.long l i) l.length 0 = bright.ok l := by
 rw [Bool.eq_iff_iff, allF_iff]
 unfold bright.ok
 rw [List.all_eq_true]
 exact ⟨fun h i hi => h i (Nat.zero_le _) (by have := List.mem_range.1 hi; omega), fun h j _ hj => h j (List.mem_range.2 (by omega))⟩
/-- Whether a box is right. -/
def rightB (r : Int) (l : List S92) : Bool := decide (0 ≤ r ∧ r ≤ 64 ∧ (l.length : Int) ≤ r) && bright.ok l
theorem rright_eq (r : Int) (l : List S92) (k : Nat) (hl : l.length ≤ 4611686018427387904) (hk : 2 * l.length + 3 < k) : chamberlainref07_Right.f k r l = some (rightB r l) := by
 obtain ⟨k, rfl⟩ : ∃ m, k = m + 1 := ⟨k - 1, by omega⟩
 unfold chamberlainref07_Right.f rightB
 have hloop := rright_loop l r hl l.length k 0 (by omega) (by omega) (by omega)
 rw [ok_allF] at hloop
 simp only [Int.natCast_zero] at hloop
 by_cases c1 : r < 0
 ·
  rw [if_pos c1, chamberlainref07_Right.j0, if_pos rfl, show decide (0 ≤ r ∧ r ≤ 64 ∧ (l.length : Int) ≤ r) = false from decide_eq_false (by omega)]; rfl
 ·
  rw [if_neg c1]
  by_cases c2 : r > 64
  ·
   rw [if_pos c2, chamberlainref07_Right.j0, if_pos rfl, show decide (0 ≤ r ∧ r ≤ 64 ∧ (l.length : Int) ≤ r) = false from decide_eq_false (by omega)]; rfl
  ·
   rw [if_neg c2, chamberlainref07_Right.j0]
   by_cases c3 : (l.length : Int) > r
   ·
    rw [show decide ((l.length : Int) > r) = true from decide_eq_true c3, if_pos rfl, show decide (0 ≤ r ∧ r ≤ 64 ∧ (l.length : Int) ≤ r) = false from decide_eq_false (by omega)]; rfl
   ·
    rw [show decide ((l.length : Int) > r) = false from decide_eq_false c3, if_neg (by decide), hloop, show decide (0 ≤ r ∧ r ≤ 64 ∧ (l.length : Int) ≤ r) = true from decide_eq_true (by omega)]; rfl
theorem rightB_iff (r : Int) (l : List S92) : rightB r l = true ↔ 0 ≤ r ∧ r ≤ 64 ∧ (l.length : Int) ≤ r ∧ bright.ok l = true := by
 unfold rightB
 simp only [Bool.and_eq_true, decide_eq_true_eq]
 exact ⟨fun ⟨⟨a, b, c⟩, d⟩ => ⟨a, b, c, d⟩, fun ⟨a, b, c, d⟩ => ⟨⟨a, b, c⟩, d⟩⟩
theorem clone_eq (l : List Int) (h : l.length ≤ 100) : slices_Clone_uint32_uint32_61.f l = some l := by
 unfold slices_Clone_uint32_uint32_61.f
 rw [Option.bind_some, if_pos (by simp; omega)]; rfl
/-- What is sealed. -/
def sealS (r : Int) (l : List S92) (h ky lb : Int) (p : List Int) : Int × List S92 × Int := if 64 < p.length then (r, l, 3) else if there l h = true then (r, l, 8) else if r ≤ l.length then (r, l, 10) else (r, l ++ [⟨h, ky, lb, p⟩], 0)
theorem seal_eq (r : Int) (l : List S92) (h ky lb : Int) (p : List Int) (hr0 : 0 ≤ r) (hr : r ≤ 64) (hl : l.length ≤ 1000) : box_Seal.f r l h ky lb p = some (sealS r l h ky lb p) := by
 unfold box_Seal.f sealS
 by_cases c1 : 64 < p.length
 ·
  rw [if_pos (by omega), if_pos c1]
 ·
  rw [if_neg (by omega), if_neg c1]
  by_cases c2 : there l h = true
  ·
   rw [if_pos ((pos_there l h).2 c2), if_pos c2]
  ·
   rw [if_neg (fun q => c2 ((pos_there l h).1 q)), if_neg c2, w64 (by omega) (by omega)]
   by_cases c3 : r ≤ l.length
   ·
    rw [if_pos (by omega), if_pos c3]
   ·
    rw [if_neg (by omega), if_neg c3, if_pos (by omega)]
/-- What a handle, a key and a label open. -/
def openS (l : List S92) (ky lb h : Int) : List Int × Bool := match l.find? (fun s => s.f0 == h) with | some s => if s.f1 = ky ∧ s.f2 = lb then (s.f3, true) else ([], false) | none => ([], false)
theorem find_pos (l : List S92) (h : Int) : (bfind.pos h l < 0 ∧ l.find? (fun s => s.f0 == h) = none) ∨ (∃ i : Nat, bfind.pos h l = i ∧ i < l.length ∧ l.find? (fun s => s.f0 == h) = some (rd_T92 l i)) := by
 unfold bfind.pos
 by_cases c : l.findIdx (fun s => s.f0 == h) < l.length
 ·
  rw [if_pos c]
  refine .inr ⟨_, rfl, c, ?_⟩
  rw [rdS l _ c]
  exact List.find?_eq_some_iff_getElem.2 ⟨(by have := List.findIdx_getElem (xs := l) (p := fun s : S92 => s.f0 == h) (w := c); exact this), _, c, rfl, fun j hj => by have := List.not_of_lt_findIdx hj; simpa using this⟩
 ·
  rw [if_neg c]
  refine .inl ⟨by omega, ?_⟩
  rw [List.find?_eq_none]
  intro x hx q
  exact c (List.findIdx_lt_length.2 ⟨x, hx, q⟩)
theorem open_eq (r : Int) (l : List S92) (ky lb h : Int) (hs : ∀ s ∈ l, s.f3.length ≤ 100) : box_Open.f r l ky lb h = some (openS l ky lb h) := by
 unfold box_Open.f openS box_find.f
 rcases find_pos l h with ⟨h1, h2⟩ | ⟨i, h1, h2, h3⟩
 ·
  rw [if_pos h1, h2, Option.bind_some, if_neg (by decide)]
 ·
  rw [if_neg (by omega), h1, h3, Option.bind_some, if_pos rfl]
  have hm : (rd_T92 l (i : Int)).f3.length ≤ 100 := by rw [rdS l i h2]; exact hs _ (List.getElem_mem h2)
  by_cases c1 : (rd_T92 l (i : Int)).f1 = ky
  ·
   rw [if_pos c1]
   by_cases c2 : (rd_T92 l (i : Int)).f2 = lb
   ·
    rw [if_pos c2, clone_eq _ hm]
    simp [c1, c2]
   ·
    rw [if_neg c2]; simp [c2]
  ·
   rw [if_neg c1]; simp [c1]
end pb
namespace pn
theorem rdS (l : List S94) (i : Nat) (h : i < l.length) : rd_T94 l (i : Int) = l[i] := by
 unfold rd_T94
 simp [List.getD_eq_getElem?_getD, h]
theorem rdL (l : List (List Int)) (i : Nat) (h : i < l.length) : rd_L1 l (i : Int) = l[i] := by
 unfold rd_L1
 simp [List.getD_eq_getElem?_getD, h]
/-- The rows of a small net. -/
structure Few (l : List S94) (s : List (List Int)) : Prop where
 lg : l.length ≤ 64
 ls : s.length ≤ 300
 wg : ∀ x ∈ l, x.f1.length ≤ 100
 ws : ∀ x ∈ s, x.length ≤ 100
theorem few_seen (a : Int) (l : List S94) (s : List (List Int)) (hl : s.length ≤ 9223372036854775807) : ∀ (d k i : Nat), 400 - i = d → i ≤ 400 → 2 * d + 2 ≤ k → ∃ b, chamberlainref06_Few.l1 k (i : Int) a l s = some b ∧ (b = true → l.length ≤ 64 ∧ s.length ≤ 300 ∧ ∀ j (hj : j < s.length), i ≤ j → j < 400 → s[j].length ≤ 100) := by
 intro d
 have e : (if (l.length : Int) ≤ 64 then (some (decide ((s.length : Int) ≤ 300))) else (some false)) = some (decide (l.length ≤ 64) && decide (s.length ≤ 300)) := by
  by_cases c : l.length ≤ 64
  ·
   rw [if_pos (by omega), decide_eq_true c, Bool.true_and]; congr 1; rw [Bool.eq_iff_iff]; simp; omega
  ·
   rw [if_neg (by omega), decide_eq_false c, Bool.false_and]
 have f : (decide (l.length ≤ 64) && decide (s.length ≤ 300)) = true → l.length ≤ 64 ∧ s.length ≤ 300 := by simp
 induction d with
 | zero =>
  intro k i h1 h2 h3
  obtain ⟨k, rfl⟩ : ∃ m, k = m + 2 := ⟨k - 2, by omega⟩
  refine ⟨_, ?_, fun h => ⟨(f h).1, (f h).2, fun j hj h1 h2 => by omega⟩⟩
  rw [chamberlainref06_Few.l1]
  by_cases c : (i : Int) < (s.length : Int)
  ·
   rw [if_pos c, show decide ((i : Int) < 400) = false from decide_eq_false (by omega), chamberlainref06_Few.j3, if_neg (by decide), e]
  ·
   rw [if_neg c, chamberlainref06_Few.j3, if_neg (by decide), e]
 | succ d ih =>
  intro k i h1 h2 h3
  obtain ⟨k, rfl⟩ : ∃ m, k = m + 2 := ⟨k - 2, by omega⟩
  rw [chamberlainref06_Few.l1]
  by_cases c : i < s.length
  ·
   rw [if_pos (by omega), show decide ((i : Int) < 400) = true from decide_eq_true (by omega), chamberlainref06_Few.j3, if_pos rfl, if_pos (by omega), if_pos (by omega), rdL s i c]
   by_cases g : (s[i].length : Int) > 100
   ·
    rw [if_pos g]
    exact ⟨false, rfl, fun h => by cases h⟩
   ·
    rw [if_neg g, w64 (by omega) (by omega), show (i : Int) + 1 = ((i + 1 : Nat) : Int) by omega]
    obtain ⟨b, hb, hs⟩ := ih k (i + 1) (by omega) (by omega) (by omega)
    refine ⟨b, hb, fun h => ⟨(hs h).1, (hs h).2.1, fun j hj h1 h2 => ?_⟩⟩
    rcases Nat.lt_or_ge i j with q | q
    ·
     exact (hs h).2.2 j hj q h2
    ·
     obtain rfl : j = i := by omega
     omega
  ·
   rw [if_neg (by omega), chamberlainref06_Few.j3, if_neg (by decide), e]
   exact ⟨_, rfl, fun h => ⟨(f h).1, (f h).2, fun j hj h1 h2 => by omega⟩⟩
theorem few_grams (a : Int) (l : List S94) (s : List (List Int)) (hl : l.length ≤ 9223372036854775807) (hs : s.length ≤ 9223372036854775807) : ∀ (d k i : Nat), 100 - i = d → i ≤ 100 → 2 * d + 1000 ≤ k → ∃ b, chamberlainref06_Few.l0 k (i : Int) a l s = some b ∧ (b = true → l.length ≤ 64 ∧ s.length ≤ 300 ∧ (∀ j (hj : j < s.length), j < 400 → s[j].length ≤ 100) ∧ ∀ j (hj : j < l.length), i ≤ j → j < 100 → l[j].f1.length ≤ 100) := by
 intro d
 induction d with
 | zero =>
  intro k i h1 h2 h3
  obtain ⟨k, rfl⟩ : ∃ m, k = m + 2 := ⟨k - 2, by omega⟩
  obtain ⟨b, hb, hq⟩ := few_seen a l s hs 400 k 0 rfl (by omega) (by omega)
  simp only [Int.natCast_zero] at hb
  refine ⟨b, ?_, fun h => ⟨(hq h).1, (hq h).2.1, fun j hj h2 => (hq h).2.2 j hj (Nat.zero_le _) h2, fun j hj h1 h2 => by omega⟩⟩
  rw [chamberlainref06_Few.l0]
  by_cases c : (i : Int) < (l.length : Int)
  ·
   rw [if_pos c, show decide ((i : Int) < 100) = false from decide_eq_false (by omega), chamberlainref06_Few.j1, if_neg (by decide), hb]
  ·
   rw [if_neg c, chamberlainref06_Few.j1, if_neg (by decide), hb]
 | succ d ih =>
  intro k i h1 h2 h3
  obtain ⟨k, rfl⟩ : ∃ m, k = m + 2 := ⟨k - 2, by omega⟩
  rw [chamberlainref06_Few.l0]
  by_cases c : i < l.length
  ·
   rw [if_pos (by omega), show decide ((i : Int) < 100) = true from decide_eq_true (by omega), chamberlainref06_Few.j1, if_pos rfl, if_pos (by omega), if_pos (by omega), rdS l i c]
   by_cases g : (l[i].f1.length : Int) > 100
   ·
    rw [if_pos g]
    exact ⟨false, rfl, fun h => by cases h⟩
   ·
    rw [if_neg g, w64 (by omega) (by omega), show (i : Int) + 1 = ((i + 1 : Nat) : Int) by omega]
    obtain ⟨b, hb, hq⟩ := ih k (i + 1) (by omega) (by omega) (by omega)
    refine ⟨b, hb, fun h => ⟨(hq h).1, (hq h).2.1, (hq h).2.2.1, fun j hj h1 h2 => ?_⟩⟩
    rcases Nat.lt_or_ge i j with q | q
    ·
     exact (hq h).2.2.2 j hj q h2
    ·
     obtain rfl : j = i := by omega
     omega
  ·
   obtain ⟨b, hb, hq⟩ := few_seen a l s hs 400 k 0 rfl (by omega) (by omega)
   simp only [Int.natCast_zero] at hb
   rw [if_neg (by omega), chamberlainref06_Few.j1, if_neg (by decide), hb]
   exact ⟨_, rfl, fun h => ⟨(hq h).1, (hq h).2.1, fun j hj h2 => (hq h).2.2 j hj (Nat.zero_le _) h2, fun j hj h1 h2 => by omega⟩⟩
theorem few_some (a : Int) (l : List S94) (s : List (List Int)) (k : Nat) (hl : l.length ≤ 9223372036854775807) (hs : s.length ≤ 9223372036854775807) (hk : 2000 ≤ k) : ∃ b, chamberlainref06_Few.f k a l s = some b ∧ (b = true → Few l s) := by
 unfold chamberlainref06_Few.f
 obtain ⟨b, hb, hq⟩ := few_grams a l s hl hs 100 k 0 rfl (by omega) (by omega)
 refine ⟨b, hb, fun h => ?_⟩
 obtain ⟨q1, q2, q3, q4⟩ := hq h
 refine ⟨q1, q2, fun x hx => ?_, fun x hx => ?_⟩
 ·
  obtain ⟨j, hj, rfl⟩ := List.getElem_of_mem hx
  exact q4 j hj (Nat.zero_le _) (by omega)
 ·
  obtain ⟨j, hj, rfl⟩ := List.getElem_of_mem hx
  exact q3 j hj (by omega)
theorem rows_self (s : List (List Int)) (k : Nat) (hl : s.length ≤ 4611686018427387904) (hw : ∀ x ∈ s, x.length ≤ 100) (hk : s.length + 200 < k) : chamberlainref01_Rows.f k s s = some true := by
 unfold chamberlainref01_Rows.f
 rw [if_pos rfl]
 have : ∀ (d k i : Nat), s.length - i = d → i ≤ s.length → d + 200 < k → chamberlainref01_Rows.l0 k s s (i : Int) = some true := by
  intro d
  induction d with
  | zero =>
   intro k i h1 h2 h3
   obtain ⟨k, rfl⟩ : ∃ m, k = m + 1 := ⟨k - 1, by omega⟩
   rw [chamberlainref01_Rows.l0, if_neg (by omega)]
  | succ d ih =>
   intro k i h1 h2 h3
   obtain ⟨k, rfl⟩ : ∃ m, k = m + 1 := ⟨k - 1, by omega⟩
   have hi : i < s.length := by omega
   have hx := hw _ (List.getElem_mem hi)
   rw [chamberlainref01_Rows.l0, if_pos (by omega), if_pos (by omega), if_pos (by omega), rdL s i hi, rsame_eq _ _ _ (by omega) (by omega), Option.bind_some, if_pos (by simp), w64 (by omega) (by omega), show (i : Int) + 1 = ((i + 1 : Nat) : Int) by omega, ih k (i + 1) (by omega) (by omega) (by omega)]
 have := this s.length k 0 (by omega) (by omega) hk
 simpa using this
/-- Is a net right? -/
def rightB (a : Int) (l : List S94) : Bool := decide (0 ≤ a) && decide (a ≤ 64) && decide ((l.length : Int) ≤ a)
theorem rright_eq (a : Int) (l : List S94) (s : List (List Int)) : chamberlainref06_Right.f a l s = some (rightB a l) := by
 unfold chamberlainref06_Right.f rightB
 by_cases c : a ≥ 0
 ·
  by_cases d : a ≤ 64
  ·
   rw [if_pos c, if_pos d, decide_eq_true c, decide_eq_true d]; rfl
  ·
   rw [if_pos c, if_neg d, decide_eq_false d]; simp
 ·
  rw [if_neg c, decide_eq_false c]; rfl
theorem rightB_iff (a : Int) (l : List S94) : rightB a l = true ↔ 0 ≤ a ∧ a ≤ 64 ∧ (l.length : Int) ≤ a := by
 unfold rightB
 simp [and_assoc]
end pn
namespace pp
theorem bits_range (x : Int) (h : 0 ≤ x ∧ x < 4294967296) : 0 ≤ Go.bits .or .u32 1073741824 x ∧ Go.bits .or .u32 1073741824 x < 4294967296 := by
 obtain ⟨n, rfl⟩ : ∃ n : Nat, x = (n : Int) := ⟨x.toNat, by omega⟩
 have hb := (bits_nat .u32 32 (by decide) wraps_u32 1073741824 n (by decide) (by omega)).2
 have e : ((1073741824 : Nat) : Int) = 1073741824 := rfl
 rw [e] at hb
 rw [hb]
 have : 1073741824 ||| n < 2 ^ 32 := Nat.or_lt_two_pow (by decide) (by omega)
 omega
def rawAt (l : List Int) (i : Int) : Int := if i < (l.length : Int) then rd l i else Go.bits .or .u32 1073741824 (i % 4294967296)
def atOf (l : List Int) (i : Int) : Int := if rawAt l i < 2147483648 then rawAt l i + 2147483648 else rawAt l i
theorem rawAt_range (l : List Int) (i : Int) (hl : ∀ x ∈ l, (Lit.int .u32 x).wf = true) (h : 0 ≤ i) : 0 ≤ rawAt l i ∧ rawAt l i < 4294967296 := by
 unfold rawAt
 split
 ·
  obtain ⟨n, rfl⟩ : ∃ n : Nat, i = (n : Int) := ⟨i.toNat, by omega⟩
  rw [rd_nat l n (by omega)]
  exact wf32 (hl _ (List.getElem_mem _))
 ·
  exact bits_range _ (by omega)
theorem at_eq (l : List Int) (nx i : Int) (hl : ∀ x ∈ l, (Lit.int .u32 x).wf = true) (h : 0 ≤ i) : draw_at.f l nx i = some (atOf l i) := by
 have hr := rawAt_range l i hl h
 unfold draw_at.f atOf
 unfold rawAt at hr ⊢
 by_cases c : i < (l.length : Int)
 ·
  rw [if_pos c] at hr
  rw [if_pos c, if_pos h, if_pos c, draw_eq _ hr]; rfl
 ·
  rw [if_neg c] at hr
  rw [if_neg c, if_neg c, draw_eq _ hr]; rfl
theorem rdP (xs : List S55) (i : Nat) (h : i < xs.length) : rd_T55 xs (i : Int) = xs[i] := by
 unfold rd_T55
 simp [List.getD_eq_getElem?_getD, h]
def rightP (l : List S55) : Bool := allF (fun i => decide ((rd_T55 l (i : Int)).f0 = (i : Int) % 4294967296)) l.length 0 && decide (2 ≤ l.length ∧ l.length ≤ 7)
theorem rightP_iff (l : List S55) : rightP l = true ↔ (∀ i (h : i < l.length), l[i].f0 = (i : Int)) ∧ 2 ≤ l.length ∧ l.length ≤ 7 := by
 unfold rightP
 rw [Bool.and_eq_true, allF_iff, decide_eq_true_eq]
 constructor
 ·
  rintro ⟨h1, h2⟩
  refine ⟨fun i hi => ?_, h2⟩
  have := h1 i (by omega) (by omega)
  rw [decide_eq_true_eq, rdP l i hi] at this
  omega
 ·
  rintro ⟨h1, h2⟩
  refine ⟨fun i _ hi => ?_, h2⟩
  rw [decide_eq_true_eq, rdP l i (by omega), h1 i (by omega)]
  omega
theorem in_eq (l : List S55) (a : Int) (hl : l.length ≤ 1000000) (ha : 0 ≤ a ∧ a < 4294967296) : people_in.f l a = some (decide (a < (l.length : Int))) := by
 unfold people_in.f
 simp only [IntKind.wrap_u64]
 congr 1
 apply decide_eq_decide.mpr
 omega
/-- A person and whether there is one, as a tuple. -/
def six (p : S55) (ok : Bool) : Int × Int × Int × List Int × List S113 × Bool × Bool := (p.f0, p.f1, p.f2, p.f3, p.f4, p.f5, ok)
def getOf (l : List S55) (a : Int) : Int × Int × Int × List Int × List S113 × Bool × Bool := if a < (l.length : Int) then six (rd_T55 l a) true else (0, 0, 0, [], [], false, false)
theorem get_eq (l : List S55) (a : Int) (hl : l.length ≤ 1000000) (ha : 0 ≤ a ∧ a < 4294967296) : people_Get.f l a = some (getOf l a) := by
 unfold people_Get.f getOf six
 rw [in_eq l a hl ha, Option.bind_some]
 by_cases c : a < (l.length : Int)
 ·
  rw [if_pos (decide_eq_true c), if_pos ha.1, if_pos c, if_pos c]
 ·
  rw [if_neg (by simpa using c), if_neg c]
theorem clone_eq (l : List S55) (h : l.length < 1954687338268) : api_Person.f l = some l := by
 unfold api_Person.f
 rw [Option.bind_some, List.length_nil, if_pos (by omega), List.nil_append]
def setOf (l : List S55) (p : S55) : List S55 × Int := if p.f0 < (l.length : Int) then (l.set p.f0.toNat p, 0) else (l, 1)
theorem set_eq (l : List S55) (a b c : Int) (d : List Int) (e : List S113) (f : Bool) (hl : l.length ≤ 1000000) (ha : 0 ≤ a ∧ a < 4294967296) : people_Set.f l a b c d e f = some (setOf l ⟨a, b, c, d, e, f⟩) := by
 unfold people_Set.f setOf
 rw [in_eq l a hl ha, Option.bind_some]
 by_cases q : a < (l.length : Int)
 ·
  rw [if_pos (decide_eq_true q), clone_eq l (by omega), Option.bind_some, if_pos ha.1, if_pos q, if_pos q]
 ·
  rw [if_neg (by simpa using q), if_neg q]
theorem runs_self (l : List S113) (k : Nat) (hl : l.length ≤ 1000000) (hk : l.length < k) : chamberlainref09_Same.f k l l = some true := by
 unfold chamberlainref09_Same.f
 rw [if_pos rfl]
 have h : ∀ (d k i : Nat), l.length - i = d → i ≤ l.length → d < k → chamberlainref09_Same.l0 k l l (i : Int) = some true := by
  intro d
  induction d with
  | zero =>
   intro k i h1 h2 h3
   obtain ⟨k, rfl⟩ : ∃ m, k = m + 1 := ⟨k - 1, by omega⟩
   rw [chamberlainref09_Same.l0, if_neg (by omega)]
  | succ d ih =>
   intro k i h1 h2 h3
   obtain ⟨k, rfl⟩ : ∃ m, k = m + 1 := ⟨k - 1, by omega⟩
   have ei : (i : Int) + 1 = ((i + 1 : Nat) : Int) := by omega
   rw [chamberlainref09_Same.l0, if_pos (by omega), if_pos (by omega), if_pos (by omega), if_neg (by simp), w64 (by omega) (by omega), ei, ih k (i + 1) (by omega) (by omega) (by omega)]
 have h0 := h l.length k 0 (by omega) (by omega) (by omega)
 simp only [Int.natCast_zero] at h0
 exact h0
/-- What a person has is short. -/
def small (p : S55) : Prop := p.f3.length ≤ 100 ∧ p.f4.length ≤ 100
theorem one_self (p : S55) (k : Nat) (h : small p) (hk : 200 < k) : chamberlainref10_One.f k p.f0 p.f1 p.f2 p.f3 p.f4 p.f5 p.f0 p.f1 p.f2 p.f3 p.f4 p.f5 = some true := by
 obtain ⟨h1, h2⟩ := h
 unfold chamberlainref10_One.f
 rw [if_pos rfl, if_pos rfl, if_pos rfl, if_pos (by simp), rsame_eq _ _ k (by omega) (by omega), Option.bind_some, if_pos (by simp), runs_self _ k (by omega) (by omega)]
 rfl
def fewB (l : List S55) : Bool := allF (fun i => decide ((rd_T55 l (i : Int)).f3.length ≤ 100 ∧ (rd_T55 l (i : Int)).f4.length ≤ 100)) (min l.length 20) 0 && decide (l.length ≤ 10)
theorem few_eq (l : List S55) (k : Nat) (hl : l.length ≤ 9223372036854775807) (hk : 60 < k) : chamberlainref10_Few.f k l = some (fewB l) := by
 unfold chamberlainref10_Few.f fewB
 have h : ∀ (d k i : Nat), min l.length 20 - i = d → i ≤ min l.length 20 → d + d + 2 < k → chamberlainref10_Few.l0 k l (i : Int) = some (allF (fun i => decide ((rd_T55 l (i : Int)).f3.length ≤ 100 ∧ (rd_T55 l (i : Int)).f4.length ≤ 100)) d i && decide (l.length ≤ 10)) := by
  intro d
  induction d with
  | zero =>
   intro k i h1 h2 h3
   obtain ⟨k, rfl⟩ : ∃ m, k = m + 1 + 1 := ⟨k - 2, by omega⟩
   have e : decide ((l.length : Int) ≤ 10) = decide (l.length ≤ 10) := decide_eq_decide.mpr (by omega)
   rw [chamberlainref10_Few.l0, allF, Bool.true_and]
   by_cases c : (i : Int) < (l.length : Int)
   ·
    rw [if_pos c, chamberlainref10_Few.j1, if_neg (by simp; omega), e]
   ·
    rw [if_neg c, chamberlainref10_Few.j1, if_neg (by decide), e]
  | succ d ih =>
   intro k i h1 h2 h3
   obtain ⟨k, rfl⟩ : ∃ m, k = m + 1 + 1 := ⟨k - 2, by omega⟩
   have ei : (i : Int) + 1 = ((i + 1 : Nat) : Int) := by omega
   rw [chamberlainref10_Few.l0, if_pos (by omega), chamberlainref10_Few.j1, if_pos (decide_eq_true (by omega)), if_pos (by omega), if_pos (by omega), allF]
   by_cases c1 : ((rd_T55 l (i : Int)).f3.length : Int) > 100
   ·
    rw [if_pos c1, decide_eq_false (by omega)]; rfl
   ·
    rw [if_neg c1]
    by_cases c2 : ((rd_T55 l (i : Int)).f4.length : Int) > 100
    ·
     rw [if_pos c2, decide_eq_false (by omega)]; rfl
    ·
     have e3 : decide ((rd_T55 l (i : Int)).f3.length ≤ 100 ∧ (rd_T55 l (i : Int)).f4.length ≤ 100) = true := decide_eq_true (by omega)
     rw [if_neg c2, w64 (by omega) (by omega), ei, ih k (i + 1) (by omega) (by omega) (by omega), e3, Bool.true_and]
 have h0 := h (min l.length 20) k 0 (by omega) (by omega) (by omega)
 simp only [Int.natCast_zero] at h0
 exact h0
theorem fewB_iff (l : List S55) : fewB l = true ↔ l.length ≤ 10 ∧ ∀ p ∈ l, small p := by
 unfold fewB
 rw [Bool.and_eq_true, allF_iff, decide_eq_true_eq]
 constructor
 ·
  rintro ⟨h1, h2⟩
  refine ⟨h2, fun p hp => ?_⟩
  obtain ⟨i, hi, e⟩ := List.getElem_of_mem hp
  have := h1 i (by omega) (by omega)
  rw [decide_eq_true_eq, rdP l i hi, e] at this
  exact this
 ·
  rintro ⟨h1, h2⟩
  refine ⟨fun i _ hi => ?_, h1⟩
  rw [decide_eq_true_eq, rdP l i (by omega)]
  exact h2 _ (List.getElem_mem _)
theorem rright_eq (l : List S55) (k : Nat) (hl : l.length ≤ 4611686018427387904) (hk : l.length < k) : chamberlainref10_Right.f k l = some (rightP l) := by
 unfold chamberlainref10_Right.f rightP
 have h : ∀ (d k i : Nat), l.length - i = d → i ≤ l.length → d < k → chamberlainref10_Right.l0 k l (i : Int) = some (allF (fun i => decide ((rd_T55 l (i : Int)).f0 = (i : Int) % 4294967296)) d i && decide (2 ≤ l.length ∧ l.length ≤ 7)) := by
  intro d
  induction d with
  | zero =>
   intro k i h1 h2 h3
   obtain ⟨k, rfl⟩ : ∃ m, k = m + 1 := ⟨k - 1, by omega⟩
   rw [chamberlainref10_Right.l0, if_neg (by omega), allF, Bool.true_and]
   by_cases c : (l.length : Int) > 1
   ·
    rw [if_pos c]; congr 1; apply decide_eq_decide.mpr; omega
   ·
    rw [if_neg c]; congr 1; symm; apply decide_eq_false; omega
  | succ d ih =>
   intro k i h1 h2 h3
   obtain ⟨k, rfl⟩ : ∃ m, k = m + 1 := ⟨k - 1, by omega⟩
   have ei : (i : Int) + 1 = ((i + 1 : Nat) : Int) := by omega
   rw [chamberlainref10_Right.l0, if_pos (by omega), if_pos (by omega), allF]
   by_cases c : (rd_T55 l (i : Int)).f0 = (i : Int) % 4294967296
   ·
    rw [if_pos c, w64 (by omega) (by omega), ei, ih k (i + 1) (by omega) (by omega) (by omega), decide_eq_true c, Bool.true_and]
   ·
    rw [if_neg c, decide_eq_false c]; rfl
 have h0 := h l.length k 0 (by omega) (by omega) hk
 simp only [Int.natCast_zero] at h0
 exact h0
end pp
namespace pu
/-- Is no word there twice? -/
def nodupB (l : List Int) : Bool := allF (fun i => !decide (rd l (i : Int) ∈ l.take i)) l.length 0
theorem nodupB_iff (l : List Int) : nodupB l = decide l.Nodup := by
 rw [Bool.eq_iff_iff]
 unfold nodupB
 rw [allF_iff, decide_eq_true_eq, List.Nodup, List.pairwise_iff_getElem]
 constructor
 ·
  intro h i j hi hj hij e
  have := h j (by omega) (by omega)
  simp only [Bool.not_eq_true', decide_eq_false_iff_not] at this
  apply this
  rw [rd_nat l j hj, ← e]
  rw [List.mem_take_iff_getElem]
  exact ⟨i, by omega, rfl⟩
 ·
  intro h j _ hj
  simp only [Bool.not_eq_true', decide_eq_false_iff_not]
  intro hm
  rw [rd_nat l j (by omega), List.mem_take_iff_getElem] at hm
  obtain ⟨i, hi, e⟩ := hm
  exact h i j (by omega) (by omega) (by omega) e
def rightB (l : List Int) (room : Int) : Bool := decide ((l.length : Int) ≤ room) && decide l.Nodup
theorem rright_l1 (l : List Int) (room : Int) (i : Nat) (hl : l.length ≤ 1000000) (hi : i < l.length) (R : Bool) (K0 : Nat)
  (hR : ∀ K, K0 ≤ K → chamberlainref08_Right.l0 K l room ((i : Int) + 1) = some R) :
  ∀ (d k j : Nat), i - j = d → j ≤ i → K0 + d < k → chamberlainref08_Right.l1 k l room (i : Int) (j : Int) = some (cond (allF (fun m => decide (rd l (i : Int) ≠ rd l (m : Int))) d j) R false) := by
 intro d
 induction d with
 | zero =>
  intro k j h1 h2 h3
  obtain ⟨k, rfl⟩ : ∃ m, k = m + 1 := ⟨k - 1, by omega⟩
  rw [chamberlainref08_Right.l1, if_neg (by omega), w64 (by omega) (by omega), hR k (by omega)]
  rfl
 | succ d ih =>
  intro k j h1 h2 h3
  obtain ⟨k, rfl⟩ : ∃ m, k = m + 1 := ⟨k - 1, by omega⟩
  rw [chamberlainref08_Right.l1, if_pos (by omega), if_pos (by omega), if_pos (by omega), if_pos (by omega), if_pos (by omega), w64 (by omega) (by omega), allF]
  by_cases c : rd l (i : Int) = rd l (j : Int)
  ·
   rw [if_pos c, decide_eq_false (by simpa using c)]; rfl
  ·
   have ei : (j : Int) + 1 = ((j + 1 : Nat) : Int) := by omega
   rw [if_neg c, decide_eq_true c, Bool.true_and, ei, ih k (j + 1) (by omega) (by omega) (by omega)]
theorem notin_all (l : List Int) (i : Nat) (hi : i < l.length) : allF (fun m => decide (rd l (i : Int) ≠ rd l (m : Int))) i 0 = !decide (rd l (i : Int) ∈ l.take i) := by
 rw [Bool.eq_iff_iff, allF_iff]
 simp only [decide_eq_true_eq, Bool.not_eq_true', decide_eq_false_iff_not]
 constructor
 ·
  intro h hm
  rw [List.mem_take_iff_getElem] at hm
  obtain ⟨j, hj, e⟩ := hm
  exact h j (by omega) (by omega) (by rw [rd_nat l j (by omega), e])
 ·
  intro h j _ hj e
  apply h
  rw [List.mem_take_iff_getElem]
  exact ⟨j, by omega, by rw [e, rd_nat l j (by omega)]⟩
theorem rright_eq (l : List Int) (room : Int) (k : Nat) (hl : l.length ≤ 1000) (hk : 1010000 < k) : chamberlainref08_Right.f k l room = some (rightB l room) := by
 unfold chamberlainref08_Right.f
 have h : ∀ (d k i : Nat), l.length - i = d → i ≤ l.length → d * (l.length + 2) < k → chamberlainref08_Right.l0 k l room (i : Int) = some (allF (fun i => !decide (rd l (i : Int) ∈ l.take i)) d i && decide ((l.length : Int) ≤ room)) := by
  intro d
  induction d with
  | zero =>
   intro k i h1 h2 h3
   obtain ⟨k, rfl⟩ : ∃ m, k = m + 1 := ⟨k - 1, by omega⟩
   rw [chamberlainref08_Right.l0, if_neg (by omega), allF, Bool.true_and]
  | succ d ih =>
   intro k i h1 h2 h3
   obtain ⟨k, rfl⟩ : ∃ m, k = m + 1 := ⟨k - 1, by omega⟩
   rw [Nat.add_mul] at h3
   have hR : ∀ K, d * (l.length + 2) + 1 ≤ K → chamberlainref08_Right.l0 K l room ((i : Int) + 1) = some (allF (fun i => !decide (rd l (i : Int) ∈ l.take i)) d (i + 1) && decide ((l.length : Int) ≤ room)) := by
    intro K hK
    have ei : (i : Int) + 1 = ((i + 1 : Nat) : Int) := by omega
    rw [ei]
    exact ih K (i + 1) (by omega) (by omega) (by omega)
   have q := rright_l1 l room i (by omega) (by omega) _ _ hR i k 0 (by omega) (by omega) (by omega)
   simp only [Int.natCast_zero] at q
   rw [chamberlainref08_Right.l0, if_pos (by omega), q, notin_all l i (by omega), allF]
   cases decide (rd l (i : Int) ∈ l.take i) <;> rfl
 have hm : l.length * (l.length + 2) ≤ 1000 * 1002 := Nat.mul_le_mul (by omega) (by omega)
 have h0 := h l.length k 0 (by omega) (by omega) (by omega)
 simp only [Int.natCast_zero] at h0
 rw [h0]
 unfold rightB
 rw [← nodupB_iff, Bool.and_comm]; rfl
end pu
namespace pr
def mayB (a b s : Int) : Bool := decide ((a = 1 ∨ a = 2) ∧ (b = 1 ∨ b = 2) ∧ 1 ≤ s ∧ s ≤ 3)
def okR (r : S113) : Bool := mayB r.f0 r.f1 r.f8
def allR (l : List S113) : Bool := allF (fun i => okR (rd_T113 l (i : Int))) l.length 0
def setOf (l : List S113) (i : Int) (r : S113) : List S113 × Int := if i < 0 ∨ i ≥ (l.length : Int) ∨ okR r = false then (l, 1) else (l.set i.toNat r, 0)
theorem rmay_eq (a b c d e f g h s : Int) : chamberlainref09_May.f a b c d e f g h s = some (mayB a b s) := by
 unfold chamberlainref09_May.f mayB
 repeat' split
 all_goals first
  | (congr 1; symm; apply decide_eq_true; omega)
  | (congr 1; symm; apply decide_eq_false; omega)
  | (congr 1; rw [Bool.eq_iff_iff]; simp; omega)
theorem rright_eq (l : List S113) (room : Int) (k : Nat) (hl : l.length ≤ 1000000) (hk : l.length < k) : chamberlainref09_Right.f k l room = some (decide ((l.length : Int) ≤ room) && allR l) := by
 unfold chamberlainref09_Right.f
 have h : ∀ (d k i : Nat), l.length - i = d → i ≤ l.length → d < k → chamberlainref09_Right.l0 k l room (i : Int) = some (decide ((l.length : Int) ≤ room) && allF (fun i => okR (rd_T113 l (i : Int))) d i) := by
  intro d
  induction d with
  | zero =>
   intro k i h1 h2 h3
   obtain ⟨k, rfl⟩ : ∃ m, k = m + 1 := ⟨k - 1, by omega⟩
   rw [chamberlainref09_Right.l0, if_neg (by omega), allF, Bool.and_true]
  | succ d ih =>
   intro k i h1 h2 h3
   obtain ⟨k, rfl⟩ : ∃ m, k = m + 1 := ⟨k - 1, by omega⟩
   have ei : (i : Int) + 1 = ((i + 1 : Nat) : Int) := by omega
   rw [chamberlainref09_Right.l0, if_pos (by omega), if_pos (by omega), rmay_eq, Option.bind_some, w64 (by omega) (by omega), ei, ih k (i + 1) (by omega) (by omega) (by omega), allF]
   have eo : okR (rd_T113 l (i : Int)) = mayB (rd_T113 l (i : Int)).f0 (rd_T113 l (i : Int)).f1 (rd_T113 l (i : Int)).f8 := rfl
   rw [eo]
   cases mayB (rd_T113 l (i : Int)).f0 (rd_T113 l (i : Int)).f1 (rd_T113 l (i : Int)).f8 <;> simp
 have h0 := h l.length k 0 (by omega) (by omega) (by omega)
 simp only [Int.natCast_zero] at h0
 exact h0
end pr
namespace pl
theorem events_loop (l : List S83) (hl : l.length ≤ 1000000) : ∀ (d k i : Nat), l.length - i = d → i ≤ l.length → d < k → chamberlainref12_Events.l0 k l l (i : Int) = some true := by
 intro d
 induction d with
 | zero =>
  intro k i h1 h2 h3
  obtain ⟨k, rfl⟩ : ∃ m, k = m + 1 := ⟨k - 1, by omega⟩
  rw [chamberlainref12_Events.l0, if_neg (by omega)]
 | succ d ih =>
  intro k i h1 h2 h3
  obtain ⟨k, rfl⟩ : ∃ m, k = m + 1 := ⟨k - 1, by omega⟩
  rw [chamberlainref12_Events.l0, if_pos (by omega), if_pos (by omega), if_pos (by omega), if_neg (by simp), w64 (by omega) (by omega), show (i : Int) + 1 = ((i + 1 : Nat) : Int) by omega]
  exact ih k (i + 1) (by omega) (by omega) (by omega)
theorem events_self (l : List S83) (k : Nat) (hl : l.length ≤ 1000000) (hk : l.length < k) : chamberlainref12_Events.f k l l = some true := by
 unfold chamberlainref12_Events.f
 rw [if_pos rfl]
 have := events_loop l hl l.length k 0 (by omega) (by omega) hk
 simpa using this
end pl
namespace pw
/-- Does a part stand at a place? -/
def occ (l p : List Int) (i : Nat) : Bool := decide (i + p.length ≤ l.length) && decide ((l.take (i + p.length)).drop i = p)
def found (l p : List Int) : Int × Bool := match fnd (occ l p) (l.length + 1) 0 with | some j => ((j : Int), true) | none => (0, false)
theorem clone_eq (l : List Int) (h : l.length < 35184372088832) : slices_Clone_uint32_uint32_61.f l = some l := by
 unfold slices_Clone_uint32_uint32_61.f
 simp only [Option.bind_some, List.length_nil, Nat.zero_add, List.nil_append]
 rw [if_pos h]
def cutOf (l : List Int) (a b : Int) : List Int × Bool := if a < 0 ∨ b < a ∨ b > (l.length : Int) then ([], false) else ((l.take b.toNat).drop a.toNat, true)
theorem cut_eq (l : List Int) (a b : Int) (h : l.length < 35184372088832) : word_Cut.f l a b = some (cutOf l a b) := by
 unfold word_Cut.f cutOf
 by_cases h1 : a < 0
 ·
  rw [if_pos h1, if_pos (Or.inl h1)]
 rw [if_neg h1]
 by_cases h2 : b < a
 ·
  rw [if_pos h2, if_pos (Or.inr (Or.inl h2))]
 rw [if_neg h2]
 by_cases h3 : b > (l.length : Int)
 ·
  rw [if_pos h3, if_pos (Or.inr (Or.inr h3))]
 rw [if_neg h3, if_pos (by omega), if_pos (by omega), if_pos (by omega), if_neg (by omega), clone_eq _ (by rw [List.length_drop, List.length_take]; omega)]
 rfl
end pw
theorem rdL_natW (xs : List (List Int)) (i : Nat) (h : i < xs.length) : rd_L1 xs (i : Int) = xs[i] := by
 unfold rd_L1
 simp [List.getD_eq_getElem?_getD, h]
theorem grow_eqW (n : Nat) (h : n < 35184372088832) : slices_Grow_uint32_uint32.f [] (n : Int) = some [] := by
 unfold slices_Grow_uint32_uint32.f
 rw [if_neg (by omega), if_neg (by simp)]
 by_cases c : (n : Int) > 0
 ·
  rw [if_pos c, if_pos (by omega), if_pos (by simp; omega)]
  simp
 ·
  rw [if_neg c]
theorem concat_l1W (ll : List (List Int)) (hll : ll.length ≤ 1000000) : ∀ (d k i : Nat) (acc : List Int), ll.length - i = d → i ≤ ll.length → acc.length + ((ll.drop i).map List.length).sum < 35184372088832 → d < k →
  slices_Concat_uint32_uint32.l1 k acc ll (ll.length : Int) (i : Int) = some (acc ++ (ll.drop i).flatten) := by
 intro d
 induction d with
 | zero =>
  intro k i acc h1 h2 h3 h4
  obtain ⟨k, rfl⟩ : ∃ m, k = m + 1 := ⟨k - 1, by omega⟩
  rw [slices_Concat_uint32_uint32.l1, if_neg (by omega), List.drop_eq_nil_of_le (by omega)]
  simp
 | succ d ih =>
  intro k i acc h1 h2 h3 h4
  obtain ⟨k, rfl⟩ : ∃ m, k = m + 1 := ⟨k - 1, by omega⟩
  have hi : i < ll.length := by omega
  rw [List.drop_eq_getElem_cons hi] at h3 ⊢
  simp only [List.map_cons, List.sum_cons] at h3
  rw [slices_Concat_uint32_uint32.l1, if_pos (by omega), if_pos (by omega), if_pos (by omega), rdL_natW ll i hi, if_pos (by omega), w64 (by omega) (by omega)]
  have ei : (i : Int) + 1 = ((i + 1 : Nat) : Int) := by omega
  rw [ei, ih k (i + 1) _ (by omega) (by omega) (by rw [List.length_append]; omega) (by omega), List.flatten_cons, List.append_assoc]
theorem concat_l0W (ll : List (List Int)) (hll : ll.length ≤ 1000000) (hs : (ll.map List.length).sum < 35184372088832) : ∀ (d k i s : Nat), ll.length - i = d → i ≤ ll.length → s + ((ll.drop i).map List.length).sum = (ll.map List.length).sum → d + ll.length + 1 < k →
  slices_Concat_uint32_uint32.l0 k ll (s : Int) ll (ll.length : Int) (i : Int) = some ll.flatten := by
 intro d
 induction d with
 | zero =>
  intro k i s h1 h2 h3 h4
  obtain ⟨k, rfl⟩ : ∃ m, k = m + 1 := ⟨k - 1, by omega⟩
  rw [List.drop_eq_nil_of_le (by omega)] at h3
  simp only [List.map_nil, List.sum_nil, Nat.add_zero] at h3
  rw [slices_Concat_uint32_uint32.l0, if_neg (by omega), grow_eqW s (by omega), Option.bind_some]
  have h := concat_l1W ll hll ll.length k 0 [] (by omega) (by omega) (by simpa using hs) (by omega)
  simp only [Int.natCast_zero, List.drop_zero, List.nil_append] at h
  exact h
 | succ d ih =>
  intro k i s h1 h2 h3 h4
  obtain ⟨k, rfl⟩ : ∃ m, k = m + 1 := ⟨k - 1, by omega⟩
  have hi : i < ll.length := by omega
  rw [List.drop_eq_getElem_cons hi] at h3
  simp only [List.map_cons, List.sum_cons] at h3
  rw [slices_Concat_uint32_uint32.l0, if_pos (by omega), if_pos (by omega), if_pos (by omega), rdL_natW ll i hi, w64 (x := (s : Int) + (ll[i].length : Int)) (by omega) (by omega), if_neg (by omega), w64 (by omega) (by omega)]
  have ei : (i : Int) + 1 = ((i + 1 : Nat) : Int) := by omega
  have es : (s : Int) + (ll[i].length : Int) = ((s + ll[i].length : Nat) : Int) := by omega
  rw [ei, es]
  exact ih k (i + 1) _ (by omega) (by omega) (by omega) (by omega)
theorem concat_eqW (ll : List (List Int)) (k : Nat) (hll : ll.length ≤ 1000000) (hs : (ll.map List.length).sum < 35184372088832) (hk : ll.length + ll.length + 1 < k) : slices_Concat_uint32_uint32.f k ll = some ll.flatten := by
 unfold slices_Concat_uint32_uint32.f
 have h := concat_l0W ll hll hs ll.length k 0 0 (by omega) (by omega) (by simp) (by omega)
 simp only [Int.natCast_zero] at h
 exact h
theorem rdL_natK (xs : List (List S85)) (i : Nat) (h : i < xs.length) : rd_L12 xs (i : Int) = xs[i] := by
 unfold rd_L12
 simp [List.getD_eq_getElem?_getD, h]
theorem grow_eqK (n : Nat) (h : n < 17592186044416) : api_Leak_80.f [] (n : Int) = some [] := by
 unfold api_Leak_80.f
 rw [if_neg (by omega), if_neg (by simp)]
 by_cases c : (n : Int) > 0
 ·
  rw [if_pos c, if_pos (by omega), if_pos (by simp; omega)]
  simp
 ·
  rw [if_neg c]
theorem concat_l1K (ll : List (List S85)) (hll : ll.length ≤ 1000000) : ∀ (d k i : Nat) (acc : List S85), ll.length - i = d → i ≤ ll.length → acc.length + ((ll.drop i).map List.length).sum < 17592186044416 → d < k →
  api_Leak_70.l1 k acc ll (ll.length : Int) (i : Int) = some (acc ++ (ll.drop i).flatten) := by
 intro d
 induction d with
 | zero =>
  intro k i acc h1 h2 h3 h4
  obtain ⟨k, rfl⟩ : ∃ m, k = m + 1 := ⟨k - 1, by omega⟩
  rw [api_Leak_70.l1, if_neg (by omega), List.drop_eq_nil_of_le (by omega)]
  simp
 | succ d ih =>
  intro k i acc h1 h2 h3 h4
  obtain ⟨k, rfl⟩ : ∃ m, k = m + 1 := ⟨k - 1, by omega⟩
  have hi : i < ll.length := by omega
  rw [List.drop_eq_getElem_cons hi] at h3 ⊢
  simp only [List.map_cons, List.sum_cons] at h3
  rw [api_Leak_70.l1, if_pos (by omega), if_pos (by omega), if_pos (by omega), rdL_natK ll i hi, if_pos (by omega), w64 (by omega) (by omega)]
  have ei : (i : Int) + 1 = ((i + 1 : Nat) : Int) := by omega
  rw [ei, ih k (i + 1) _ (by omega) (by omega) (by rw [List.length_append]; omega) (by omega), List.flatten_cons, List.append_assoc]
theorem concat_l0K (ll : List (List S85)) (hll : ll.length ≤ 1000000) (hs : (ll.map List.length).sum < 17592186044416) : ∀ (d k i s : Nat), ll.length - i = d → i ≤ ll.length → s + ((ll.drop i).map List.length).sum = (ll.map List.length).sum → d + ll.length + 1 < k →
  api_Leak_70.l0 k ll (s : Int) ll (ll.length : Int) (i : Int) = some ll.flatten := by
 intro d
 induction d with
 | zero =>
  intro k i s h1 h2 h3 h4
  obtain ⟨k, rfl⟩ : ∃ m, k = m + 1 := ⟨k - 1, by omega⟩
  rw [List.drop_eq_nil_of_le (by omega)] at h3
  simp only [List.map_nil, List.sum_nil, Nat.add_zero] at h3
  rw [api_Leak_70.l0, if_neg (by omega), grow_eqK s (by omega), Option.bind_some]
  have h := concat_l1K ll hll ll.length k 0 [] (by omega) (by omega) (by simpa using hs) (by omega)
  simp only [Int.natCast_zero, List.drop_zero, List.nil_append] at h
  exact h
 | succ d ih =>
  intro k i s h1 h2 h3 h4
  obtain ⟨k, rfl⟩ : ∃ m, k = m + 1 := ⟨k - 1, by omega⟩
  have hi : i < ll.length := by omega
  rw [List.drop_eq_getElem_cons hi] at h3
  simp only [List.map_cons, List.sum_cons] at h3
  rw [api_Leak_70.l0, if_pos (by omega), if_pos (by omega), if_pos (by omega), rdL_natK ll i hi, w64 (x := (s : Int) + (ll[i].length : Int)) (by omega) (by omega), if_neg (by omega), w64 (by omega) (by omega)]
  have ei : (i : Int) + 1 = ((i + 1 : Nat) : Int) := by omega
  have es : (s : Int) + (ll[i].length : Int) = ((s + ll[i].length : Nat) : Int) := by omega
  rw [ei, es]
  exact ih k (i + 1) _ (by omega) (by omega) (by omega) (by omega)
theorem concat_eqK (ll : List (List S85)) (k : Nat) (hll : ll.length ≤ 1000000) (hs : (ll.map List.length).sum < 17592186044416) (hk : ll.length + ll.length + 1 < k) : api_Leak_70.f k ll = some ll.flatten := by
 unfold api_Leak_70.f
 have h := concat_l0K ll hll hs ll.length k 0 0 (by omega) (by omega) (by simp) (by omega)
 simp only [Int.natCast_zero] at h
 exact h
end Go.Proofs.Ythlcpbendleihaa.Pure
