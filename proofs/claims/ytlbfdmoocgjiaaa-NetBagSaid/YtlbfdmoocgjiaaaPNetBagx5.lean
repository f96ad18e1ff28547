-- Written for this claim by wip/tools/myprint.py (print.py's forms; proofs of the faked functions by hand).
import Derived.Test.YtlbfdmoocgjiaaaPNetBagx1
import Derived.Test.YtlbfdmoocgjiaaaPNetBagx2
import Derived.Test.YtlbfdmoocgjiaaaPNetBagx3
import Derived.Test.YtlbfdmoocgjiaaaPNetBagx4
import Derived.Test.YtlbfdmoocgjiaaaPNetBagx0
namespace Go.Proofs.Ytlbfdmoocgjiaaa.PNetBag
open Go.RowKit Go.Proofs.YtlbfdmoocgjiaaaW.PrintWords Go.Proofs.YtlbfdmoocgjiaaaW.PrintLast Go.Proofs.YtlbfdmoocgjiaaaW.PrintMore
attribute [local go_sem] max2_int min2_int max_two min_two max_three min_three max_four min_four   -- for this text's walks alone
set_option linter.unusedVariables false
set_option linter.unusedSimpArgs false

/-! ### chamberlainlaw06_NetBag: function 4 -/
def chamberlainlaw06_NetBag.f (a0 : Int) (l1 : List Int) (a2 : Int) : Option (Bool) := if 0 ≤ a0 ∧ a0 < 256 ∧ (∀ x ∈ l1, 0 ≤ x ∧ x < 256) ∧ 0 ≤ a2 ∧ a2 < 256 then some true else none
namespace uk
theorem wf32 {x : Int} (h : (Lit.int .u32 x).wf = true) : 0 ≤ x ∧ x < 4294967296 := by
  simp only [Lit.wf, IntKind.min, IntKind.max, IntKind.signed, IntKind.bits, Bool.and_eq_true] at h
  simp at h
  omega
theorem wf8 {x : Int} (h : (Lit.int .u8 x).wf = true) : 0 ≤ x ∧ x < 256 := by
  simp only [Lit.wf, IntKind.min, IntKind.max, IntKind.signed, IntKind.bits, Bool.and_eq_true] at h
  simp at h
  omega
theorem wf16 {x : Int} (h : (Lit.int .u16 x).wf = true) : 0 ≤ x ∧ x < 65536 := by
  simp only [Lit.wf, IntKind.min, IntKind.max, IntKind.signed, IntKind.bits, Bool.and_eq_true] at h
  simp at h
  omega
theorem wf64 {x : Int} (h : (Lit.int .i64 x).wf = true) : -9223372036854775808 ≤ x ∧ x ≤ 9223372036854775807 := by
  simp only [Lit.wf, IntKind.min, IntKind.max, IntKind.signed, IntKind.bits, Bool.and_eq_true] at h
  simp at h
  omega
theorem w64 {x : Int} (h1 : -9223372036854775808 ≤ x) (h2 : x ≤ 9223372036854775807) : wrap64 x = x := by
  unfold wrap64
  omega
theorem rd_nat (xs : List Int) (i : Nat) (h : i < xs.length) : rd xs (i : Int) = xs[i] := by
  unfold rd
  simp [List.getD_eq_getElem?_getD, h]
/-- From place i on, n places: does p hold of all? -/
def allF (p : Nat → Bool) : Nat → Nat → Bool
  | 0, _ => true
  | n + 1, i => p i && allF p n (i + 1)
theorem allF_iff (p : Nat → Bool) (n i : Nat) : allF p n i = true ↔ ∀ j, i ≤ j → j < i + n → p j = true := by
  induction n generalizing i with
  | zero => simp [allF]; intro j h1 h2; omega
  | succ n ih =>
    simp only [allF, Bool.and_eq_true, ih]
    constructor
    · rintro ⟨h0, h⟩ j h1 h2
      by_cases e : j = i
      · subst e; exact h0
      · exact h j (by omega) (by omega)
    · intro h
      exact ⟨h i (by omega) (by omega), fun j h1 h2 => h j (by omega) (by omega)⟩
/-- The first place from i on, of n, of which p holds. -/
def fnd (p : Nat → Bool) : Nat → Nat → Option Nat
  | 0, _ => none
  | n + 1, i => if p i = true then some i else fnd p n (i + 1)
theorem fnd_some {p : Nat → Bool} {n i j : Nat} (h : fnd p n i = some j) : i ≤ j ∧ j < i + n ∧ p j = true ∧ ∀ m, i ≤ m → m < j → p m = false := by
  induction n generalizing i with
  | zero => simp [fnd] at h
  | succ n ih =>
    simp only [fnd] at h
    by_cases e : p i = true
    · rw [if_pos e] at h
      cases h
      exact ⟨Nat.le_refl _, by omega, e, fun m h1 h2 => by omega⟩
    · rw [if_neg e] at h
      obtain ⟨h1, h2, h3, h4⟩ := ih h
      refine ⟨by omega, by omega, h3, fun m m1 m2 => ?_⟩
      by_cases c : m = i
      · subst c; simpa using e
      · exact h4 m (by omega) m2
theorem fnd_none {p : Nat → Bool} {n i : Nat} (h : fnd p n i = none) : ∀ m, i ≤ m → m < i + n → p m = false := by
  induction n generalizing i with
  | zero => intro m h1 h2; omega
  | succ n ih =>
    simp only [fnd] at h
    by_cases e : p i = true
    · rw [if_pos e] at h; cases h
    · rw [if_neg e] at h
      intro m h1 h2
      by_cases c : m = i
      · subst c; simpa using e
      · exact ih h m (by omega) (by omega)
theorem fnd_eq_some {p : Nat → Bool} {n i j : Nat} (h1 : i ≤ j) (h2 : j < i + n) (h3 : p j = true) (h4 : ∀ m, i ≤ m → m < j → p m = false) : fnd p n i = some j := by
  cases h : fnd p n i with
  | none => have := fnd_none h j h1 h2; rw [this] at h3; cases h3
  | some q =>
    obtain ⟨a, b, c, d⟩ := fnd_some h
    congr 1
    rcases Nat.lt_trichotomy q j with e | e | e
    · have := h4 q a e; rw [this] at c; cases c
    · exact e
    · have := d j h1 e; rw [this] at h3; cases h3
theorem fnd_eq_none {p : Nat → Bool} {n i : Nat} (h : ∀ m, i ≤ m → m < i + n → p m = false) : fnd p n i = none := by
  cases e : fnd p n i with
  | none => rfl
  | some q =>
    obtain ⟨a, b, c, _⟩ := fnd_some e
    rw [h q a b] at c; cases c
theorem rows_eq (a b : List Int) (h : a.length = b.length) : allF (fun i => decide (rd a (i : Int) = rd b (i : Int))) a.length 0 = decide (a = b) := by
  rw [Bool.eq_iff_iff, allF_iff]
  simp only [decide_eq_true_eq]
  constructor
  · intro H
    apply List.ext_getElem h
    intro i h1 h2
    have := H i (by omega) (by omega)
    rw [rd_nat a i h1, rd_nat b i h2] at this
    exact this
  · intro e j _ _
    rw [e]
/-- A loop that asks place by place. -/
theorem all_loop (f : Nat → Nat → Option Bool) (n : Nat) (p : Nat → Bool) (h : ∀ k i, i ≤ n → f (k + 1) i = if i < n then (if p i = true then f k (i + 1) else some false) else some true) :
    ∀ (d k i : Nat), n - i = d → i ≤ n → d < k → f k i = some (allF p d i) := by
  intro d
  induction d with
  | zero =>
    intro k i h1 h2 h3
    obtain ⟨k, rfl⟩ : ∃ m, k = m + 1 := ⟨k - 1, by omega⟩
    rw [h k i h2, if_neg (by omega)]; rfl
  | succ d ih =>
    intro k i h1 h2 h3
    obtain ⟨k, rfl⟩ : ∃ m, k = m + 1 := ⟨k - 1, by omega⟩
    rw [h k i h2, if_pos (by omega)]
    simp only [allF]
    cases e : p i with
    | true => rw [if_pos rfl, ih k (i + 1) (by omega) (by omega) (by omega)]; simp
    | false => simp
/-- A loop that looks for the first place. -/
theorem fnd_loop {α : Type} (f : Nat → Nat → Option α) (n : Nat) (p : Nat → Bool) (yes : Nat → α) (no : α) (c : Nat) (h : ∀ k i, i ≤ n → c ≤ k → f (k + 1) i = if i < n then (if p i = true then some (yes i) else f k (i + 1)) else some no) :
    ∀ (d k i : Nat), n - i = d → i ≤ n → c + d < k → f k i = some (match fnd p d i with | some j => yes j | none => no) := by
  intro d
  induction d with
  | zero =>
    intro k i h1 h2 h3
    obtain ⟨k, rfl⟩ : ∃ m, k = m + 1 := ⟨k - 1, by omega⟩
    rw [h k i h2 (by omega), if_neg (by omega)]; rfl
  | succ d ih =>
    intro k i h1 h2 h3
    obtain ⟨k, rfl⟩ : ∃ m, k = m + 1 := ⟨k - 1, by omega⟩
    rw [h k i h2 (by omega), if_pos (by omega)]
    simp only [fnd]
    cases e : p i with
    | true => simp
    | false => rw [if_neg (by simp), if_neg (by simp), ih k (i + 1) (by omega) (by omega) (by omega)]
theorem rsame_eq (a b : List Int) (k : Nat) (hb : a.length ≤ 4611686018427387904) (hk : a.length < k) : chamberlainref01_Same.f k a b = some (decide (a = b)) := by
  unfold chamberlainref01_Same.f
  by_cases hl : a.length = b.length
  · rw [if_pos (by omega)]
    have h := all_loop (fun k i => chamberlainref01_Same.l0 k a b (i : Int)) a.length (fun i => decide (rd a (i : Int) = rd b (i : Int))) (by
      intro k i hi
      simp only [chamberlainref01_Same.l0]
      by_cases c : i < a.length
      · rw [if_pos (by omega), if_pos (by omega), if_pos (by omega), if_pos c, w64 (by omega) (by omega)]
        simp
      · rw [if_neg (by omega), if_neg c]) a.length k 0 (by omega) (by omega) (by omega)
    simp only [Int.natCast_zero] at h
    rw [h, rows_eq a b hl]
  · rw [if_neg (by omega)]
    congr 1
    symm
    apply decide_eq_false
    intro e
    exact hl (by rw [e])
theorem rdS (l : List S29) (i : Nat) (h : i < l.length) : rd_T29 l (i : Int) = l[i] := by
  unfold rd_T29
  simp [List.getD_eq_getElem?_getD, h]
theorem rdL (l : List (List Int)) (i : Nat) (h : i < l.length) : rd_L1 l (i : Int) = l[i] := by
  unfold rd_L1
  simp [List.getD_eq_getElem?_getD, h]
theorem awake60 (k : Nat) (hk : 60 ≤ k) : chamberlainlaw06_awake.f k = some true := at_rounds chamberlainlaw06_awake.mono hk chamberlainlaw06_awake.at60
/-- The rows of a small net. -/
structure Few (l : List S29) (s : List (List Int)) : Prop where
  lg : l.length ≤ 64
  ls : s.length ≤ 300
  wg : ∀ x ∈ l, x.f1.length ≤ 100
  ws : ∀ x ∈ s, x.length ≤ 100
theorem one_self (a : Int) (l : List Int) (k : Nat) (hl : l.length ≤ 100) (hk : 200 ≤ k) : chamberlainref06_One.f k a l a l = some true := by
  unfold chamberlainref06_One.f
  rw [if_pos rfl, rsame_eq _ _ _ (by omega) (by omega), Option.bind_some]; simp
/-- Is a net right? -/
def rightB (a : Int) (l : List S29) : Bool := decide (0 ≤ a) && decide (a ≤ 64) && decide ((l.length : Int) ≤ a)
theorem right_eq (a : Int) (l : List S29) (s : List (List Int)) : net_Right.f a l s = some (rightB a l) := by
  unfold net_Right.f rightB
  by_cases c : a ≥ 0
  · by_cases d : a ≤ 64
    · rw [if_pos c, if_pos d, decide_eq_true c, decide_eq_true d]; rfl
    · rw [if_pos c, if_neg d, decide_eq_false d]; simp
  · rw [if_neg c, decide_eq_false c]; rfl
theorem rightB_iff (a : Int) (l : List S29) : rightB a l = true ↔ 0 ≤ a ∧ a ≤ 64 ∧ (l.length : Int) ≤ a := by
  unfold rightB
  simp [and_assoc]
/-- What is sent. -/
def sendM (a : Int) (l : List S29) (s : List (List Int)) (t : Int) (w : List Int) : Int × List S29 × List (List Int) × Int :=
  if (l.length : Int) < a then (a, l ++ [⟨t, w⟩], s ++ [w], 0) else (a, l, s, 10)
theorem send_eq (a : Int) (l : List S29) (s : List (List Int)) (t : Int) (w : List Int) (h0 : 0 ≤ a) (h1 : a ≤ 1000) (h2 : l.length ≤ 1000) (h3 : s.length ≤ 1000) : net_Send.f a l s t w = some (sendM a l s t w) := by
  unfold net_Send.f sendM
  rw [w64 (by omega) (by omega)]
  by_cases c : (l.length : Int) < a
  · rw [if_neg (by omega), if_pos (by omega), if_pos (by omega), if_pos c]
  · rw [if_pos (by omega), if_neg c]
/-- What is taken. -/
def takeM (a : Int) (l : List S29) (s : List (List Int)) (i : Int) : Int × List S29 × List (List Int) × Int × List Int × Int :=
  if 0 ≤ i ∧ i < (l.length : Int) then (a, l.eraseIdx i.toNat, s, (rd_T29 l i).f0, (rd_T29 l i).f1, 0) else (a, l, s, 0, [], 1)
theorem take_eq (a : Int) (l : List S29) (s : List (List Int)) (i : Int) (h2 : l.length ≤ 1000) : net_Take.f a l s i = some (takeM a l s i) := by
  unfold net_Take.f takeM
  by_cases c : i < 0
  · rw [if_pos c, if_neg (by omega)]
  · by_cases d : i ≥ (l.length : Int)
    · rw [if_neg c, if_pos d, if_neg (by omega)]
    · rw [if_neg c, if_neg d, if_pos (by omega), if_pos (by omega)]
/-- What is doubled. -/
def doubleM (a : Int) (l : List S29) (s : List (List Int)) (i : Int) : Int × List S29 × List (List Int) × Int :=
  if 0 ≤ i ∧ i < (l.length : Int) then (if (l.length : Int) < a then (a, l ++ [rd_T29 l i], s, 0) else (a, l, s, 10)) else (a, l, s, 1)
theorem double_eq (a : Int) (l : List S29) (s : List (List Int)) (i : Int) (h0 : 0 ≤ a) (h1 : a ≤ 1000) (h2 : l.length ≤ 1000) : net_Double.f a l s i = some (doubleM a l s i) := by
  unfold net_Double.f doubleM
  by_cases c : i < 0
  · rw [if_pos c, if_neg (by omega)]
  · by_cases d : i ≥ (l.length : Int)
    · rw [if_neg c, if_pos d, if_neg (by omega)]
    · rw [if_neg c, if_neg d, w64 (by omega) (by omega), if_pos (show 0 ≤ i ∧ i < (l.length : Int) by omega)]
      by_cases e : (l.length : Int) < a
      · rw [if_neg (by omega), if_pos (by omega), if_pos e]
      · rw [if_pos (by omega), if_neg e]
theorem send_fst (a : Int) (l : List S29) (s : List (List Int)) (t : Int) (w : List Int) : (sendM a l s t w).1 = a := by unfold sendM; split <;> rfl
theorem take_fst (a : Int) (l : List S29) (s : List (List Int)) (i : Int) : (takeM a l s i).1 = a := by unfold takeM; split <;> rfl
theorem double_fst (a : Int) (l : List S29) (s : List (List Int)) (i : Int) : (doubleM a l s i).1 = a := by unfold doubleM; split <;> (try split) <;> rfl
theorem mem_rd (l : List S29) (i : Int) (h : 0 ≤ i ∧ i < (l.length : Int)) : rd_T29 l i ∈ l := by
  obtain ⟨n, rfl⟩ : ∃ n : Nat, i = n := ⟨i.toNat, by omega⟩
  rw [rdS l n (by omega)]
  exact List.getElem_mem _
/-- The rows of a nearly small net. -/
structure Mid (l : List S29) (s : List (List Int)) : Prop where
  lg : l.length ≤ 100
  ls : s.length ≤ 400
  wg : ∀ x ∈ l, x.f1.length ≤ 100
  ws : ∀ x ∈ s, x.length ≤ 100
theorem Few.mid {l : List S29} {s : List (List Int)} (h : Few l s) : Mid l s := ⟨by have := h.lg; omega, by have := h.ls; omega, h.wg, h.ws⟩
theorem send_mid (a : Int) (l : List S29) (s : List (List Int)) (t : Int) (w : List Int) (h : Few l s) (hw : w.length ≤ 100) : Mid (sendM a l s t w).2.1 (sendM a l s t w).2.2.1 := by
  unfold sendM
  split
  · refine ⟨by have := h.lg; simp; omega, by have := h.ls; simp; omega, fun x hx => ?_, fun x hx => ?_⟩
    · rcases List.mem_append.1 hx with q | q
      · exact h.wg x q
      · rw [List.mem_singleton] at q; subst q; exact hw
    · rcases List.mem_append.1 hx with q | q
      · exact h.ws x q
      · rw [List.mem_singleton] at q; subst q; exact hw
  · exact h.mid
theorem take_mid (a : Int) (l : List S29) (s : List (List Int)) (i : Int) (h : Few l s) : Mid (takeM a l s i).2.1 (takeM a l s i).2.2.1 := by
  unfold takeM
  split
  · refine ⟨?_, h.mid.ls, fun x hx => h.wg x (List.mem_of_mem_eraseIdx hx), h.ws⟩
    have := h.lg
    have := List.length_eraseIdx_le l i.toNat
    show (l.eraseIdx i.toNat).length ≤ 100
    omega
  · exact h.mid
theorem take_word (a : Int) (l : List S29) (s : List (List Int)) (i : Int) (h : Few l s) : (takeM a l s i).2.2.2.2.1.length ≤ 100 := by
  unfold takeM
  split
  · rename_i c; exact h.wg _ (mem_rd l i c)
  · simp
theorem double_mid (a : Int) (l : List S29) (s : List (List Int)) (i : Int) (h : Few l s) : Mid (doubleM a l s i).2.1 (doubleM a l s i).2.2.1 := by
  unfold doubleM
  split
  · rename_i c
    split
    · refine ⟨by have := h.lg; simp; omega, h.mid.ls, fun x hx => ?_, h.ws⟩
      rcases List.mem_append.1 hx with q | q
      · exact h.wg x q
      · rw [List.mem_singleton] at q; subst q; exact h.wg _ (mem_rd l i c)
    · exact h.mid
  · exact h.mid
end uk
def nb.cnt (o : Int) (l : List S29) : Nat := (l.filter (fun x => rd x.f1 0 == o)).length
structure nb.Inv (R o : Int) (l : List S29) (s : List (List Int)) (sent : List Int) (many : Int) (i : Nat) : Prop where
  hR : 0 ≤ R ∧ R ≤ 64
  hl : (l.length : Int) ≤ R
  one : ∀ x ∈ l, x.f1.length = 1
  cnt : many = (nb.cnt o l : Int)
  seen : s = sent.map (fun w => [w])
  ls : sent.length ≤ i
theorem nb.cnt_add (o : Int) (l : List S29) (x : S29) : nb.cnt o (l ++ [x]) = nb.cnt o l + (if rd x.f1 0 = o then 1 else 0) := by
  unfold nb.cnt
  rw [List.filter_append, List.length_append]
  by_cases c : rd x.f1 0 = o <;> simp [c]
theorem nb.cnt_del (o : Int) (l : List S29) (i : Nat) (h : i < l.length) : nb.cnt o l = nb.cnt o (l.eraseIdx i) + (if rd l[i].f1 0 = o then 1 else 0) := by
  induction l generalizing i with
  | nil => simp at h
  | cons y ys ih =>
    cases i with
    | zero =>
      unfold nb.cnt
      by_cases c : rd y.f1 0 = o <;> simp [c]
    | succ i =>
      have := ih i (by simpa using h)
      unfold nb.cnt at this ⊢
      by_cases c : rd y.f1 0 = o <;> simp [c] <;> omega
theorem nb.Inv.mono {R o : Int} {l : List S29} {s : List (List Int)} {sent : List Int} {many : Int} {i j : Nat} (h : nb.Inv R o l s sent many i) (hij : i ≤ j) : nb.Inv R o l s sent many j := ⟨h.hR, h.hl, h.one, h.cnt, h.seen, Nat.le_trans h.ls hij⟩
theorem nb.Inv.send {R o : Int} {l : List S29} {s : List (List Int)} {sent : List Int} {many : Int} {i : Nat} (h : nb.Inv R o l s sent many i) (t w : Int) (hl : (l.length : Int) < R) : nb.Inv R o (l ++ [⟨t, [w]⟩]) (s ++ [[w]]) (sent ++ [w]) (many + if w = o then 1 else 0) (i + 1) := by
  refine ⟨h.hR, by simp; omega, ?_, ?_, by rw [h.seen]; simp, by have := h.ls; simp; omega⟩
  · intro x hx
    rcases List.mem_append.1 hx with q | q
    · exact h.one x q
    · obtain rfl := List.mem_singleton.1 q; rfl
  · rw [nb.cnt_add, h.cnt]
    have : rd [w] 0 = w := rfl
    simp only [this]
    split <;> simp
theorem nb.Inv.take {R o : Int} {l : List S29} {s : List (List Int)} {sent : List Int} {many : Int} {i : Nat} (h : nb.Inv R o l s sent many i) (j : Nat) (hj : j < l.length) : nb.Inv R o (l.eraseIdx j) s sent (many - if rd l[j].f1 0 = o then 1 else 0) (i + 1) := by
  refine ⟨h.hR, by have := h.hl; rw [List.length_eraseIdx, if_pos hj]; omega, fun x hx => h.one x (List.mem_of_mem_eraseIdx hx), ?_, h.seen, by have := h.ls; omega⟩
  rw [h.cnt, nb.cnt_del o l j hj]
  split <;> simp
theorem nb.Inv.dbl {R o : Int} {l : List S29} {s : List (List Int)} {sent : List Int} {many : Int} {i : Nat} (h : nb.Inv R o l s sent many i) (j : Nat) (hj : j < l.length) (hl : (l.length : Int) < R) : nb.Inv R o (l ++ [l[j]]) s sent (many + if rd l[j].f1 0 = o then 1 else 0) (i + 1) := by
  refine ⟨h.hR, by simp; omega, ?_, ?_, h.seen, by have := h.ls; omega⟩
  · intro x hx
    rcases List.mem_append.1 hx with q | q
    · exact h.one x q
    · obtain rfl := List.mem_singleton.1 q; exact h.one _ (List.getElem_mem hj)
  · rw [nb.cnt_add, h.cnt]
    split <;> simp
/-- The count, one frame after the other. -/
theorem nb.cnt_take (o : Int) (l : List S29) (i : Nat) (h : i < l.length) : nb.cnt o (l.take (i + 1)) = nb.cnt o (l.take i) + (if rd l[i].f1 0 = o then 1 else 0) := by
  rw [List.take_succ_eq_append_getElem h, nb.cnt_add]
/-- The bag, and a net in a box. -/
structure nb.Bag (W : World) (gn bx : Nat) (v9 : Value) (R : Int) (A1 : Option Addr) (c1 : Nat) (l : List S29) (A2 : Option Addr) (c2 : Nat) (s : List (List Int)) : Prop where
  b : W.heap[bx]? = some (.cells #[.int .i64 R, .slice A1 l.length c1, .slice A2 s.length c2] 25 (0, 0))
  v1 : Kd.V k29 29 W 0 (fun k => k ≠ gn ∧ some k ≠ v9.ownBlock) (.slice A1 l.length c1) l
  v2 : Kd.V (Kd.slice 26 (Kd.int .u32)) 27 W 0 (fun k => k ≠ gn ∧ some k ≠ v9.ownBlock) (.slice A2 s.length c2) s
theorem nb.add0 (a : Addr) : a.add 0 = a := by unfold Addr.add; simp
theorem nb.Bag.below {W W1 : World} {gn bx : Nat} {v9 : Value} {R : Int} {A1 : Option Addr} {c1 : Nat} {l : List S29} {A2 : Option Addr} {c2 : Nat} {s : List (List Int)} (h : nb.Bag W gn bx v9 R A1 c1 l A2 c2 s) (hb : Below W.heap.size W W1) : nb.Bag W1 gn bx v9 R A1 c1 l A2 c2 s :=
  ⟨blk_below h.b hb, Kd.V_below h.v1 hb, Kd.V_below h.v2 hb⟩
theorem nb.Bag.copy {W : World} {gn bx : Nat} {v9 : Value} {R : Int} {A1 : Option Addr} {c1 : Nat} {l : List S29} {A2 : Option Addr} {c2 : Nat} {s : List (List Int)} {z0 z1 z2 : Value} (h : nb.Bag W gn bx v9 R A1 c1 l A2 c2 s) (hn : W.heap[gn]? = some (.cells #[z0, z1, z2] 25 (0, 0))) :
    nb.Bag (((W.setCell ⟨gn, 0, none⟩ (.int .i64 R)).setCell ⟨gn, 1, none⟩ (.slice A1 l.length c1)).setCell ⟨gn, 2, none⟩ (.slice A2 s.length c2)) gn gn v9 R A1 c1 l A2 c2 s :=
  ⟨bp3_ hn, Kd.V_far (p := ⟨gn, 2, none⟩) (Kd.V_far (p := ⟨gn, 1, none⟩) (Kd.V_far (p := ⟨gn, 0, none⟩) h.v1 (fun k hk => hk.1) _) (fun k hk => hk.1) _) (fun k hk => hk.1) _,
    Kd.V_far (p := ⟨gn, 2, none⟩) (Kd.V_far (p := ⟨gn, 1, none⟩) (Kd.V_far (p := ⟨gn, 0, none⟩) h.v2 (fun k hk => hk.1) _) (fun k hk => hk.1) _) (fun k hk => hk.1) _⟩
theorem nb.Bag.after {W W1 : World} {gn bx : Nat} {v9 v1 : Value} {R : Int} {A1 : Option Addr} {c1 : Nat} {l : List S29} {A2 : Option Addr} {c2 : Nat} {s : List (List Int)} (h : nb.Bag W gn bx v9 R A1 c1 l A2 c2 s) (hg : W.grownBy W1 v9.ownBlock) (hat : v1.ownBlock = v9.ownBlock ∨ ∃ b, v1.ownBlock = some b ∧ W.heap.size ≤ b) (hne : some bx ≠ v9.ownBlock) : nb.Bag W1 gn bx v1 R A1 c1 l A2 c2 s :=
  ⟨(hg.block bx (blk_lt h.b) hne).trans h.b, Kd.V_afterv (ok := fun k => k ≠ gn) h.v1 hg hat, Kd.V_afterv (ok := fun k => k ≠ gn) h.v2 hg hat⟩
theorem nb.cut (A : Option Addr) (n c j : Nat) (hj : j < n) (hn : n ≤ c) (jj : Int) (hjj : jj = (j : Int) + 1) : ∀ W : World, (Instr.slice 27 (.slice A n c) (some (.int .i64 (j : Int))) (some (.int .i64 jj)) none).run Try.prog W = .ok (.slice (A.map (·.add (j * 1))) 1 (c - j)) W := by
  intro W
  have hu : Try.prog.underlying 27 = some (.slice (Try.prog.elem 27)) := by kernel_rfl
  have hs : ∀ W : World, (sizeOf (Try.prog.elem 27)).run Try.prog W = .ok 1 W := fun W => by kernel_rfl
  rw [run_slice_lh W 27 A n c hu .i64 .i64 (j : Int) jj (by omega) (by omega) (by omega), hs]
  have h1 : jj.toNat - j = 1 := by omega
  have h2 : c ≠ j := by omega
  simp [sliced, Result.andThen, h1, h2]
set_option maxHeartbeats 8000000 in
set_option maxRecDepth 100000 in
theorem chamberlainlaw06_NetBag.calls (a0 : Int) (A1 : Option Addr) (c1 : Nat) (l1 : List Int) (a2 : Int) (r : Bool) (w : World) (hr1 : Kd.C (Kd.int .u8) w A1 l1.length l1) (hc1 : l1.length ≤ c1) (h : chamberlainlaw06_NetBag.f a0 l1 a2 = some r) (hT0 : r = true) :
    Calls Try.prog 4 #[.int .u8 a0, .slice A1 l1.length c1, .int .u8 a2] w fun e w' => e = .returned (.bool r) ∧ Below w.heap.size w w' := by
  have hT := Aside0.mk hT0
  clear hT0
  unfold chamberlainlaw06_NetBag.f at h
  by_cases hwf : 0 ≤ a0 ∧ a0 < 256 ∧ (∀ x ∈ l1, 0 ≤ x ∧ x < 256) ∧ 0 ≤ a2 ∧ a2 < 256
  rotate_left
  · rw [if_neg hwf] at h; cases h
  rw [if_pos hwf] at h
  obtain rfl := Option.some.inj h
  obtain ⟨w1, w2, w3, w4, w5⟩ := hwf
  clear h hT
  have hu25 := Try.underlying25
  have hu29 := Try.underlying29
  have F1 := Kd.C_F (Kd.heap_int .u8) hr1
  have hmax := hr1.2.1
  have AW := Aside0.mk (uk.awake60 60 (Nat.le_refl _))
  by_cases h100 : l1.length ≤ 100
  rotate_left
  · have q : decide ((l1.length : Int) > 100) = true := decide_eq_true (by omega)
    have q2 : decide (100 < l1.length) = true := decide_eq_true (by omega)
    clear h100
    have HB := Below.refl w.heap.size w
    go_enter Try.func4, Try.ntmps4
    go_wp2_with (first | (go_at_call 8; (with_reducible refine (chamberlainlaw06_awake.calls 60 true _ AW.out).mono ?_); rintro e W1 ⟨rfl, hb1⟩; replace HB := HB.trans (hb1.mono HB.size); clear hb1))
    go_ret
    exact ⟨rfl, HB⟩
  have q : decide ((l1.length : Int) > 100) = false := decide_eq_false (by omega)
  have q2 : decide (100 < l1.length) = false := decide_eq_false (by omega)
  have HB := Below.refl w.heap.size w
  obtain ⟨R, hR⟩ : ∃ R, R = a0 % 65 := ⟨_, rfl⟩
  have hR64 : 0 ≤ R ∧ R ≤ 64 := by omega
  have w33 : Int.tmod a0 65 = R := by rw [hR]; exact Int.tmod_eq_emod_of_nonneg w1
  obtain ⟨o, ho⟩ : ∃ o, o = a2 % 4 := ⟨_, rfl⟩
  have ho4 : 0 ≤ o ∧ o < 4 := by omega
  have w44 : Int.tmod a2 4 = o := by rw [ho]; exact Int.tmod_eq_emod_of_nonneg w4
  clear hR ho
  have I0 : nb.Inv R o [] [] [] 0 0 := ⟨hR64, by simp; omega, by simp, by simp [nb.cnt], rfl, by simp⟩
  go_enter Try.func4, Try.ntmps4
  go_wp2_with (first | (go_at_call 8; (with_reducible refine (chamberlainlaw06_awake.calls 60 true _ AW.out).mono ?_); rintro e W1 ⟨rfl, hb1⟩; replace HB := HB.trans (hb1.mono HB.size); clear hb1) | ((with_reducible refine gate_dst (N := 7) rfl ?_); refine box_event ?hg (N := 7) ?hd (cs := #[.int .i64 0, .slice none 0 0, .slice none 0 0]) (t := 25) ?hr ?_; (case hd => rfl); (case hg => rfl); (case hr => first | (go_simp; done) | (go_simp; rfl)); intro gn hgn W2 Bn hb_; have wgn : W1.heap.size ≤ gn := Nat.le_of_eq hgn.symm; have HC : Below W1.heap.size W1 W2 := hb_; clear hgn hb_; have pn0_ : W2.cell? ⟨gn, 0, none⟩ = some (.int .i64 0) := (blk_cell Bn 0).trans rfl; have zpn0_ := blk_frozen Bn 0; have pn1_ : W2.cell? ⟨gn, 1, none⟩ = some (.slice none 0 0) := (blk_cell Bn 1).trans rfl; have zpn1_ := blk_frozen Bn 1; have pn2_ : W2.cell? ⟨gn, 2, none⟩ = some (.slice none 0 0) := (blk_cell Bn 2).trans rfl; have zpn2_ := blk_frozen Bn 2) | ((with_reducible refine gate_store (t := 25) (p := 7) rfl ?_); refine store_event (t := 25) (p := 7) (v := ?von0_) (w1 := (((W2.setCell ⟨gn, 0, none⟩ (.int .i64 R)).setCell ⟨gn, 1, none⟩ (.slice none 0 0)).setCell ⟨gn, 2, none⟩ (.slice none 0 0))) ?hg ?ho ?hn ?hr ?_; (case ho => rfl); (case hg => rfl); (case hn => rfl); (case hr => first | (go_simp; done) | (go_simp; rfl)); intro W3 hw; have B_ := (by rw [hw]; exact bp3_ Bn : W3.heap[gn]? = some (.cells #[.int .i64 R, .slice none 0 0, .slice none 0 0] 25 (0, 0))); have HC_ := (by rw [hw]; exact (below_set (below_set (below_set HC wgn) wgn) wgn) : Below W1.heap.size W1 W3); clear hw HC Bn; have HC := HC_; have Bn := B_; clear HC_ B_; (try clear pn0_); (try clear zpn0_); (try clear pn1_); (try clear zpn1_); (try clear pn2_); (try clear zpn2_); replace wgn : w.heap.size ≤ gn := Nat.le_trans HB.size wgn; replace HB := HB.trans (HC.mono HB.size); have BG := (⟨Bn, Kd.V_nil _ _ _ _ _, Kd.V_nil _ _ _ _ _⟩ : nb.Bag W3 gn gn (.slice none 0 0) R none 0 [] none 0 []); clear HC Bn))
  go_loopg [8, 9, 10] (l1.length + 1) (fun kq v8 v9 v10 w' => ∃ (many : Int) (i : Nat) (l : List S29) (s : List (List Int)) (sent : List Int) (Ag : Option Addr) (cg : Nat) (As : Option Addr) (cs_ : Nat), v8 = .int .i64 many ∧ v10 = .int .i64 (i : Int) ∧ Aside0 (nb.Inv R o l s sent many i) ∧ Aside0 (i + kq = l1.length + 1) ∧ Aside0 (i ≤ l1.length) ∧ Aside0 (nb.Bag w' gn gn v9 R Ag cg l As cs_ s) ∧ Aside0 (Kd.N (Kd.int .u32) 26 w' w.heap.size (fun k => gn < k) v9 sent) ∧ Aside0 (Below w.heap.size w w'))
  case atStart => exact ⟨0, 0, [], [], [], none, 0, none, 0, rfl, rfl, ⟨I0⟩, ⟨Nat.zero_add _⟩, ⟨Nat.zero_le _⟩, ⟨BG⟩, ⟨Kd.N_nil _ _ _ _ _⟩, ⟨HB⟩⟩
  case round =>
    clear I0 BG HB
    obtain ⟨many, i, l, s, sent, Ag, cg, As, cs_, rfl, rfl, HI, HA, HL, HG, H9, HB⟩ := hrel
    cases gk with
    | zero => have := HA.out; have := HL.out; omega
    | succ k2 =>
      by_cases c : i < l1.length
      · have cb : decide ((i : Int) < (l1.length : Int)) = true := decide_eq_true (by omega)
        have p1 : (0 ≤ (i : Int)) = True := eq_true (by omega)
        have p2 : ((i : Int) < (l1.length : Int)) = True := eq_true (by omega)
        obtain ⟨adD, eD, hxD⟩ := Kd.at_int (Kd.F_now (Kd.F_below F1 HB.out)) (i : Int) (by omega) (by omega)
        cases eD
        obtain ⟨d, hd⟩ : ∃ d, d = rd l1 (i : Int) := ⟨_, rfl⟩
        have hd2 : 0 ≤ d ∧ d < 256 := by rw [hd, uk.rd_nat l1 i c]; exact w3 _ (List.getElem_mem c)
        rw [← hd, Int.toNat_natCast] at hxD
        clear hd
        obtain ⟨ww, hww⟩ : ∃ x, x = d % 4 := ⟨_, rfl⟩
        have t4 : Int.tmod d 4 = ww := by rw [hww]; exact Int.tmod_eq_emod_of_nonneg hd2.1
        have hww4 : 0 ≤ ww ∧ ww < 4 := by omega
        obtain ⟨dd, hdd⟩ : ∃ x, x = d / 16 := ⟨_, rfl⟩
        have t16 : Int.tdiv d 16 = dd := by rw [hdd]; exact Int.tdiv_eq_ediv_of_nonneg hd2.1
        obtain ⟨pl, hpl⟩ : ∃ x, x = dd % 8 := ⟨_, rfl⟩
        have t8 : dd % 256 % 8 = pl := by omega
        have hpl8 : 0 ≤ pl ∧ pl < 8 := by omega
        have hd3 : d % 3 = 0 ∨ d % 3 = 1 ∨ d % 3 = 2 := by omega
        clear hww hdd hpl
        have I := HI.out
        have BG := HG.out
        have N9 := H9.out
        have HSL := Aside0.mk (show sent.length ≤ 100 by have := I.ls; omega)
        have hlR := I.hl
        have hmb : 0 ≤ many ∧ many ≤ 64 := by
          rw [I.cnt]
          have : nb.cnt o l ≤ l.length := List.length_filter_le _ _
          omega
        have hsl : s.length ≤ 100 := by rw [I.seen]; have := I.ls; simp; omega
        replace HB := HB.out
        have w58 : Value.int .i64 (wrap64 ((i : Int) + 1)) = Value.int .i64 ((i + 1 : Nat) : Int) := by rw [uk.w64 (by omega) (by omega)]; rfl
        clear HI HG H9
        have k0_ : wr.cell? ⟨gn, 0, none⟩ = some (.int .i64 R) := (blk_cell BG.b 0).trans rfl; have zk0_ := blk_frozen BG.b 0; have k1_ : wr.cell? ⟨gn, 1, none⟩ = some (.slice Ag l.length cg) := (blk_cell BG.b 1).trans rfl; have zk1_ := blk_frozen BG.b 1; have k2_ : wr.cell? ⟨gn, 2, none⟩ = some (.slice As s.length cs_) := (blk_cell BG.b 2).trans rfl; have zk2_ := blk_frozen BG.b 2
        rcases hd3 with hd3 | hd3 | hd3
        · have t3 : Int.tmod d 3 = 0 := by rw [← hd3]; exact Int.tmod_eq_emod_of_nonneg hd2.1
          clear hd3
          obtain ⟨xs, hxs⟩ : ∃ xs : List Int, xs = [ww] := ⟨_, rfl⟩
          have NX := Aside0.mk hxs
          by_cases hr : (l.length : Int) < R
          · obtain ⟨ys, hys⟩ : ∃ ys : List S29, ys = l ++ [⟨1, [ww]⟩] := ⟨_, rfl⟩
            obtain ⟨zs, hzs⟩ : ∃ zs : List (List Int), zs = s ++ [[ww]] := ⟨_, rfl⟩
            have IS := I.send 1 ww hr
            rw [← hys, ← hzs, ← hxs] at IS
            have AS := Aside0.mk (show net_Send.f R l s 1 xs = some (R, ys, zs, 0) by rw [uk.send_eq R l s 1 xs hR64.1 (by omega) (by omega) (by omega), hys, hzs, hxs]; unfold uk.sendM; rw [if_pos hr])
            have AR := Aside0.mk (show net_Right.f R ys zs = some true by rw [uk.right_eq, (uk.rightB_iff R ys).2 ⟨hR64.1, hR64.2, IS.hl⟩])
            clear hr hys hzs hxs I hlR
            by_cases hc : ww = o
            · rw [if_pos hc] at IS
              have IN := Aside0.mk IS
              have e1 : (ww == o) = true := beq_iff_eq.mpr hc
              have wm8 : Value.int .i64 (wrap64 (many + 1)) = Value.int .i64 (many + 1) := by rw [uk.w64 (by omega) (by omega)]
              clear hc IS
              go_wp2_with (first | ((with_reducible refine gate_dst (N := 59) rfl ?_); refine Kd.N_lit (Kd.int .u32) _ 26 ?hg (N' := 59) ?hd (xs := [ww]) (inner := [.int .u32 ww]) (ok := fun k => k ≠ gn ∧ some k ≠ u9.ownBlock) (okp := fun _ => False) ?hr ?hp (fun _ hk => hk.elim) ⟨Nat.ne_of_gt (blk_lt BG.b), fun e_ => Nat.lt_irrefl _ (Kd.N_lt N9 _ e_.symm)⟩ (Below.refl _ _) (Nat.le_refl _) (by simp) ?_; (case hd => rfl); (case hg => rfl); (case hr => first | (go_simp; done) | (go_simp; rfl)); (case hp => exact (Reps.none _ _).snoc (fun _ _ => rfl) rfl); intro v59 W4 hN59 hb_ hg_ hnew_; clear hg_ hnew_; rw [← NX.out] at hN59; obtain ⟨Aw59, cw59, ev⟩ := Kd.N_slice hN59; subst ev; replace BG := BG.below hb_; replace N9 := Kd.N_below N9 hb_; replace HB := HB.trans (hb_.mono HB.size); clear hb_; (try clear k0_); (try clear zk0_); (try clear k1_); (try clear zk1_); (try clear k2_); (try clear zk2_); have k0_ : W4.cell? ⟨gn, 0, none⟩ = some (.int .i64 R) := (blk_cell BG.b 0).trans rfl; have zk0_ := blk_frozen BG.b 0; have k1_ : W4.cell? ⟨gn, 1, none⟩ = some (.slice Ag l.length cg) := (blk_cell BG.b 1).trans rfl; have zk1_ := blk_frozen BG.b 1; have k2_ : W4.cell? ⟨gn, 2, none⟩ = some (.slice As s.length cs_) := (blk_cell BG.b 2).trans rfl; have zk2_ := blk_frozen BG.b 2))
              refine (net_Send.calls R (fun k => k ≠ gn ∧ some k ≠ u9.ownBlock) Ag cg l (fun k => k ≠ gn ∧ some k ≠ u9.ownBlock) As cs_ s 1 (fun k => k ≠ gn ∧ some k ≠ u9.ownBlock) Aw59 cw59 xs R ys zs 0 _ BG.v1 BG.v2 (Kd.N_V hN59) AS.out).mono ?_
              rintro e W5 ⟨_, _, rfl, h1, h2, hb_⟩
              obtain ⟨Am, cm, rfl⟩ := Kd.V_slice h1
              obtain ⟨Bs, dm, rfl⟩ := Kd.V_slice h2
              replace h1 := Kd.V_mono (ok' := fun k => k ≠ gn ∧ some k ≠ u9.ownBlock) h1 (fun k hk => hk.elim (fun h => by first | exact h.elim id id | exact h.elim id (fun h => h.elim id id)) (fun h => ⟨by have := blk_lt BG.b; omega, fun e_ => by have := Kd.N_lt N9 k e_.symm; omega⟩))
              replace h2 := Kd.V_mono (ok' := fun k => k ≠ gn ∧ some k ≠ u9.ownBlock) h2 (fun k hk => hk.elim (fun h => by first | exact h.elim id id | exact h.elim id (fun h => h.elim id id)) (fun h => ⟨by have := blk_lt BG.b; omega, fun e_ => by have := Kd.N_lt N9 k e_.symm; omega⟩))
              replace BG := BG.below hb_
              replace N9 := Kd.N_below N9 hb_
              replace HB := HB.trans (hb_.mono HB.size)
              clear hb_
              (try clear k0_); (try clear zk0_); (try clear k1_); (try clear zk1_); (try clear k2_); (try clear zk2_)
              go_wp2_with (first | ((with_reducible refine gate_dst (N := 14) rfl ?_); refine box_event ?hg (N := 14) ?hd (cs := #[.int .i64 0, .slice none 0 0, .slice none 0 0]) (t := 25) ?hr ?_; (case hd => rfl); (case hg => rfl); (case hr => first | (go_simp; done) | (go_simp; rfl)); intro gm hgm W6 Bm hb_; have wgm : W5.heap.size ≤ gm := Nat.le_of_eq hgm.symm; have HC : Below W5.heap.size W5 W6 := hb_; clear hgm hb_; have pm0_ : W6.cell? ⟨gm, 0, none⟩ = some (.int .i64 0) := (blk_cell Bm 0).trans rfl; have zpm0_ := blk_frozen Bm 0; have pm1_ : W6.cell? ⟨gm, 1, none⟩ = some (.slice none 0 0) := (blk_cell Bm 1).trans rfl; have zpm1_ := blk_frozen Bm 1; have pm2_ : W6.cell? ⟨gm, 2, none⟩ = some (.slice none 0 0) := (blk_cell Bm 2).trans rfl; have zpm2_ := blk_frozen Bm 2) | ((with_reducible refine gate_store (t := 25) (p := 14) rfl ?_); refine store_event (t := 25) (p := 14) (v := ?vom14_) (w1 := (((W6.setCell ⟨gm, 0, none⟩ (.int .i64 R)).setCell ⟨gm, 1, none⟩ (.slice Am ys.length cm)).setCell ⟨gm, 2, none⟩ (.slice Bs zs.length dm))) ?hg ?ho ?hn ?hr ?_; (case ho => rfl); (case hg => rfl); (case hn => rfl); (case hr => first | (go_simp; done) | (go_simp; rfl)); intro W7 hw; have B_ := (by rw [hw]; exact bp3_ Bm : W7.heap[gm]? = some (.cells #[.int .i64 R, .slice Am ys.length cm, .slice Bs zs.length dm] 25 (0, 0))); have HC_ := (by rw [hw]; exact (below_set (below_set (below_set HC wgm) wgm) wgm) : Below W5.heap.size W5 W7); clear hw HC Bm; have HC := HC_; have Bm := B_; clear HC_ B_; (try clear pm0_); (try clear zpm0_); (try clear pm1_); (try clear zpm1_); (try clear pm2_); (try clear zpm2_); have ngm : gm ≠ gn := (by have := blk_lt BG.b; omega); have n9m : some gm ≠ u9.ownBlock := (fun e_ => by have := Kd.N_lt N9 gm e_.symm; omega); have M := (⟨Bm, Kd.V_below h1 HC, Kd.V_below h2 HC⟩ : nb.Bag W7 gn gm u9 R Am cm ys Bs dm zs); replace BG := BG.below HC; replace N9 := Kd.N_below N9 HC; replace HB := HB.trans (HC.mono HB.size); clear HC Bm h1 h2 wgm; (try clear k0_); (try clear zk0_); (try clear k1_); (try clear zk1_); (try clear k2_); (try clear zk2_); (try clear pm0_); (try clear zpm0_); (try clear pm1_); (try clear zpm1_); (try clear pm2_); (try clear zpm2_); (try clear km0_); (try clear zkm0_); (try clear km1_); (try clear zkm1_); (try clear km2_); (try clear zkm2_); have k0_ : W7.cell? ⟨gn, 0, none⟩ = some (.int .i64 R) := (blk_cell BG.b 0).trans rfl; have zk0_ := blk_frozen BG.b 0; have k1_ : W7.cell? ⟨gn, 1, none⟩ = some (.slice Ag l.length cg) := (blk_cell BG.b 1).trans rfl; have zk1_ := blk_frozen BG.b 1; have k2_ : W7.cell? ⟨gn, 2, none⟩ = some (.slice As s.length cs_) := (blk_cell BG.b 2).trans rfl; have zk2_ := blk_frozen BG.b 2; have km0_ : W7.cell? ⟨gm, 0, none⟩ = some (.int .i64 R) := (blk_cell M.b 0).trans rfl; have zkm0_ := blk_frozen M.b 0; have km1_ : W7.cell? ⟨gm, 1, none⟩ = some (.slice Am ys.length cm) := (blk_cell M.b 1).trans rfl; have zkm1_ := blk_frozen M.b 1; have km2_ : W7.cell? ⟨gm, 2, none⟩ = some (.slice Bs zs.length dm) := (blk_cell M.b 2).trans rfl; have zkm2_ := blk_frozen M.b 2) | ((with_reducible refine gate_dst (N := 68) rfl ?_); refine Kd.N_lit (Kd.int .u32) _ 26 ?hg (N' := 68) ?hd (xs := [ww]) (inner := [.int .u32 ww]) (ok := fun k => gn < k ∧ some k ≠ u9.ownBlock) (okp := fun _ => False) ?hr ?hp (fun _ hk => hk.elim) ⟨blk_lt BG.b, fun e_ => Nat.lt_irrefl _ (Kd.N_lt N9 _ e_.symm)⟩ (Below.refl _ _) (Nat.le_refl _) (by simp) ?_; (case hd => rfl); (case hg => rfl); (case hr => first | (go_simp; done) | (go_simp; rfl)); (case hp => exact (Reps.none _ _).snoc (fun _ _ => rfl) rfl); intro v68 W8 hN68 hb_ hg_ hnew_; clear hg_ hnew_; rw [← NX.out] at hN68; obtain ⟨Aw68, cw68, ev⟩ := Kd.N_slice hN68; subst ev; replace BG := BG.below hb_; replace M := M.below hb_; replace N9 := Kd.N_below N9 hb_; replace HB := HB.trans (hb_.mono HB.size); clear hb_; (try clear k0_); (try clear zk0_); (try clear k1_); (try clear zk1_); (try clear k2_); (try clear zk2_); (try clear km0_); (try clear zkm0_); (try clear km1_); (try clear zkm1_); (try clear km2_); (try clear zkm2_); have k0_ : W8.cell? ⟨gn, 0, none⟩ = some (.int .i64 R) := (blk_cell BG.b 0).trans rfl; have zk0_ := blk_frozen BG.b 0; have k1_ : W8.cell? ⟨gn, 1, none⟩ = some (.slice Ag l.length cg) := (blk_cell BG.b 1).trans rfl; have zk1_ := blk_frozen BG.b 1; have k2_ : W8.cell? ⟨gn, 2, none⟩ = some (.slice As s.length cs_) := (blk_cell BG.b 2).trans rfl; have zk2_ := blk_frozen BG.b 2; have km0_ : W8.cell? ⟨gm, 0, none⟩ = some (.int .i64 R) := (blk_cell M.b 0).trans rfl; have zkm0_ := blk_frozen M.b 0; have km1_ : W8.cell? ⟨gm, 1, none⟩ = some (.slice Am ys.length cm) := (blk_cell M.b 1).trans rfl; have zkm1_ := blk_frozen M.b 1; have km2_ : W8.cell? ⟨gm, 2, none⟩ = some (.slice Bs zs.length dm) := (blk_cell M.b 2).trans rfl; have zkm2_ := blk_frozen M.b 2) | ((with_reducible refine gate_builtin (b := .append) (xs := #[.tmp 66, .tmp 68]) rfl ?_); at_builtin; refine Kd.N_append_rows (Kd.int .u32) (w0 := w) w.heap.size rfl (.tmp 66) (.tmp 68) 27 26 (.int .u32 0) 4 rfl Try.underlying27 info26 rfl (by decide) (by omega) u9 sent xs _ _ _ (fun k => gn < k) (fun k => gn < k ∧ some k ≠ u9.ownBlock) rfl rfl N9 (Kd.N_F hN68) (fun k hk => hk) (fun k hk => by have := blk_lt BG.b; omega) HB HB.size (by have := HSL.out; rw [NX.out]; simp; omega) ?_; intro v69 W9 hN9 HB9 hg9 hat9; replace M := M.after hg9 hat9 n9m; replace BG := BG.after hg9 hat9 (fun e_ => Nat.lt_irrefl _ (N9.1 gn e_.symm)); clear N9 HB hN68; have N9 := hN9; have HB := HB9; clear hN9 HB9 hg9 hat9; (try clear k0_); (try clear zk0_); (try clear k1_); (try clear zk1_); (try clear k2_); (try clear zk2_); (try clear km0_); (try clear zkm0_); (try clear km1_); (try clear zkm1_); (try clear km2_); (try clear zkm2_); have k0_ : W9.cell? ⟨gn, 0, none⟩ = some (.int .i64 R) := (blk_cell BG.b 0).trans rfl; have zk0_ := blk_frozen BG.b 0; have k1_ : W9.cell? ⟨gn, 1, none⟩ = some (.slice Ag l.length cg) := (blk_cell BG.b 1).trans rfl; have zk1_ := blk_frozen BG.b 1; have k2_ : W9.cell? ⟨gn, 2, none⟩ = some (.slice As s.length cs_) := (blk_cell BG.b 2).trans rfl; have zk2_ := blk_frozen BG.b 2; have km0_ : W9.cell? ⟨gm, 0, none⟩ = some (.int .i64 R) := (blk_cell M.b 0).trans rfl; have zkm0_ := blk_frozen M.b 0; have km1_ : W9.cell? ⟨gm, 1, none⟩ = some (.slice Am ys.length cm) := (blk_cell M.b 1).trans rfl; have zkm1_ := blk_frozen M.b 1; have km2_ : W9.cell? ⟨gm, 2, none⟩ = some (.slice Bs zs.length dm) := (blk_cell M.b 2).trans rfl; have zkm2_ := blk_frozen M.b 2) | ((with_reducible refine gate_store (t := 25) (p := 7) rfl ?_); refine store_event (t := 25) (p := 7) (v := ?von14_) (w1 := (((W9.setCell ⟨gn, 0, none⟩ (.int .i64 R)).setCell ⟨gn, 1, none⟩ (.slice Am ys.length cm)).setCell ⟨gn, 2, none⟩ (.slice Bs zs.length dm))) ?hg ?ho ?hn ?hr ?_; (case ho => rfl); (case hg => rfl); (case hn => rfl); (case hr => first | (go_simp; done) | (go_simp; rfl)); intro W10 hw; have BG_ := (by rw [hw]; exact M.copy BG.b : nb.Bag W10 gn gn v69 R Am cm ys Bs dm zs); have N9_ := (by rw [hw]; exact Kd.N_far (p := ⟨gn, 2, none⟩) (Kd.N_far (p := ⟨gn, 1, none⟩) (Kd.N_far (p := ⟨gn, 0, none⟩) N9 (fun k hk => Nat.ne_of_gt hk) _) (fun k hk => Nat.ne_of_gt hk) _) (fun k hk => Nat.ne_of_gt hk) _ : Kd.N (Kd.int .u32) 26 W10 w.heap.size (fun k => gn < k) v69 _); have HB_ := (by rw [hw]; exact below_set (below_set (below_set HB wgn) wgn) wgn : Below w.heap.size w W10); clear hw BG N9 HB M; have BG := BG_; have N9 := N9_; have HB := HB_; clear BG_ N9_ HB_; (try clear k0_); (try clear zk0_); (try clear k1_); (try clear zk1_); (try clear k2_); (try clear zk2_); (try clear km0_); (try clear zkm0_); (try clear km1_); (try clear zkm1_); (try clear km2_); (try clear zkm2_); have k0_ : W10.cell? ⟨gn, 0, none⟩ = some (.int .i64 R) := (blk_cell BG.b 0).trans rfl; have zk0_ := blk_frozen BG.b 0; have k1_ : W10.cell? ⟨gn, 1, none⟩ = some (.slice Am ys.length cm) := (blk_cell BG.b 1).trans rfl; have zk1_ := blk_frozen BG.b 1; have k2_ : W10.cell? ⟨gn, 2, none⟩ = some (.slice Bs zs.length dm) := (blk_cell BG.b 2).trans rfl; have zk2_ := blk_frozen BG.b 2) | (go_at_call 10; (with_reducible refine (net_Right.calls R _ cm ys _ dm zs true _ (Kd.V_reads' BG.v1).2.2 (Kd.V_reads' BG.v1).2.1 (Kd.V_reads' BG.v2).2.2 (Kd.V_reads' BG.v2).2.1 AR.out).mono ?_); rintro e W11 ⟨rfl, hb_⟩; replace BG := BG.below hb_; replace N9 := Kd.N_below N9 hb_; replace HB := HB.trans (hb_.mono HB.size); clear hb_; (try clear k0_); (try clear zk0_); (try clear k1_); (try clear zk1_); (try clear k2_); (try clear zk2_)))
              go_roundg k2
              case measure => exact Nat.lt_succ_self _
              case rel => exact ⟨many + 1, i + 1, ys, zs, sent ++ xs, Am, cm, Bs, dm, (by first | rfl | exact wm8), (by first | rfl | exact w58), ⟨IN.out⟩, ⟨by have := HA.out; omega⟩, ⟨by omega⟩, ⟨BG⟩, ⟨N9⟩, ⟨HB⟩⟩
            · rw [if_neg hc, Int.add_zero] at IS
              have IN := Aside0.mk IS
              have e1 : (ww == o) = false := beq_eq_false_iff_ne.mpr hc
              clear hc IS
              go_wp2_with (first | ((with_reducible refine gate_dst (N := 59) rfl ?_); refine Kd.N_lit (Kd.int .u32) _ 26 ?hg (N' := 59) ?hd (xs := [ww]) (inner := [.int .u32 ww]) (ok := fun k => k ≠ gn ∧ some k ≠ u9.ownBlock) (okp := fun _ => False) ?hr ?hp (fun _ hk => hk.elim) ⟨Nat.ne_of_gt (blk_lt BG.b), fun e_ => Nat.lt_irrefl _ (Kd.N_lt N9 _ e_.symm)⟩ (Below.refl _ _) (Nat.le_refl _) (by simp) ?_; (case hd => rfl); (case hg => rfl); (case hr => first | (go_simp; done) | (go_simp; rfl)); (case hp => exact (Reps.none _ _).snoc (fun _ _ => rfl) rfl); intro v59 W4 hN59 hb_ hg_ hnew_; clear hg_ hnew_; rw [← NX.out] at hN59; obtain ⟨Aw59, cw59, ev⟩ := Kd.N_slice hN59; subst ev; replace BG := BG.below hb_; replace N9 := Kd.N_below N9 hb_; replace HB := HB.trans (hb_.mono HB.size); clear hb_; (try clear k0_); (try clear zk0_); (try clear k1_); (try clear zk1_); (try clear k2_); (try clear zk2_); have k0_ : W4.cell? ⟨gn, 0, none⟩ = some (.int .i64 R) := (blk_cell BG.b 0).trans rfl; have zk0_ := blk_frozen BG.b 0; have k1_ : W4.cell? ⟨gn, 1, none⟩ = some (.slice Ag l.length cg) := (blk_cell BG.b 1).trans rfl; have zk1_ := blk_frozen BG.b 1; have k2_ : W4.cell? ⟨gn, 2, none⟩ = some (.slice As s.length cs_) := (blk_cell BG.b 2).trans rfl; have zk2_ := blk_frozen BG.b 2))
              refine (net_Send.calls R (fun k => k ≠ gn ∧ some k ≠ u9.ownBlock) Ag cg l (fun k => k ≠ gn ∧ some k ≠ u9.ownBlock) As cs_ s 1 (fun k => k ≠ gn ∧ some k ≠ u9.ownBlock) Aw59 cw59 xs R ys zs 0 _ BG.v1 BG.v2 (Kd.N_V hN59) AS.out).mono ?_
              rintro e W5 ⟨_, _, rfl, h1, h2, hb_⟩
              obtain ⟨Am, cm, rfl⟩ := Kd.V_slice h1
              obtain ⟨Bs, dm, rfl⟩ := Kd.V_slice h2
              replace h1 := Kd.V_mono (ok' := fun k => k ≠ gn ∧ some k ≠ u9.ownBlock) h1 (fun k hk => hk.elim (fun h => by first | exact h.elim id id | exact h.elim id (fun h => h.elim id id)) (fun h => ⟨by have := blk_lt BG.b; omega, fun e_ => by have := Kd.N_lt N9 k e_.symm; omega⟩))
              replace h2 := Kd.V_mono (ok' := fun k => k ≠ gn ∧ some k ≠ u9.ownBlock) h2 (fun k hk => hk.elim (fun h => by first | exact h.elim id id | exact h.elim id (fun h => h.elim id id)) (fun h => ⟨by have := blk_lt BG.b; omega, fun e_ => by have := Kd.N_lt N9 k e_.symm; omega⟩))
              replace BG := BG.below hb_
              replace N9 := Kd.N_below N9 hb_
              replace HB := HB.trans (hb_.mono HB.size)
              clear hb_
              (try clear k0_); (try clear zk0_); (try clear k1_); (try clear zk1_); (try clear k2_); (try clear zk2_)
              go_wp2_with (first | ((with_reducible refine gate_dst (N := 14) rfl ?_); refine box_event ?hg (N := 14) ?hd (cs := #[.int .i64 0, .slice none 0 0, .slice none 0 0]) (t := 25) ?hr ?_; (case hd => rfl); (case hg => rfl); (case hr => first | (go_simp; done) | (go_simp; rfl)); intro gm hgm W6 Bm hb_; have wgm : W5.heap.size ≤ gm := Nat.le_of_eq hgm.symm; have HC : Below W5.heap.size W5 W6 := hb_; clear hgm hb_; have pm0_ : W6.cell? ⟨gm, 0, none⟩ = some (.int .i64 0) := (blk_cell Bm 0).trans rfl; have zpm0_ := blk_frozen Bm 0; have pm1_ : W6.cell? ⟨gm, 1, none⟩ = some (.slice none 0 0) := (blk_cell Bm 1).trans rfl; have zpm1_ := blk_frozen Bm 1; have pm2_ : W6.cell? ⟨gm, 2, none⟩ = some (.slice none 0 0) := (blk_cell Bm 2).trans rfl; have zpm2_ := blk_frozen Bm 2) | ((with_reducible refine gate_store (t := 25) (p := 14) rfl ?_); refine store_event (t := 25) (p := 14) (v := ?vom14_) (w1 := (((W6.setCell ⟨gm, 0, none⟩ (.int .i64 R)).setCell ⟨gm, 1, none⟩ (.slice Am ys.length cm)).setCell ⟨gm, 2, none⟩ (.slice Bs zs.length dm))) ?hg ?ho ?hn ?hr ?_; (case ho => rfl); (case hg => rfl); (case hn => rfl); (case hr => first | (go_simp; done) | (go_simp; rfl)); intro W7 hw; have B_ := (by rw [hw]; exact bp3_ Bm : W7.heap[gm]? = some (.cells #[.int .i64 R, .slice Am ys.length cm, .slice Bs zs.length dm] 25 (0, 0))); have HC_ := (by rw [hw]; exact (below_set (below_set (below_set HC wgm) wgm) wgm) : Below W5.heap.size W5 W7); clear hw HC Bm; have HC := HC_; have Bm := B_; clear HC_ B_; (try clear pm0_); (try clear zpm0_); (try clear pm1_); (try clear zpm1_); (try clear pm2_); (try clear zpm2_); have ngm : gm ≠ gn := (by have := blk_lt BG.b; omega); have n9m : some gm ≠ u9.ownBlock := (fun e_ => by have := Kd.N_lt N9 gm e_.symm; omega); have M := (⟨Bm, Kd.V_below h1 HC, Kd.V_below h2 HC⟩ : nb.Bag W7 gn gm u9 R Am cm ys Bs dm zs); replace BG := BG.below HC; replace N9 := Kd.N_below N9 HC; replace HB := HB.trans (HC.mono HB.size); clear HC Bm h1 h2 wgm; (try clear k0_); (try clear zk0_); (try clear k1_); (try clear zk1_); (try clear k2_); (try clear zk2_); (try clear pm0_); (try clear zpm0_); (try clear pm1_); (try clear zpm1_); (try clear pm2_); (try clear zpm2_); (try clear km0_); (try clear zkm0_); (try clear km1_); (try clear zkm1_); (try clear km2_); (try clear zkm2_); have k0_ : W7.cell? ⟨gn, 0, none⟩ = some (.int .i64 R) := (blk_cell BG.b 0).trans rfl; have zk0_ := blk_frozen BG.b 0; have k1_ : W7.cell? ⟨gn, 1, none⟩ = some (.slice Ag l.length cg) := (blk_cell BG.b 1).trans rfl; have zk1_ := blk_frozen BG.b 1; have k2_ : W7.cell? ⟨gn, 2, none⟩ = some (.slice As s.length cs_) := (blk_cell BG.b 2).trans rfl; have zk2_ := blk_frozen BG.b 2; have km0_ : W7.cell? ⟨gm, 0, none⟩ = some (.int .i64 R) := (blk_cell M.b 0).trans rfl; have zkm0_ := blk_frozen M.b 0; have km1_ : W7.cell? ⟨gm, 1, none⟩ = some (.slice Am ys.length cm) := (blk_cell M.b 1).trans rfl; have zkm1_ := blk_frozen M.b 1; have km2_ : W7.cell? ⟨gm, 2, none⟩ = some (.slice Bs zs.length dm) := (blk_cell M.b 2).trans rfl; have zkm2_ := blk_frozen M.b 2) | ((with_reducible refine gate_dst (N := 68) rfl ?_); refine Kd.N_lit (Kd.int .u32) _ 26 ?hg (N' := 68) ?hd (xs := [ww]) (inner := [.int .u32 ww]) (ok := fun k => gn < k ∧ some k ≠ u9.ownBlock) (okp := fun _ => False) ?hr ?hp (fun _ hk => hk.elim) ⟨blk_lt BG.b, fun e_ => Nat.lt_irrefl _ (Kd.N_lt N9 _ e_.symm)⟩ (Below.refl _ _) (Nat.le_refl _) (by simp) ?_; (case hd => rfl); (case hg => rfl); (case hr => first | (go_simp; done) | (go_simp; rfl)); (case hp => exact (Reps.none _ _).snoc (fun _ _ => rfl) rfl); intro v68 W8 hN68 hb_ hg_ hnew_; clear hg_ hnew_; rw [← NX.out] at hN68; obtain ⟨Aw68, cw68, ev⟩ := Kd.N_slice hN68; subst ev; replace BG := BG.below hb_; replace M := M.below hb_; replace N9 := Kd.N_below N9 hb_; replace HB := HB.trans (hb_.mono HB.size); clear hb_; (try clear k0_); (try clear zk0_); (try clear k1_); (try clear zk1_); (try clear k2_); (try clear zk2_); (try clear km0_); (try clear zkm0_); (try clear km1_); (try clear zkm1_); (try clear km2_); (try clear zkm2_); have k0_ : W8.cell? ⟨gn, 0, none⟩ = some (.int .i64 R) := (blk_cell BG.b 0).trans rfl; have zk0_ := blk_frozen BG.b 0; have k1_ : W8.cell? ⟨gn, 1, none⟩ = some (.slice Ag l.length cg) := (blk_cell BG.b 1).trans rfl; have zk1_ := blk_frozen BG.b 1; have k2_ : W8.cell? ⟨gn, 2, none⟩ = some (.slice As s.length cs_) := (blk_cell BG.b 2).trans rfl; have zk2_ := blk_frozen BG.b 2; have km0_ : W8.cell? ⟨gm, 0, none⟩ = some (.int .i64 R) := (blk_cell M.b 0).trans rfl; have zkm0_ := blk_frozen M.b 0; have km1_ : W8.cell? ⟨gm, 1, none⟩ = some (.slice Am ys.length cm) := (blk_cell M.b 1).trans rfl; have zkm1_ := blk_frozen M.b 1; have km2_ : W8.cell? ⟨gm, 2, none⟩ = some (.slice Bs zs.length dm) := (blk_cell M.b 2).trans rfl; have zkm2_ := blk_frozen M.b 2) | ((with_reducible refine gate_builtin (b := .append) (xs := #[.tmp 66, .tmp 68]) rfl ?_); at_builtin; refine Kd.N_append_rows (Kd.int .u32) (w0 := w) w.heap.size rfl (.tmp 66) (.tmp 68) 27 26 (.int .u32 0) 4 rfl Try.underlying27 info26 rfl (by decide) (by omega) u9 sent xs _ _ _ (fun k => gn < k) (fun k => gn < k ∧ some k ≠ u9.ownBlock) rfl rfl N9 (Kd.N_F hN68) (fun k hk => hk) (fun k hk => by have := blk_lt BG.b; omega) HB HB.size (by have := HSL.out; rw [NX.out]; simp; omega) ?_; intro v69 W9 hN9 HB9 hg9 hat9; replace M := M.after hg9 hat9 n9m; replace BG := BG.after hg9 hat9 (fun e_ => Nat.lt_irrefl _ (N9.1 gn e_.symm)); clear N9 HB hN68; have N9 := hN9; have HB := HB9; clear hN9 HB9 hg9 hat9; (try clear k0_); (try clear zk0_); (try clear k1_); (try clear zk1_); (try clear k2_); (try clear zk2_); (try clear km0_); (try clear zkm0_); (try clear km1_); (try clear zkm1_); (try clear km2_); (try clear zkm2_); have k0_ : W9.cell? ⟨gn, 0, none⟩ = some (.int .i64 R) := (blk_cell BG.b 0).trans rfl; have zk0_ := blk_frozen BG.b 0; have k1_ : W9.cell? ⟨gn, 1, none⟩ = some (.slice Ag l.length cg) := (blk_cell BG.b 1).trans rfl; have zk1_ := blk_frozen BG.b 1; have k2_ : W9.cell? ⟨gn, 2, none⟩ = some (.slice As s.length cs_) := (blk_cell BG.b 2).trans rfl; have zk2_ := blk_frozen BG.b 2; have km0_ : W9.cell? ⟨gm, 0, none⟩ = some (.int .i64 R) := (blk_cell M.b 0).trans rfl; have zkm0_ := blk_frozen M.b 0; have km1_ : W9.cell? ⟨gm, 1, none⟩ = some (.slice Am ys.length cm) := (blk_cell M.b 1).trans rfl; have zkm1_ := blk_frozen M.b 1; have km2_ : W9.cell? ⟨gm, 2, none⟩ = some (.slice Bs zs.length dm) := (blk_cell M.b 2).trans rfl; have zkm2_ := blk_frozen M.b 2) | ((with_reducible refine gate_store (t := 25) (p := 7) rfl ?_); refine store_event (t := 25) (p := 7) (v := ?von14_) (w1 := (((W9.setCell ⟨gn, 0, none⟩ (.int .i64 R)).setCell ⟨gn, 1, none⟩ (.slice Am ys.length cm)).setCell ⟨gn, 2, none⟩ (.slice Bs zs.length dm))) ?hg ?ho ?hn ?hr ?_; (case ho => rfl); (case hg => rfl); (case hn => rfl); (case hr => first | (go_simp; done) | (go_simp; rfl)); intro W10 hw; have BG_ := (by rw [hw]; exact M.copy BG.b : nb.Bag W10 gn gn v69 R Am cm ys Bs dm zs); have N9_ := (by rw [hw]; exact Kd.N_far (p := ⟨gn, 2, none⟩) (Kd.N_far (p := ⟨gn, 1, none⟩) (Kd.N_far (p := ⟨gn, 0, none⟩) N9 (fun k hk => Nat.ne_of_gt hk) _) (fun k hk => Nat.ne_of_gt hk) _) (fun k hk => Nat.ne_of_gt hk) _ : Kd.N (Kd.int .u32) 26 W10 w.heap.size (fun k => gn < k) v69 _); have HB_ := (by rw [hw]; exact below_set (below_set (below_set HB wgn) wgn) wgn : Below w.heap.size w W10); clear hw BG N9 HB M; have BG := BG_; have N9 := N9_; have HB := HB_; clear BG_ N9_ HB_; (try clear k0_); (try clear zk0_); (try clear k1_); (try clear zk1_); (try clear k2_); (try clear zk2_); (try clear km0_); (try clear zkm0_); (try clear km1_); (try clear zkm1_); (try clear km2_); (try clear zkm2_); have k0_ : W10.cell? ⟨gn, 0, none⟩ = some (.int .i64 R) := (blk_cell BG.b 0).trans rfl; have zk0_ := blk_frozen BG.b 0; have k1_ : W10.cell? ⟨gn, 1, none⟩ = some (.slice Am ys.length cm) := (blk_cell BG.b 1).trans rfl; have zk1_ := blk_frozen BG.b 1; have k2_ : W10.cell? ⟨gn, 2, none⟩ = some (.slice Bs zs.length dm) := (blk_cell BG.b 2).trans rfl; have zk2_ := blk_frozen BG.b 2) | (go_at_call 10; (with_reducible refine (net_Right.calls R _ cm ys _ dm zs true _ (Kd.V_reads' BG.v1).2.2 (Kd.V_reads' BG.v1).2.1 (Kd.V_reads' BG.v2).2.2 (Kd.V_reads' BG.v2).2.1 AR.out).mono ?_); rintro e W11 ⟨rfl, hb_⟩; replace BG := BG.below hb_; replace N9 := Kd.N_below N9 hb_; replace HB := HB.trans (hb_.mono HB.size); clear hb_; (try clear k0_); (try clear zk0_); (try clear k1_); (try clear zk1_); (try clear k2_); (try clear zk2_)))
              go_roundg k2
              case measure => exact Nat.lt_succ_self _
              case rel => exact ⟨many, i + 1, ys, zs, sent ++ xs, Am, cm, Bs, dm, (by first | rfl | exact wm8), (by first | rfl | exact w58), ⟨IN.out⟩, ⟨by have := HA.out; omega⟩, ⟨by omega⟩, ⟨BG⟩, ⟨N9⟩, ⟨HB⟩⟩
          · obtain ⟨ys, hys⟩ : ∃ ys : List S29, ys = l := ⟨_, rfl⟩
            obtain ⟨zs, hzs⟩ : ∃ zs : List (List Int), zs = s := ⟨_, rfl⟩
            have IS := I.mono (Nat.le_succ i)
            rw [← hys, ← hzs] at IS
            have AS := Aside0.mk (show net_Send.f R l s 1 xs = some (R, ys, zs, 10) by rw [uk.send_eq R l s 1 xs hR64.1 (by omega) (by omega) (by omega), hys, hzs]; unfold uk.sendM; rw [if_neg hr])
            have AR := Aside0.mk (show net_Right.f R ys zs = some true by rw [uk.right_eq, (uk.rightB_iff R ys).2 ⟨hR64.1, hR64.2, IS.hl⟩])
            have IN := Aside0.mk IS
            clear hr hys hzs hxs I hlR IS
            go_wp2_with (first | ((with_reducible refine gate_dst (N := 59) rfl ?_); refine Kd.N_lit (Kd.int .u32) _ 26 ?hg (N' := 59) ?hd (xs := [ww]) (inner := [.int .u32 ww]) (ok := fun k => k ≠ gn ∧ some k ≠ u9.ownBlock) (okp := fun _ => False) ?hr ?hp (fun _ hk => hk.elim) ⟨Nat.ne_of_gt (blk_lt BG.b), fun e_ => Nat.lt_irrefl _ (Kd.N_lt N9 _ e_.symm)⟩ (Below.refl _ _) (Nat.le_refl _) (by simp) ?_; (case hd => rfl); (case hg => rfl); (case hr => first | (go_simp; done) | (go_simp; rfl)); (case hp => exact (Reps.none _ _).snoc (fun _ _ => rfl) rfl); intro v59 W4 hN59 hb_ hg_ hnew_; clear hg_ hnew_; rw [← NX.out] at hN59; obtain ⟨Aw59, cw59, ev⟩ := Kd.N_slice hN59; subst ev; replace BG := BG.below hb_; replace N9 := Kd.N_below N9 hb_; replace HB := HB.trans (hb_.mono HB.size); clear hb_; (try clear k0_); (try clear zk0_); (try clear k1_); (try clear zk1_); (try clear k2_); (try clear zk2_); have k0_ : W4.cell? ⟨gn, 0, none⟩ = some (.int .i64 R) := (blk_cell BG.b 0).trans rfl; have zk0_ := blk_frozen BG.b 0; have k1_ : W4.cell? ⟨gn, 1, none⟩ = some (.slice Ag l.length cg) := (blk_cell BG.b 1).trans rfl; have zk1_ := blk_frozen BG.b 1; have k2_ : W4.cell? ⟨gn, 2, none⟩ = some (.slice As s.length cs_) := (blk_cell BG.b 2).trans rfl; have zk2_ := blk_frozen BG.b 2))
            refine (net_Send.calls R (fun k => k ≠ gn ∧ some k ≠ u9.ownBlock) Ag cg l (fun k => k ≠ gn ∧ some k ≠ u9.ownBlock) As cs_ s 1 (fun k => k ≠ gn ∧ some k ≠ u9.ownBlock) Aw59 cw59 xs R ys zs 10 _ BG.v1 BG.v2 (Kd.N_V hN59) AS.out).mono ?_
            rintro e W5 ⟨_, _, rfl, h1, h2, hb_⟩
            obtain ⟨Am, cm, rfl⟩ := Kd.V_slice h1
            obtain ⟨Bs, dm, rfl⟩ := Kd.V_slice h2
            replace h1 := Kd.V_mono (ok' := fun k => k ≠ gn ∧ some k ≠ u9.ownBlock) h1 (fun k hk => hk.elim (fun h => by first | exact h.elim id id | exact h.elim id (fun h => h.elim id id)) (fun h => ⟨by have := blk_lt BG.b; omega, fun e_ => by have := Kd.N_lt N9 k e_.symm; omega⟩))
            replace h2 := Kd.V_mono (ok' := fun k => k ≠ gn ∧ some k ≠ u9.ownBlock) h2 (fun k hk => hk.elim (fun h => by first | exact h.elim id id | exact h.elim id (fun h => h.elim id id)) (fun h => ⟨by have := blk_lt BG.b; omega, fun e_ => by have := Kd.N_lt N9 k e_.symm; omega⟩))
            replace BG := BG.below hb_
            replace N9 := Kd.N_below N9 hb_
            replace HB := HB.trans (hb_.mono HB.size)
            clear hb_
            (try clear k0_); (try clear zk0_); (try clear k1_); (try clear zk1_); (try clear k2_); (try clear zk2_)
            go_wp2_with (first | ((with_reducible refine gate_dst (N := 14) rfl ?_); refine box_event ?hg (N := 14) ?hd (cs := #[.int .i64 0, .slice none 0 0, .slice none 0 0]) (t := 25) ?hr ?_; (case hd => rfl); (case hg => rfl); (case hr => first | (go_simp; done) | (go_simp; rfl)); intro gm hgm W6 Bm hb_; have wgm : W5.heap.size ≤ gm := Nat.le_of_eq hgm.symm; have HC : Below W5.heap.size W5 W6 := hb_; clear hgm hb_; have pm0_ : W6.cell? ⟨gm, 0, none⟩ = some (.int .i64 0) := (blk_cell Bm 0).trans rfl; have zpm0_ := blk_frozen Bm 0; have pm1_ : W6.cell? ⟨gm, 1, none⟩ = some (.slice none 0 0) := (blk_cell Bm 1).trans rfl; have zpm1_ := blk_frozen Bm 1; have pm2_ : W6.cell? ⟨gm, 2, none⟩ = some (.slice none 0 0) := (blk_cell Bm 2).trans rfl; have zpm2_ := blk_frozen Bm 2) | ((with_reducible refine gate_store (t := 25) (p := 14) rfl ?_); refine store_event (t := 25) (p := 14) (v := ?vom14_) (w1 := (((W6.setCell ⟨gm, 0, none⟩ (.int .i64 R)).setCell ⟨gm, 1, none⟩ (.slice Am ys.length cm)).setCell ⟨gm, 2, none⟩ (.slice Bs zs.length dm))) ?hg ?ho ?hn ?hr ?_; (case ho => rfl); (case hg => rfl); (case hn => rfl); (case hr => first | (go_simp; done) | (go_simp; rfl)); intro W7 hw; have B_ := (by rw [hw]; exact bp3_ Bm : W7.heap[gm]? = some (.cells #[.int .i64 R, .slice Am ys.length cm, .slice Bs zs.length dm] 25 (0, 0))); have HC_ := (by rw [hw]; exact (below_set (below_set (below_set HC wgm) wgm) wgm) : Below W5.heap.size W5 W7); clear hw HC Bm; have HC := HC_; have Bm := B_; clear HC_ B_; (try clear pm0_); (try clear zpm0_); (try clear pm1_); (try clear zpm1_); (try clear pm2_); (try clear zpm2_); have ngm : gm ≠ gn := (by have := blk_lt BG.b; omega); have n9m : some gm ≠ u9.ownBlock := (fun e_ => by have := Kd.N_lt N9 gm e_.symm; omega); have M := (⟨Bm, Kd.V_below h1 HC, Kd.V_below h2 HC⟩ : nb.Bag W7 gn gm u9 R Am cm ys Bs dm zs); replace BG := BG.below HC; replace N9 := Kd.N_below N9 HC; replace HB := HB.trans (HC.mono HB.size); clear HC Bm h1 h2 wgm; (try clear k0_); (try clear zk0_); (try clear k1_); (try clear zk1_); (try clear k2_); (try clear zk2_); (try clear pm0_); (try clear zpm0_); (try clear pm1_); (try clear zpm1_); (try clear pm2_); (try clear zpm2_); (try clear km0_); (try clear zkm0_); (try clear km1_); (try clear zkm1_); (try clear km2_); (try clear zkm2_); have k0_ : W7.cell? ⟨gn, 0, none⟩ = some (.int .i64 R) := (blk_cell BG.b 0).trans rfl; have zk0_ := blk_frozen BG.b 0; have k1_ : W7.cell? ⟨gn, 1, none⟩ = some (.slice Ag l.length cg) := (blk_cell BG.b 1).trans rfl; have zk1_ := blk_frozen BG.b 1; have k2_ : W7.cell? ⟨gn, 2, none⟩ = some (.slice As s.length cs_) := (blk_cell BG.b 2).trans rfl; have zk2_ := blk_frozen BG.b 2; have km0_ : W7.cell? ⟨gm, 0, none⟩ = some (.int .i64 R) := (blk_cell M.b 0).trans rfl; have zkm0_ := blk_frozen M.b 0; have km1_ : W7.cell? ⟨gm, 1, none⟩ = some (.slice Am ys.length cm) := (blk_cell M.b 1).trans rfl; have zkm1_ := blk_frozen M.b 1; have km2_ : W7.cell? ⟨gm, 2, none⟩ = some (.slice Bs zs.length dm) := (blk_cell M.b 2).trans rfl; have zkm2_ := blk_frozen M.b 2) | ((with_reducible refine gate_store (t := 25) (p := 7) rfl ?_); refine store_event (t := 25) (p := 7) (v := ?von14_) (w1 := (((W7.setCell ⟨gn, 0, none⟩ (.int .i64 R)).setCell ⟨gn, 1, none⟩ (.slice Am ys.length cm)).setCell ⟨gn, 2, none⟩ (.slice Bs zs.length dm))) ?hg ?ho ?hn ?hr ?_; (case ho => rfl); (case hg => rfl); (case hn => rfl); (case hr => first | (go_simp; done) | (go_simp; rfl)); intro W10 hw; have BG_ := (by rw [hw]; exact M.copy BG.b : nb.Bag W10 gn gn u9 R Am cm ys Bs dm zs); have N9_ := (by rw [hw]; exact Kd.N_far (p := ⟨gn, 2, none⟩) (Kd.N_far (p := ⟨gn, 1, none⟩) (Kd.N_far (p := ⟨gn, 0, none⟩) N9 (fun k hk => Nat.ne_of_gt hk) _) (fun k hk => Nat.ne_of_gt hk) _) (fun k hk => Nat.ne_of_gt hk) _ : Kd.N (Kd.int .u32) 26 W10 w.heap.size (fun k => gn < k) u9 _); have HB_ := (by rw [hw]; exact below_set (below_set (below_set HB wgn) wgn) wgn : Below w.heap.size w W10); clear hw BG N9 HB M; have BG := BG_; have N9 := N9_; have HB := HB_; clear BG_ N9_ HB_; (try clear k0_); (try clear zk0_); (try clear k1_); (try clear zk1_); (try clear k2_); (try clear zk2_); (try clear km0_); (try clear zkm0_); (try clear km1_); (try clear zkm1_); (try clear km2_); (try clear zkm2_); have k0_ : W10.cell? ⟨gn, 0, none⟩ = some (.int .i64 R) := (blk_cell BG.b 0).trans rfl; have zk0_ := blk_frozen BG.b 0; have k1_ : W10.cell? ⟨gn, 1, none⟩ = some (.slice Am ys.length cm) := (blk_cell BG.b 1).trans rfl; have zk1_ := blk_frozen BG.b 1; have k2_ : W10.cell? ⟨gn, 2, none⟩ = some (.slice Bs zs.length dm) := (blk_cell BG.b 2).trans rfl; have zk2_ := blk_frozen BG.b 2) | (go_at_call 10; (with_reducible refine (net_Right.calls R _ cm ys _ dm zs true _ (Kd.V_reads' BG.v1).2.2 (Kd.V_reads' BG.v1).2.1 (Kd.V_reads' BG.v2).2.2 (Kd.V_reads' BG.v2).2.1 AR.out).mono ?_); rintro e W11 ⟨rfl, hb_⟩; replace BG := BG.below hb_; replace N9 := Kd.N_below N9 hb_; replace HB := HB.trans (hb_.mono HB.size); clear hb_; (try clear k0_); (try clear zk0_); (try clear k1_); (try clear zk1_); (try clear k2_); (try clear zk2_)))
            go_roundg k2
            case measure => exact Nat.lt_succ_self _
            case rel => exact ⟨many, i + 1, ys, zs, sent, Am, cm, Bs, dm, (by first | rfl | exact wm8), (by first | rfl | exact w58), ⟨IN.out⟩, ⟨by have := HA.out; omega⟩, ⟨by omega⟩, ⟨BG⟩, ⟨N9⟩, ⟨HB⟩⟩
        · have t3 : Int.tmod d 3 = 1 := by rw [← hd3]; exact Int.tmod_eq_emod_of_nonneg hd2.1
          clear hd3
          by_cases hr : pl < (l.length : Int)
          · have hpn : pl.toNat < l.length := by omega
            have hrd : rd_T29 l pl = l[pl.toNat] := by have e_ := uk.rdS l pl.toNat hpn; rwa [Int.toNat_of_nonneg hpl8.1] at e_
            obtain ⟨t0, ht0⟩ : ∃ x, x = (rd_T29 l pl).f0 := ⟨_, rfl⟩
            obtain ⟨fs, hfs⟩ : ∃ x, x = (rd_T29 l pl).f1 := ⟨_, rfl⟩
            obtain ⟨ys, hys⟩ : ∃ ys : List S29, ys = l.eraseIdx pl.toNat := ⟨_, rfl⟩
            obtain ⟨zs, hzs⟩ : ∃ zs : List (List Int), zs = s := ⟨_, rfl⟩
            have IS := I.take pl.toNat hpn
            rw [← hys, ← hzs, ← hrd, ← hfs] at IS
            have HFL := Aside0.mk (show fs.length = 1 by rw [hfs, hrd]; exact I.one _ (List.getElem_mem hpn))
            obtain ⟨z, hz⟩ : ∃ z, z = rd fs 0 := ⟨_, rfl⟩
            have HZ := Aside0.mk hz.symm
            rw [← hz] at IS
            have AS := Aside0.mk (show net_Take.f R l s pl = some (R, ys, zs, t0, fs, 0) by rw [uk.take_eq R l s pl (by omega), hys, hzs, ht0, hfs]; unfold uk.takeM; rw [if_pos ⟨hpl8.1, hr⟩])
            have AR := Aside0.mk (show net_Right.f R ys zs = some true by rw [uk.right_eq, (uk.rightB_iff R ys).2 ⟨hR64.1, hR64.2, IS.hl⟩])
            have wl : wrap64 ((l.length : Int) - 1) = (ys.length : Int) := by rw [uk.w64 (by omega) (by omega), hys, List.length_eraseIdx, if_pos hpn]; omega
            clear hr hys hzs ht0 hfs hz I hlR hrd hpn
            by_cases hc : z = o
            · rw [if_pos hc] at IS
              have IN := Aside0.mk IS
              have e1 : (z == o) = true := beq_iff_eq.mpr hc
              have wm8 : Value.int .i64 (wrap64 (many - 1)) = Value.int .i64 (many - 1) := by rw [uk.w64 (by omega) (by omega)]
              clear hc IS
              go_wp2_with fail
              refine (net_Take.calls R (fun k => k ≠ gn ∧ some k ≠ u9.ownBlock) Ag cg l (fun k => k ≠ gn ∧ some k ≠ u9.ownBlock) As cs_ s pl R ys zs t0 fs 0 _ BG.v1 BG.v2 AS.out).mono ?_
              rintro e W5 ⟨_, _, _, rfl, h1, h2, h4, hb_⟩
              obtain ⟨A4, c4, e4⟩ := Kd.V_slice h4
              rw [HFL.out] at e4
              subst e4
              obtain ⟨ad4, e4, hx4⟩ := Kd.at_int (Kd.V_reads' h4).2.2 0 (by decide) (by rw [HFL.out]; decide)
              subst e4
              rw [HZ.out] at hx4
              have hx4 : W5.cell? (ad4.add 0) = some (.int .u32 z) := hx4
              have hx5 : W5.cell? ad4 = some (.int .u32 z) := (nb.add0 ad4 ▸ hx4)
              obtain ⟨Am, cm, rfl⟩ := Kd.V_slice h1
              obtain ⟨Bs, dm, rfl⟩ := Kd.V_slice h2
              replace h1 := Kd.V_mono (ok' := fun k => k ≠ gn ∧ some k ≠ u9.ownBlock) h1 (fun k hk => hk.elim (fun h => by first | exact h.elim id id | exact h.elim id (fun h => h.elim id id)) (fun h => ⟨by have := blk_lt BG.b; omega, fun e_ => by have := Kd.N_lt N9 k e_.symm; omega⟩))
              replace h2 := Kd.V_mono (ok' := fun k => k ≠ gn ∧ some k ≠ u9.ownBlock) h2 (fun k hk => hk.elim (fun h => by first | exact h.elim id id | exact h.elim id (fun h => h.elim id id)) (fun h => ⟨by have := blk_lt BG.b; omega, fun e_ => by have := Kd.N_lt N9 k e_.symm; omega⟩))
              replace BG := BG.below hb_
              replace N9 := Kd.N_below N9 hb_
              replace HB := HB.trans (hb_.mono HB.size)
              clear hb_
              (try clear k0_); (try clear zk0_); (try clear k1_); (try clear zk1_); (try clear k2_); (try clear zk2_)
              go_wp2_with (first | ((with_reducible refine gate_dst (N := 16) rfl ?_); refine box_event ?hg (N := 16) ?hd (cs := #[.int .i64 0, .slice none 0 0, .slice none 0 0]) (t := 25) ?hr ?_; (case hd => rfl); (case hg => rfl); (case hr => first | (go_simp; done) | (go_simp; rfl)); intro gm hgm W6 Bm hb_; have wgm : W5.heap.size ≤ gm := Nat.le_of_eq hgm.symm; have HC : Below W5.heap.size W5 W6 := hb_; clear hgm hb_; have pm0_ : W6.cell? ⟨gm, 0, none⟩ = some (.int .i64 0) := (blk_cell Bm 0).trans rfl; have zpm0_ := blk_frozen Bm 0; have pm1_ : W6.cell? ⟨gm, 1, none⟩ = some (.slice none 0 0) := (blk_cell Bm 1).trans rfl; have zpm1_ := blk_frozen Bm 1; have pm2_ : W6.cell? ⟨gm, 2, none⟩ = some (.slice none 0 0) := (blk_cell Bm 2).trans rfl; have zpm2_ := blk_frozen Bm 2) | ((with_reducible refine gate_dst (N := 17) rfl ?_); refine box_event ?hg (N := 17) ?hd (cs := #[.int .u32 0, .slice none 0 0]) (t := 29) ?hr ?_; (case hd => rfl); (case hg => rfl); (case hr => first | (go_simp; done) | (go_simp; rfl)); intro gf hgf W7 Bf hb_; have wgf : W5.heap.size ≤ gf := Nat.le_trans HC.size (Nat.le_of_eq hgf.symm); have lmf : gm < gf := (by rw [hgf]; exact blk_lt Bm); replace HC := HC.trans (hb_.mono HC.size); replace Bm := blk_below Bm hb_; (try clear pm0_); (try clear zpm0_); (try clear pm1_); (try clear zpm1_); (try clear pm2_); (try clear zpm2_); have pm0_ : W7.cell? ⟨gm, 0, none⟩ = some (.int .i64 0) := (blk_cell Bm 0).trans rfl; have zpm0_ := blk_frozen Bm 0; have pm1_ : W7.cell? ⟨gm, 1, none⟩ = some (.slice none 0 0) := (blk_cell Bm 1).trans rfl; have zpm1_ := blk_frozen Bm 1; have pm2_ : W7.cell? ⟨gm, 2, none⟩ = some (.slice none 0 0) := (blk_cell Bm 2).trans rfl; have zpm2_ := blk_frozen Bm 2; clear hgf hb_; have pf0_ : W7.cell? ⟨gf, 0, none⟩ = some (.int .u32 0) := (blk_cell Bf 0).trans rfl; have zpf0_ := blk_frozen Bf 0; have pf1_ : W7.cell? ⟨gf, 1, none⟩ = some (.slice none 0 0) := (blk_cell Bf 1).trans rfl; have zpf1_ := blk_frozen Bf 1) | ((with_reducible refine gate_store (t := 25) (p := 16) rfl ?_); refine store_event (t := 25) (p := 16) (v := ?vot16_) (w1 := (((W7.setCell ⟨gm, 0, none⟩ (.int .i64 R)).setCell ⟨gm, 1, none⟩ (.slice Am ys.length cm)).setCell ⟨gm, 2, none⟩ (.slice Bs zs.length dm))) ?hg ?ho ?hn ?hr ?_; (case ho => rfl); (case hg => rfl); (case hn => rfl); (case hr => first | (go_simp; done) | (go_simp; rfl)); intro W8 hw; have B_ := (by rw [hw]; exact bp3_ Bm : W8.heap[gm]? = some (.cells #[.int .i64 R, .slice Am ys.length cm, .slice Bs zs.length dm] 25 (0, 0))); have HC_ := (by rw [hw]; exact (below_set (below_set (below_set HC wgm) wgm) wgm) : Below W5.heap.size W5 W8); have O_ := (by rw [hw]; exact bf3_ Bf (Nat.ne_of_gt lmf) : W8.heap[gf]? = some (.cells #[.int .u32 0, .slice none 0 0] 29 (0, 0))); clear hw HC Bm; have HC := HC_; have Bm := B_; clear HC_ B_; (try clear pm0_); (try clear zpm0_); (try clear pm1_); (try clear zpm1_); (try clear pm2_); (try clear zpm2_); clear Bf; have Bf := O_; clear O_; (try clear pf0_); (try clear zpf0_); (try clear pf1_); (try clear zpf1_); (try clear pf2_); (try clear zpf2_); have pf0_ : W8.cell? ⟨gf, 0, none⟩ = some (.int .u32 0) := (blk_cell Bf 0).trans rfl; have zpf0_ := blk_frozen Bf 0; have pf1_ : W8.cell? ⟨gf, 1, none⟩ = some (.slice none 0 0) := (blk_cell Bf 1).trans rfl; have zpf1_ := blk_frozen Bf 1; skip) | ((with_reducible refine gate_store (t := 29) (p := 17) rfl ?_); refine store_event (t := 29) (p := 17) (v := ?vot17_) (w1 := ((W8.setCell ⟨gf, 0, none⟩ (.int .u32 t0)).setCell ⟨gf, 1, none⟩ (.slice (some ad4) 1 c4))) ?hg ?ho ?hn ?hr ?_; (case ho => rfl); (case hg => rfl); (case hn => rfl); (case hr => first | (go_simp; done) | (go_simp; rfl)); intro W9 hw; have B_ := (by rw [hw]; exact bp2_ Bf : W9.heap[gf]? = some (.cells #[.int .u32 t0, .slice (some ad4) 1 c4] 29 (0, 0))); have HC_ := (by rw [hw]; exact (below_set (below_set HC wgf) wgf) : Below W5.heap.size W5 W9); have O_ := (by rw [hw]; exact bf2_ Bm (Nat.ne_of_lt lmf) : W9.heap[gm]? = some (.cells #[.int .i64 R, .slice Am ys.length cm, .slice Bs zs.length dm] 25 (0, 0))); clear hw HC Bf; have HC := HC_; have Bf := B_; clear HC_ B_; (try clear pf0_); (try clear zpf0_); (try clear pf1_); (try clear zpf1_); (try clear pf2_); (try clear zpf2_); clear Bm; have Bm := O_; clear O_; (try clear pm0_); (try clear zpm0_); (try clear pm1_); (try clear zpm1_); (try clear pm2_); (try clear zpm2_); have pm0_ : W9.cell? ⟨gm, 0, none⟩ = some (.int .i64 R) := (blk_cell Bm 0).trans rfl; have zpm0_ := blk_frozen Bm 0; have pm1_ : W9.cell? ⟨gm, 1, none⟩ = some (.slice Am ys.length cm) := (blk_cell Bm 1).trans rfl; have zpm1_ := blk_frozen Bm 1; have pm2_ : W9.cell? ⟨gm, 2, none⟩ = some (.slice Bs zs.length dm) := (blk_cell Bm 2).trans rfl; have zpm2_ := blk_frozen Bm 2; have ngm : gm ≠ gn := (by have := blk_lt BG.b; omega); have n9m : some gm ≠ u9.ownBlock := (fun e_ => by have := Kd.N_lt N9 gm e_.symm; omega); have M := (⟨Bm, Kd.V_below h1 HC, Kd.V_below h2 HC⟩ : nb.Bag W9 gn gm u9 R Am cm ys Bs dm zs); replace BG := BG.below HC; replace N9 := Kd.N_below N9 HC; replace HB := HB.trans (HC.mono HB.size); replace hx4 := pw_cell_below HC hx4; replace hx5 := pw_cell_below HC hx5; clear HC Bm h1 h2 h4 wgm; (try clear k0_); (try clear zk0_); (try clear k1_); (try clear zk1_); (try clear k2_); (try clear zk2_); (try clear pm0_); (try clear zpm0_); (try clear pm1_); (try clear zpm1_); (try clear pm2_); (try clear zpm2_); (try clear km0_); (try clear zkm0_); (try clear km1_); (try clear zkm1_); (try clear km2_); (try clear zkm2_); (try clear pf0_); (try clear zpf0_); (try clear pf1_); (try clear zpf1_); (try clear pf2_); (try clear zpf2_); have k0_ : W9.cell? ⟨gn, 0, none⟩ = some (.int .i64 R) := (blk_cell BG.b 0).trans rfl; have zk0_ := blk_frozen BG.b 0; have k1_ : W9.cell? ⟨gn, 1, none⟩ = some (.slice Ag l.length cg) := (blk_cell BG.b 1).trans rfl; have zk1_ := blk_frozen BG.b 1; have k2_ : W9.cell? ⟨gn, 2, none⟩ = some (.slice As s.length cs_) := (blk_cell BG.b 2).trans rfl; have zk2_ := blk_frozen BG.b 2; have km0_ : W9.cell? ⟨gm, 0, none⟩ = some (.int .i64 R) := (blk_cell M.b 0).trans rfl; have zkm0_ := blk_frozen M.b 0; have km1_ : W9.cell? ⟨gm, 1, none⟩ = some (.slice Am ys.length cm) := (blk_cell M.b 1).trans rfl; have zkm1_ := blk_frozen M.b 1; have km2_ : W9.cell? ⟨gm, 2, none⟩ = some (.slice Bs zs.length dm) := (blk_cell M.b 2).trans rfl; have zkm2_ := blk_frozen M.b 2; have kf0_ : W9.cell? ⟨gf, 0, none⟩ = some (.int .u32 t0) := (blk_cell Bf 0).trans rfl; have zkf0_ := blk_frozen Bf 0; have kf1_ : W9.cell? ⟨gf, 1, none⟩ = some (.slice (some ad4) 1 c4) := (blk_cell Bf 1).trans rfl; have zkf1_ := blk_frozen Bf 1) | ((with_reducible refine gate_store (t := 25) (p := 7) rfl ?_); refine store_event (t := 25) (p := 7) (v := ?vot18_) (w1 := (((W9.setCell ⟨gn, 0, none⟩ (.int .i64 R)).setCell ⟨gn, 1, none⟩ (.slice Am ys.length cm)).setCell ⟨gn, 2, none⟩ (.slice Bs zs.length dm))) ?hg ?ho ?hn ?hr ?_; (case ho => rfl); (case hg => rfl); (case hn => rfl); (case hr => first | (go_simp; done) | (go_simp; rfl)); intro W10 hw; have BG_ := (by rw [hw]; exact M.copy BG.b : nb.Bag W10 gn gn u9 R Am cm ys Bs dm zs); have N9_ := (by rw [hw]; exact Kd.N_far (p := ⟨gn, 2, none⟩) (Kd.N_far (p := ⟨gn, 1, none⟩) (Kd.N_far (p := ⟨gn, 0, none⟩) N9 (fun k hk => Nat.ne_of_gt hk) _) (fun k hk => Nat.ne_of_gt hk) _) (fun k hk => Nat.ne_of_gt hk) _ : Kd.N (Kd.int .u32) 26 W10 w.heap.size (fun k => gn < k) u9 _); have HB_ := (by rw [hw]; exact below_set (below_set (below_set HB wgn) wgn) wgn : Below w.heap.size w W10); clear hw BG N9 HB M; have BG := BG_; have N9 := N9_; have HB := HB_; clear BG_ N9_ HB_; (try clear k0_); (try clear zk0_); (try clear k1_); (try clear zk1_); (try clear k2_); (try clear zk2_); (try clear km0_); (try clear zkm0_); (try clear km1_); (try clear zkm1_); (try clear km2_); (try clear zkm2_); have k0_ : W10.cell? ⟨gn, 0, none⟩ = some (.int .i64 R) := (blk_cell BG.b 0).trans rfl; have zk0_ := blk_frozen BG.b 0; have k1_ : W10.cell? ⟨gn, 1, none⟩ = some (.slice Am ys.length cm) := (blk_cell BG.b 1).trans rfl; have zk1_ := blk_frozen BG.b 1; have k2_ : W10.cell? ⟨gn, 2, none⟩ = some (.slice Bs zs.length dm) := (blk_cell BG.b 2).trans rfl; have zk2_ := blk_frozen BG.b 2) | (go_at_call 10; (with_reducible refine (net_Right.calls R _ cm ys _ dm zs true _ (Kd.V_reads' BG.v1).2.2 (Kd.V_reads' BG.v1).2.1 (Kd.V_reads' BG.v2).2.2 (Kd.V_reads' BG.v2).2.1 AR.out).mono ?_); rintro e W11 ⟨rfl, hb_⟩; replace BG := BG.below hb_; replace N9 := Kd.N_below N9 hb_; replace HB := HB.trans (hb_.mono HB.size); clear hb_; (try clear k0_); (try clear zk0_); (try clear k1_); (try clear zk1_); (try clear k2_); (try clear zk2_)))
              go_roundg k2
              case measure => exact Nat.lt_succ_self _
              case rel => exact ⟨many - 1, i + 1, ys, zs, sent, Am, cm, Bs, dm, (by first | rfl | exact wm8), (by first | rfl | exact w58), ⟨IN.out⟩, ⟨by have := HA.out; omega⟩, ⟨by omega⟩, ⟨BG⟩, ⟨N9⟩, ⟨HB⟩⟩
            · rw [if_neg hc, Int.sub_zero] at IS
              have IN := Aside0.mk IS
              have e1 : (z == o) = false := beq_eq_false_iff_ne.mpr hc
              clear hc IS
              go_wp2_with fail
              refine (net_Take.calls R (fun k => k ≠ gn ∧ some k ≠ u9.ownBlock) Ag cg l (fun k => k ≠ gn ∧ some k ≠ u9.ownBlock) As cs_ s pl R ys zs t0 fs 0 _ BG.v1 BG.v2 AS.out).mono ?_
              rintro e W5 ⟨_, _, _, rfl, h1, h2, h4, hb_⟩
              obtain ⟨A4, c4, e4⟩ := Kd.V_slice h4
              rw [HFL.out] at e4
              subst e4
              obtain ⟨ad4, e4, hx4⟩ := Kd.at_int (Kd.V_reads' h4).2.2 0 (by decide) (by rw [HFL.out]; decide)
              subst e4
              rw [HZ.out] at hx4
              have hx4 : W5.cell? (ad4.add 0) = some (.int .u32 z) := hx4
              have hx5 : W5.cell? ad4 = some (.int .u32 z) := (nb.add0 ad4 ▸ hx4)
              obtain ⟨Am, cm, rfl⟩ := Kd.V_slice h1
              obtain ⟨Bs, dm, rfl⟩ := Kd.V_slice h2
              replace h1 := Kd.V_mono (ok' := fun k => k ≠ gn ∧ some k ≠ u9.ownBlock) h1 (fun k hk => hk.elim (fun h => by first | exact h.elim id id | exact h.elim id (fun h => h.elim id id)) (fun h => ⟨by have := blk_lt BG.b; omega, fun e_ => by have := Kd.N_lt N9 k e_.symm; omega⟩))
              replace h2 := Kd.V_mono (ok' := fun k => k ≠ gn ∧ some k ≠ u9.ownBlock) h2 (fun k hk => hk.elim (fun h => by first | exact h.elim id id | exact h.elim id (fun h => h.elim id id)) (fun h => ⟨by have := blk_lt BG.b; omega, fun e_ => by have := Kd.N_lt N9 k e_.symm; omega⟩))
              replace BG := BG.below hb_
              replace N9 := Kd.N_below N9 hb_
              replace HB := HB.trans (hb_.mono HB.size)
              clear hb_
              (try clear k0_); (try clear zk0_); (try clear k1_); (try clear zk1_); (try clear k2_); (try clear zk2_)
              go_wp2_with (first | ((with_reducible refine gate_dst (N := 16) rfl ?_); refine box_event ?hg (N := 16) ?hd (cs := #[.int .i64 0, .slice none 0 0, .slice none 0 0]) (t := 25) ?hr ?_; (case hd => rfl); (case hg => rfl); (case hr => first | (go_simp; done) | (go_simp; rfl)); intro gm hgm W6 Bm hb_; have wgm : W5.heap.size ≤ gm := Nat.le_of_eq hgm.symm; have HC : Below W5.heap.size W5 W6 := hb_; clear hgm hb_; have pm0_ : W6.cell? ⟨gm, 0, none⟩ = some (.int .i64 0) := (blk_cell Bm 0).trans rfl; have zpm0_ := blk_frozen Bm 0; have pm1_ : W6.cell? ⟨gm, 1, none⟩ = some (.slice none 0 0) := (blk_cell Bm 1).trans rfl; have zpm1_ := blk_frozen Bm 1; have pm2_ : W6.cell? ⟨gm, 2, none⟩ = some (.slice none 0 0) := (blk_cell Bm 2).trans rfl; have zpm2_ := blk_frozen Bm 2) | ((with_reducible refine gate_dst (N := 17) rfl ?_); refine box_event ?hg (N := 17) ?hd (cs := #[.int .u32 0, .slice none 0 0]) (t := 29) ?hr ?_; (case hd => rfl); (case hg => rfl); (case hr => first | (go_simp; done) | (go_simp; rfl)); intro gf hgf W7 Bf hb_; have wgf : W5.heap.size ≤ gf := Nat.le_trans HC.size (Nat.le_of_eq hgf.symm); have lmf : gm < gf := (by rw [hgf]; exact blk_lt Bm); replace HC := HC.trans (hb_.mono HC.size); replace Bm := blk_below Bm hb_; (try clear pm0_); (try clear zpm0_); (try clear pm1_); (try clear zpm1_); (try clear pm2_); (try clear zpm2_); have pm0_ : W7.cell? ⟨gm, 0, none⟩ = some (.int .i64 0) := (blk_cell Bm 0).trans rfl; have zpm0_ := blk_frozen Bm 0; have pm1_ : W7.cell? ⟨gm, 1, none⟩ = some (.slice none 0 0) := (blk_cell Bm 1).trans rfl; have zpm1_ := blk_frozen Bm 1; have pm2_ : W7.cell? ⟨gm, 2, none⟩ = some (.slice none 0 0) := (blk_cell Bm 2).trans rfl; have zpm2_ := blk_frozen Bm 2; clear hgf hb_; have pf0_ : W7.cell? ⟨gf, 0, none⟩ = some (.int .u32 0) := (blk_cell Bf 0).trans rfl; have zpf0_ := blk_frozen Bf 0; have pf1_ : W7.cell? ⟨gf, 1, none⟩ = some (.slice none 0 0) := (blk_cell Bf 1).trans rfl; have zpf1_ := blk_frozen Bf 1) | ((with_reducible refine gate_store (t := 25) (p := 16) rfl ?_); refine store_event (t := 25) (p := 16) (v := ?vot16_) (w1 := (((W7.setCell ⟨gm, 0, none⟩ (.int .i64 R)).setCell ⟨gm, 1, none⟩ (.slice Am ys.length cm)).setCell ⟨gm, 2, none⟩ (.slice Bs zs.length dm))) ?hg ?ho ?hn ?hr ?_; (case ho => rfl); (case hg => rfl); (case hn => rfl); (case hr => first | (go_simp; done) | (go_simp; rfl)); intro W8 hw; have B_ := (by rw [hw]; exact bp3_ Bm : W8.heap[gm]? = some (.cells #[.int .i64 R, .slice Am ys.length cm, .slice Bs zs.length dm] 25 (0, 0))); have HC_ := (by rw [hw]; exact (below_set (below_set (below_set HC wgm) wgm) wgm) : Below W5.heap.size W5 W8); have O_ := (by rw [hw]; exact bf3_ Bf (Nat.ne_of_gt lmf) : W8.heap[gf]? = some (.cells #[.int .u32 0, .slice none 0 0] 29 (0, 0))); clear hw HC Bm; have HC := HC_; have Bm := B_; clear HC_ B_; (try clear pm0_); (try clear zpm0_); (try clear pm1_); (try clear zpm1_); (try clear pm2_); (try clear zpm2_); clear Bf; have Bf := O_; clear O_; (try clear pf0_); (try clear zpf0_); (try clear pf1_); (try clear zpf1_); (try clear pf2_); (try clear zpf2_); have pf0_ : W8.cell? ⟨gf, 0, none⟩ = some (.int .u32 0) := (blk_cell Bf 0).trans rfl; have zpf0_ := blk_frozen Bf 0; have pf1_ : W8.cell? ⟨gf, 1, none⟩ = some (.slice none 0 0) := (blk_cell Bf 1).trans rfl; have zpf1_ := blk_frozen Bf 1; skip) | ((with_reducible refine gate_store (t := 29) (p := 17) rfl ?_); refine store_event (t := 29) (p := 17) (v := ?vot17_) (w1 := ((W8.setCell ⟨gf, 0, none⟩ (.int .u32 t0)).setCell ⟨gf, 1, none⟩ (.slice (some ad4) 1 c4))) ?hg ?ho ?hn ?hr ?_; (case ho => rfl); (case hg => rfl); (case hn => rfl); (case hr => first | (go_simp; done) | (go_simp; rfl)); intro W9 hw; have B_ := (by rw [hw]; exact bp2_ Bf : W9.heap[gf]? = some (.cells #[.int .u32 t0, .slice (some ad4) 1 c4] 29 (0, 0))); have HC_ := (by rw [hw]; exact (below_set (below_set HC wgf) wgf) : Below W5.heap.size W5 W9); have O_ := (by rw [hw]; exact bf2_ Bm (Nat.ne_of_lt lmf) : W9.heap[gm]? = some (.cells #[.int .i64 R, .slice Am ys.length cm, .slice Bs zs.length dm] 25 (0, 0))); clear hw HC Bf; have HC := HC_; have Bf := B_; clear HC_ B_; (try clear pf0_); (try clear zpf0_); (try clear pf1_); (try clear zpf1_); (try clear pf2_); (try clear zpf2_); clear Bm; have Bm := O_; clear O_; (try clear pm0_); (try clear zpm0_); (try clear pm1_); (try clear zpm1_); (try clear pm2_); (try clear zpm2_); have pm0_ : W9.cell? ⟨gm, 0, none⟩ = some (.int .i64 R) := (blk_cell Bm 0).trans rfl; have zpm0_ := blk_frozen Bm 0; have pm1_ : W9.cell? ⟨gm, 1, none⟩ = some (.slice Am ys.length cm) := (blk_cell Bm 1).trans rfl; have zpm1_ := blk_frozen Bm 1; have pm2_ : W9.cell? ⟨gm, 2, none⟩ = some (.slice Bs zs.length dm) := (blk_cell Bm 2).trans rfl; have zpm2_ := blk_frozen Bm 2; have ngm : gm ≠ gn := (by have := blk_lt BG.b; omega); have n9m : some gm ≠ u9.ownBlock := (fun e_ => by have := Kd.N_lt N9 gm e_.symm; omega); have M := (⟨Bm, Kd.V_below h1 HC, Kd.V_below h2 HC⟩ : nb.Bag W9 gn gm u9 R Am cm ys Bs dm zs); replace BG := BG.below HC; replace N9 := Kd.N_below N9 HC; replace HB := HB.trans (HC.mono HB.size); replace hx4 := pw_cell_below HC hx4; replace hx5 := pw_cell_below HC hx5; clear HC Bm h1 h2 h4 wgm; (try clear k0_); (try clear zk0_); (try clear k1_); (try clear zk1_); (try clear k2_); (try clear zk2_); (try clear pm0_); (try clear zpm0_); (try clear pm1_); (try clear zpm1_); (try clear pm2_); (try clear zpm2_); (try clear km0_); (try clear zkm0_); (try clear km1_); (try clear zkm1_); (try clear km2_); (try clear zkm2_); (try clear pf0_); (try clear zpf0_); (try clear pf1_); (try clear zpf1_); (try clear pf2_); (try clear zpf2_); have k0_ : W9.cell? ⟨gn, 0, none⟩ = some (.int .i64 R) := (blk_cell BG.b 0).trans rfl; have zk0_ := blk_frozen BG.b 0; have k1_ : W9.cell? ⟨gn, 1, none⟩ = some (.slice Ag l.length cg) := (blk_cell BG.b 1).trans rfl; have zk1_ := blk_frozen BG.b 1; have k2_ : W9.cell? ⟨gn, 2, none⟩ = some (.slice As s.length cs_) := (blk_cell BG.b 2).trans rfl; have zk2_ := blk_frozen BG.b 2; have km0_ : W9.cell? ⟨gm, 0, none⟩ = some (.int .i64 R) := (blk_cell M.b 0).trans rfl; have zkm0_ := blk_frozen M.b 0; have km1_ : W9.cell? ⟨gm, 1, none⟩ = some (.slice Am ys.length cm) := (blk_cell M.b 1).trans rfl; have zkm1_ := blk_frozen M.b 1; have km2_ : W9.cell? ⟨gm, 2, none⟩ = some (.slice Bs zs.length dm) := (blk_cell M.b 2).trans rfl; have zkm2_ := blk_frozen M.b 2; have kf0_ : W9.cell? ⟨gf, 0, none⟩ = some (.int .u32 t0) := (blk_cell Bf 0).trans rfl; have zkf0_ := blk_frozen Bf 0; have kf1_ : W9.cell? ⟨gf, 1, none⟩ = some (.slice (some ad4) 1 c4) := (blk_cell Bf 1).trans rfl; have zkf1_ := blk_frozen Bf 1) | ((with_reducible refine gate_store (t := 25) (p := 7) rfl ?_); refine store_event (t := 25) (p := 7) (v := ?vot18_) (w1 := (((W9.setCell ⟨gn, 0, none⟩ (.int .i64 R)).setCell ⟨gn, 1, none⟩ (.slice Am ys.length cm)).setCell ⟨gn, 2, none⟩ (.slice Bs zs.length dm))) ?hg ?ho ?hn ?hr ?_; (case ho => rfl); (case hg => rfl); (case hn => rfl); (case hr => first | (go_simp; done) | (go_simp; rfl)); intro W10 hw; have BG_ := (by rw [hw]; exact M.copy BG.b : nb.Bag W10 gn gn u9 R Am cm ys Bs dm zs); have N9_ := (by rw [hw]; exact Kd.N_far (p := ⟨gn, 2, none⟩) (Kd.N_far (p := ⟨gn, 1, none⟩) (Kd.N_far (p := ⟨gn, 0, none⟩) N9 (fun k hk => Nat.ne_of_gt hk) _) (fun k hk => Nat.ne_of_gt hk) _) (fun k hk => Nat.ne_of_gt hk) _ : Kd.N (Kd.int .u32) 26 W10 w.heap.size (fun k => gn < k) u9 _); have HB_ := (by rw [hw]; exact below_set (below_set (below_set HB wgn) wgn) wgn : Below w.heap.size w W10); clear hw BG N9 HB M; have BG := BG_; have N9 := N9_; have HB := HB_; clear BG_ N9_ HB_; (try clear k0_); (try clear zk0_); (try clear k1_); (try clear zk1_); (try clear k2_); (try clear zk2_); (try clear km0_); (try clear zkm0_); (try clear km1_); (try clear zkm1_); (try clear km2_); (try clear zkm2_); have k0_ : W10.cell? ⟨gn, 0, none⟩ = some (.int .i64 R) := (blk_cell BG.b 0).trans rfl; have zk0_ := blk_frozen BG.b 0; have k1_ : W10.cell? ⟨gn, 1, none⟩ = some (.slice Am ys.length cm) := (blk_cell BG.b 1).trans rfl; have zk1_ := blk_frozen BG.b 1; have k2_ : W10.cell? ⟨gn, 2, none⟩ = some (.slice Bs zs.length dm) := (blk_cell BG.b 2).trans rfl; have zk2_ := blk_frozen BG.b 2) | (go_at_call 10; (with_reducible refine (net_Right.calls R _ cm ys _ dm zs true _ (Kd.V_reads' BG.v1).2.2 (Kd.V_reads' BG.v1).2.1 (Kd.V_reads' BG.v2).2.2 (Kd.V_reads' BG.v2).2.1 AR.out).mono ?_); rintro e W11 ⟨rfl, hb_⟩; replace BG := BG.below hb_; replace N9 := Kd.N_below N9 hb_; replace HB := HB.trans (hb_.mono HB.size); clear hb_; (try clear k0_); (try clear zk0_); (try clear k1_); (try clear zk1_); (try clear k2_); (try clear zk2_)))
              go_roundg k2
              case measure => exact Nat.lt_succ_self _
              case rel => exact ⟨many, i + 1, ys, zs, sent, Am, cm, Bs, dm, (by first | rfl | exact wm8), (by first | rfl | exact w58), ⟨IN.out⟩, ⟨by have := HA.out; omega⟩, ⟨by omega⟩, ⟨BG⟩, ⟨N9⟩, ⟨HB⟩⟩
          · obtain ⟨ys, hys⟩ : ∃ ys : List S29, ys = l := ⟨_, rfl⟩
            obtain ⟨zs, hzs⟩ : ∃ zs : List (List Int), zs = s := ⟨_, rfl⟩
            obtain ⟨fs, hfs⟩ : ∃ fs : List Int, fs = [] := ⟨_, rfl⟩
            obtain ⟨t0, ht0⟩ : ∃ x : Int, x = 0 := ⟨_, rfl⟩
            have IS := I.mono (Nat.le_succ i)
            rw [← hys, ← hzs] at IS
            have AS := Aside0.mk (show net_Take.f R l s pl = some (R, ys, zs, t0, fs, 1) by rw [uk.take_eq R l s pl (by omega), hys, hzs, hfs, ht0]; unfold uk.takeM; rw [if_neg (fun q => hr q.2)])
            have AR := Aside0.mk (show net_Right.f R ys zs = some true by rw [uk.right_eq, (uk.rightB_iff R ys).2 ⟨hR64.1, hR64.2, IS.hl⟩])
            have IN := Aside0.mk IS
            clear hr hys hzs hfs ht0 I hlR IS
            go_wp2_with fail
            refine (net_Take.calls R (fun k => k ≠ gn ∧ some k ≠ u9.ownBlock) Ag cg l (fun k => k ≠ gn ∧ some k ≠ u9.ownBlock) As cs_ s pl R ys zs t0 fs 1 _ BG.v1 BG.v2 AS.out).mono ?_
            rintro e W5 ⟨_, _, _, rfl, h1, h2, h4, hb_⟩
            obtain ⟨A4, c4, e4⟩ := Kd.V_slice h4
            subst e4
            obtain ⟨Am, cm, rfl⟩ := Kd.V_slice h1
            obtain ⟨Bs, dm, rfl⟩ := Kd.V_slice h2
            replace h1 := Kd.V_mono (ok' := fun k => k ≠ gn ∧ some k ≠ u9.ownBlock) h1 (fun k hk => hk.elim (fun h => by first | exact h.elim id id | exact h.elim id (fun h => h.elim id id)) (fun h => ⟨by have := blk_lt BG.b; omega, fun e_ => by have := Kd.N_lt N9 k e_.symm; omega⟩))
            replace h2 := Kd.V_mono (ok' := fun k => k ≠ gn ∧ some k ≠ u9.ownBlock) h2 (fun k hk => hk.elim (fun h => by first | exact h.elim id id | exact h.elim id (fun h => h.elim id id)) (fun h => ⟨by have := blk_lt BG.b; omega, fun e_ => by have := Kd.N_lt N9 k e_.symm; omega⟩))
            replace BG := BG.below hb_
            replace N9 := Kd.N_below N9 hb_
            replace HB := HB.trans (hb_.mono HB.size)
            clear hb_
            (try clear k0_); (try clear zk0_); (try clear k1_); (try clear zk1_); (try clear k2_); (try clear zk2_)
            go_wp2_with (first | ((with_reducible refine gate_dst (N := 16) rfl ?_); refine box_event ?hg (N := 16) ?hd (cs := #[.int .i64 0, .slice none 0 0, .slice none 0 0]) (t := 25) ?hr ?_; (case hd => rfl); (case hg => rfl); (case hr => first | (go_simp; done) | (go_simp; rfl)); intro gm hgm W6 Bm hb_; have wgm : W5.heap.size ≤ gm := Nat.le_of_eq hgm.symm; have HC : Below W5.heap.size W5 W6 := hb_; clear hgm hb_; have pm0_ : W6.cell? ⟨gm, 0, none⟩ = some (.int .i64 0) := (blk_cell Bm 0).trans rfl; have zpm0_ := blk_frozen Bm 0; have pm1_ : W6.cell? ⟨gm, 1, none⟩ = some (.slice none 0 0) := (blk_cell Bm 1).trans rfl; have zpm1_ := blk_frozen Bm 1; have pm2_ : W6.cell? ⟨gm, 2, none⟩ = some (.slice none 0 0) := (blk_cell Bm 2).trans rfl; have zpm2_ := blk_frozen Bm 2) | ((with_reducible refine gate_dst (N := 17) rfl ?_); refine box_event ?hg (N := 17) ?hd (cs := #[.int .u32 0, .slice none 0 0]) (t := 29) ?hr ?_; (case hd => rfl); (case hg => rfl); (case hr => first | (go_simp; done) | (go_simp; rfl)); intro gf hgf W7 Bf hb_; have wgf : W5.heap.size ≤ gf := Nat.le_trans HC.size (Nat.le_of_eq hgf.symm); have lmf : gm < gf := (by rw [hgf]; exact blk_lt Bm); replace HC := HC.trans (hb_.mono HC.size); replace Bm := blk_below Bm hb_; (try clear pm0_); (try clear zpm0_); (try clear pm1_); (try clear zpm1_); (try clear pm2_); (try clear zpm2_); have pm0_ : W7.cell? ⟨gm, 0, none⟩ = some (.int .i64 0) := (blk_cell Bm 0).trans rfl; have zpm0_ := blk_frozen Bm 0; have pm1_ : W7.cell? ⟨gm, 1, none⟩ = some (.slice none 0 0) := (blk_cell Bm 1).trans rfl; have zpm1_ := blk_frozen Bm 1; have pm2_ : W7.cell? ⟨gm, 2, none⟩ = some (.slice none 0 0) := (blk_cell Bm 2).trans rfl; have zpm2_ := blk_frozen Bm 2; clear hgf hb_; have pf0_ : W7.cell? ⟨gf, 0, none⟩ = some (.int .u32 0) := (blk_cell Bf 0).trans rfl; have zpf0_ := blk_frozen Bf 0; have pf1_ : W7.cell? ⟨gf, 1, none⟩ = some (.slice none 0 0) := (blk_cell Bf 1).trans rfl; have zpf1_ := blk_frozen Bf 1) | ((with_reducible refine gate_store (t := 25) (p := 16) rfl ?_); refine store_event (t := 25) (p := 16) (v := ?vot16_) (w1 := (((W7.setCell ⟨gm, 0, none⟩ (.int .i64 R)).setCell ⟨gm, 1, none⟩ (.slice Am ys.length cm)).setCell ⟨gm, 2, none⟩ (.slice Bs zs.length dm))) ?hg ?ho ?hn ?hr ?_; (case ho => rfl); (case hg => rfl); (case hn => rfl); (case hr => first | (go_simp; done) | (go_simp; rfl)); intro W8 hw; have B_ := (by rw [hw]; exact bp3_ Bm : W8.heap[gm]? = some (.cells #[.int .i64 R, .slice Am ys.length cm, .slice Bs zs.length dm] 25 (0, 0))); have HC_ := (by rw [hw]; exact (below_set (below_set (below_set HC wgm) wgm) wgm) : Below W5.heap.size W5 W8); have O_ := (by rw [hw]; exact bf3_ Bf (Nat.ne_of_gt lmf) : W8.heap[gf]? = some (.cells #[.int .u32 0, .slice none 0 0] 29 (0, 0))); clear hw HC Bm; have HC := HC_; have Bm := B_; clear HC_ B_; (try clear pm0_); (try clear zpm0_); (try clear pm1_); (try clear zpm1_); (try clear pm2_); (try clear zpm2_); clear Bf; have Bf := O_; clear O_; (try clear pf0_); (try clear zpf0_); (try clear pf1_); (try clear zpf1_); (try clear pf2_); (try clear zpf2_); have pf0_ : W8.cell? ⟨gf, 0, none⟩ = some (.int .u32 0) := (blk_cell Bf 0).trans rfl; have zpf0_ := blk_frozen Bf 0; have pf1_ : W8.cell? ⟨gf, 1, none⟩ = some (.slice none 0 0) := (blk_cell Bf 1).trans rfl; have zpf1_ := blk_frozen Bf 1; skip) | ((with_reducible refine gate_store (t := 29) (p := 17) rfl ?_); refine store_event (t := 29) (p := 17) (v := ?vot17_) (w1 := ((W8.setCell ⟨gf, 0, none⟩ (.int .u32 t0)).setCell ⟨gf, 1, none⟩ (.slice A4 fs.length c4))) ?hg ?ho ?hn ?hr ?_; (case ho => rfl); (case hg => rfl); (case hn => rfl); (case hr => first | (go_simp; done) | (go_simp; rfl)); intro W9 hw; have B_ := (by rw [hw]; exact bp2_ Bf : W9.heap[gf]? = some (.cells #[.int .u32 t0, .slice A4 fs.length c4] 29 (0, 0))); have HC_ := (by rw [hw]; exact (below_set (below_set HC wgf) wgf) : Below W5.heap.size W5 W9); have O_ := (by rw [hw]; exact bf2_ Bm (Nat.ne_of_lt lmf) : W9.heap[gm]? = some (.cells #[.int .i64 R, .slice Am ys.length cm, .slice Bs zs.length dm] 25 (0, 0))); clear hw HC Bf; have HC := HC_; have Bf := B_; clear HC_ B_; (try clear pf0_); (try clear zpf0_); (try clear pf1_); (try clear zpf1_); (try clear pf2_); (try clear zpf2_); clear Bm; have Bm := O_; clear O_; (try clear pm0_); (try clear zpm0_); (try clear pm1_); (try clear zpm1_); (try clear pm2_); (try clear zpm2_); have pm0_ : W9.cell? ⟨gm, 0, none⟩ = some (.int .i64 R) := (blk_cell Bm 0).trans rfl; have zpm0_ := blk_frozen Bm 0; have pm1_ : W9.cell? ⟨gm, 1, none⟩ = some (.slice Am ys.length cm) := (blk_cell Bm 1).trans rfl; have zpm1_ := blk_frozen Bm 1; have pm2_ : W9.cell? ⟨gm, 2, none⟩ = some (.slice Bs zs.length dm) := (blk_cell Bm 2).trans rfl; have zpm2_ := blk_frozen Bm 2; have ngm : gm ≠ gn := (by have := blk_lt BG.b; omega); have n9m : some gm ≠ u9.ownBlock := (fun e_ => by have := Kd.N_lt N9 gm e_.symm; omega); have M := (⟨Bm, Kd.V_below h1 HC, Kd.V_below h2 HC⟩ : nb.Bag W9 gn gm u9 R Am cm ys Bs dm zs); replace BG := BG.below HC; replace N9 := Kd.N_below N9 HC; replace HB := HB.trans (HC.mono HB.size); clear HC Bm h1 h2 h4 wgm; (try clear k0_); (try clear zk0_); (try clear k1_); (try clear zk1_); (try clear k2_); (try clear zk2_); (try clear pm0_); (try clear zpm0_); (try clear pm1_); (try clear zpm1_); (try clear pm2_); (try clear zpm2_); (try clear km0_); (try clear zkm0_); (try clear km1_); (try clear zkm1_); (try clear km2_); (try clear zkm2_); (try clear pf0_); (try clear zpf0_); (try clear pf1_); (try clear zpf1_); (try clear pf2_); (try clear zpf2_); have k0_ : W9.cell? ⟨gn, 0, none⟩ = some (.int .i64 R) := (blk_cell BG.b 0).trans rfl; have zk0_ := blk_frozen BG.b 0; have k1_ : W9.cell? ⟨gn, 1, none⟩ = some (.slice Ag l.length cg) := (blk_cell BG.b 1).trans rfl; have zk1_ := blk_frozen BG.b 1; have k2_ : W9.cell? ⟨gn, 2, none⟩ = some (.slice As s.length cs_) := (blk_cell BG.b 2).trans rfl; have zk2_ := blk_frozen BG.b 2; have km0_ : W9.cell? ⟨gm, 0, none⟩ = some (.int .i64 R) := (blk_cell M.b 0).trans rfl; have zkm0_ := blk_frozen M.b 0; have km1_ : W9.cell? ⟨gm, 1, none⟩ = some (.slice Am ys.length cm) := (blk_cell M.b 1).trans rfl; have zkm1_ := blk_frozen M.b 1; have km2_ : W9.cell? ⟨gm, 2, none⟩ = some (.slice Bs zs.length dm) := (blk_cell M.b 2).trans rfl; have zkm2_ := blk_frozen M.b 2; have kf0_ : W9.cell? ⟨gf, 0, none⟩ = some (.int .u32 t0) := (blk_cell Bf 0).trans rfl; have zkf0_ := blk_frozen Bf 0; have kf1_ : W9.cell? ⟨gf, 1, none⟩ = some (.slice A4 fs.length c4) := (blk_cell Bf 1).trans rfl; have zkf1_ := blk_frozen Bf 1) | ((with_reducible refine gate_store (t := 25) (p := 7) rfl ?_); refine store_event (t := 25) (p := 7) (v := ?vot18_) (w1 := (((W9.setCell ⟨gn, 0, none⟩ (.int .i64 R)).setCell ⟨gn, 1, none⟩ (.slice Am ys.length cm)).setCell ⟨gn, 2, none⟩ (.slice Bs zs.length dm))) ?hg ?ho ?hn ?hr ?_; (case ho => rfl); (case hg => rfl); (case hn => rfl); (case hr => first | (go_simp; done) | (go_simp; rfl)); intro W10 hw; have BG_ := (by rw [hw]; exact M.copy BG.b : nb.Bag W10 gn gn u9 R Am cm ys Bs dm zs); have N9_ := (by rw [hw]; exact Kd.N_far (p := ⟨gn, 2, none⟩) (Kd.N_far (p := ⟨gn, 1, none⟩) (Kd.N_far (p := ⟨gn, 0, none⟩) N9 (fun k hk => Nat.ne_of_gt hk) _) (fun k hk => Nat.ne_of_gt hk) _) (fun k hk => Nat.ne_of_gt hk) _ : Kd.N (Kd.int .u32) 26 W10 w.heap.size (fun k => gn < k) u9 _); have HB_ := (by rw [hw]; exact below_set (below_set (below_set HB wgn) wgn) wgn : Below w.heap.size w W10); clear hw BG N9 HB M; have BG := BG_; have N9 := N9_; have HB := HB_; clear BG_ N9_ HB_; (try clear k0_); (try clear zk0_); (try clear k1_); (try clear zk1_); (try clear k2_); (try clear zk2_); (try clear km0_); (try clear zkm0_); (try clear km1_); (try clear zkm1_); (try clear km2_); (try clear zkm2_); have k0_ : W10.cell? ⟨gn, 0, none⟩ = some (.int .i64 R) := (blk_cell BG.b 0).trans rfl; have zk0_ := blk_frozen BG.b 0; have k1_ : W10.cell? ⟨gn, 1, none⟩ = some (.slice Am ys.length cm) := (blk_cell BG.b 1).trans rfl; have zk1_ := blk_frozen BG.b 1; have k2_ : W10.cell? ⟨gn, 2, none⟩ = some (.slice Bs zs.length dm) := (blk_cell BG.b 2).trans rfl; have zk2_ := blk_frozen BG.b 2) | (go_at_call 10; (with_reducible refine (net_Right.calls R _ cm ys _ dm zs true _ (Kd.V_reads' BG.v1).2.2 (Kd.V_reads' BG.v1).2.1 (Kd.V_reads' BG.v2).2.2 (Kd.V_reads' BG.v2).2.1 AR.out).mono ?_); rintro e W11 ⟨rfl, hb_⟩; replace BG := BG.below hb_; replace N9 := Kd.N_below N9 hb_; replace HB := HB.trans (hb_.mono HB.size); clear hb_; (try clear k0_); (try clear zk0_); (try clear k1_); (try clear zk1_); (try clear k2_); (try clear zk2_)))
            go_roundg k2
            case measure => exact Nat.lt_succ_self _
            case rel => exact ⟨many, i + 1, ys, zs, sent, Am, cm, Bs, dm, (by first | rfl | exact wm8), (by first | rfl | exact w58), ⟨IN.out⟩, ⟨by have := HA.out; omega⟩, ⟨by omega⟩, ⟨BG⟩, ⟨N9⟩, ⟨HB⟩⟩
        · have t3 : Int.tmod d 3 = 2 := by rw [← hd3]; exact Int.tmod_eq_emod_of_nonneg hd2.1
          clear hd3
          by_cases hr : pl < (l.length : Int) ∧ (l.length : Int) < R
          · have hpn : pl.toNat < l.length := by omega
            have hrd : rd_T29 l pl = l[pl.toNat] := by have e_ := uk.rdS l pl.toNat hpn; rwa [Int.toNat_of_nonneg hpl8.1] at e_
            obtain ⟨ys, hys⟩ : ∃ ys : List S29, ys = l ++ [rd_T29 l pl] := ⟨_, rfl⟩
            obtain ⟨zs, hzs⟩ : ∃ zs : List (List Int), zs = s := ⟨_, rfl⟩
            have IS := I.dbl pl.toNat hpn hr.2
            rw [← hrd, ← hys, ← hzs] at IS
            have hyl : ys.length = l.length + 1 := by rw [hys]; simp
            have hlast : rd_T29 ys (l.length : Int) = rd_T29 l pl := by rw [uk.rdS ys l.length (by omega)]; simp only [hys]; rw [List.getElem_append_right (Nat.le_refl _)]; simp
            have HLL := Aside0.mk hyl
            have HFL := Aside0.mk (show (rd_T29 ys (l.length : Int)).f1.length = 1 by rw [hlast, hrd]; exact I.one _ (List.getElem_mem hpn))
            obtain ⟨z, hz⟩ : ∃ z, z = rd (rd_T29 l pl).f1 0 := ⟨_, rfl⟩
            have HZ := Aside0.mk (show rd (rd_T29 ys (l.length : Int)).f1 0 = z by rw [hlast, hz])
            rw [← hz] at IS
            have AS := Aside0.mk (show net_Double.f R l s pl = some (R, ys, zs, 0) by rw [uk.double_eq R l s pl hR64.1 (by omega) (by omega), hys, hzs]; unfold uk.doubleM; rw [if_pos ⟨hpl8.1, hr.1⟩, if_pos hr.2])
            have AR := Aside0.mk (show net_Right.f R ys zs = some true by rw [uk.right_eq, (uk.rightB_iff R ys).2 ⟨hR64.1, hR64.2, IS.hl⟩])
            have wy : wrap64 ((ys.length : Int) - 1) = (l.length : Int) := by rw [uk.w64 (by omega) (by omega)]; omega
            have px1 : (0 ≤ (l.length : Int)) = True := eq_true (by omega)
            have px2 : ((l.length : Int) < (ys.length : Int)) = True := eq_true (by omega)
            clear hr hys hzs hz I hlR hrd hpn hyl hlast
            by_cases hc : z = o
            · rw [if_pos hc] at IS
              have IN := Aside0.mk IS
              have e1 : (z == o) = true := beq_iff_eq.mpr hc
              have wm8 : Value.int .i64 (wrap64 (many + 1)) = Value.int .i64 (many + 1) := by rw [uk.w64 (by omega) (by omega)]
              clear hc IS
              go_wp2_with fail
              refine (net_Double.calls R (fun k => k ≠ gn ∧ some k ≠ u9.ownBlock) Ag cg l (fun k => k ≠ gn ∧ some k ≠ u9.ownBlock) As cs_ s pl R ys zs 0 _ BG.v1 BG.v2 AS.out).mono ?_
              rintro e W5 ⟨_, _, rfl, h1, h2, hb_⟩
              obtain ⟨Am, cm, rfl⟩ := Kd.V_slice h1
              obtain ⟨Bs, dm, rfl⟩ := Kd.V_slice h2
              replace h1 := Kd.V_mono (ok' := fun k => k ≠ gn ∧ some k ≠ u9.ownBlock) h1 (fun k hk => hk.elim (fun h => by first | exact h.elim id id | exact h.elim id (fun h => h.elim id id)) (fun h => ⟨by have := blk_lt BG.b; omega, fun e_ => by have := Kd.N_lt N9 k e_.symm; omega⟩))
              replace h2 := Kd.V_mono (ok' := fun k => k ≠ gn ∧ some k ≠ u9.ownBlock) h2 (fun k hk => hk.elim (fun h => by first | exact h.elim id id | exact h.elim id (fun h => h.elim id id)) (fun h => ⟨by have := blk_lt BG.b; omega, fun e_ => by have := Kd.N_lt N9 k e_.symm; omega⟩))
              replace BG := BG.below hb_
              replace N9 := Kd.N_below N9 hb_
              replace HB := HB.trans (hb_.mono HB.size)
              clear hb_
              (try clear k0_); (try clear zk0_); (try clear k1_); (try clear zk1_); (try clear k2_); (try clear zk2_)
              obtain ⟨adM, AM1, cM1, eM, _, hxM, _, hiM⟩ := at_T29 (Kd.V_reads' h1).2.2 (l.length : Int) (by omega) (by have := HLL.out; omega)
              subst eM
              rw [HFL.out, Int.toNat_natCast] at hxM
              obtain ⟨ad4, e4, hx4⟩ := Kd.at_int hiM 0 (by decide) (by rw [HFL.out]; decide)
              subst e4
              rw [HZ.out] at hx4
              clear hiM
              have hx4 : W5.cell? (ad4.add 0) = some (.int .u32 z) := hx4
              have hx5 : W5.cell? ad4 = some (.int .u32 z) := (nb.add0 ad4 ▸ hx4)
              go_wp2_with (first | ((with_reducible refine gate_dst (N := 19) rfl ?_); refine box_event ?hg (N := 19) ?hd (cs := #[.int .i64 0, .slice none 0 0, .slice none 0 0]) (t := 25) ?hr ?_; (case hd => rfl); (case hg => rfl); (case hr => first | (go_simp; done) | (go_simp; rfl)); intro gm hgm W6 Bm hb_; have wgm : W5.heap.size ≤ gm := Nat.le_of_eq hgm.symm; have HC : Below W5.heap.size W5 W6 := hb_; clear hgm hb_; have pm0_ : W6.cell? ⟨gm, 0, none⟩ = some (.int .i64 0) := (blk_cell Bm 0).trans rfl; have zpm0_ := blk_frozen Bm 0; have pm1_ : W6.cell? ⟨gm, 1, none⟩ = some (.slice none 0 0) := (blk_cell Bm 1).trans rfl; have zpm1_ := blk_frozen Bm 1; have pm2_ : W6.cell? ⟨gm, 2, none⟩ = some (.slice none 0 0) := (blk_cell Bm 2).trans rfl; have zpm2_ := blk_frozen Bm 2) | ((with_reducible refine gate_store (t := 25) (p := 19) rfl ?_); refine store_event (t := 25) (p := 19) (v := ?vod19_) (w1 := (((W6.setCell ⟨gm, 0, none⟩ (.int .i64 R)).setCell ⟨gm, 1, none⟩ (.slice (some adM) ys.length cm)).setCell ⟨gm, 2, none⟩ (.slice Bs zs.length dm))) ?hg ?ho ?hn ?hr ?_; (case ho => rfl); (case hg => rfl); (case hn => rfl); (case hr => first | (go_simp; done) | (go_simp; rfl)); intro W7 hw; have B_ := (by rw [hw]; exact bp3_ Bm : W7.heap[gm]? = some (.cells #[.int .i64 R, .slice (some adM) ys.length cm, .slice Bs zs.length dm] 25 (0, 0))); have HC_ := (by rw [hw]; exact (below_set (below_set (below_set HC wgm) wgm) wgm) : Below W5.heap.size W5 W7); clear hw HC Bm; have HC := HC_; have Bm := B_; clear HC_ B_; (try clear pm0_); (try clear zpm0_); (try clear pm1_); (try clear zpm1_); (try clear pm2_); (try clear zpm2_); have ngm : gm ≠ gn := (by have := blk_lt BG.b; omega); have n9m : some gm ≠ u9.ownBlock := (fun e_ => by have := Kd.N_lt N9 gm e_.symm; omega); have M := (⟨Bm, Kd.V_below h1 HC, Kd.V_below h2 HC⟩ : nb.Bag W7 gn gm u9 R (some adM) cm ys Bs dm zs); replace BG := BG.below HC; replace N9 := Kd.N_below N9 HC; replace HB := HB.trans (HC.mono HB.size); replace hx4 := pw_cell_below HC hx4; replace hx5 := pw_cell_below HC hx5; replace hxM := pw_cell_below HC hxM; clear HC Bm h1 h2 wgm; (try clear k0_); (try clear zk0_); (try clear k1_); (try clear zk1_); (try clear k2_); (try clear zk2_); (try clear pm0_); (try clear zpm0_); (try clear pm1_); (try clear zpm1_); (try clear pm2_); (try clear zpm2_); (try clear km0_); (try clear zkm0_); (try clear km1_); (try clear zkm1_); (try clear km2_); (try clear zkm2_); have k0_ : W7.cell? ⟨gn, 0, none⟩ = some (.int .i64 R) := (blk_cell BG.b 0).trans rfl; have zk0_ := blk_frozen BG.b 0; have k1_ : W7.cell? ⟨gn, 1, none⟩ = some (.slice Ag l.length cg) := (blk_cell BG.b 1).trans rfl; have zk1_ := blk_frozen BG.b 1; have k2_ : W7.cell? ⟨gn, 2, none⟩ = some (.slice As s.length cs_) := (blk_cell BG.b 2).trans rfl; have zk2_ := blk_frozen BG.b 2; have km0_ : W7.cell? ⟨gm, 0, none⟩ = some (.int .i64 R) := (blk_cell M.b 0).trans rfl; have zkm0_ := blk_frozen M.b 0; have km1_ : W7.cell? ⟨gm, 1, none⟩ = some (.slice (some adM) ys.length cm) := (blk_cell M.b 1).trans rfl; have zkm1_ := blk_frozen M.b 1; have km2_ : W7.cell? ⟨gm, 2, none⟩ = some (.slice Bs zs.length dm) := (blk_cell M.b 2).trans rfl; have zkm2_ := blk_frozen M.b 2) | ((with_reducible refine gate_store (t := 25) (p := 7) rfl ?_); refine store_event (t := 25) (p := 7) (v := ?vod20_) (w1 := (((W7.setCell ⟨gn, 0, none⟩ (.int .i64 R)).setCell ⟨gn, 1, none⟩ (.slice (some adM) ys.length cm)).setCell ⟨gn, 2, none⟩ (.slice Bs zs.length dm))) ?hg ?ho ?hn ?hr ?_; (case ho => rfl); (case hg => rfl); (case hn => rfl); (case hr => first | (go_simp; done) | (go_simp; rfl)); intro W10 hw; have BG_ := (by rw [hw]; exact M.copy BG.b : nb.Bag W10 gn gn u9 R (some adM) cm ys Bs dm zs); have N9_ := (by rw [hw]; exact Kd.N_far (p := ⟨gn, 2, none⟩) (Kd.N_far (p := ⟨gn, 1, none⟩) (Kd.N_far (p := ⟨gn, 0, none⟩) N9 (fun k hk => Nat.ne_of_gt hk) _) (fun k hk => Nat.ne_of_gt hk) _) (fun k hk => Nat.ne_of_gt hk) _ : Kd.N (Kd.int .u32) 26 W10 w.heap.size (fun k => gn < k) u9 _); have HB_ := (by rw [hw]; exact below_set (below_set (below_set HB wgn) wgn) wgn : Below w.heap.size w W10); clear hw BG N9 HB M; have BG := BG_; have N9 := N9_; have HB := HB_; clear BG_ N9_ HB_; (try clear k0_); (try clear zk0_); (try clear k1_); (try clear zk1_); (try clear k2_); (try clear zk2_); (try clear km0_); (try clear zkm0_); (try clear km1_); (try clear zkm1_); (try clear km2_); (try clear zkm2_); have k0_ : W10.cell? ⟨gn, 0, none⟩ = some (.int .i64 R) := (blk_cell BG.b 0).trans rfl; have zk0_ := blk_frozen BG.b 0; have k1_ : W10.cell? ⟨gn, 1, none⟩ = some (.slice (some adM) ys.length cm) := (blk_cell BG.b 1).trans rfl; have zk1_ := blk_frozen BG.b 1; have k2_ : W10.cell? ⟨gn, 2, none⟩ = some (.slice Bs zs.length dm) := (blk_cell BG.b 2).trans rfl; have zk2_ := blk_frozen BG.b 2) | (go_at_call 10; (with_reducible refine (net_Right.calls R _ cm ys _ dm zs true _ (Kd.V_reads' BG.v1).2.2 (Kd.V_reads' BG.v1).2.1 (Kd.V_reads' BG.v2).2.2 (Kd.V_reads' BG.v2).2.1 AR.out).mono ?_); rintro e W11 ⟨rfl, hb_⟩; replace BG := BG.below hb_; replace N9 := Kd.N_below N9 hb_; replace HB := HB.trans (hb_.mono HB.size); clear hb_; (try clear k0_); (try clear zk0_); (try clear k1_); (try clear zk1_); (try clear k2_); (try clear zk2_)))
              go_roundg k2
              case measure => exact Nat.lt_succ_self _
              case rel => exact ⟨many + 1, i + 1, ys, zs, sent, (some adM), cm, Bs, dm, (by first | rfl | exact wm8), (by first | rfl | exact w58), ⟨IN.out⟩, ⟨by have := HA.out; omega⟩, ⟨by omega⟩, ⟨BG⟩, ⟨N9⟩, ⟨HB⟩⟩
            · rw [if_neg hc, Int.add_zero] at IS
              have IN := Aside0.mk IS
              have e1 : (z == o) = false := beq_eq_false_iff_ne.mpr hc
              clear hc IS
              go_wp2_with fail
              refine (net_Double.calls R (fun k => k ≠ gn ∧ some k ≠ u9.ownBlock) Ag cg l (fun k => k ≠ gn ∧ some k ≠ u9.ownBlock) As cs_ s pl R ys zs 0 _ BG.v1 BG.v2 AS.out).mono ?_
              rintro e W5 ⟨_, _, rfl, h1, h2, hb_⟩
              obtain ⟨Am, cm, rfl⟩ := Kd.V_slice h1
              obtain ⟨Bs, dm, rfl⟩ := Kd.V_slice h2
              replace h1 := Kd.V_mono (ok' := fun k => k ≠ gn ∧ some k ≠ u9.ownBlock) h1 (fun k hk => hk.elim (fun h => by first | exact h.elim id id | exact h.elim id (fun h => h.elim id id)) (fun h => ⟨by have := blk_lt BG.b; omega, fun e_ => by have := Kd.N_lt N9 k e_.symm; omega⟩))
              replace h2 := Kd.V_mono (ok' := fun k => k ≠ gn ∧ some k ≠ u9.ownBlock) h2 (fun k hk => hk.elim (fun h => by first | exact h.elim id id | exact h.elim id (fun h => h.elim id id)) (fun h => ⟨by have := blk_lt BG.b; omega, fun e_ => by have := Kd.N_lt N9 k e_.symm; omega⟩))
              replace BG := BG.below hb_
              replace N9 := Kd.N_below N9 hb_
              replace HB := HB.trans (hb_.mono HB.size)
              clear hb_
              (try clear k0_); (try clear zk0_); (try clear k1_); (try clear zk1_); (try clear k2_); (try clear zk2_)
              obtain ⟨adM, AM1, cM1, eM, _, hxM, _, hiM⟩ := at_T29 (Kd.V_reads' h1).2.2 (l.length : Int) (by omega) (by have := HLL.out; omega)
              subst eM
              rw [HFL.out, Int.toNat_natCast] at hxM
              obtain ⟨ad4, e4, hx4⟩ := Kd.at_int hiM 0 (by decide) (by rw [HFL.out]; decide)
              subst e4
              rw [HZ.out] at hx4
              clear hiM
              have hx4 : W5.cell? (ad4.add 0) = some (.int .u32 z) := hx4
              have hx5 : W5.cell? ad4 = some (.int .u32 z) := (nb.add0 ad4 ▸ hx4)
              go_wp2_with (first | ((with_reducible refine gate_dst (N := 19) rfl ?_); refine box_event ?hg (N := 19) ?hd (cs := #[.int .i64 0, .slice none 0 0, .slice none 0 0]) (t := 25) ?hr ?_; (case hd => rfl); (case hg => rfl); (case hr => first | (go_simp; done) | (go_simp; rfl)); intro gm hgm W6 Bm hb_; have wgm : W5.heap.size ≤ gm := Nat.le_of_eq hgm.symm; have HC : Below W5.heap.size W5 W6 := hb_; clear hgm hb_; have pm0_ : W6.cell? ⟨gm, 0, none⟩ = some (.int .i64 0) := (blk_cell Bm 0).trans rfl; have zpm0_ := blk_frozen Bm 0; have pm1_ : W6.cell? ⟨gm, 1, none⟩ = some (.slice none 0 0) := (blk_cell Bm 1).trans rfl; have zpm1_ := blk_frozen Bm 1; have pm2_ : W6.cell? ⟨gm, 2, none⟩ = some (.slice none 0 0) := (blk_cell Bm 2).trans rfl; have zpm2_ := blk_frozen Bm 2) | ((with_reducible refine gate_store (t := 25) (p := 19) rfl ?_); refine store_event (t := 25) (p := 19) (v := ?vod19_) (w1 := (((W6.setCell ⟨gm, 0, none⟩ (.int .i64 R)).setCell ⟨gm, 1, none⟩ (.slice (some adM) ys.length cm)).setCell ⟨gm, 2, none⟩ (.slice Bs zs.length dm))) ?hg ?ho ?hn ?hr ?_; (case ho => rfl); (case hg => rfl); (case hn => rfl); (case hr => first | (go_simp; done) | (go_simp; rfl)); intro W7 hw; have B_ := (by rw [hw]; exact bp3_ Bm : W7.heap[gm]? = some (.cells #[.int .i64 R, .slice (some adM) ys.length cm, .slice Bs zs.length dm] 25 (0, 0))); have HC_ := (by rw [hw]; exact (below_set (below_set (below_set HC wgm) wgm) wgm) : Below W5.heap.size W5 W7); clear hw HC Bm; have HC := HC_; have Bm := B_; clear HC_ B_; (try clear pm0_); (try clear zpm0_); (try clear pm1_); (try clear zpm1_); (try clear pm2_); (try clear zpm2_); have ngm : gm ≠ gn := (by have := blk_lt BG.b; omega); have n9m : some gm ≠ u9.ownBlock := (fun e_ => by have := Kd.N_lt N9 gm e_.symm; omega); have M := (⟨Bm, Kd.V_below h1 HC, Kd.V_below h2 HC⟩ : nb.Bag W7 gn gm u9 R (some adM) cm ys Bs dm zs); replace BG := BG.below HC; replace N9 := Kd.N_below N9 HC; replace HB := HB.trans (HC.mono HB.size); replace hx4 := pw_cell_below HC hx4; replace hx5 := pw_cell_below HC hx5; replace hxM := pw_cell_below HC hxM; clear HC Bm h1 h2 wgm; (try clear k0_); (try clear zk0_); (try clear k1_); (try clear zk1_); (try clear k2_); (try clear zk2_); (try clear pm0_); (try clear zpm0_); (try clear pm1_); (try clear zpm1_); (try clear pm2_); (try clear zpm2_); (try clear km0_); (try clear zkm0_); (try clear km1_); (try clear zkm1_); (try clear km2_); (try clear zkm2_); have k0_ : W7.cell? ⟨gn, 0, none⟩ = some (.int .i64 R) := (blk_cell BG.b 0).trans rfl; have zk0_ := blk_frozen BG.b 0; have k1_ : W7.cell? ⟨gn, 1, none⟩ = some (.slice Ag l.length cg) := (blk_cell BG.b 1).trans rfl; have zk1_ := blk_frozen BG.b 1; have k2_ : W7.cell? ⟨gn, 2, none⟩ = some (.slice As s.length cs_) := (blk_cell BG.b 2).trans rfl; have zk2_ := blk_frozen BG.b 2; have km0_ : W7.cell? ⟨gm, 0, none⟩ = some (.int .i64 R) := (blk_cell M.b 0).trans rfl; have zkm0_ := blk_frozen M.b 0; have km1_ : W7.cell? ⟨gm, 1, none⟩ = some (.slice (some adM) ys.length cm) := (blk_cell M.b 1).trans rfl; have zkm1_ := blk_frozen M.b 1; have km2_ : W7.cell? ⟨gm, 2, none⟩ = some (.slice Bs zs.length dm) := (blk_cell M.b 2).trans rfl; have zkm2_ := blk_frozen M.b 2) | ((with_reducible refine gate_store (t := 25) (p := 7) rfl ?_); refine store_event (t := 25) (p := 7) (v := ?vod20_) (w1 := (((W7.setCell ⟨gn, 0, none⟩ (.int .i64 R)).setCell ⟨gn, 1, none⟩ (.slice (some adM) ys.length cm)).setCell ⟨gn, 2, none⟩ (.slice Bs zs.length dm))) ?hg ?ho ?hn ?hr ?_; (case ho => rfl); (case hg => rfl); (case hn => rfl); (case hr => first | (go_simp; done) | (go_simp; rfl)); intro W10 hw; have BG_ := (by rw [hw]; exact M.copy BG.b : nb.Bag W10 gn gn u9 R (some adM) cm ys Bs dm zs); have N9_ := (by rw [hw]; exact Kd.N_far (p := ⟨gn, 2, none⟩) (Kd.N_far (p := ⟨gn, 1, none⟩) (Kd.N_far (p := ⟨gn, 0, none⟩) N9 (fun k hk => Nat.ne_of_gt hk) _) (fun k hk => Nat.ne_of_gt hk) _) (fun k hk => Nat.ne_of_gt hk) _ : Kd.N (Kd.int .u32) 26 W10 w.heap.size (fun k => gn < k) u9 _); have HB_ := (by rw [hw]; exact below_set (below_set (below_set HB wgn) wgn) wgn : Below w.heap.size w W10); clear hw BG N9 HB M; have BG := BG_; have N9 := N9_; have HB := HB_; clear BG_ N9_ HB_; (try clear k0_); (try clear zk0_); (try clear k1_); (try clear zk1_); (try clear k2_); (try clear zk2_); (try clear km0_); (try clear zkm0_); (try clear km1_); (try clear zkm1_); (try clear km2_); (try clear zkm2_); have k0_ : W10.cell? ⟨gn, 0, none⟩ = some (.int .i64 R) := (blk_cell BG.b 0).trans rfl; have zk0_ := blk_frozen BG.b 0; have k1_ : W10.cell? ⟨gn, 1, none⟩ = some (.slice (some adM) ys.length cm) := (blk_cell BG.b 1).trans rfl; have zk1_ := blk_frozen BG.b 1; have k2_ : W10.cell? ⟨gn, 2, none⟩ = some (.slice Bs zs.length dm) := (blk_cell BG.b 2).trans rfl; have zk2_ := blk_frozen BG.b 2) | (go_at_call 10; (with_reducible refine (net_Right.calls R _ cm ys _ dm zs true _ (Kd.V_reads' BG.v1).2.2 (Kd.V_reads' BG.v1).2.1 (Kd.V_reads' BG.v2).2.2 (Kd.V_reads' BG.v2).2.1 AR.out).mono ?_); rintro e W11 ⟨rfl, hb_⟩; replace BG := BG.below hb_; replace N9 := Kd.N_below N9 hb_; replace HB := HB.trans (hb_.mono HB.size); clear hb_; (try clear k0_); (try clear zk0_); (try clear k1_); (try clear zk1_); (try clear k2_); (try clear zk2_)))
              go_roundg k2
              case measure => exact Nat.lt_succ_self _
              case rel => exact ⟨many, i + 1, ys, zs, sent, (some adM), cm, Bs, dm, (by first | rfl | exact wm8), (by first | rfl | exact w58), ⟨IN.out⟩, ⟨by have := HA.out; omega⟩, ⟨by omega⟩, ⟨BG⟩, ⟨N9⟩, ⟨HB⟩⟩
          · obtain ⟨ys, hys⟩ : ∃ ys : List S29, ys = l := ⟨_, rfl⟩
            obtain ⟨zs, hzs⟩ : ∃ zs : List (List Int), zs = s := ⟨_, rfl⟩
            have IS := I.mono (Nat.le_succ i)
            rw [← hys, ← hzs] at IS
            obtain ⟨re, AS, hre⟩ : ∃ re, net_Double.f R l s pl = some (R, ys, zs, re) ∧ re ≠ 0 := by
              rw [uk.double_eq R l s pl hR64.1 (by omega) (by omega), hys, hzs]
              unfold uk.doubleM
              by_cases q : 0 ≤ pl ∧ pl < (l.length : Int)
              · rw [if_pos q, if_neg (fun q2 => hr ⟨q.2, q2⟩)]; exact ⟨10, rfl, by decide⟩
              · rw [if_neg q]; exact ⟨1, rfl, by decide⟩
            replace AS := Aside0.mk AS
            have e0 : (re == 0) = false := beq_eq_false_iff_ne.mpr hre
            have AR := Aside0.mk (show net_Right.f R ys zs = some true by rw [uk.right_eq, (uk.rightB_iff R ys).2 ⟨hR64.1, hR64.2, IS.hl⟩])
            have IN := Aside0.mk IS
            clear hr hys hzs I hlR IS hre
            go_wp2_with fail
            refine (net_Double.calls R (fun k => k ≠ gn ∧ some k ≠ u9.ownBlock) Ag cg l (fun k => k ≠ gn ∧ some k ≠ u9.ownBlock) As cs_ s pl R ys zs re _ BG.v1 BG.v2 AS.out).mono ?_
            rintro e W5 ⟨_, _, rfl, h1, h2, hb_⟩
            obtain ⟨Am, cm, rfl⟩ := Kd.V_slice h1
            obtain ⟨Bs, dm, rfl⟩ := Kd.V_slice h2
            replace h1 := Kd.V_mono (ok' := fun k => k ≠ gn ∧ some k ≠ u9.ownBlock) h1 (fun k hk => hk.elim (fun h => by first | exact h.elim id id | exact h.elim id (fun h => h.elim id id)) (fun h => ⟨by have := blk_lt BG.b; omega, fun e_ => by have := Kd.N_lt N9 k e_.symm; omega⟩))
            replace h2 := Kd.V_mono (ok' := fun k => k ≠ gn ∧ some k ≠ u9.ownBlock) h2 (fun k hk => hk.elim (fun h => by first | exact h.elim id id | exact h.elim id (fun h => h.elim id id)) (fun h => ⟨by have := blk_lt BG.b; omega, fun e_ => by have := Kd.N_lt N9 k e_.symm; omega⟩))
            replace BG := BG.below hb_
            replace N9 := Kd.N_below N9 hb_
            replace HB := HB.trans (hb_.mono HB.size)
            clear hb_
            (try clear k0_); (try clear zk0_); (try clear k1_); (try clear zk1_); (try clear k2_); (try clear zk2_)
            go_wp2_with (first | ((with_reducible refine gate_dst (N := 19) rfl ?_); refine box_event ?hg (N := 19) ?hd (cs := #[.int .i64 0, .slice none 0 0, .slice none 0 0]) (t := 25) ?hr ?_; (case hd => rfl); (case hg => rfl); (case hr => first | (go_simp; done) | (go_simp; rfl)); intro gm hgm W6 Bm hb_; have wgm : W5.heap.size ≤ gm := Nat.le_of_eq hgm.symm; have HC : Below W5.heap.size W5 W6 := hb_; clear hgm hb_; have pm0_ : W6.cell? ⟨gm, 0, none⟩ = some (.int .i64 0) := (blk_cell Bm 0).trans rfl; have zpm0_ := blk_frozen Bm 0; have pm1_ : W6.cell? ⟨gm, 1, none⟩ = some (.slice none 0 0) := (blk_cell Bm 1).trans rfl; have zpm1_ := blk_frozen Bm 1; have pm2_ : W6.cell? ⟨gm, 2, none⟩ = some (.slice none 0 0) := (blk_cell Bm 2).trans rfl; have zpm2_ := blk_frozen Bm 2) | ((with_reducible refine gate_store (t := 25) (p := 19) rfl ?_); refine store_event (t := 25) (p := 19) (v := ?vod19_) (w1 := (((W6.setCell ⟨gm, 0, none⟩ (.int .i64 R)).setCell ⟨gm, 1, none⟩ (.slice Am ys.length cm)).setCell ⟨gm, 2, none⟩ (.slice Bs zs.length dm))) ?hg ?ho ?hn ?hr ?_; (case ho => rfl); (case hg => rfl); (case hn => rfl); (case hr => first | (go_simp; done) | (go_simp; rfl)); intro W7 hw; have B_ := (by rw [hw]; exact bp3_ Bm : W7.heap[gm]? = some (.cells #[.int .i64 R, .slice Am ys.length cm, .slice Bs zs.length dm] 25 (0, 0))); have HC_ := (by rw [hw]; exact (below_set (below_set (below_set HC wgm) wgm) wgm) : Below W5.heap.size W5 W7); clear hw HC Bm; have HC := HC_; have Bm := B_; clear HC_ B_; (try clear pm0_); (try clear zpm0_); (try clear pm1_); (try clear zpm1_); (try clear pm2_); (try clear zpm2_); have ngm : gm ≠ gn := (by have := blk_lt BG.b; omega); have n9m : some gm ≠ u9.ownBlock := (fun e_ => by have := Kd.N_lt N9 gm e_.symm; omega); have M := (⟨Bm, Kd.V_below h1 HC, Kd.V_below h2 HC⟩ : nb.Bag W7 gn gm u9 R Am cm ys Bs dm zs); replace BG := BG.below HC; replace N9 := Kd.N_below N9 HC; replace HB := HB.trans (HC.mono HB.size); clear HC Bm h1 h2 wgm; (try clear k0_); (try clear zk0_); (try clear k1_); (try clear zk1_); (try clear k2_); (try clear zk2_); (try clear pm0_); (try clear zpm0_); (try clear pm1_); (try clear zpm1_); (try clear pm2_); (try clear zpm2_); (try clear km0_); (try clear zkm0_); (try clear km1_); (try clear zkm1_); (try clear km2_); (try clear zkm2_); have k0_ : W7.cell? ⟨gn, 0, none⟩ = some (.int .i64 R) := (blk_cell BG.b 0).trans rfl; have zk0_ := blk_frozen BG.b 0; have k1_ : W7.cell? ⟨gn, 1, none⟩ = some (.slice Ag l.length cg) := (blk_cell BG.b 1).trans rfl; have zk1_ := blk_frozen BG.b 1; have k2_ : W7.cell? ⟨gn, 2, none⟩ = some (.slice As s.length cs_) := (blk_cell BG.b 2).trans rfl; have zk2_ := blk_frozen BG.b 2; have km0_ : W7.cell? ⟨gm, 0, none⟩ = some (.int .i64 R) := (blk_cell M.b 0).trans rfl; have zkm0_ := blk_frozen M.b 0; have km1_ : W7.cell? ⟨gm, 1, none⟩ = some (.slice Am ys.length cm) := (blk_cell M.b 1).trans rfl; have zkm1_ := blk_frozen M.b 1; have km2_ : W7.cell? ⟨gm, 2, none⟩ = some (.slice Bs zs.length dm) := (blk_cell M.b 2).trans rfl; have zkm2_ := blk_frozen M.b 2) | ((with_reducible refine gate_store (t := 25) (p := 7) rfl ?_); refine store_event (t := 25) (p := 7) (v := ?vod20_) (w1 := (((W7.setCell ⟨gn, 0, none⟩ (.int .i64 R)).setCell ⟨gn, 1, none⟩ (.slice Am ys.length cm)).setCell ⟨gn, 2, none⟩ (.slice Bs zs.length dm))) ?hg ?ho ?hn ?hr ?_; (case ho => rfl); (case hg => rfl); (case hn => rfl); (case hr => first | (go_simp; done) | (go_simp; rfl)); intro W10 hw; have BG_ := (by rw [hw]; exact M.copy BG.b : nb.Bag W10 gn gn u9 R Am cm ys Bs dm zs); have N9_ := (by rw [hw]; exact Kd.N_far (p := ⟨gn, 2, none⟩) (Kd.N_far (p := ⟨gn, 1, none⟩) (Kd.N_far (p := ⟨gn, 0, none⟩) N9 (fun k hk => Nat.ne_of_gt hk) _) (fun k hk => Nat.ne_of_gt hk) _) (fun k hk => Nat.ne_of_gt hk) _ : Kd.N (Kd.int .u32) 26 W10 w.heap.size (fun k => gn < k) u9 _); have HB_ := (by rw [hw]; exact below_set (below_set (below_set HB wgn) wgn) wgn : Below w.heap.size w W10); clear hw BG N9 HB M; have BG := BG_; have N9 := N9_; have HB := HB_; clear BG_ N9_ HB_; (try clear k0_); (try clear zk0_); (try clear k1_); (try clear zk1_); (try clear k2_); (try clear zk2_); (try clear km0_); (try clear zkm0_); (try clear km1_); (try clear zkm1_); (try clear km2_); (try clear zkm2_); have k0_ : W10.cell? ⟨gn, 0, none⟩ = some (.int .i64 R) := (blk_cell BG.b 0).trans rfl; have zk0_ := blk_frozen BG.b 0; have k1_ : W10.cell? ⟨gn, 1, none⟩ = some (.slice Am ys.length cm) := (blk_cell BG.b 1).trans rfl; have zk1_ := blk_frozen BG.b 1; have k2_ : W10.cell? ⟨gn, 2, none⟩ = some (.slice Bs zs.length dm) := (blk_cell BG.b 2).trans rfl; have zk2_ := blk_frozen BG.b 2) | (go_at_call 10; (with_reducible refine (net_Right.calls R _ cm ys _ dm zs true _ (Kd.V_reads' BG.v1).2.2 (Kd.V_reads' BG.v1).2.1 (Kd.V_reads' BG.v2).2.2 (Kd.V_reads' BG.v2).2.1 AR.out).mono ?_); rintro e W11 ⟨rfl, hb_⟩; replace BG := BG.below hb_; replace N9 := Kd.N_below N9 hb_; replace HB := HB.trans (hb_.mono HB.size); clear hb_; (try clear k0_); (try clear zk0_); (try clear k1_); (try clear zk1_); (try clear k2_); (try clear zk2_)))
            go_roundg k2
            case measure => exact Nat.lt_succ_self _
            case rel => exact ⟨many, i + 1, ys, zs, sent, Am, cm, Bs, dm, (by first | rfl | exact wm8), (by first | rfl | exact w58), ⟨IN.out⟩, ⟨by have := HA.out; omega⟩, ⟨by omega⟩, ⟨BG⟩, ⟨N9⟩, ⟨HB⟩⟩
      · have cb : decide ((i : Int) < (l1.length : Int)) = false := decide_eq_false (by omega)
        have I := HI.out
        have BG := HG.out
        have N9 := H9.out
        replace HB := HB.out
        have hlR := I.hl
        have hll : l.length ≤ 64 := by omega
        have hsn : sent.length ≤ 100 := by have := I.ls; have := HL.out; omega
        clear HI HG H9 HA HL
        have k0_ : wr.cell? ⟨gn, 0, none⟩ = some (.int .i64 R) := (blk_cell BG.b 0).trans rfl; have zk0_ := blk_frozen BG.b 0; have k1_ : wr.cell? ⟨gn, 1, none⟩ = some (.slice Ag l.length cg) := (blk_cell BG.b 1).trans rfl; have zk1_ := blk_frozen BG.b 1; have k2_ : wr.cell? ⟨gn, 2, none⟩ = some (.slice As s.length cs_) := (blk_cell BG.b 2).trans rfl; have zk2_ := blk_frozen BG.b 2
        go_wp2_with fail
        clear cb c
        (try clear k0_); (try clear zk0_); (try clear k1_); (try clear zk1_); (try clear k2_); (try clear zk2_)
        go_loopg [21, 22] (l.length + 1) (fun kq v21 v22 w' => ∃ (cn : Int) (j : Nat), v21 = .int .i64 cn ∧ v22 = .int .i64 (j : Int) ∧ Aside0 (cn = (nb.cnt o (l.take j) : Int)) ∧ Aside0 (j + kq = l.length + 1) ∧ Aside0 (j ≤ l.length) ∧ Aside0 (nb.Bag w' gn gn u9 R Ag cg l As cs_ s) ∧ Aside0 (Kd.N (Kd.int .u32) 26 w' w.heap.size (fun k => gn < k) u9 sent) ∧ Aside0 (Below w.heap.size w w'))
        case atStart => exact ⟨0, 0, rfl, rfl, ⟨by simp [nb.cnt]⟩, ⟨Nat.zero_add _⟩, ⟨Nat.zero_le _⟩, ⟨BG⟩, ⟨N9⟩, ⟨HB⟩⟩
        case round =>
          clear BG N9 HB
          obtain ⟨cn, j, rfl, rfl, HCN, HA, HL, HG, H9, HB⟩ := hrel
          cases gk with
          | zero => have := HA.out; have := HL.out; omega
          | succ k3 =>
            by_cases c : j < l.length
            · have cb : decide ((j : Int) < (l.length : Int)) = true := decide_eq_true (by omega)
              have p1 : (0 ≤ (j : Int)) = True := eq_true (by omega)
              have p2 : ((j : Int) < (l.length : Int)) = True := eq_true (by omega)
              have hone : (rd_T29 l (j : Int)).f1.length = 1 := by rw [uk.rdS l j c]; exact I.one _ (List.getElem_mem c)
              have hck := nb.cnt_take o l j c
              rw [← uk.rdS l j c] at hck
              have hcb : nb.cnt o (l.take j) ≤ 64 := by
                have h1 : nb.cnt o (l.take j) ≤ (l.take j).length := List.length_filter_le _ _
                rw [List.length_take] at h1
                omega
              obtain ⟨adM, AM1, cM1, eM, _, hxM, _, hiM⟩ := at_T29 (Kd.V_reads' HG.out.v1).2.2 (j : Int) (by omega) (by omega)
              subst eM
              rw [hone, Int.toNat_natCast] at hxM
              obtain ⟨ad4, e4, hx4⟩ := Kd.at_int hiM 0 (by decide) (by rw [hone]; decide)
              subst e4
              obtain ⟨z, hz⟩ : ∃ z, z = rd (rd_T29 l (j : Int)).f1 0 := ⟨_, rfl⟩
              rw [← hz] at hx4 hck
              have hx4 : wr.cell? (ad4.add 0) = some (.int .u32 z) := hx4
              have hx5 : wr.cell? ad4 = some (.int .u32 z) := (nb.add0 ad4 ▸ hx4)
              have BG := HG.out
              have k0_ : wr.cell? ⟨gn, 0, none⟩ = some (.int .i64 R) := (blk_cell BG.b 0).trans rfl; have zk0_ := blk_frozen BG.b 0; have k1_ : wr.cell? ⟨gn, 1, none⟩ = some (.slice (some adM) l.length cg) := (blk_cell BG.b 1).trans rfl; have zk1_ := blk_frozen BG.b 1; have k2_ : wr.cell? ⟨gn, 2, none⟩ = some (.slice As s.length cs_) := (blk_cell BG.b 2).trans rfl; have zk2_ := blk_frozen BG.b 2
              have w58 : Value.int .i64 (wrap64 ((j : Int) + 1)) = Value.int .i64 ((j + 1 : Nat) : Int) := by rw [uk.w64 (by omega) (by omega)]; rfl
              have hcn := HCN.out
              by_cases hc : z = o
              · rw [if_pos hc] at hck
                have e1 : (z == o) = true := beq_iff_eq.mpr hc
                have wm8 : Value.int .i64 (wrap64 (cn + 1)) = Value.int .i64 (cn + 1) := by rw [uk.w64 (by omega) (by omega)]
                have HN := Aside0.mk (show cn + 1 = (nb.cnt o (l.take (j + 1)) : Int) by omega)
                clear hc hck hcn hiM hone hz
                go_wp2
                go_roundg k3
                case measure => exact Nat.lt_succ_self _
                case rel => exact ⟨cn + 1, j + 1, (by first | rfl | exact wm8), (by first | rfl | exact w58), HN, ⟨by have := HA.out; omega⟩, ⟨by omega⟩, HG, H9, HB⟩
              · rw [if_neg hc] at hck
                have e1 : (z == o) = false := beq_eq_false_iff_ne.mpr hc
                have HN := Aside0.mk (show cn = (nb.cnt o (l.take (j + 1)) : Int) by omega)
                clear hc hck hcn hiM hone hz
                go_wp2
                go_roundg k3
                case measure => exact Nat.lt_succ_self _
                case rel => exact ⟨cn, j + 1, rfl, (by first | rfl | exact w58), HN, ⟨by have := HA.out; omega⟩, ⟨by omega⟩, HG, H9, HB⟩
            · have cb : decide ((j : Int) < (l.length : Int)) = false := decide_eq_false (by omega)
              have hcn := HCN.out
              rw [List.take_of_length_le (by omega)] at hcn
              have hcm : cn = many := by rw [hcn, I.cnt]
              have e8 : (cn == many) = true := beq_iff_eq.mpr hcm
              have e9 : (cn != many) = false := bne_eq_false_iff_eq.mpr hcm
              have hss : s.length = sent.length := by rw [I.seen]; simp
              have e10 : ((s.length : Int) == (sent.length : Int)) = true := beq_iff_eq.mpr (by omega)
              have e11 : ((s.length : Int) != (sent.length : Int)) = false := bne_eq_false_iff_eq.mpr (by omega)
              have e12 : (s.length == sent.length) = true := beq_iff_eq.mpr hss
              have BG := HG.out
              have N9 := H9.out
              have HB := HB.out
              obtain ⟨A9, c9, rfl⟩ := Kd.N_slice N9
              have hc9 := (Kd.N_reads' N9).2.1
              clear HCN HA HL HG H9 hcn hcm
              have k0_ : wr.cell? ⟨gn, 0, none⟩ = some (.int .i64 R) := (blk_cell BG.b 0).trans rfl; have zk0_ := blk_frozen BG.b 0; have k1_ : wr.cell? ⟨gn, 1, none⟩ = some (.slice Ag l.length cg) := (blk_cell BG.b 1).trans rfl; have zk1_ := blk_frozen BG.b 1; have k2_ : wr.cell? ⟨gn, 2, none⟩ = some (.slice As s.length cs_) := (blk_cell BG.b 2).trans rfl; have zk2_ := blk_frozen BG.b 2
              go_wp2_with fail
              clear cb c e8 e9 e10 e11 e12
              (try clear k0_); (try clear zk0_); (try clear k1_); (try clear zk1_); (try clear k2_); (try clear zk2_)
              go_loopg [23] (sent.length + 1) (fun kq v23 w' => ∃ (j : Nat), v23 = .int .i64 (j : Int) ∧ Aside0 (j + kq = sent.length + 1) ∧ Aside0 (j ≤ sent.length) ∧ Aside0 (nb.Bag w' gn gn (.slice A9 sent.length c9) R Ag cg l As cs_ s) ∧ Aside0 (Kd.N (Kd.int .u32) 26 w' w.heap.size (fun k => gn < k) (.slice A9 sent.length c9) sent) ∧ Aside0 (Below w.heap.size w w'))
              case atStart => exact ⟨0, rfl, ⟨Nat.zero_add _⟩, ⟨Nat.zero_le _⟩, ⟨BG⟩, ⟨N9⟩, ⟨HB⟩⟩
              case round =>
                clear BG N9 HB
                obtain ⟨j, rfl, HA, HL, HG, H9, HB⟩ := hrel
                cases gk with
                | zero => have := HA.out; have := HL.out; omega
                | succ k4 =>
                  by_cases c : j < sent.length
                  · have cb : decide ((j : Int) < (sent.length : Int)) = true := decide_eq_true (by omega)
                    have p1 : (0 ≤ (j : Int)) = True := eq_true (by omega)
                    have p2 : ((j : Int) < (s.length : Int)) = True := eq_true (by omega)
                    obtain ⟨x, hx⟩ : ∃ x, x = sent[j] := ⟨_, rfl⟩
                    have hrow : rd_L1 s (j : Int) = [x] := by rw [uk.rdL s j (by omega), hx]; simp [I.seen]
                    have BG := HG.out
                    have N9 := H9.out
                    obtain ⟨adS, A0s, c0s, eS, hcS, hlS, hCS⟩ := at_L1 (Kd.V_reads' BG.v2).2.2 (j : Int) (by omega) (by omega)
                    subst eS
                    rw [hrow] at hcS hlS hCS
                    rw [Int.toNat_natCast] at hcS
                    have hcS : wr.cell? (adS.add j) = some (.slice A0s 1 c0s) := hcS
                    have hmid := Kd.C_mid (c := c9) (lo := j) (hi := j + 1) (Kd.N_reads' N9).2.2 (by omega) (by omega) hc9
                    rw [if_neg (by omega), show (sent.take (j + 1)).drop j = [x] by rw [List.take_succ_eq_append_getElem c, List.drop_left' (by rw [List.length_take]; omega), hx]] at hmid
                    have AS1 := Aside0.mk (show chamberlainref01_Same.f 300 [x] [x] = some true by rw [uk.rsame_eq _ _ _ (by simp) (by simp)]; simp)
                    have HLS := Aside0.mk (show 1 ≤ c0s from hlS)
                    have HLC := Aside0.mk (show 1 ≤ c9 - j by omega)
                    rw [show (Kd.int .u32).sz = 1 from rfl, Nat.mul_one] at hmid
                    have HM := Aside0.mk hmid
                    have Q1 : j + 1 + k4 = sent.length + 1 := by have := HA.out; omega
                    have Q2 : j + 1 ≤ sent.length := by omega
                    have HS := Aside0.mk hCS
                    obtain ⟨jj, hjj⟩ : ∃ jj : Int, jj = (j : Int) + 1 := ⟨_, rfl⟩
                    have wjj : wrap64 ((j : Int) + 1) = jj := by rw [uk.w64 (by omega) (by omega), hjj]
                    have HCut := nb.cut A9 sent.length c9 j c hc9 jj hjj
                    have HJJ := Aside0.mk hjj
                    clear hjj hmid hCS hlS hrow hx
                    have k0_ : wr.cell? ⟨gn, 0, none⟩ = some (.int .i64 R) := (blk_cell BG.b 0).trans rfl; have zk0_ := blk_frozen BG.b 0; have k1_ : wr.cell? ⟨gn, 1, none⟩ = some (.slice Ag l.length cg) := (blk_cell BG.b 1).trans rfl; have zk1_ := blk_frozen BG.b 1; have k2_ : wr.cell? ⟨gn, 2, none⟩ = some (.slice (some adS) s.length cs_) := (blk_cell BG.b 2).trans rfl; have zk2_ := blk_frozen BG.b 2
                    go_wp2
                    go_quiet (first | (go_at_call 21; (refine (chamberlainref01_Same.calls 300 _ _ [x] _ _ [x] true _ ?side1 ?side2 ?side3 ?side4 AS1.out).mono ?_); (case side1 => repeat (first | exact HS.out | (with_reducible refine Kd.C_alloc ?_ _) | (with_reducible refine Kd.C_drewN ?_ _) | (with_reducible refine Kd.C_drew ?_))); (case side2 => exact HLS.out); (case side3 => repeat (first | exact HM.out | (with_reducible refine Kd.C_alloc ?_ _) | (with_reducible refine Kd.C_drewN ?_ _) | (with_reducible refine Kd.C_drew ?_))); (case side4 => exact HLC.out); rintro e w' ⟨rfl, ⟨nd, rfl⟩⟩; (try first | exact ⟨rfl, _, World.drewN_drewN _ _ _⟩ | exact ⟨rfl, _, Eq.trans (World.drewN_drewN _ _ _) (congrArg (World.drewN _) (Nat.add_assoc _ _ _))⟩)))
                    go_wp2
                    go_roundg k4
                    case measure => exact Nat.lt_succ_self _
                    case rel => exact ⟨j + 1, (by first | rfl | (rw [HJJ.out]; rfl)), ⟨Q1⟩, ⟨Q2⟩, ⟨BG.below (by repeat (first | (with_reducible first | exact Below.refl _ _ | apply pw_below_drewN | apply below_drew1 | apply below_alloc)))⟩, ⟨Kd.N_below N9 (by repeat (first | (with_reducible first | exact Below.refl _ _ | apply pw_below_drewN | apply below_drew1 | apply below_alloc)))⟩, ⟨by repeat (first | (with_reducible first | exact HB.out | apply pw_below_drewN | apply below_drew1 | apply below_alloc))⟩⟩
                  · have cb : decide ((j : Int) < (sent.length : Int)) = false := decide_eq_false (by omega)
                    have HB := HB.out
                    go_wp2
                    go_ret
                    exact ⟨rfl, HB⟩

/-- THE ONE PURE STATEMENT of chamberlainlaw06_NetBag: yours. -/
def chamberlainlaw06_NetBag.Pure : Prop := ∀ (a0 : Int) (l1 : List Int) (a2 : Int), (Lit.int .u8 a0).wf = true → l1.length ≤ maxLen → l1.length * 1 ≤ 140737488351232 → (∀ x ∈ l1, (Lit.int .u8 x).wf = true) → (Lit.int .u8 a2).wf = true → chamberlainlaw06_NetBag.f a0 l1 a2 = some true
theorem chamberlainlaw06_NetBag.walk (P : chamberlainlaw06_NetBag.Pure) (a0 : Int) (a1 : Option Addr) (len1 cap1 : Nat) (z1 : List Int) (a2 : Int) (w : World) (w0 : (Lit.int .u8 a0).wf = true) (w1 : (a1 = none ∧ len1 = 0 ∧ cap1 = 0 ∧ z1 = []) ∨ ∃ x, a1 = some x ∧ len1 ≤ cap1 ∧ cap1 ≤ maxLen ∧ z1.length = cap1 ∧ (∀ i, i < z1.length → w.cell? (x.add i) = some (.int .u8 (z1.getD i 0))) ∧ ∀ n ∈ z1, (Lit.int .u8 n).wf = true) (y1 : len1 * 1 ≤ 140737488351232) (w2 : (Lit.int .u8 a2).wf = true) :
    Calls Try.prog 4 #[.int .u8 a0, .slice a1 len1 cap1, .int .u8 a2] w fun e w' => e = .returned (.bool true) ∧ Below w.heap.size w w' := by
  obtain ⟨l1, rfl, hr1, hm1, hw1, hc1⟩ := ReadsInt.ofRowC w1
  have h := P a0 l1 a2 w0 hm1 y1 hw1 w2
  refine (chamberlainlaw06_NetBag.calls a0 _ _ l1 a2 true w (Kd.C_of_reads (d := (0 : Int)) (h1 := fun _ => rfl) hr1) hc1 h rfl).mono ?_
  rintro e w' ⟨rfl, hd⟩
  exact ⟨rfl, hd⟩

end Go.Proofs.Ytlbfdmoocgjiaaa.PNetBag
