/- Frames that are taken, the last one first or the first one first, are those that were sent, for every row of words; no condition. -/
import Derived.Test.YtlbfdmoocgjiaaaPNetOrderx5
namespace Go.Proofs.Ytlbfdmoocgjiaaa.Pure
open Go Go.RowKit Go.Proofs.Ytlbfdmoocgjiaaa.PNetOrder Go.Proofs.YtlbfdmoocgjiaaaW.PrintWords Go.Proofs.YtlbfdmoocgjiaaaW.PrintLast Go.Proofs.YtlbfdmoocgjiaaaW.PrintMore
set_option linter.unusedSimpArgs false
set_option linter.unusedVariables false

theorem wf32 {x : Int} (h : (Lit.int .u32 x).wf = true) : 0 ≤ x ∧ x < 4294967296 := by
  simp only [Lit.wf, IntKind.min, IntKind.max, IntKind.signed, IntKind.bits, Bool.and_eq_true] at h
  simp at h
  omega
theorem wf8 {x : Int} (h : (Lit.int .u8 x).wf = true) : 0 ≤ x ∧ x < 256 := by
  simp only [Lit.wf, IntKind.min, IntKind.max, IntKind.signed, IntKind.bits, Bool.and_eq_true] at h
  simp at h
  omega
theorem wf16 {x : Int} (h : (Lit.int .u16 x).wf = true) : 0 ≤ x ∧ x < 65536 := by
  simp only [Lit.wf, IntKind.min, IntKind.max, IntKind.signed, IntKind.bits, Bool.and_eq_true] at h
  simp at h
  omega
theorem wf64 {x : Int} (h : (Lit.int .i64 x).wf = true) : -9223372036854775808 ≤ x ∧ x ≤ 9223372036854775807 := by
  simp only [Lit.wf, IntKind.min, IntKind.max, IntKind.signed, IntKind.bits, Bool.and_eq_true] at h
  simp at h
  omega
theorem w64 {x : Int} (h1 : -9223372036854775808 ≤ x) (h2 : x ≤ 9223372036854775807) : wrap64 x = x := by
  unfold wrap64
  omega
theorem rd_nat (xs : List Int) (i : Nat) (h : i < xs.length) : rd xs (i : Int) = xs[i] := by
  unfold rd
  simp [List.getD_eq_getElem?_getD, h]
/-- From place i on, n places: does p hold of all? -/
def allF (p : Nat → Bool) : Nat → Nat → Bool
  | 0, _ => true
  | n + 1, i => p i && allF p n (i + 1)
theorem allF_iff (p : Nat → Bool) (n i : Nat) : allF p n i = true ↔ ∀ j, i ≤ j → j < i + n → p j = true := by
  induction n generalizing i with
  | zero => simp [allF]; intro j h1 h2; omega
  | succ n ih =>
    simp only [allF, Bool.and_eq_true, ih]
    constructor
    · rintro ⟨h0, h⟩ j h1 h2
      by_cases e : j = i
      · subst e; exact h0
      · exact h j (by omega) (by omega)
    · intro h
      exact ⟨h i (by omega) (by omega), fun j h1 h2 => h j (by omega) (by omega)⟩
/-- The first place from i on, of n, of which p holds. -/
def fnd (p : Nat → Bool) : Nat → Nat → Option Nat
  | 0, _ => none
  | n + 1, i => if p i = true then some i else fnd p n (i + 1)
theorem fnd_some {p : Nat → Bool} {n i j : Nat} (h : fnd p n i = some j) : i ≤ j ∧ j < i + n ∧ p j = true ∧ ∀ m, i ≤ m → m < j → p m = false := by
  induction n generalizing i with
  | zero => simp [fnd] at h
  | succ n ih =>
    simp only [fnd] at h
    by_cases e : p i = true
    · rw [if_pos e] at h
      cases h
      exact ⟨Nat.le_refl _, by omega, e, fun m h1 h2 => by omega⟩
    · rw [if_neg e] at h
      obtain ⟨h1, h2, h3, h4⟩ := ih h
      refine ⟨by omega, by omega, h3, fun m m1 m2 => ?_⟩
      by_cases c : m = i
      · subst c; simpa using e
      · exact h4 m (by omega) m2
theorem fnd_none {p : Nat → Bool} {n i : Nat} (h : fnd p n i = none) : ∀ m, i ≤ m → m < i + n → p m = false := by
  induction n generalizing i with
  | zero => intro m h1 h2; omega
  | succ n ih =>
    simp only [fnd] at h
    by_cases e : p i = true
    · rw [if_pos e] at h; cases h
    · rw [if_neg e] at h
      intro m h1 h2
      by_cases c : m = i
      · subst c; simpa using e
      · exact ih h m (by omega) (by omega)
theorem fnd_eq_some {p : Nat → Bool} {n i j : Nat} (h1 : i ≤ j) (h2 : j < i + n) (h3 : p j = true) (h4 : ∀ m, i ≤ m → m < j → p m = false) : fnd p n i = some j := by
  cases h : fnd p n i with
  | none => have := fnd_none h j h1 h2; rw [this] at h3; cases h3
  | some q =>
    obtain ⟨a, b, c, d⟩ := fnd_some h
    congr 1
    rcases Nat.lt_trichotomy q j with e | e | e
    · have := h4 q a e; rw [this] at c; cases c
    · exact e
    · have := d j h1 e; rw [this] at h3; cases h3
theorem fnd_eq_none {p : Nat → Bool} {n i : Nat} (h : ∀ m, i ≤ m → m < i + n → p m = false) : fnd p n i = none := by
  cases e : fnd p n i with
  | none => rfl
  | some q =>
    obtain ⟨a, b, c, _⟩ := fnd_some e
    rw [h q a b] at c; cases c
theorem rows_eq (a b : List Int) (h : a.length = b.length) : allF (fun i => decide (rd a (i : Int) = rd b (i : Int))) a.length 0 = decide (a = b) := by
  rw [Bool.eq_iff_iff, allF_iff]
  simp only [decide_eq_true_eq]
  constructor
  · intro H
    apply List.ext_getElem h
    intro i h1 h2
    have := H i (by omega) (by omega)
    rw [rd_nat a i h1, rd_nat b i h2] at this
    exact this
  · intro e j _ _
    rw [e]
/-- A loop that asks place by place. -/
theorem all_loop (f : Nat → Nat → Option Bool) (n : Nat) (p : Nat → Bool) (h : ∀ k i, i ≤ n → f (k + 1) i = if i < n then (if p i = true then f k (i + 1) else some false) else some true) :
    ∀ (d k i : Nat), n - i = d → i ≤ n → d < k → f k i = some (allF p d i) := by
  intro d
  induction d with
  | zero =>
    intro k i h1 h2 h3
    obtain ⟨k, rfl⟩ : ∃ m, k = m + 1 := ⟨k - 1, by omega⟩
    rw [h k i h2, if_neg (by omega)]; rfl
  | succ d ih =>
    intro k i h1 h2 h3
    obtain ⟨k, rfl⟩ : ∃ m, k = m + 1 := ⟨k - 1, by omega⟩
    rw [h k i h2, if_pos (by omega)]
    simp only [allF]
    cases e : p i with
    | true => rw [if_pos rfl, ih k (i + 1) (by omega) (by omega) (by omega)]; simp
    | false => simp
/-- A loop that looks for the first place. -/
theorem fnd_loop {α : Type} (f : Nat → Nat → Option α) (n : Nat) (p : Nat → Bool) (yes : Nat → α) (no : α) (c : Nat) (h : ∀ k i, i ≤ n → c ≤ k → f (k + 1) i = if i < n then (if p i = true then some (yes i) else f k (i + 1)) else some no) :
    ∀ (d k i : Nat), n - i = d → i ≤ n → c + d < k → f k i = some (match fnd p d i with | some j => yes j | none => no) := by
  intro d
  induction d with
  | zero =>
    intro k i h1 h2 h3
    obtain ⟨k, rfl⟩ : ∃ m, k = m + 1 := ⟨k - 1, by omega⟩
    rw [h k i h2 (by omega), if_neg (by omega)]; rfl
  | succ d ih =>
    intro k i h1 h2 h3
    obtain ⟨k, rfl⟩ : ∃ m, k = m + 1 := ⟨k - 1, by omega⟩
    rw [h k i h2 (by omega), if_pos (by omega)]
    simp only [fnd]
    cases e : p i with
    | true => simp
    | false => rw [if_neg (by simp), if_neg (by simp), ih k (i + 1) (by omega) (by omega) (by omega)]
theorem rsame_eq (a b : List Int) (k : Nat) (hb : a.length ≤ 4611686018427387904) (hk : a.length < k) : chamberlainref01_Same.f k a b = some (decide (a = b)) := by
  unfold chamberlainref01_Same.f
  by_cases hl : a.length = b.length
  · rw [if_pos (by omega)]
    have h := all_loop (fun k i => chamberlainref01_Same.l0 k a b (i : Int)) a.length (fun i => decide (rd a (i : Int) = rd b (i : Int))) (by
      intro k i hi
      simp only [chamberlainref01_Same.l0]
      by_cases c : i < a.length
      · rw [if_pos (by omega), if_pos (by omega), if_pos (by omega), if_pos c, w64 (by omega) (by omega)]
        simp
      · rw [if_neg (by omega), if_neg c]) a.length k 0 (by omega) (by omega) (by omega)
    simp only [Int.natCast_zero] at h
    rw [h, rows_eq a b hl]
  · rw [if_neg (by omega)]
    congr 1
    symm
    apply decide_eq_false
    intro e
    exact hl (by rw [e])
theorem rdS (l : List S29) (i : Nat) (h : i < l.length) : rd_T29 l (i : Int) = l[i] := by
  unfold rd_T29
  simp [List.getD_eq_getElem?_getD, h]
theorem rdL (l : List (List Int)) (i : Nat) (h : i < l.length) : rd_L1 l (i : Int) = l[i] := by
  unfold rd_L1
  simp [List.getD_eq_getElem?_getD, h]
theorem awake60 (k : Nat) (hk : 60 ≤ k) : chamberlainlaw06_awake.f k = some true := at_rounds chamberlainlaw06_awake.mono hk chamberlainlaw06_awake.at60
/-- The rows of a small net. -/
structure Few (l : List S29) (s : List (List Int)) : Prop where
  lg : l.length ≤ 64
  ls : s.length ≤ 300
  wg : ∀ x ∈ l, x.f1.length ≤ 100
  ws : ∀ x ∈ s, x.length ≤ 100
theorem one_self (a : Int) (l : List Int) (k : Nat) (hl : l.length ≤ 100) (hk : 200 ≤ k) : chamberlainref06_One.f k a l a l = some true := by
  unfold chamberlainref06_One.f
  rw [if_pos rfl, rsame_eq _ _ _ (by omega) (by omega), Option.bind_some]; simp
/-- Is a net right? -/
def rightB (a : Int) (l : List S29) : Bool := decide (0 ≤ a) && decide (a ≤ 64) && decide ((l.length : Int) ≤ a)
theorem right_eq (a : Int) (l : List S29) (s : List (List Int)) : net_Right.f a l s = some (rightB a l) := by
  unfold net_Right.f rightB
  by_cases c : a ≥ 0
  · by_cases d : a ≤ 64
    · rw [if_pos c, if_pos d, decide_eq_true c, decide_eq_true d]; rfl
    · rw [if_pos c, if_neg d, decide_eq_false d]; simp
  · rw [if_neg c, decide_eq_false c]; rfl
theorem rightB_iff (a : Int) (l : List S29) : rightB a l = true ↔ 0 ≤ a ∧ a ≤ 64 ∧ (l.length : Int) ≤ a := by
  unfold rightB
  simp [and_assoc]
/-- What is sent. -/
def sendM (a : Int) (l : List S29) (s : List (List Int)) (t : Int) (w : List Int) : Int × List S29 × List (List Int) × Int :=
  if (l.length : Int) < a then (a, l ++ [⟨t, w⟩], s ++ [w], 0) else (a, l, s, 10)
theorem send_eq (a : Int) (l : List S29) (s : List (List Int)) (t : Int) (w : List Int) (h0 : 0 ≤ a) (h1 : a ≤ 1000) (h2 : l.length ≤ 1000) (h3 : s.length ≤ 1000) : net_Send.f a l s t w = some (sendM a l s t w) := by
  unfold net_Send.f sendM
  rw [w64 (by omega) (by omega)]
  by_cases c : (l.length : Int) < a
  · rw [if_neg (by omega), if_pos (by omega), if_pos (by omega), if_pos c]
  · rw [if_pos (by omega), if_neg c]
/-- What is taken. -/
def takeM (a : Int) (l : List S29) (s : List (List Int)) (i : Int) : Int × List S29 × List (List Int) × Int × List Int × Int :=
  if 0 ≤ i ∧ i < (l.length : Int) then (a, l.eraseIdx i.toNat, s, (rd_T29 l i).f0, (rd_T29 l i).f1, 0) else (a, l, s, 0, [], 1)
theorem take_eq (a : Int) (l : List S29) (s : List (List Int)) (i : Int) (h2 : l.length ≤ 1000) : net_Take.f a l s i = some (takeM a l s i) := by
  unfold net_Take.f takeM
  by_cases c : i < 0
  · rw [if_pos c, if_neg (by omega)]
  · by_cases d : i ≥ (l.length : Int)
    · rw [if_neg c, if_pos d, if_neg (by omega)]
    · rw [if_neg c, if_neg d, if_pos (by omega), if_pos (by omega)]
/-- What is doubled. -/
def doubleM (a : Int) (l : List S29) (s : List (List Int)) (i : Int) : Int × List S29 × List (List Int) × Int :=
  if 0 ≤ i ∧ i < (l.length : Int) then (if (l.length : Int) < a then (a, l ++ [rd_T29 l i], s, 0) else (a, l, s, 10)) else (a, l, s, 1)
theorem double_eq (a : Int) (l : List S29) (s : List (List Int)) (i : Int) (h0 : 0 ≤ a) (h1 : a ≤ 1000) (h2 : l.length ≤ 1000) : net_Double.f a l s i = some (doubleM a l s i) := by
  unfold net_Double.f doubleM
  by_cases c : i < 0
  · rw [if_pos c, if_neg (by omega)]
  · by_cases d : i ≥ (l.length : Int)
    · rw [if_neg c, if_pos d, if_neg (by omega)]
    · rw [if_neg c, if_neg d, w64 (by omega) (by omega), if_pos (show 0 ≤ i ∧ i < (l.length : Int) by omega)]
      by_cases e : (l.length : Int) < a
      · rw [if_neg (by omega), if_pos (by omega), if_pos e]
      · rw [if_pos (by omega), if_neg e]
theorem send_fst (a : Int) (l : List S29) (s : List (List Int)) (t : Int) (w : List Int) : (sendM a l s t w).1 = a := by unfold sendM; split <;> rfl
theorem take_fst (a : Int) (l : List S29) (s : List (List Int)) (i : Int) : (takeM a l s i).1 = a := by unfold takeM; split <;> rfl
theorem double_fst (a : Int) (l : List S29) (s : List (List Int)) (i : Int) : (doubleM a l s i).1 = a := by unfold doubleM; split <;> (try split) <;> rfl
theorem mem_rd (l : List S29) (i : Int) (h : 0 ≤ i ∧ i < (l.length : Int)) : rd_T29 l i ∈ l := by
  obtain ⟨n, rfl⟩ : ∃ n : Nat, i = n := ⟨i.toNat, by omega⟩
  rw [rdS l n (by omega)]
  exact List.getElem_mem _
/-- The rows of a nearly small net. -/
structure Mid (l : List S29) (s : List (List Int)) : Prop where
  lg : l.length ≤ 100
  ls : s.length ≤ 400
  wg : ∀ x ∈ l, x.f1.length ≤ 100
  ws : ∀ x ∈ s, x.length ≤ 100
theorem Few.mid {l : List S29} {s : List (List Int)} (h : Few l s) : Mid l s := ⟨by have := h.lg; omega, by have := h.ls; omega, h.wg, h.ws⟩
theorem send_mid (a : Int) (l : List S29) (s : List (List Int)) (t : Int) (w : List Int) (h : Few l s) (hw : w.length ≤ 100) : Mid (sendM a l s t w).2.1 (sendM a l s t w).2.2.1 := by
  unfold sendM
  split
  · refine ⟨by have := h.lg; simp; omega, by have := h.ls; simp; omega, fun x hx => ?_, fun x hx => ?_⟩
    · rcases List.mem_append.1 hx with q | q
      · exact h.wg x q
      · rw [List.mem_singleton] at q; subst q; exact hw
    · rcases List.mem_append.1 hx with q | q
      · exact h.ws x q
      · rw [List.mem_singleton] at q; subst q; exact hw
  · exact h.mid
theorem take_mid (a : Int) (l : List S29) (s : List (List Int)) (i : Int) (h : Few l s) : Mid (takeM a l s i).2.1 (takeM a l s i).2.2.1 := by
  unfold takeM
  split
  · refine ⟨?_, h.mid.ls, fun x hx => h.wg x (List.mem_of_mem_eraseIdx hx), h.ws⟩
    have := h.lg
    have := List.length_eraseIdx_le l i.toNat
    show (l.eraseIdx i.toNat).length ≤ 100
    omega
  · exact h.mid
theorem take_word (a : Int) (l : List S29) (s : List (List Int)) (i : Int) (h : Few l s) : (takeM a l s i).2.2.2.2.1.length ≤ 100 := by
  unfold takeM
  split
  · rename_i c; exact h.wg _ (mem_rd l i c)
  · simp
theorem double_mid (a : Int) (l : List S29) (s : List (List Int)) (i : Int) (h : Few l s) : Mid (doubleM a l s i).2.1 (doubleM a l s i).2.2.1 := by
  unfold doubleM
  split
  · rename_i c
    split
    · refine ⟨by have := h.lg; simp; omega, h.mid.ls, fun x hx => ?_, h.ws⟩
      rcases List.mem_append.1 hx with q | q
      · exact h.wg x q
      · rw [List.mem_singleton] at q; subst q; exact h.wg _ (mem_rd l i c)
    · exact h.mid
  · exact h.mid
/-- A frame of one word, to the hand of that number. -/
def gr (x : Int) : S29 := ⟨x, [x]⟩
theorem cut_one (x : List Int) (i : Nat) (h : i < x.length) : (x.take (i + 1)).drop i = [x[i]] := by
  rw [List.take_add_one, List.drop_append]
  simp [List.getElem?_eq_getElem h, show min i x.length = i by omega]
theorem order_take (x : List Int) (s : List (List Int)) (h60 : x.length ≤ 60) (hs : s.length = x.length) : ∀ (d k i : Nat), x.length - i = d → i ≤ x.length → d + 10 < k → chamberlainlaw06_NetOrder.l1 k x (i : Int) 64 ((x.drop i).map gr) s 64 ((x.take (x.length - i)).map gr) s = some true := by
  intro d
  induction d with
  | zero =>
    intro k i h1 h2 h3
    obtain ⟨k, rfl⟩ : ∃ m, k = m + 1 := ⟨k - 1, by omega⟩
    rw [chamberlainlaw06_NetOrder.l1, if_neg (by omega), if_pos (by simp; omega), if_pos (by simp; omega), hs]
    simp
  | succ d ih =>
    intro k i h1 h2 h3
    obtain ⟨k, rfl⟩ : ∃ m, k = m + 1 := ⟨k - 1, by omega⟩
    have hi : i < x.length := by omega
    have w1 : wrap64 ((x.length : Int) - 1) = (x.length : Int) - 1 := w64 (by omega) (by omega)
    have w2 : wrap64 ((x.length : Int) - 1 - (i : Int)) = ((x.length - 1 - i : Nat) : Int) := by rw [w64 (by omega) (by omega)]; omega
    have t1 : takeM 64 ((x.drop i).map gr) s 0 = (64, (x.drop (i + 1)).map gr, s, x[i], [x[i]], 0) := by
      unfold takeM
      rw [if_pos (by simp; omega), List.drop_eq_getElem_cons hi, List.map_cons]
      rfl
    have t2 : takeM 64 ((x.take (x.length - i)).map gr) s ((x.length - 1 - i : Nat) : Int) = (64, (x.take (x.length - (i + 1))).map gr, s, x[x.length - 1 - i]'(by omega), [x[x.length - 1 - i]'(by omega)], 0) := by
      unfold takeM
      have hj : x.length - 1 - i < ((x.take (x.length - i)).map gr).length := by simp; omega
      rw [if_pos (by omega), rdS _ _ hj, Int.toNat_natCast]
      have : ((x.take (x.length - i)).map gr)[x.length - 1 - i] = gr (x[x.length - 1 - i]'(by omega)) := by simp
      rw [this]
      have e : ((x.take (x.length - i)).map gr).eraseIdx (x.length - 1 - i) = (x.take (x.length - (i + 1))).map gr := by
        rw [List.eraseIdx_eq_take_drop_succ, List.drop_eq_nil_of_le (by simp; omega), List.append_nil, ← List.map_take, List.take_take]
        congr 2
        omega
      rw [e]
      rfl
    rw [chamberlainlaw06_NetOrder.l1, if_pos (by omega), take_eq _ _ _ _ (by simp; omega), Option.bind_some, w1, w2, take_eq _ _ _ _ (by simp; omega), Option.bind_some, t1, t2]
    dsimp only
    rw [if_pos rfl, if_pos rfl, if_pos (by omega), rd_nat x i hi, if_pos rfl, if_pos (by omega), if_pos (by omega), rd_nat x _ (by omega), if_pos rfl, w64 (by omega) (by omega), show (i : Int) + 1 = ((i + 1 : Nat) : Int) by omega]
    exact ih k (i + 1) (by omega) (by omega) (by omega)
theorem order_send (x : List Int) (h60 : x.length ≤ 60) : ∀ (d k i : Nat), x.length - i = d → i ≤ x.length → d + 200 < k → chamberlainlaw06_NetOrder.l0 k x (i : Int) 64 ((x.take i).map gr) ((x.take i).map (fun y => [y])) = some true := by
  intro d
  induction d with
  | zero =>
    intro k i h1 h2 h3
    obtain ⟨k, rfl⟩ : ∃ m, k = m + 1 := ⟨k - 1, by omega⟩
    obtain rfl : i = x.length := by omega
    rw [chamberlainlaw06_NetOrder.l0, if_neg (by omega)]
    have := order_take x ((x.take x.length).map (fun y => [y])) h60 (by simp) x.length k 0 (by omega) (by omega) (by omega)
    simpa using this
  | succ d ih =>
    intro k i h1 h2 h3
    obtain ⟨k, rfl⟩ : ∃ m, k = m + 1 := ⟨k - 1, by omega⟩
    have hi : i < x.length := by omega
    have w1 : wrap64 ((i : Int) + 1) = ((i + 1 : Nat) : Int) := by rw [w64 (by omega) (by omega)]; omega
    rw [chamberlainlaw06_NetOrder.l0, w1, if_pos (by omega), if_pos (by omega), if_pos (by omega), if_pos (by omega), Int.toNat_natCast, Int.toNat_natCast, cut_one x i hi, rd_nat x i hi, send_eq _ _ _ _ _ (by decide) (by decide) (by simp; omega) (by simp; omega), Option.bind_some]
    have e : sendM 64 ((x.take i).map gr) ((x.take i).map (fun y => [y])) x[i] [x[i]] = (64, (x.take (i + 1)).map gr, (x.take (i + 1)).map (fun y => [y]), 0) := by
      unfold sendM
      rw [if_pos (by simp; omega), List.take_add_one, List.getElem?_eq_getElem hi, Option.toList_some, List.map_append, List.map_append]
      rfl
    rw [e]
    dsimp only
    rw [if_pos rfl, if_pos (by simp; omega)]
    exact ih k (i + 1) (by omega) (by omega) (by omega)
theorem NetOrder : chamberlainlaw06_NetOrder.Pure := by
  intro x _ _ _
  obtain ⟨k, hk⟩ : ∃ k, k = 20000 := ⟨_, rfl⟩
  refine ⟨k + 2, ?_⟩
  unfold chamberlainlaw06_NetOrder.f
  rw [awake60 _ (by omega), Option.bind_some, if_pos rfl]
  by_cases c : (x.length : Int) > 60
  · rw [decide_eq_true c, chamberlainlaw06_NetOrder.j0, if_pos rfl, awake60 _ (by omega)]; rfl
  · rw [decide_eq_false c, chamberlainlaw06_NetOrder.j0, if_neg (by decide)]
    have := order_send x (by omega) x.length (k + 1) 0 (by omega) (by omega) (by omega)
    simpa using this

end Go.Proofs.Ytlbfdmoocgjiaaa.Pure
