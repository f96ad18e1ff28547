/- What matches by more matches by less, and a part of a row matches the row, for every two rows, event and masks; no condition. -/
import Derived.Test.YtmmpiblmggkghaaQLogLess
namespace Go.Proofs.Ytmmpiblmggkghaa.Pure
open Go Go.RowKit Go.Proofs.Ytmmpiblmggkghaa.PLogLess Go.Proofs.YtmmpiblmggkghaaW.PrintWords Go.Proofs.YtmmpiblmggkghaaW.PrintLast Go.Proofs.YtmmpiblmggkghaaW.PrintMore

theorem wf32 {x : Int} (h : (Lit.int .u32 x).wf = true) : 0 ≤ x ∧ x < 4294967296 := by
  simp only [Lit.wf, IntKind.min, IntKind.max, IntKind.signed, IntKind.bits, Bool.and_eq_true] at h
  simp at h
  omega
theorem wf8 {x : Int} (h : (Lit.int .u8 x).wf = true) : 0 ≤ x ∧ x < 256 := by
  simp only [Lit.wf, IntKind.min, IntKind.max, IntKind.signed, IntKind.bits, Bool.and_eq_true] at h
  simp at h
  omega
theorem wf16 {x : Int} (h : (Lit.int .u16 x).wf = true) : 0 ≤ x ∧ x < 65536 := by
  simp only [Lit.wf, IntKind.min, IntKind.max, IntKind.signed, IntKind.bits, Bool.and_eq_true] at h
  simp at h
  omega
theorem wf64 {x : Int} (h : (Lit.int .i64 x).wf = true) : -9223372036854775808 ≤ x ∧ x ≤ 9223372036854775807 := by
  simp only [Lit.wf, IntKind.min, IntKind.max, IntKind.signed, IntKind.bits, Bool.and_eq_true] at h
  simp at h
  omega
theorem w64 {x : Int} (h1 : -9223372036854775808 ≤ x) (h2 : x ≤ 9223372036854775807) : wrap64 x = x := by
  unfold wrap64
  omega
theorem rd_nat (xs : List Int) (i : Nat) (h : i < xs.length) : rd xs (i : Int) = xs[i] := by
  unfold rd
  simp [List.getD_eq_getElem?_getD, h]
/-- From place i on, n places: does p hold of all? -/
def allF (p : Nat → Bool) : Nat → Nat → Bool
  | 0, _ => true
  | n + 1, i => p i && allF p n (i + 1)
theorem allF_iff (p : Nat → Bool) (n i : Nat) : allF p n i = true ↔ ∀ j, i ≤ j → j < i + n → p j = true := by
  induction n generalizing i with
  | zero => simp [allF]; intro j h1 h2; omega
  | succ n ih =>
    simp only [allF, Bool.and_eq_true, ih]
    constructor
    · rintro ⟨h0, h⟩ j h1 h2
      by_cases e : j = i
      · subst e; exact h0
      · exact h j (by omega) (by omega)
    · intro h
      exact ⟨h i (by omega) (by omega), fun j h1 h2 => h j (by omega) (by omega)⟩
/-- The first place from i on, of n, of which p holds. -/
def fnd (p : Nat → Bool) : Nat → Nat → Option Nat
  | 0, _ => none
  | n + 1, i => if p i = true then some i else fnd p n (i + 1)
theorem fnd_some {p : Nat → Bool} {n i j : Nat} (h : fnd p n i = some j) : i ≤ j ∧ j < i + n ∧ p j = true ∧ ∀ m, i ≤ m → m < j → p m = false := by
  induction n generalizing i with
  | zero => simp [fnd] at h
  | succ n ih =>
    simp only [fnd] at h
    by_cases e : p i = true
    · rw [if_pos e] at h
      cases h
      exact ⟨Nat.le_refl _, by omega, e, fun m h1 h2 => by omega⟩
    · rw [if_neg e] at h
      obtain ⟨h1, h2, h3, h4⟩ := ih h
      refine ⟨by omega, by omega, h3, fun m m1 m2 => ?_⟩
      by_cases c : m = i
      · subst c; simpa using e
      · exact h4 m (by omega) m2
theorem fnd_none {p : Nat → Bool} {n i : Nat} (h : fnd p n i = none) : ∀ m, i ≤ m → m < i + n → p m = false := by
  induction n generalizing i with
  | zero => intro m h1 h2; omega
  | succ n ih =>
    simp only [fnd] at h
    by_cases e : p i = true
    · rw [if_pos e] at h; cases h
    · rw [if_neg e] at h
      intro m h1 h2
      by_cases c : m = i
      · subst c; simpa using e
      · exact ih h m (by omega) (by omega)
theorem fnd_eq_some {p : Nat → Bool} {n i j : Nat} (h1 : i ≤ j) (h2 : j < i + n) (h3 : p j = true) (h4 : ∀ m, i ≤ m → m < j → p m = false) : fnd p n i = some j := by
  cases h : fnd p n i with
  | none => have := fnd_none h j h1 h2; rw [this] at h3; cases h3
  | some q =>
    obtain ⟨a, b, c, d⟩ := fnd_some h
    congr 1
    rcases Nat.lt_trichotomy q j with e | e | e
    · have := h4 q a e; rw [this] at c; cases c
    · exact e
    · have := d j h1 e; rw [this] at h3; cases h3
theorem fnd_eq_none {p : Nat → Bool} {n i : Nat} (h : ∀ m, i ≤ m → m < i + n → p m = false) : fnd p n i = none := by
  cases e : fnd p n i with
  | none => rfl
  | some q =>
    obtain ⟨a, b, c, _⟩ := fnd_some e
    rw [h q a b] at c; cases c
theorem rows_eq (a b : List Int) (h : a.length = b.length) : allF (fun i => decide (rd a (i : Int) = rd b (i : Int))) a.length 0 = decide (a = b) := by
  rw [Bool.eq_iff_iff, allF_iff]
  simp only [decide_eq_true_eq]
  constructor
  · intro H
    apply List.ext_getElem h
    intro i h1 h2
    have := H i (by omega) (by omega)
    rw [rd_nat a i h1, rd_nat b i h2] at this
    exact this
  · intro e j _ _
    rw [e]
/-- A loop that asks place by place. -/
theorem all_loop (f : Nat → Nat → Option Bool) (n : Nat) (p : Nat → Bool) (h : ∀ k i, i ≤ n → f (k + 1) i = if i < n then (if p i = true then f k (i + 1) else some false) else some true) :
    ∀ (d k i : Nat), n - i = d → i ≤ n → d < k → f k i = some (allF p d i) := by
  intro d
  induction d with
  | zero =>
    intro k i h1 h2 h3
    obtain ⟨k, rfl⟩ : ∃ m, k = m + 1 := ⟨k - 1, by omega⟩
    rw [h k i h2, if_neg (by omega)]; rfl
  | succ d ih =>
    intro k i h1 h2 h3
    obtain ⟨k, rfl⟩ : ∃ m, k = m + 1 := ⟨k - 1, by omega⟩
    rw [h k i h2, if_pos (by omega)]
    simp only [allF]
    cases e : p i with
    | true => rw [if_pos rfl, ih k (i + 1) (by omega) (by omega) (by omega)]; simp
    | false => simp
/-- A loop that looks for the first place. -/
theorem fnd_loop {α : Type} (f : Nat → Nat → Option α) (n : Nat) (p : Nat → Bool) (yes : Nat → α) (no : α) (c : Nat) (h : ∀ k i, i ≤ n → c ≤ k → f (k + 1) i = if i < n then (if p i = true then some (yes i) else f k (i + 1)) else some no) :
    ∀ (d k i : Nat), n - i = d → i ≤ n → c + d < k → f k i = some (match fnd p d i with | some j => yes j | none => no) := by
  intro d
  induction d with
  | zero =>
    intro k i h1 h2 h3
    obtain ⟨k, rfl⟩ : ∃ m, k = m + 1 := ⟨k - 1, by omega⟩
    rw [h k i h2 (by omega), if_neg (by omega)]; rfl
  | succ d ih =>
    intro k i h1 h2 h3
    obtain ⟨k, rfl⟩ : ∃ m, k = m + 1 := ⟨k - 1, by omega⟩
    rw [h k i h2 (by omega), if_pos (by omega)]
    simp only [fnd]
    cases e : p i with
    | true => simp
    | false => rw [if_neg (by simp), if_neg (by simp), ih k (i + 1) (by omega) (by omega) (by omega)]
theorem rdE (l : List S25) (i : Nat) (h : i < l.length) : rd_T25 l (i : Int) = l[i] := by
  unfold rd_T25
  rw [Int.toNat_natCast, List.getD_eq_getElem?_getD, List.getElem?_eq_getElem h]
  rfl
theorem awake60 (k : Nat) (hk : 60 ≤ k) : chamberlainlaw19_awake.f k = some true := at_rounds chamberlainlaw19_awake.mono hk chamberlainlaw19_awake.at60
theorem mask512 (x : Int) (h : 0 ≤ x ∧ x < 65536) : wrap64 (Int.tmod x 512) = x % 512 ∧ 0 ≤ x % 512 ∧ x % 512 < 512 := by
  rw [Int.tmod_eq_emod_of_nonneg (by omega), w64 (by omega) (by omega)]
  omega
theorem wf_of (e : S25) (h : G25 e) : lwf e = true := by
  obtain ⟨h0, h1, h2, h3, h4, h5, h6, h7, h8, h9⟩ := h
  unfold lwf
  rw [h0, h1, h2, h3, h4, h5, h6, h7, h8, h9]
  rfl
theorem leq_symm (m : Int) (e e' : S25) : leq m e e' = leq m e' e := by
  rw [Bool.eq_iff_iff, lmatch.leq_iff, lmatch.leq_iff]
  exact eq_comm
theorem leq_trans {m : Int} {a b c : S25} (h1 : leq m a b = true) (h2 : leq m b c = true) : leq m a c = true := by
  rw [lmatch.leq_iff] at *
  rw [h1, h2]
theorem leq_refl (m : Int) (a : S25) : leq m a a = true := by rw [lmatch.leq_iff]
theorem fits_eq (e e' : S25) (m : Int) (h : 0 ≤ m ∧ m < 512) : log_Fits.f e.f0 e.f1 e.f2 e.f3 e.f4 e.f5 e.f6 e.f7 e.f8 e.f9 e'.f0 e'.f1 e'.f2 e'.f3 e'.f4 e'.f5 e'.f6 e'.f7 e'.f8 e'.f9 m = some (leq m e e') := by
  unfold log_Fits.f log_bare.f
  rw [if_pos h, if_pos h, Option.bind_some, Option.bind_some]
  unfold leq
  simp [Bool.and_assoc]
theorem match_eq (a b : List S25) (m : Int) (h : 0 ≤ m ∧ m < 512) (ha : ∀ e ∈ a, lwf e = true) (hb : ∀ e ∈ b, lwf e = true) (la : a.length ≤ 1000000) (lb : b.length ≤ 1000000) : log_Match.f a b m = some (lmatch m a b) := by
  unfold log_Match.f
  rw [if_pos h, if_pos]
  simp only [Bool.and_eq_true, List.all_eq_true, decide_eq_true_eq]
  exact ⟨⟨⟨ha, hb⟩, la⟩, lb⟩
theorem lcnt_cons (m : Int) (x : S25) (l : List S25) (e : S25) : lcnt m (x :: l) e = (if leq m x e = true then 1 else 0) + lcnt m l e := by
  unfold lcnt
  rw [List.filter_cons]
  cases c : leq m x e with
  | true => simp; omega
  | false => simp
theorem lcnt_app (m : Int) (a b : List S25) (e : S25) : lcnt m (a ++ b) e = lcnt m a e + lcnt m b e := by
  unfold lcnt
  rw [List.filter_append, List.length_append]
theorem lmatch_iff (m : Int) (a b : List S25) : lmatch m a b = true ↔ ∀ e, lcnt m a e ≤ lcnt m b e := by
  have hm : lmatch m a b = true ↔ ∀ j : Nat, j < a.length → lcnt m (a.take j) (rd_T25 a j) < lcnt m b (rd_T25 a j) := by
    unfold lmatch
    rw [List.all_eq_true]
    exact ⟨fun h j hj => of_decide_eq_true (h j (List.mem_range.2 hj)), fun h j hj => decide_eq_true (h j (List.mem_range.1 hj))⟩
  rw [hm]
  constructor
  · intro h e
    have : ∀ n, n ≤ a.length → lcnt m (a.take n) e ≤ lcnt m b e := by
      intro n
      induction n with
      | zero => intro _; simp [lcnt]
      | succ n ih =>
        intro hn
        have i1 := ih (by omega)
        have i2 := h n (by omega)
        rw [lcnt.snoc m a n (by omega)]
        cases c : leq m (rd_T25 a n) e with
        | true =>
          have c1 := lcnt.congr m (a.take n) c
          have c2 := lcnt.congr m b c
          rw [if_pos rfl]; omega
        | false => rw [if_neg (by decide)]; omega
    have q := this a.length (Nat.le_refl _)
    rwa [List.take_length] at q
  · intro h j hj
    have q := h (rd_T25 a j)
    have s := lcnt.snoc m a j hj (rd_T25 a j)
    rw [leq_refl, if_pos rfl] at s
    have t : lcnt m a (rd_T25 a j) = lcnt m (a.take (j + 1)) (rd_T25 a j) + lcnt m (a.drop (j + 1)) (rd_T25 a j) := by rw [← lcnt_app, List.take_append_drop]
    omega
/-- What matches by more matches by less. -/
theorem coarse (m m' : Int) (hc : ∀ x y, leq m x y = true → leq m' x y = true) : ∀ (a b : List S25), (∀ e, lcnt m a e ≤ lcnt m b e) → ∀ e, lcnt m' a e ≤ lcnt m' b e := by
  intro a
  induction a with
  | nil => intro b _ e; simp [lcnt]
  | cons x a ih =>
    intro b h e
    have hx := h x
    rw [lcnt_cons, leq_refl, if_pos rfl] at hx
    obtain ⟨y, hy⟩ : ∃ y, y ∈ b.filter (fun z => leq m z x) := List.exists_mem_of_length_pos (by unfold lcnt at hx; omega)
    obtain ⟨hy1, hy2⟩ := List.mem_filter.1 hy
    obtain ⟨b1, b2, rfl⟩ := List.append_of_mem hy1
    have hb : ∀ (q : Int) (z : S25), lcnt q (b1 ++ y :: b2) z = lcnt q (b1 ++ b2) z + (if leq q y z = true then 1 else 0) := by
      intro q z
      rw [lcnt_app, lcnt_cons, lcnt_app]; omega
    have i := ih (b1 ++ b2) (fun z => by
      have q := h z
      rw [lcnt_cons, hb] at q
      have e1 : leq m x z = leq m y z := by
        cases c : leq m y z with
        | true => exact leq_trans (by rw [leq_symm]; exact hy2) c
        | false =>
          cases c2 : leq m x z with
          | false => rfl
          | true => rw [leq_trans hy2 c2] at c; cases c
      rw [e1] at q
      omega) e
    rw [lcnt_cons, hb]
    have e2 : leq m' x e = leq m' y e := by
      have hyx := hc _ _ hy2
      cases c : leq m' y e with
      | true => exact leq_trans (by rw [leq_symm]; exact hyx) c
      | false =>
        cases c2 : leq m' x e with
        | false => rfl
        | true => rw [leq_trans hyx c2] at c; cases c
    rw [e2]
    omega
theorem leq_of_bits (m m' : Int) (hb : ∀ j, j < 9 → lbit m' j = true → lbit m j = true) (x y : S25) (h : leq m x y = true) : leq m' x y = true := by
  have v : ∀ (j : Nat) (p q : Int), j < 9 → (lval m j p == lval m j q) = true → (lval m' j p == lval m' j q) = true := by
    intro j p q hj hv
    unfold lval at hv ⊢
    cases c : lbit m' j with
    | false => simp
    | true => rw [hb j hj c] at hv; simpa using hv
  unfold leq at h ⊢
  simp only [Bool.and_eq_true] at h ⊢
  obtain ⟨⟨⟨⟨⟨⟨⟨⟨h0, h1⟩, h2⟩, h3⟩, h4⟩, h5⟩, h6⟩, h7⟩, h8⟩ := h
  exact ⟨⟨⟨⟨⟨⟨⟨⟨v 0 _ _ (by omega) h0, v 1 _ _ (by omega) h1⟩, v 2 _ _ (by omega) h2⟩, v 3 _ _ (by omega) h3⟩, v 4 _ _ (by omega) h4⟩, v 5 _ _ (by omega) h5⟩, v 6 _ _ (by omega) h6⟩, v 7 _ _ (by omega) h7⟩, v 8 _ _ (by omega) h8⟩
theorem leq_zero (x y : S25) : leq 0 x y = true := by
  have v : ∀ (j : Nat) (p q : Int), (lval 0 j p == lval 0 j q) = true := by
    intro j p q
    have : lbit 0 j = false := by unfold lbit; simp
    unfold lval
    rw [this]; simp
  unfold leq
  simp only [v, Bool.and_self]
theorem match_len (m : Int) (a b : List S25) (h : lmatch m a b = true) : a.length ≤ b.length := by
  have q := coarse m 0 (fun x y _ => leq_zero x y) a b ((lmatch_iff m a b).1 h)
  have len : ∀ l : List S25, ∀ e, lcnt 0 l e = l.length := by
    intro l e
    unfold lcnt
    rw [List.filter_eq_self.2 (fun x _ => leq_zero x e)]
  have := q ⟨0, 0, 0, 0, 0, 0, 0, 0, 0, 0⟩
  rwa [len, len] at this
theorem bit_and (m n : Int) (hm : 0 ≤ m ∧ m < 512) (hn : 0 ≤ n ∧ n < 512) : (0 ≤ Go.bits .and .i64 m n ∧ Go.bits .and .i64 m n < 512) ∧ ∀ j, lbit (Go.bits .and .i64 m n) j = true → lbit m j = true := by
  obtain ⟨a, rfl⟩ : ∃ a : Nat, m = (a : Int) := ⟨m.toNat, by omega⟩
  obtain ⟨b, rfl⟩ : ∃ b : Nat, n = (b : Int) := ⟨n.toNat, by omega⟩
  have hw : ∀ n : Int, 0 ≤ n → n < 2 ^ 9 → IntKind.i64.wrap n = n := by
    intro n h1 h2
    have e : IntKind.i64.wrap n = wrap64 n := by unfold wrap64; exact IntKind.wrap_i64 n
    rw [e, w64 (by omega) (by omega)]
  rw [(bits_nat .i64 9 (by decide) hw a b (by omega) (by omega)).1]
  refine ⟨⟨by omega, ?_⟩, fun j h => ?_⟩
  · have : a &&& b ≤ a := Nat.and_le_left
    omega
  · have key : ∀ (c j : Nat), lbit (c : Int) j = c.testBit j := by
      intro c j
      unfold lbit
      rw [Nat.testBit_eq_decide_div_mod_eq, Bool.eq_iff_iff, beq_iff_eq, decide_eq_true_eq]
      have e : ((c : Int) / 2 ^ j % 2) = ((c / 2 ^ j % 2 : Nat) : Int) := by
        rw [Int.natCast_emod, Int.natCast_ediv, Int.natCast_pow]; rfl
      rw [e]
      omega
    rw [key] at h ⊢
    rw [Nat.testBit_and, Bool.and_eq_true] at h
    exact h.1
theorem less_j1 (a b : List S25) (m : Int) (h : 0 ≤ m ∧ m < 512) (ha : ∀ e ∈ a, lwf e = true) (hb : ∀ e ∈ b, lwf e = true) (la : a.length ≤ 60) (lb : b.length ≤ 60) (k : Nat) : chamberlainlaw19_LogLess.j1 (k + 1) a b m false = some true := by
  have tk : lmatch m (a.take (a.length / 2)) a = true := by
    rw [lmatch_iff]
    intro e
    have : lcnt m a e = lcnt m (a.take (a.length / 2)) e + lcnt m (a.drop (a.length / 2)) e := by rw [← lcnt_app, List.take_append_drop]
    omega
  have aa : lmatch m a a = true := by rw [lmatch_iff]; exact fun e => Nat.le_refl _
  have e2 : wrap64 ((a.length : Int) / 2) = ((a.length / 2 : Nat) : Int) := by rw [w64 (by omega) (by omega)]; omega
  rw [chamberlainlaw19_LogLess.j1, if_neg (by decide), match_eq a a m h ha ha (by omega) (by omega), Option.bind_some, if_pos aa, e2, if_pos (by omega), if_pos (by omega), Int.toNat_natCast,
    match_eq _ a m h (fun e he => ha e (List.mem_of_mem_take he)) ha (by rw [List.length_take]; omega) (by omega), Option.bind_some, if_pos tk, match_eq a b m h ha hb (by omega) (by omega), Option.bind_some]
  cases c1 : lmatch m a b with
  | false => rw [if_neg (by decide)]
  | true =>
    rw [if_pos rfl, match_eq b a m h hb ha (by omega) (by omega), Option.bind_some]
    cases c2 : lmatch m b a with
    | false => rw [if_neg (by decide)]
    | true =>
      have l1 := match_len m a b c1
      have l2 := match_len m b a c2
      rw [if_pos rfl]
      congr 1
      rw [beq_iff_eq]
      omega
theorem LogLess : chamberlainlaw19_LogLess.Pure := by
  intro a b x0 x1 x2 x3 x4 x5 x6 x7 x8 x9 m n _ ha _ hb h0 h1 h2 h3 h4 h5 h6 h7 h8 h9 hm hn
  have hm := wf16 hm
  have hn := wf16 hn
  obtain ⟨m1, m2⟩ := mask512 m hm
  obtain ⟨n1, n2⟩ := mask512 n hn
  obtain ⟨b1, b2⟩ := bit_and _ _ m2 n2
  obtain ⟨k, hk⟩ : ∃ k, k = 20000 := ⟨_, rfl⟩
  refine ⟨k + 2, ?_⟩
  unfold chamberlainlaw19_LogLess.f
  rw [awake60 _ (by omega), Option.bind_some, if_pos rfl]
  have jt : chamberlainlaw19_LogLess.j0 (k + 2) a b m n true x0 x1 x2 x3 x4 x5 x6 x7 x8 x9 = some true := by
    rw [chamberlainlaw19_LogLess.j0, if_pos rfl, awake60 _ (by omega)]; rfl
  by_cases c1 : (a.length : Int) > 60
  · rw [if_pos c1, jt]
  rw [if_neg c1]
  by_cases c2 : (b.length : Int) > 60
  · rw [show decide ((b.length : Int) > 60) = true from decide_eq_true c2, jt]
  have wa : ∀ e ∈ a, lwf e = true := fun e he => wf_of e (ha e he)
  have wb : ∀ e ∈ b, lwf e = true := fun e he => wf_of e (hb e he)
  have wx : lwf ⟨x0, x1, x2, x3, x4, x5, x6, x7, x8, x9⟩ = true := wf_of _ ⟨h0, h1, h2, h3, h4, h5, h6, h7, h8, h9⟩
  have wbx : ∀ e ∈ b ++ [(⟨x0, x1, x2, x3, x4, x5, x6, x7, x8, x9⟩ : S25)], lwf e = true := fun e he => by
    rcases List.mem_append.1 he with q | q
    · exact wb e q
    · obtain rfl := List.mem_singleton.1 q; exact wx
  have j1t := less_j1 a b (m % 512) m2 wa wb (by omega) (by omega) k
  rw [show decide ((b.length : Int) > 60) = false from decide_eq_false c2, chamberlainlaw19_LogLess.j0, if_neg (by decide)]
  simp only [Option.bind_some, List.nil_append, List.length_nil, List.length_cons]
  rw [if_pos (by omega), if_pos (by omega), m1, n1, match_eq a b _ m2 wa wb (by omega) (by omega), Option.bind_some]
  cases q : lmatch (m % 512) a b with
  | false => rw [if_neg (by decide), j1t]
  | true =>
    have q' := (lmatch_iff _ a b).1 q
    have p1 : lmatch (Go.bits .and .i64 (m % 512) (n % 512)) a b = true := (lmatch_iff _ a b).2 (coarse _ _ (leq_of_bits _ _ (fun j _ => b2 j)) a b q')
    have p2 : lmatch (m % 512) a (b ++ [(⟨x0, x1, x2, x3, x4, x5, x6, x7, x8, x9⟩ : S25)]) = true := (lmatch_iff _ _ _).2 (fun e => by rw [lcnt_app]; have := q' e; omega)
    have p3 := match_len _ a b q
    rw [if_pos rfl, match_eq a b _ b1 wa wb (by omega) (by omega), Option.bind_some, if_pos p1, match_eq a _ _ m2 wa wbx (by omega) (by simp; omega), Option.bind_some, if_pos p2, show decide ((a.length : Int) > (b.length : Int)) = false from decide_eq_false (by omega), j1t]

end Go.Proofs.Ytmmpiblmggkghaa.Pure
