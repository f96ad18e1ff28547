/- Rows match just if, event by event, one that fits and was not given yet can be given, for every two rows and mask; no condition. -/
import Derived.Test.YtmmpiblmggkghaaQLogGives
namespace Go.Proofs.Ytmmpiblmggkghaa.Pure
open Go Go.RowKit Go.Proofs.Ytmmpiblmggkghaa.PLogGives Go.Proofs.YtmmpiblmggkghaaW.PrintWords Go.Proofs.YtmmpiblmggkghaaW.PrintLast Go.Proofs.YtmmpiblmggkghaaW.PrintMore

theorem wf32 {x : Int} (h : (Lit.int .u32 x).wf = true) : 0 ≤ x ∧ x < 4294967296 := by
  simp only [Lit.wf, IntKind.min, IntKind.max, IntKind.signed, IntKind.bits, Bool.and_eq_true] at h
  simp at h
  omega
theorem wf8 {x : Int} (h : (Lit.int .u8 x).wf = true) : 0 ≤ x ∧ x < 256 := by
  simp only [Lit.wf, IntKind.min, IntKind.max, IntKind.signed, IntKind.bits, Bool.and_eq_true] at h
  simp at h
  omega
theorem wf16 {x : Int} (h : (Lit.int .u16 x).wf = true) : 0 ≤ x ∧ x < 65536 := by
  simp only [Lit.wf, IntKind.min, IntKind.max, IntKind.signed, IntKind.bits, Bool.and_eq_true] at h
  simp at h
  omega
theorem wf64 {x : Int} (h : (Lit.int .i64 x).wf = true) : -9223372036854775808 ≤ x ∧ x ≤ 9223372036854775807 := by
  simp only [Lit.wf, IntKind.min, IntKind.max, IntKind.signed, IntKind.bits, Bool.and_eq_true] at h
  simp at h
  omega
theorem w64 {x : Int} (h1 : -9223372036854775808 ≤ x) (h2 : x ≤ 9223372036854775807) : wrap64 x = x := by
  unfold wrap64
  omega
theorem rd_nat (xs : List Int) (i : Nat) (h : i < xs.length) : rd xs (i : Int) = xs[i] := by
  unfold rd
  simp [List.getD_eq_getElem?_getD, h]
/-- From place i on, n places: does p hold of all? -/
def allF (p : Nat → Bool) : Nat → Nat → Bool
  | 0, _ => true
  | n + 1, i => p i && allF p n (i + 1)
theorem allF_iff (p : Nat → Bool) (n i : Nat) : allF p n i = true ↔ ∀ j, i ≤ j → j < i + n → p j = true := by
  induction n generalizing i with
  | zero => simp [allF]; intro j h1 h2; omega
  | succ n ih =>
    simp only [allF, Bool.and_eq_true, ih]
    constructor
    · rintro ⟨h0, h⟩ j h1 h2
      by_cases e : j = i
      · subst e; exact h0
      · exact h j (by omega) (by omega)
    · intro h
      exact ⟨h i (by omega) (by omega), fun j h1 h2 => h j (by omega) (by omega)⟩
/-- The first place from i on, of n, of which p holds. -/
def fnd (p : Nat → Bool) : Nat → Nat → Option Nat
  | 0, _ => none
  | n + 1, i => if p i = true then some i else fnd p n (i + 1)
theorem fnd_some {p : Nat → Bool} {n i j : Nat} (h : fnd p n i = some j) : i ≤ j ∧ j < i + n ∧ p j = true ∧ ∀ m, i ≤ m → m < j → p m = false := by
  induction n generalizing i with
  | zero => simp [fnd] at h
  | succ n ih =>
    simp only [fnd] at h
    by_cases e : p i = true
    · rw [if_pos e] at h
      cases h
      exact ⟨Nat.le_refl _, by omega, e, fun m h1 h2 => by omega⟩
    · rw [if_neg e] at h
      obtain ⟨h1, h2, h3, h4⟩ := ih h
      refine ⟨by omega, by omega, h3, fun m m1 m2 => ?_⟩
      by_cases c : m = i
      · subst c; simpa using e
      · exact h4 m (by omega) m2
theorem fnd_none {p : Nat → Bool} {n i : Nat} (h : fnd p n i = none) : ∀ m, i ≤ m → m < i + n → p m = false := by
  induction n generalizing i with
  | zero => intro m h1 h2; omega
  | succ n ih =>
    simp only [fnd] at h
    by_cases e : p i = true
    · rw [if_pos e] at h; cases h
    · rw [if_neg e] at h
      intro m h1 h2
      by_cases c : m = i
      · subst c; simpa using e
      · exact ih h m (by omega) (by omega)
theorem fnd_eq_some {p : Nat → Bool} {n i j : Nat} (h1 : i ≤ j) (h2 : j < i + n) (h3 : p j = true) (h4 : ∀ m, i ≤ m → m < j → p m = false) : fnd p n i = some j := by
  cases h : fnd p n i with
  | none => have := fnd_none h j h1 h2; rw [this] at h3; cases h3
  | some q =>
    obtain ⟨a, b, c, d⟩ := fnd_some h
    congr 1
    rcases Nat.lt_trichotomy q j with e | e | e
    · have := h4 q a e; rw [this] at c; cases c
    · exact e
    · have := d j h1 e; rw [this] at h3; cases h3
theorem fnd_eq_none {p : Nat → Bool} {n i : Nat} (h : ∀ m, i ≤ m → m < i + n → p m = false) : fnd p n i = none := by
  cases e : fnd p n i with
  | none => rfl
  | some q =>
    obtain ⟨a, b, c, _⟩ := fnd_some e
    rw [h q a b] at c; cases c
theorem rows_eq (a b : List Int) (h : a.length = b.length) : allF (fun i => decide (rd a (i : Int) = rd b (i : Int))) a.length 0 = decide (a = b) := by
  rw [Bool.eq_iff_iff, allF_iff]
  simp only [decide_eq_true_eq]
  constructor
  · intro H
    apply List.ext_getElem h
    intro i h1 h2
    have := H i (by omega) (by omega)
    rw [rd_nat a i h1, rd_nat b i h2] at this
    exact this
  · intro e j _ _
    rw [e]
/-- A loop that asks place by place. -/
theorem all_loop (f : Nat → Nat → Option Bool) (n : Nat) (p : Nat → Bool) (h : ∀ k i, i ≤ n → f (k + 1) i = if i < n then (if p i = true then f k (i + 1) else some false) else some true) :
    ∀ (d k i : Nat), n - i = d → i ≤ n → d < k → f k i = some (allF p d i) := by
  intro d
  induction d with
  | zero =>
    intro k i h1 h2 h3
    obtain ⟨k, rfl⟩ : ∃ m, k = m + 1 := ⟨k - 1, by omega⟩
    rw [h k i h2, if_neg (by omega)]; rfl
  | succ d ih =>
    intro k i h1 h2 h3
    obtain ⟨k, rfl⟩ : ∃ m, k = m + 1 := ⟨k - 1, by omega⟩
    rw [h k i h2, if_pos (by omega)]
    simp only [allF]
    cases e : p i with
    | true => rw [if_pos rfl, ih k (i + 1) (by omega) (by omega) (by omega)]; simp
    | false => simp
/-- A loop that looks for the first place. -/
theorem fnd_loop {α : Type} (f : Nat → Nat → Option α) (n : Nat) (p : Nat → Bool) (yes : Nat → α) (no : α) (c : Nat) (h : ∀ k i, i ≤ n → c ≤ k → f (k + 1) i = if i < n then (if p i = true then some (yes i) else f k (i + 1)) else some no) :
    ∀ (d k i : Nat), n - i = d → i ≤ n → c + d < k → f k i = some (match fnd p d i with | some j => yes j | none => no) := by
  intro d
  induction d with
  | zero =>
    intro k i h1 h2 h3
    obtain ⟨k, rfl⟩ : ∃ m, k = m + 1 := ⟨k - 1, by omega⟩
    rw [h k i h2 (by omega), if_neg (by omega)]; rfl
  | succ d ih =>
    intro k i h1 h2 h3
    obtain ⟨k, rfl⟩ : ∃ m, k = m + 1 := ⟨k - 1, by omega⟩
    rw [h k i h2 (by omega), if_pos (by omega)]
    simp only [fnd]
    cases e : p i with
    | true => simp
    | false => rw [if_neg (by simp), if_neg (by simp), ih k (i + 1) (by omega) (by omega) (by omega)]
theorem rdE (l : List S25) (i : Nat) (h : i < l.length) : rd_T25 l (i : Int) = l[i] := by
  unfold rd_T25
  rw [Int.toNat_natCast, List.getD_eq_getElem?_getD, List.getElem?_eq_getElem h]
  rfl
theorem awake60 (k : Nat) (hk : 60 ≤ k) : chamberlainlaw19_awake.f k = some true := at_rounds chamberlainlaw19_awake.mono hk chamberlainlaw19_awake.at60
theorem mask512 (x : Int) (h : 0 ≤ x ∧ x < 65536) : wrap64 (Int.tmod x 512) = x % 512 ∧ 0 ≤ x % 512 ∧ x % 512 < 512 := by
  rw [Int.tmod_eq_emod_of_nonneg (by omega), w64 (by omega) (by omega)]
  omega
theorem wf_of (e : S25) (h : G25 e) : lwf e = true := by
  obtain ⟨h0, h1, h2, h3, h4, h5, h6, h7, h8, h9⟩ := h
  unfold lwf
  rw [h0, h1, h2, h3, h4, h5, h6, h7, h8, h9]
  rfl
theorem leq_symm (m : Int) (e e' : S25) : leq m e e' = leq m e' e := by
  rw [Bool.eq_iff_iff, lmatch.leq_iff, lmatch.leq_iff]
  exact eq_comm
theorem leq_trans {m : Int} {a b c : S25} (h1 : leq m a b = true) (h2 : leq m b c = true) : leq m a c = true := by
  rw [lmatch.leq_iff] at *
  rw [h1, h2]
theorem leq_refl (m : Int) (a : S25) : leq m a a = true := by rw [lmatch.leq_iff]
theorem fits_eq (e e' : S25) (m : Int) (h : 0 ≤ m ∧ m < 512) : log_Fits.f e.f0 e.f1 e.f2 e.f3 e.f4 e.f5 e.f6 e.f7 e.f8 e.f9 e'.f0 e'.f1 e'.f2 e'.f3 e'.f4 e'.f5 e'.f6 e'.f7 e'.f8 e'.f9 m = some (leq m e e') := by
  unfold log_Fits.f log_bare.f
  rw [if_pos h, if_pos h, Option.bind_some, Option.bind_some]
  unfold leq
  simp [Bool.and_assoc]
theorem lsame_eq (m : Int) (j : Nat) (x y : Int) : lsame m j x y = (lval m j x == lval m j y) := by
  unfold lsame lval
  cases lbit m j <;> simp
theorem rfits_eq (e e' : S25) (m : Int) (h : 0 ≤ m ∧ m < 512) : chamberlainref19_Fits.f e.f0 e.f1 e.f2 e.f3 e.f4 e.f5 e.f6 e.f7 e.f8 e.f9 e'.f0 e'.f1 e'.f2 e'.f3 e'.f4 e'.f5 e'.f6 e'.f7 e'.f8 e'.f9 m = some (leq m e e') := by
  unfold chamberlainref19_Fits.f
  rw [if_pos h]
  unfold lfits leq
  simp only [lsame_eq]
theorem match_eq (a b : List S25) (m : Int) (h : 0 ≤ m ∧ m < 512) (ha : ∀ e ∈ a, lwf e = true) (hb : ∀ e ∈ b, lwf e = true) (la : a.length ≤ 1000000) (lb : b.length ≤ 1000000) : log_Match.f a b m = some (lmatch m a b) := by
  unfold log_Match.f
  rw [if_pos h, if_pos]
  simp only [Bool.and_eq_true, List.all_eq_true, decide_eq_true_eq]
  exact ⟨⟨⟨ha, hb⟩, la⟩, lb⟩
theorem lcnt_cons (m : Int) (x : S25) (l : List S25) (e : S25) : lcnt m (x :: l) e = (if leq m x e = true then 1 else 0) + lcnt m l e := by
  unfold lcnt
  rw [List.filter_cons]
  cases c : leq m x e with
  | true => simp; omega
  | false => simp
theorem lcnt_app (m : Int) (a b : List S25) (e : S25) : lcnt m (a ++ b) e = lcnt m a e + lcnt m b e := by
  unfold lcnt
  rw [List.filter_append, List.length_append]
theorem lmatch_iff (m : Int) (a b : List S25) : lmatch m a b = true ↔ ∀ e, lcnt m a e ≤ lcnt m b e := by
  have hm : lmatch m a b = true ↔ ∀ j : Nat, j < a.length → lcnt m (a.take j) (rd_T25 a j) < lcnt m b (rd_T25 a j) := by
    unfold lmatch
    rw [List.all_eq_true]
    exact ⟨fun h j hj => of_decide_eq_true (h j (List.mem_range.2 hj)), fun h j hj => decide_eq_true (h j (List.mem_range.1 hj))⟩
  rw [hm]
  constructor
  · intro h e
    have : ∀ n, n ≤ a.length → lcnt m (a.take n) e ≤ lcnt m b e := by
      intro n
      induction n with
      | zero => intro _; simp [lcnt]
      | succ n ih =>
        intro hn
        have i1 := ih (by omega)
        have i2 := h n (by omega)
        rw [lcnt.snoc m a n (by omega)]
        cases c : leq m (rd_T25 a n) e with
        | true =>
          have c1 := lcnt.congr m (a.take n) c
          have c2 := lcnt.congr m b c
          rw [if_pos rfl]; omega
        | false => rw [if_neg (by decide)]; omega
    have q := this a.length (Nat.le_refl _)
    rwa [List.take_length] at q
  · intro h j hj
    have q := h (rd_T25 a j)
    have s := lcnt.snoc m a j hj (rd_T25 a j)
    rw [leq_refl, if_pos rfl] at s
    have t : lcnt m a (rd_T25 a j) = lcnt m (a.take (j + 1)) (rd_T25 a j) + lcnt m (a.drop (j + 1)) (rd_T25 a j) := by rw [← lcnt_app, List.take_append_drop]
    omega
/-- What matches by more matches by less. -/
theorem coarse (m m' : Int) (hc : ∀ x y, leq m x y = true → leq m' x y = true) : ∀ (a b : List S25), (∀ e, lcnt m a e ≤ lcnt m b e) → ∀ e, lcnt m' a e ≤ lcnt m' b e := by
  intro a
  induction a with
  | nil => intro b _ e; simp [lcnt]
  | cons x a ih =>
    intro b h e
    have hx := h x
    rw [lcnt_cons, leq_refl, if_pos rfl] at hx
    obtain ⟨y, hy⟩ : ∃ y, y ∈ b.filter (fun z => leq m z x) := List.exists_mem_of_length_pos (by unfold lcnt at hx; omega)
    obtain ⟨hy1, hy2⟩ := List.mem_filter.1 hy
    obtain ⟨b1, b2, rfl⟩ := List.append_of_mem hy1
    have hb : ∀ (q : Int) (z : S25), lcnt q (b1 ++ y :: b2) z = lcnt q (b1 ++ b2) z + (if leq q y z = true then 1 else 0) := by
      intro q z
      rw [lcnt_app, lcnt_cons, lcnt_app]; omega
    have i := ih (b1 ++ b2) (fun z => by
      have q := h z
      rw [lcnt_cons, hb] at q
      have e1 : leq m x z = leq m y z := by
        cases c : leq m y z with
        | true => exact leq_trans (by rw [leq_symm]; exact hy2) c
        | false =>
          cases c2 : leq m x z with
          | false => rfl
          | true => rw [leq_trans hy2 c2] at c; cases c
      rw [e1] at q
      omega) e
    rw [lcnt_cons, hb]
    have e2 : leq m' x e = leq m' y e := by
      have hyx := hc _ _ hy2
      cases c : leq m' y e with
      | true => exact leq_trans (by rw [leq_symm]; exact hyx) c
      | false =>
        cases c2 : leq m' x e with
        | false => rfl
        | true => rw [leq_trans hyx c2] at c; cases c
    rw [e2]
    omega
theorem leq_of_bits (m m' : Int) (hb : ∀ j, j < 9 → lbit m' j = true → lbit m j = true) (x y : S25) (h : leq m x y = true) : leq m' x y = true := by
  have v : ∀ (j : Nat) (p q : Int), j < 9 → (lval m j p == lval m j q) = true → (lval m' j p == lval m' j q) = true := by
    intro j p q hj hv
    unfold lval at hv ⊢
    cases c : lbit m' j with
    | false => simp
    | true => rw [hb j hj c] at hv; simpa using hv
  unfold leq at h ⊢
  simp only [Bool.and_eq_true] at h ⊢
  obtain ⟨⟨⟨⟨⟨⟨⟨⟨h0, h1⟩, h2⟩, h3⟩, h4⟩, h5⟩, h6⟩, h7⟩, h8⟩ := h
  exact ⟨⟨⟨⟨⟨⟨⟨⟨v 0 _ _ (by omega) h0, v 1 _ _ (by omega) h1⟩, v 2 _ _ (by omega) h2⟩, v 3 _ _ (by omega) h3⟩, v 4 _ _ (by omega) h4⟩, v 5 _ _ (by omega) h5⟩, v 6 _ _ (by omega) h6⟩, v 7 _ _ (by omega) h7⟩, v 8 _ _ (by omega) h8⟩
theorem leq_zero (x y : S25) : leq 0 x y = true := by
  have v : ∀ (j : Nat) (p q : Int), (lval 0 j p == lval 0 j q) = true := by
    intro j p q
    have : lbit 0 j = false := by unfold lbit; simp
    unfold lval
    rw [this]; simp
  unfold leq
  simp only [v, Bool.and_self]
theorem match_len (m : Int) (a b : List S25) (h : lmatch m a b = true) : a.length ≤ b.length := by
  have q := coarse m 0 (fun x y _ => leq_zero x y) a b ((lmatch_iff m a b).1 h)
  have len : ∀ l : List S25, ∀ e, lcnt 0 l e = l.length := by
    intro l e
    unfold lcnt
    rw [List.filter_eq_self.2 (fun x _ => leq_zero x e)]
  have := q ⟨0, 0, 0, 0, 0, 0, 0, 0, 0, 0⟩
  rwa [len, len] at this
theorem bit_and (m n : Int) (hm : 0 ≤ m ∧ m < 512) (hn : 0 ≤ n ∧ n < 512) : (0 ≤ Go.bits .and .i64 m n ∧ Go.bits .and .i64 m n < 512) ∧ ∀ j, lbit (Go.bits .and .i64 m n) j = true → lbit m j = true := by
  obtain ⟨a, rfl⟩ : ∃ a : Nat, m = (a : Int) := ⟨m.toNat, by omega⟩
  obtain ⟨b, rfl⟩ : ∃ b : Nat, n = (b : Int) := ⟨n.toNat, by omega⟩
  have hw : ∀ n : Int, 0 ≤ n → n < 2 ^ 9 → IntKind.i64.wrap n = n := by
    intro n h1 h2
    have e : IntKind.i64.wrap n = wrap64 n := by unfold wrap64; exact IntKind.wrap_i64 n
    rw [e, w64 (by omega) (by omega)]
  rw [(bits_nat .i64 9 (by decide) hw a b (by omega) (by omega)).1]
  refine ⟨⟨by omega, ?_⟩, fun j h => ?_⟩
  · have : a &&& b ≤ a := Nat.and_le_left
    omega
  · have key : ∀ (c j : Nat), lbit (c : Int) j = c.testBit j := by
      intro c j
      unfold lbit
      rw [Nat.testBit_eq_decide_div_mod_eq, Bool.eq_iff_iff, beq_iff_eq, decide_eq_true_eq]
      have e : ((c : Int) / 2 ^ j % 2) = ((c / 2 ^ j % 2 : Nat) : Int) := by
        rw [Int.natCast_emod, Int.natCast_ediv, Int.natCast_pow]; rfl
      rw [e]
      omega
    rw [key] at h ⊢
    rw [Nat.testBit_and, Bool.and_eq_true] at h
    exact h.1
/-- How many of the given ones match in the masked fields. -/
def gcnt (m : Int) : List S25 → List Bool → S25 → Nat
  | x :: b, true :: g, e => (if leq m x e then 1 else 0) + gcnt m b g e
  | _ :: b, false :: g, e => gcnt m b g e
  | [], _, _ => 0
  | _ :: _, [], _ => 0
theorem gcnt_none (m : Int) (e : S25) : ∀ (b : List S25) (n : Nat), gcnt m b (List.replicate n false) e = 0
  | [], _ => by simp [gcnt]
  | _ :: _, 0 => by simp [gcnt]
  | _ :: b, n + 1 => by rw [List.replicate_succ, gcnt]; exact gcnt_none m e b n
theorem gcnt_le (m : Int) (e : S25) : ∀ (b : List S25) (g : List Bool), gcnt m b g e ≤ lcnt m b e
  | [], _ => by simp [gcnt]
  | _ :: _, [] => by simp [gcnt]
  | x :: b, true :: g => by rw [gcnt, lcnt_cons]; have := gcnt_le m e b g; omega
  | x :: b, false :: g => by rw [gcnt, lcnt_cons]; have := gcnt_le m e b g; omega
theorem gcnt_set (m : Int) (e : S25) : ∀ (b : List S25) (g : List Bool) (j : Nat) (h : j < b.length), g[j]? = some false → gcnt m b (g.set j true) e = gcnt m b g e + (if leq m b[j] e then 1 else 0)
  | [], _, _, h, _ => by simp at h
  | _ :: _, [], _, _, hg => by simp at hg
  | x :: b, c :: g, 0, _, hg => by
    obtain rfl : c = false := by simpa using hg
    rw [List.set_cons_zero, gcnt, gcnt, List.getElem_cons_zero]; omega
  | x :: b, c :: g, j + 1, h, hg => by
    have i := gcnt_set m e b g j (by simpa using h) (by simpa using hg)
    rw [List.set_cons_succ, List.getElem_cons_succ]
    cases c with
    | true => rw [gcnt, gcnt, i]; omega
    | false => rw [gcnt, gcnt, i]
theorem gcnt_all (m : Int) (e : S25) : ∀ (b : List S25) (g : List Bool), g.length = b.length → (∀ (j : Nat) (h : j < b.length), g[j]? = some false → leq m b[j] e = false) → gcnt m b g e = lcnt m b e
  | [], _, _, _ => by simp [gcnt, lcnt]
  | _ :: _, [], h, _ => by simp at h
  | x :: b, c :: g, h, q => by
    have i := gcnt_all m e b g (by simpa using h) (fun j hj hg => by
      have := q (j + 1) (by simpa using hj) (by simpa using hg)
      simpa using this)
    rw [lcnt_cons]
    cases c with
    | true => rw [gcnt, i]
    | false =>
      have := q 0 (by simp) (by simp)
      rw [List.getElem_cons_zero] at this
      rw [gcnt, i, this, if_neg (by decide)]; omega
theorem gives_inner (a b : List S25) (m : Int) (hm : 0 ≤ m ∧ m < 512) (la : a.length ≤ 60) (lb : b.length ≤ 60) (i : Nat) (hi : i < a.length) (all : Bool) (g : List Bool) (hg : g.length = b.length) (K : Nat) (v : Bool)
    (H0 : ∀ k', K ≤ k' → (∀ (j : Nat) (h : j < b.length), g[j]? = some false → leq m b[j] a[i] = false) → chamberlainlaw19_LogGives.l0 k' a b m g false ((i + 1 : Nat) : Int) = some v)
    (H1 : ∀ (k' j : Nat) (h : j < b.length), K ≤ k' → g[j]? = some false → leq m b[j] a[i] = true → chamberlainlaw19_LogGives.l0 k' a b m (g.set j true) all ((i + 1 : Nat) : Int) = some v) :
    ∀ (n k : Nat), n ≤ b.length → (∀ (j : Nat) (h : j < b.length), n ≤ j → g[j]? = some false → leq m b[j] a[i] = false) → K + 2 * n + 4 ≤ k → chamberlainlaw19_LogGives.l1 k a b m g all (i : Int) false ((n : Int) - 1) = some v := by
  have ei : wrap64 ((i : Int) + 1) = ((i + 1 : Nat) : Int) := by rw [w64 (by omega) (by omega)]; omega
  intro n
  induction n with
  | zero =>
    intro k _ hn hk
    obtain ⟨k, rfl⟩ : ∃ q, k = q + 2 := ⟨k - 2, by omega⟩
    have z := H0 k (by omega) (fun j h q => hn j h (Nat.zero_le _) q)
    rw [chamberlainlaw19_LogGives.l1, if_neg (by omega), chamberlainlaw19_LogGives.j3, if_neg (by decide), ei, z, ite_self]
  | succ n ih =>
    intro k hl hn hk
    obtain ⟨k, rfl⟩ : ∃ q, k = q + 4 := ⟨k - 4, by omega⟩
    have en : ((n + 1 : Nat) : Int) - 1 = (n : Int) := by omega
    have wn : wrap64 ((n : Int) - 1) = (n : Int) - 1 := w64 (by omega) (by omega)
    have hnb : n < b.length := by omega
    have gn : g[n]? = some (g[n]'(by omega)) := List.getElem?_eq_getElem (by omega)
    have rg : rdOf false g (n : Int) = g[n]'(by omega) := by
      unfold rdOf
      rw [Int.toNat_natCast, List.getD_eq_getElem?_getD, gn]; rfl
    rw [en, chamberlainlaw19_LogGives.l1, if_pos (by omega), chamberlainlaw19_LogGives.j3, if_pos (by decide), if_pos (by omega), if_pos (by omega), rg, wn]
    cases c : g[n]'(by omega) with
    | true =>
      rw [if_pos rfl]
      refine ih (k + 2) (by omega) (fun j h hj q => ?_) (by omega)
      by_cases e : j = n
      · subst e
        rw [gn, c] at q; cases q
      · exact hn j h (by omega) q
    | false =>
      rw [if_neg (by decide), if_pos (by omega), if_pos (by omega), if_pos (by omega), rfits_eq (rd_T25 b (n : Int)) (rd_T25 a (i : Int)) m hm, Option.bind_some, rdE b n hnb, rdE a i hi, Int.toNat_natCast]
      cases f : leq m b[n] a[i] with
      | true =>
        have z := H1 k n hnb (by omega) (by rw [gn, c]) f
        have j3f : chamberlainlaw19_LogGives.j3 (k + 1) a b m (g.set n true) all (i : Int) true ((n : Int) - 1) false = some v := by
          rw [chamberlainlaw19_LogGives.j3, if_neg (by decide), ei]
          cases all with
          | true => rw [if_pos rfl, z]
          | false => rw [if_neg (by decide), z]
        rw [if_pos rfl, chamberlainlaw19_LogGives.l1, show (!true) = false from rfl, j3f, ite_self]
      | false =>
        rw [if_neg (by decide)]
        refine ih (k + 2) (by omega) (fun j h hj q => ?_) (by omega)
        by_cases e : j = n
        · subst e; exact f
        · exact hn j h (by omega) q
theorem lmatch_pos (m : Int) (a b : List S25) : lmatch m a b = true ↔ ∀ j : Nat, j < a.length → lcnt m (a.take j) (rd_T25 a j) < lcnt m b (rd_T25 a j) := by
  unfold lmatch
  rw [List.all_eq_true]
  exact ⟨fun h j hj => of_decide_eq_true (h j (List.mem_range.2 hj)), fun h j hj => decide_eq_true (h j (List.mem_range.1 hj))⟩
theorem gives_outer (a b : List S25) (m : Int) (hm : 0 ≤ m ∧ m < 512) (wa : ∀ e ∈ a, lwf e = true) (wb : ∀ e ∈ b, lwf e = true) (la : a.length ≤ 60) (lb : b.length ≤ 60) :
    ∀ (d k i : Nat) (g : List Bool) (all : Bool), a.length - i = d → i ≤ a.length → g.length = b.length → (∀ e, gcnt m b g e = min (lcnt m (a.take i) e) (lcnt m b e)) → (all = true ↔ ∀ j : Nat, j < i → lcnt m (a.take j) (rd_T25 a j) < lcnt m b (rd_T25 a j)) → 200 * d + 200 ≤ k →
    chamberlainlaw19_LogGives.l0 k a b m g all (i : Int) = some true := by
  intro d
  induction d with
  | zero =>
    intro k i g all h1 h2 _ _ h5 h6
    obtain ⟨k, rfl⟩ : ∃ q, k = q + 1 := ⟨k - 1, by omega⟩
    obtain rfl : i = a.length := by omega
    rw [chamberlainlaw19_LogGives.l0, if_neg (by omega), match_eq a b m hm wa wb (by omega) (by omega), Option.bind_some]
    have : lmatch m a b = all := by rw [Bool.eq_iff_iff, lmatch_pos, h5]
    rw [this, beq_self_eq_true]
  | succ d ih =>
    intro k i g all h1 h2 h3 h4 h5 h6
    obtain ⟨k, rfl⟩ : ∃ q, k = q + 1 := ⟨k - 1, by omega⟩
    have hi : i < a.length := by omega
    have ri := rdE a i hi
    have sn := fun e => lcnt.snoc m a i hi e
    rw [ri] at sn
    rw [chamberlainlaw19_LogGives.l0, if_pos (by omega), w64 (by omega) (by omega)]
    refine gives_inner a b m hm la lb i hi all g h3 (200 * d + 200) true ?_ ?_ b.length k (Nat.le_refl _) (fun j h hj _ => by omega) (by omega)
    · intro k' hk' hn
      have full := gcnt_all m a[i] b g h3 hn
      rw [h4] at full
      refine ih k' (i + 1) g false (by omega) (by omega) h3 (fun e => ?_) ⟨(fun q => by cases q), (fun q => ?_)⟩ hk'
      · rw [h4 e, sn e]
        cases c : leq m a[i] e with
        | true =>
          have c1 := lcnt.congr m (a.take i) c
          have c2 := lcnt.congr m b c
          rw [if_pos rfl]; omega
        | false => rw [if_neg (by decide)]; omega
      · have := q i (by omega)
        rw [ri] at this
        omega
    · intro k' j hj hk' hgj hq
      have less := gcnt_le m a[i] b (g.set j true)
      rw [gcnt_set m a[i] b g j hj hgj, hq, if_pos rfl, h4] at less
      refine ih k' (i + 1) (g.set j true) all (by omega) (by omega) (by rw [List.length_set]; exact h3) (fun e => ?_) ⟨fun q j' hj' => ?_, fun q => h5.2 (fun j' hj' => q j' (by omega))⟩ hk'
      · rw [gcnt_set m e b g j hj hgj, h4 e, sn e]
        have e1 : leq m b[j] e = leq m a[i] e := by
          cases c : leq m a[i] e with
          | true => exact leq_trans hq c
          | false =>
            cases c2 : leq m b[j] e with
            | false => rfl
            | true => rw [leq_trans (by rw [leq_symm]; exact hq) c2] at c; cases c
        rw [e1]
        cases c : leq m a[i] e with
        | true =>
          have c1 := lcnt.congr m (a.take i) c
          have c2 := lcnt.congr m b c
          rw [if_pos rfl]; omega
        | false => rw [if_neg (by decide)]; omega
      · by_cases c : j' = i
        · subst c; rw [ri]; omega
        · exact h5.1 q j' (by omega)
theorem LogGives : chamberlainlaw19_LogGives.Pure := by
  intro a b m _ ha _ hb hm
  have hm := wf16 hm
  obtain ⟨m1, m2⟩ := mask512 m hm
  obtain ⟨k, hk⟩ : ∃ k, k = 20000 := ⟨_, rfl⟩
  refine ⟨k + 1, ?_⟩
  unfold chamberlainlaw19_LogGives.f
  rw [awake60 _ (by omega), Option.bind_some, if_pos rfl]
  have jt : chamberlainlaw19_LogGives.j0 (k + 1) a b m true = some true := by
    rw [chamberlainlaw19_LogGives.j0, if_pos rfl, awake60 _ (by omega)]; rfl
  by_cases c1 : (a.length : Int) > 60
  · rw [if_pos c1, jt]
  · rw [if_neg c1]
    by_cases c2 : (b.length : Int) > 60
    · rw [show decide ((b.length : Int) > 60) = true from decide_eq_true c2, jt]
    · rw [show decide ((b.length : Int) > 60) = false from decide_eq_false c2, chamberlainlaw19_LogGives.j0, if_neg (by decide), if_pos (by omega), if_pos (by omega), m1, Int.toNat_natCast]
      exact gives_outer a b _ m2 (fun e he => wf_of e (ha e he)) (fun e he => wf_of e (hb e he)) (by omega) (by omega) a.length k 0 _ true (by omega) (by omega) (by simp) (fun e => by rw [gcnt_none]; simp [lcnt]) ⟨fun _ j hj => by omega, fun _ => rfl⟩ (by omega)

end Go.Proofs.Ytmmpiblmggkghaa.Pure
