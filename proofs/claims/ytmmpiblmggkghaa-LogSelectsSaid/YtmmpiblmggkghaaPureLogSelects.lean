/- Which events fit a pattern is the document's, either way round, for every row, pattern and mask; no condition. -/
import Derived.Test.YtmmpiblmggkghaaQLogSelects
namespace Go.Proofs.Ytmmpiblmggkghaa.Pure
open Go Go.RowKit Go.Proofs.Ytmmpiblmggkghaa.PLogSelects Go.Proofs.YtmmpiblmggkghaaW.PrintWords Go.Proofs.YtmmpiblmggkghaaW.PrintLast Go.Proofs.YtmmpiblmggkghaaW.PrintMore

theorem wf32 {x : Int} (h : (Lit.int .u32 x).wf = true) : 0 ≤ x ∧ x < 4294967296 := by
  simp only [Lit.wf, IntKind.min, IntKind.max, IntKind.signed, IntKind.bits, Bool.and_eq_true] at h
  simp at h
  omega
theorem wf8 {x : Int} (h : (Lit.int .u8 x).wf = true) : 0 ≤ x ∧ x < 256 := by
  simp only [Lit.wf, IntKind.min, IntKind.max, IntKind.signed, IntKind.bits, Bool.and_eq_true] at h
  simp at h
  omega
theorem wf16 {x : Int} (h : (Lit.int .u16 x).wf = true) : 0 ≤ x ∧ x < 65536 := by
  simp only [Lit.wf, IntKind.min, IntKind.max, IntKind.signed, IntKind.bits, Bool.and_eq_true] at h
  simp at h
  omega
theorem wf64 {x : Int} (h : (Lit.int .i64 x).wf = true) : -9223372036854775808 ≤ x ∧ x ≤ 9223372036854775807 := by
  simp only [Lit.wf, IntKind.min, IntKind.max, IntKind.signed, IntKind.bits, Bool.and_eq_true] at h
  simp at h
  omega
theorem w64 {x : Int} (h1 : -9223372036854775808 ≤ x) (h2 : x ≤ 9223372036854775807) : wrap64 x = x := by
  unfold wrap64
  omega
theorem rd_nat (xs : List Int) (i : Nat) (h : i < xs.length) : rd xs (i : Int) = xs[i] := by
  unfold rd
  simp [List.getD_eq_getElem?_getD, h]
/-- From place i on, n places: does p hold of all? -/
def allF (p : Nat → Bool) : Nat → Nat → Bool
  | 0, _ => true
  | n + 1, i => p i && allF p n (i + 1)
theorem allF_iff (p : Nat → Bool) (n i : Nat) : allF p n i = true ↔ ∀ j, i ≤ j → j < i + n → p j = true := by
  induction n generalizing i with
  | zero => simp [allF]; intro j h1 h2; omega
  | succ n ih =>
    simp only [allF, Bool.and_eq_true, ih]
    constructor
    · rintro ⟨h0, h⟩ j h1 h2
      by_cases e : j = i
      · subst e; exact h0
      · exact h j (by omega) (by omega)
    · intro h
      exact ⟨h i (by omega) (by omega), fun j h1 h2 => h j (by omega) (by omega)⟩
/-- The first place from i on, of n, of which p holds. -/
def fnd (p : Nat → Bool) : Nat → Nat → Option Nat
  | 0, _ => none
  | n + 1, i => if p i = true then some i else fnd p n (i + 1)
theorem fnd_some {p : Nat → Bool} {n i j : Nat} (h : fnd p n i = some j) : i ≤ j ∧ j < i + n ∧ p j = true ∧ ∀ m, i ≤ m → m < j → p m = false := by
  induction n generalizing i with
  | zero => simp [fnd] at h
  | succ n ih =>
    simp only [fnd] at h
    by_cases e : p i = true
    · rw [if_pos e] at h
      cases h
      exact ⟨Nat.le_refl _, by omega, e, fun m h1 h2 => by omega⟩
    · rw [if_neg e] at h
      obtain ⟨h1, h2, h3, h4⟩ := ih h
      refine ⟨by omega, by omega, h3, fun m m1 m2 => ?_⟩
      by_cases c : m = i
      · subst c; simpa using e
      · exact h4 m (by omega) m2
theorem fnd_none {p : Nat → Bool} {n i : Nat} (h : fnd p n i = none) : ∀ m, i ≤ m → m < i + n → p m = false := by
  induction n generalizing i with
  | zero => intro m h1 h2; omega
  | succ n ih =>
    simp only [fnd] at h
    by_cases e : p i = true
    · rw [if_pos e] at h; cases h
    · rw [if_neg e] at h
      intro m h1 h2
      by_cases c : m = i
      · subst c; simpa using e
      · exact ih h m (by omega) (by omega)
theorem fnd_eq_some {p : Nat → Bool} {n i j : Nat} (h1 : i ≤ j) (h2 : j < i + n) (h3 : p j = true) (h4 : ∀ m, i ≤ m → m < j → p m = false) : fnd p n i = some j := by
  cases h : fnd p n i with
  | none => have := fnd_none h j h1 h2; rw [this] at h3; cases h3
  | some q =>
    obtain ⟨a, b, c, d⟩ := fnd_some h
    congr 1
    rcases Nat.lt_trichotomy q j with e | e | e
    · have := h4 q a e; rw [this] at c; cases c
    · exact e
    · have := d j h1 e; rw [this] at h3; cases h3
theorem fnd_eq_none {p : Nat → Bool} {n i : Nat} (h : ∀ m, i ≤ m → m < i + n → p m = false) : fnd p n i = none := by
  cases e : fnd p n i with
  | none => rfl
  | some q =>
    obtain ⟨a, b, c, _⟩ := fnd_some e
    rw [h q a b] at c; cases c
theorem rows_eq (a b : List Int) (h : a.length = b.length) : allF (fun i => decide (rd a (i : Int) = rd b (i : Int))) a.length 0 = decide (a = b) := by
  rw [Bool.eq_iff_iff, allF_iff]
  simp only [decide_eq_true_eq]
  constructor
  · intro H
    apply List.ext_getElem h
    intro i h1 h2
    have := H i (by omega) (by omega)
    rw [rd_nat a i h1, rd_nat b i h2] at this
    exact this
  · intro e j _ _
    rw [e]
/-- A loop that asks place by place. -/
theorem all_loop (f : Nat → Nat → Option Bool) (n : Nat) (p : Nat → Bool) (h : ∀ k i, i ≤ n → f (k + 1) i = if i < n then (if p i = true then f k (i + 1) else some false) else some true) :
    ∀ (d k i : Nat), n - i = d → i ≤ n → d < k → f k i = some (allF p d i) := by
  intro d
  induction d with
  | zero =>
    intro k i h1 h2 h3
    obtain ⟨k, rfl⟩ : ∃ m, k = m + 1 := ⟨k - 1, by omega⟩
    rw [h k i h2, if_neg (by omega)]; rfl
  | succ d ih =>
    intro k i h1 h2 h3
    obtain ⟨k, rfl⟩ : ∃ m, k = m + 1 := ⟨k - 1, by omega⟩
    rw [h k i h2, if_pos (by omega)]
    simp only [allF]
    cases e : p i with
    | true => rw [if_pos rfl, ih k (i + 1) (by omega) (by omega) (by omega)]; simp
    | false => simp
/-- A loop that looks for the first place. -/
theorem fnd_loop {α : Type} (f : Nat → Nat → Option α) (n : Nat) (p : Nat → Bool) (yes : Nat → α) (no : α) (c : Nat) (h : ∀ k i, i ≤ n → c ≤ k → f (k + 1) i = if i < n then (if p i = true then some (yes i) else f k (i + 1)) else some no) :
    ∀ (d k i : Nat), n - i = d → i ≤ n → c + d < k → f k i = some (match fnd p d i with | some j => yes j | none => no) := by
  intro d
  induction d with
  | zero =>
    intro k i h1 h2 h3
    obtain ⟨k, rfl⟩ : ∃ m, k = m + 1 := ⟨k - 1, by omega⟩
    rw [h k i h2 (by omega), if_neg (by omega)]; rfl
  | succ d ih =>
    intro k i h1 h2 h3
    obtain ⟨k, rfl⟩ : ∃ m, k = m + 1 := ⟨k - 1, by omega⟩
    rw [h k i h2 (by omega), if_pos (by omega)]
    simp only [fnd]
    cases e : p i with
    | true => simp
    | false => rw [if_neg (by simp), if_neg (by simp), ih k (i + 1) (by omega) (by omega) (by omega)]
theorem rdE (l : List S25) (i : Nat) (h : i < l.length) : rd_T25 l (i : Int) = l[i] := by
  unfold rd_T25
  rw [Int.toNat_natCast, List.getD_eq_getElem?_getD, List.getElem?_eq_getElem h]
  rfl
theorem awake60 (k : Nat) (hk : 60 ≤ k) : chamberlainlaw19_awake.f k = some true := at_rounds chamberlainlaw19_awake.mono hk chamberlainlaw19_awake.at60
theorem mask512 (x : Int) (h : 0 ≤ x ∧ x < 65536) : wrap64 (Int.tmod x 512) = x % 512 ∧ 0 ≤ x % 512 ∧ x % 512 < 512 := by
  rw [Int.tmod_eq_emod_of_nonneg (by omega), w64 (by omega) (by omega)]
  omega
theorem wf_of (e : S25) (h : G25 e) : lwf e = true := by
  obtain ⟨h0, h1, h2, h3, h4, h5, h6, h7, h8, h9⟩ := h
  unfold lwf
  rw [h0, h1, h2, h3, h4, h5, h6, h7, h8, h9]
  rfl
theorem leq_symm (m : Int) (e e' : S25) : leq m e e' = leq m e' e := by
  rw [Bool.eq_iff_iff, lmatch.leq_iff, lmatch.leq_iff]
  exact eq_comm
theorem leq_trans {m : Int} {a b c : S25} (h1 : leq m a b = true) (h2 : leq m b c = true) : leq m a c = true := by
  rw [lmatch.leq_iff] at *
  rw [h1, h2]
theorem leq_refl (m : Int) (a : S25) : leq m a a = true := by rw [lmatch.leq_iff]
theorem fits_eq (e e' : S25) (m : Int) (h : 0 ≤ m ∧ m < 512) : log_Fits.f e.f0 e.f1 e.f2 e.f3 e.f4 e.f5 e.f6 e.f7 e.f8 e.f9 e'.f0 e'.f1 e'.f2 e'.f3 e'.f4 e'.f5 e'.f6 e'.f7 e'.f8 e'.f9 m = some (leq m e e') := by
  unfold log_Fits.f log_bare.f
  rw [if_pos h, if_pos h, Option.bind_some, Option.bind_some]
  unfold leq
  simp [Bool.and_assoc]
theorem lsame_eq (m : Int) (j : Nat) (x y : Int) : lsame m j x y = (lval m j x == lval m j y) := by
  unfold lsame lval
  cases lbit m j <;> simp
theorem rfits_eq (e e' : S25) (m : Int) (h : 0 ≤ m ∧ m < 512) : chamberlainref19_Fits.f e.f0 e.f1 e.f2 e.f3 e.f4 e.f5 e.f6 e.f7 e.f8 e.f9 e'.f0 e'.f1 e'.f2 e'.f3 e'.f4 e'.f5 e'.f6 e'.f7 e'.f8 e'.f9 m = some (leq m e e') := by
  unfold chamberlainref19_Fits.f
  rw [if_pos h]
  unfold lfits leq
  simp only [lsame_eq]
theorem rselect_loop (l : List S25) (y : S25) (m : Int) (h : 0 ≤ m ∧ m < 512) (hl : l.length ≤ 1000000) : ∀ (d k i : Nat) (acc : List S25), l.length - i = d → i ≤ l.length → acc.length + d ≤ 1000000 → d < k →
    chamberlainref19_Select.l0 k l m acc (i : Int) y.f0 y.f1 y.f2 y.f3 y.f4 y.f5 y.f6 y.f7 y.f8 y.f9 = some (acc ++ (l.drop i).filter (fun e => leq m e y)) := by
  intro d
  induction d with
  | zero =>
    intro k i acc h1 h2 h3 h4
    obtain ⟨k, rfl⟩ : ∃ m, k = m + 1 := ⟨k - 1, by omega⟩
    rw [chamberlainref19_Select.l0, if_neg (by omega), List.drop_eq_nil_of_le (by omega)]
    simp
  | succ d ih =>
    intro k i acc h1 h2 h3 h4
    obtain ⟨k, rfl⟩ : ∃ m, k = m + 1 := ⟨k - 1, by omega⟩
    have hi : i < l.length := by omega
    rw [chamberlainref19_Select.l0, if_pos (by omega), if_pos (by omega), rfits_eq (rd_T25 l (i : Int)) y m h, Option.bind_some, rdE l i hi, List.drop_eq_getElem_cons hi, List.filter_cons, w64 (by omega) (by omega), show (i : Int) + 1 = ((i + 1 : Nat) : Int) by omega]
    cases c : leq m l[i] y with
    | true =>
      rw [if_pos rfl, if_pos (by omega), ih k (i + 1) _ (by omega) (by omega) (by rw [List.length_append, List.length_singleton]; omega) (by omega), if_pos rfl]
      simp
    | false =>
      rw [if_neg (by decide), ih k (i + 1) _ (by omega) (by omega) (by omega) (by omega), if_neg (by decide)]
theorem rselect_eq (l : List S25) (y : S25) (m : Int) (k : Nat) (h : 0 ≤ m ∧ m < 512) (hl : l.length ≤ 1000000) (hk : l.length < k) : chamberlainref19_Select.f k l y.f0 y.f1 y.f2 y.f3 y.f4 y.f5 y.f6 y.f7 y.f8 y.f9 m = some (l.filter (fun e => leq m e y)) := by
  unfold chamberlainref19_Select.f
  have := rselect_loop l y m h hl l.length k 0 [] (by omega) (by omega) (by simp; omega) hk
  simp only [Int.natCast_zero, List.drop_zero, List.nil_append] at this
  exact this
theorem select_loop (l : List S25) (y : S25) (m : Int) (h : 0 ≤ m ∧ m < 512) (hl : l.length ≤ 1000000) : ∀ (d k i : Nat) (acc : List S25), l.length - i = d → i ≤ l.length → acc.length + d ≤ 1000000 → d < k →
    log_Select.l0 k m acc l (l.length : Int) (i : Int) y.f0 y.f1 y.f2 y.f3 y.f4 y.f5 y.f6 y.f7 y.f8 y.f9 = some (acc ++ (l.drop i).filter (fun e => leq m e y)) := by
  intro d
  induction d with
  | zero =>
    intro k i acc h1 h2 h3 h4
    obtain ⟨k, rfl⟩ : ∃ m, k = m + 1 := ⟨k - 1, by omega⟩
    rw [log_Select.l0, if_neg (by omega), List.drop_eq_nil_of_le (by omega)]
    simp
  | succ d ih =>
    intro k i acc h1 h2 h3 h4
    obtain ⟨k, rfl⟩ : ∃ m, k = m + 1 := ⟨k - 1, by omega⟩
    have hi : i < l.length := by omega
    rw [log_Select.l0, if_pos (by omega), if_pos (by omega), if_pos (by omega), fits_eq (rd_T25 l (i : Int)) y m h, Option.bind_some, rdE l i hi, List.drop_eq_getElem_cons hi, List.filter_cons, w64 (by omega) (by omega), show (i : Int) + 1 = ((i + 1 : Nat) : Int) by omega]
    cases c : leq m l[i] y with
    | true =>
      rw [if_pos rfl, if_pos (by omega), ih k (i + 1) _ (by omega) (by omega) (by rw [List.length_append, List.length_singleton]; omega) (by omega), if_pos rfl]
      simp
    | false =>
      rw [if_neg (by decide), ih k (i + 1) _ (by omega) (by omega) (by omega) (by omega), if_neg (by decide)]
theorem select_eq (l : List S25) (y : S25) (m : Int) (k : Nat) (h : 0 ≤ m ∧ m < 512) (hl : l.length ≤ 1000000) (hk : l.length < k) : log_Select.f k l y.f0 y.f1 y.f2 y.f3 y.f4 y.f5 y.f6 y.f7 y.f8 y.f9 m = some (l.filter (fun e => leq m e y)) := by
  unfold log_Select.f
  have := select_loop l y m h hl l.length k 0 [] (by omega) (by omega) (by simp; omega) hk
  simp only [Int.natCast_zero, List.drop_zero, List.nil_append] at this
  exact this
theorem events_loop (l : List S25) (hl : l.length ≤ 1000000) : ∀ (d k i : Nat), l.length - i = d → i ≤ l.length → d < k → chamberlainref12_Events.l0 k l l (i : Int) = some true := by
  intro d
  induction d with
  | zero =>
    intro k i h1 h2 h3
    obtain ⟨k, rfl⟩ : ∃ m, k = m + 1 := ⟨k - 1, by omega⟩
    rw [chamberlainref12_Events.l0, if_neg (by omega)]
  | succ d ih =>
    intro k i h1 h2 h3
    obtain ⟨k, rfl⟩ : ∃ m, k = m + 1 := ⟨k - 1, by omega⟩
    rw [chamberlainref12_Events.l0, if_pos (by omega), if_pos (by omega), if_pos (by omega), if_neg (by simp), w64 (by omega) (by omega), show (i : Int) + 1 = ((i + 1 : Nat) : Int) by omega]
    exact ih k (i + 1) (by omega) (by omega) (by omega)
theorem events_self (l : List S25) (k : Nat) (hl : l.length ≤ 1000000) (hk : l.length < k) : chamberlainref12_Events.f k l l = some true := by
  unfold chamberlainref12_Events.f
  rw [if_pos rfl]
  have := events_loop l hl l.length k 0 (by omega) (by omega) hk
  simpa using this
theorem selects_loop (l : List S25) (y : S25) (m : Int) (h : 0 ≤ m ∧ m < 512) (hl : l.length ≤ 200) : ∀ (d k i : Nat), l.length - i = d → i ≤ l.length → 1000 + d < k → chamberlainlaw19_LogSelects.l0 k l m (i : Int) y.f0 y.f1 y.f2 y.f3 y.f4 y.f5 y.f6 y.f7 y.f8 y.f9 = some true := by
  intro d
  induction d with
  | zero =>
    intro k i h1 h2 h3
    obtain ⟨k, rfl⟩ : ∃ m, k = m + 1 := ⟨k - 1, by omega⟩
    have lf : (l.filter (fun e => leq m e y)).length ≤ l.length := List.length_filter_le _ _
    rw [chamberlainlaw19_LogSelects.l0, if_neg (by omega), select_eq l y m k h (by omega) (by omega), Option.bind_some, rselect_eq l y m k h (by omega) (by omega), Option.bind_some, events_self _ _ (by omega) (by omega)]
    rfl
  | succ d ih =>
    intro k i h1 h2 h3
    obtain ⟨k, rfl⟩ : ∃ m, k = m + 1 := ⟨k - 1, by omega⟩
    rw [chamberlainlaw19_LogSelects.l0, if_pos (by omega), if_pos (by omega), fits_eq (rd_T25 l (i : Int)) y m h, Option.bind_some, rfits_eq (rd_T25 l (i : Int)) y m h, Option.bind_some, if_neg (by simp), fits_eq y (rd_T25 l (i : Int)) m h, Option.bind_some, Option.bind_some, leq_symm m y, if_neg (by simp), w64 (by omega) (by omega), show (i : Int) + 1 = ((i + 1 : Nat) : Int) by omega]
    exact ih k (i + 1) (by omega) (by omega) (by omega)
theorem LogSelects : chamberlainlaw19_LogSelects.Pure := by
  intro l y0 y1 y2 y3 y4 y5 y6 y7 y8 y9 m _ _ _ _ _ _ _ _ _ _ _ _ hm
  have hm := wf16 hm
  obtain ⟨m1, m2⟩ := mask512 m hm
  obtain ⟨k, hk⟩ : ∃ k, k = 20000 := ⟨_, rfl⟩
  refine ⟨k + 1, ?_⟩
  unfold chamberlainlaw19_LogSelects.f
  rw [awake60 _ (by omega), Option.bind_some, if_pos rfl]
  by_cases c1 : (l.length : Int) > 200
  · rw [show decide ((l.length : Int) > 200) = true from decide_eq_true c1, chamberlainlaw19_LogSelects.j0, if_pos rfl, awake60 _ (by omega)]; rfl
  · rw [show decide ((l.length : Int) > 200) = false from decide_eq_false c1, chamberlainlaw19_LogSelects.j0, if_neg (by decide), m1]
    have := selects_loop l ⟨y0, y1, y2, y3, y4, y5, y6, y7, y8, y9⟩ (m % 512) m2 (by omega) l.length k 0 (by omega) (by omega) (by omega)
    simpa using this

end Go.Proofs.Ytmmpiblmggkghaa.Pure
