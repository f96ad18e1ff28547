/- Of a spoilt frame nothing, or another message, is read, for all messages; no condition but that the package's table is as it was laid. -/
import Derived.Test.YtkmgfleoondblaaDoorQMsgSpoilt
namespace Go.Proofs.YtkmgfleoondblaaDoor.Pure
open Go Go.RowKit Go.Proofs.YtkmgfleoondblaaDoor.PMsgSpoilt Go.Proofs.YtkmgfleoondblaaDoorW.PrintWords Go.Proofs.YtkmgfleoondblaaDoorW.PrintLast Go.Proofs.YtkmgfleoondblaaDoorW.PrintMore
set_option linter.unusedSimpArgs false
set_option linter.unusedVariables false

theorem wf32 {x : Int} (h : (Lit.int .u32 x).wf = true) : 0 ≤ x ∧ x < 4294967296 := by
  simp only [Lit.wf, IntKind.min, IntKind.max, IntKind.signed, IntKind.bits, Bool.and_eq_true] at h
  simp at h
  omega
theorem wf8 {x : Int} (h : (Lit.int .u8 x).wf = true) : 0 ≤ x ∧ x < 256 := by
  simp only [Lit.wf, IntKind.min, IntKind.max, IntKind.signed, IntKind.bits, Bool.and_eq_true] at h
  simp at h
  omega
theorem wf16 {x : Int} (h : (Lit.int .u16 x).wf = true) : 0 ≤ x ∧ x < 65536 := by
  simp only [Lit.wf, IntKind.min, IntKind.max, IntKind.signed, IntKind.bits, Bool.and_eq_true] at h
  simp at h
  omega
theorem wf64 {x : Int} (h : (Lit.int .i64 x).wf = true) : -9223372036854775808 ≤ x ∧ x ≤ 9223372036854775807 := by
  simp only [Lit.wf, IntKind.min, IntKind.max, IntKind.signed, IntKind.bits, Bool.and_eq_true] at h
  simp at h
  omega
theorem w64 {x : Int} (h1 : -9223372036854775808 ≤ x) (h2 : x ≤ 9223372036854775807) : wrap64 x = x := by
  unfold wrap64
  omega
theorem rd_nat (xs : List Int) (i : Nat) (h : i < xs.length) : rd xs (i : Int) = xs[i] := by
  unfold rd
  simp [List.getD_eq_getElem?_getD, h]
/-- From place i on, n places: does p hold of all? -/
def allF (p : Nat → Bool) : Nat → Nat → Bool
  | 0, _ => true
  | n + 1, i => p i && allF p n (i + 1)
theorem allF_iff (p : Nat → Bool) (n i : Nat) : allF p n i = true ↔ ∀ j, i ≤ j → j < i + n → p j = true := by
  induction n generalizing i with
  | zero => simp [allF]; intro j h1 h2; omega
  | succ n ih =>
    simp only [allF, Bool.and_eq_true, ih]
    constructor
    · rintro ⟨h0, h⟩ j h1 h2
      by_cases e : j = i
      · subst e; exact h0
      · exact h j (by omega) (by omega)
    · intro h
      exact ⟨h i (by omega) (by omega), fun j h1 h2 => h j (by omega) (by omega)⟩
/-- The first place from i on, of n, of which p holds. -/
def fnd (p : Nat → Bool) : Nat → Nat → Option Nat
  | 0, _ => none
  | n + 1, i => if p i = true then some i else fnd p n (i + 1)
theorem fnd_some {p : Nat → Bool} {n i j : Nat} (h : fnd p n i = some j) : i ≤ j ∧ j < i + n ∧ p j = true ∧ ∀ m, i ≤ m → m < j → p m = false := by
  induction n generalizing i with
  | zero => simp [fnd] at h
  | succ n ih =>
    simp only [fnd] at h
    by_cases e : p i = true
    · rw [if_pos e] at h
      cases h
      exact ⟨Nat.le_refl _, by omega, e, fun m h1 h2 => by omega⟩
    · rw [if_neg e] at h
      obtain ⟨h1, h2, h3, h4⟩ := ih h
      refine ⟨by omega, by omega, h3, fun m m1 m2 => ?_⟩
      by_cases c : m = i
      · subst c; simpa using e
      · exact h4 m (by omega) m2
theorem fnd_none {p : Nat → Bool} {n i : Nat} (h : fnd p n i = none) : ∀ m, i ≤ m → m < i + n → p m = false := by
  induction n generalizing i with
  | zero => intro m h1 h2; omega
  | succ n ih =>
    simp only [fnd] at h
    by_cases e : p i = true
    · rw [if_pos e] at h; cases h
    · rw [if_neg e] at h
      intro m h1 h2
      by_cases c : m = i
      · subst c; simpa using e
      · exact ih h m (by omega) (by omega)
theorem fnd_eq_some {p : Nat → Bool} {n i j : Nat} (h1 : i ≤ j) (h2 : j < i + n) (h3 : p j = true) (h4 : ∀ m, i ≤ m → m < j → p m = false) : fnd p n i = some j := by
  cases h : fnd p n i with
  | none => have := fnd_none h j h1 h2; rw [this] at h3; cases h3
  | some q =>
    obtain ⟨a, b, c, d⟩ := fnd_some h
    congr 1
    rcases Nat.lt_trichotomy q j with e | e | e
    · have := h4 q a e; rw [this] at c; cases c
    · exact e
    · have := d j h1 e; rw [this] at h3; cases h3
theorem fnd_eq_none {p : Nat → Bool} {n i : Nat} (h : ∀ m, i ≤ m → m < i + n → p m = false) : fnd p n i = none := by
  cases e : fnd p n i with
  | none => rfl
  | some q =>
    obtain ⟨a, b, c, _⟩ := fnd_some e
    rw [h q a b] at c; cases c
theorem rows_eq (a b : List Int) (h : a.length = b.length) : allF (fun i => decide (rd a (i : Int) = rd b (i : Int))) a.length 0 = decide (a = b) := by
  rw [Bool.eq_iff_iff, allF_iff]
  simp only [decide_eq_true_eq]
  constructor
  · intro H
    apply List.ext_getElem h
    intro i h1 h2
    have := H i (by omega) (by omega)
    rw [rd_nat a i h1, rd_nat b i h2] at this
    exact this
  · intro e j _ _
    rw [e]
/-- A loop that asks place by place. -/
theorem all_loop (f : Nat → Nat → Option Bool) (n : Nat) (p : Nat → Bool) (h : ∀ k i, i ≤ n → f (k + 1) i = if i < n then (if p i = true then f k (i + 1) else some false) else some true) :
    ∀ (d k i : Nat), n - i = d → i ≤ n → d < k → f k i = some (allF p d i) := by
  intro d
  induction d with
  | zero =>
    intro k i h1 h2 h3
    obtain ⟨k, rfl⟩ : ∃ m, k = m + 1 := ⟨k - 1, by omega⟩
    rw [h k i h2, if_neg (by omega)]; rfl
  | succ d ih =>
    intro k i h1 h2 h3
    obtain ⟨k, rfl⟩ : ∃ m, k = m + 1 := ⟨k - 1, by omega⟩
    rw [h k i h2, if_pos (by omega)]
    simp only [allF]
    cases e : p i with
    | true => rw [if_pos rfl, ih k (i + 1) (by omega) (by omega) (by omega)]; simp
    | false => simp
/-- A loop that looks for the first place. -/
theorem fnd_loop {α : Type} (f : Nat → Nat → Option α) (n : Nat) (p : Nat → Bool) (yes : Nat → α) (no : α) (c : Nat) (h : ∀ k i, i ≤ n → c ≤ k → f (k + 1) i = if i < n then (if p i = true then some (yes i) else f k (i + 1)) else some no) :
    ∀ (d k i : Nat), n - i = d → i ≤ n → c + d < k → f k i = some (match fnd p d i with | some j => yes j | none => no) := by
  intro d
  induction d with
  | zero =>
    intro k i h1 h2 h3
    obtain ⟨k, rfl⟩ : ∃ m, k = m + 1 := ⟨k - 1, by omega⟩
    rw [h k i h2 (by omega), if_neg (by omega)]; rfl
  | succ d ih =>
    intro k i h1 h2 h3
    obtain ⟨k, rfl⟩ : ∃ m, k = m + 1 := ⟨k - 1, by omega⟩
    rw [h k i h2 (by omega), if_pos (by omega)]
    simp only [fnd]
    cases e : p i with
    | true => simp
    | false => rw [if_neg (by simp), if_neg (by simp), ih k (i + 1) (by omega) (by omega) (by omega)]
theorem rsame_eq (a b : List Int) (k : Nat) (hb : a.length ≤ 4611686018427387904) (hk : a.length < k) : chamberlainref01_Same.f k a b = some (decide (a = b)) := by
  unfold chamberlainref01_Same.f
  by_cases hl : a.length = b.length
  · rw [if_pos (by omega)]
    have h := all_loop (fun k i => chamberlainref01_Same.l0 k a b (i : Int)) a.length (fun i => decide (rd a (i : Int) = rd b (i : Int))) (by
      intro k i hi
      simp only [chamberlainref01_Same.l0]
      by_cases c : i < a.length
      · rw [if_pos (by omega), if_pos (by omega), if_pos (by omega), if_pos c, w64 (by omega) (by omega)]
        simp
      · rw [if_neg (by omega), if_neg c]) a.length k 0 (by omega) (by omega) (by omega)
    simp only [Int.natCast_zero] at h
    rw [h, rows_eq a b hl]
  · rw [if_neg (by omega)]
    congr 1
    symm
    apply decide_eq_false
    intro e
    exact hl (by rw [e])
theorem awake60 (k : Nat) (hk : 60 ≤ k) : chamberlainlaw03_awake.f k = some true := at_rounds chamberlainlaw03_awake.mono hk chamberlainlaw03_awake.at60
-- [put]
theorem has_all : ((List.range 10).all fun k => (List.range 8).all fun t => decide (k < 1) || (decide (t < 2) || chamberlainref03_Has.f 2 (k : Int) (t : Int) == some (msg.hasB (k : Int) (t : Int)))) = true := by decide +kernel
theorem has_table (k : Nat) (h1 : 1 ≤ k) (h2 : k < 10) (t : Nat) (h3 : 2 ≤ t) (h4 : t < 8) : chamberlainref03_Has.f 2 (k : Int) (t : Int) = some (msg.hasB (k : Int) (t : Int)) := by
  have h := List.all_eq_true.1 (List.all_eq_true.1 has_all k (List.mem_range.2 h2)) t (List.mem_range.2 h4)
  rw [decide_eq_false (by omega), decide_eq_false (by omega), Bool.false_or, Bool.false_or] at h
  exact eq_of_beq h
theorem has_eq (K : Nat) (hK : 2 ≤ K) (k : Int) (h1 : 1 ≤ k) (h2 : k ≤ 9) (t : Nat) (h3 : 2 ≤ t) (h4 : t < 8) : chamberlainref03_Has.f K k (t : Int) = some (msg.hasB k (t : Int)) := by
  obtain ⟨n, rfl⟩ : ∃ n : Nat, k = (n : Int) := ⟨k.toNat, by omega⟩
  exact at_rounds (fun j => chamberlainref03_Has.mono (n : Int) (t : Int) j) hK (has_table n (by omega) (by omega) t h3 h4)
/-- A message's words by their tags. -/
def wd (k r a b n x m : Int) (t : Nat) : Int := ([0, k, r, a, b, n, x, m] : List Int).getD t 0
theorem six : ∀ a b c d e f : Bool, (if a = true then (if b = true then (if c = true then (if d = true then (if e = true then (if f = true then some true else some false) else some false) else some false) else some false) else some false) else some false) = some (a && b && c && d && e && f) := by decide
theorem may_in (k r a b n x m : Int) (h1 : 1 ≤ k) (h2 : k ≤ 9) : msg_May.f k r a b n x m = some (msg.mayB k r a b n x m) := by
  unfold msg_May.f
  rw [if_neg (by omega), if_neg (by omega)]
theorem may_out (k r a b n x m : Int) (h : k < 1 ∨ 9 < k) : msg_May.f k r a b n x m = some false := by
  unfold msg_May.f
  by_cases c : k < 1
  · rw [if_pos c]
  · rw [if_neg c, if_pos (by omega)]
/-- The answer of May, whatever the kind. -/
def mayA (k r a b n x m : Int) : Bool := if 1 ≤ k ∧ k ≤ 9 then msg.mayB k r a b n x m else false
theorem may_eq (k r a b n x m : Int) : msg_May.f k r a b n x m = some (mayA k r a b n x m) := by
  unfold mayA
  by_cases c : 1 ≤ k ∧ k ≤ 9
  · rw [if_pos c]; exact may_in _ _ _ _ _ _ _ c.1 c.2
  · rw [if_neg c]; exact may_out _ _ _ _ _ _ _ (by omega)
/-- A message's frame, its tags below a place. -/
def fr (k : Int) (ws : List Int) : Nat → List Int
  | 0 => [1, 1, k]
  | i + 1 => if 2 ≤ i then (if msg.hasB k (i : Int) then fr k ws i ++ [(i : Int), 1, ws.getD i 0] else fr k ws i) else fr k ws i
theorem fr_len (k : Int) (ws : List Int) (i : Nat) : (fr k ws i).length ≤ 3 + 3 * (i - 2) := by
  induction i with
  | zero => simp [fr]
  | succ i ih =>
    rw [fr]
    split
    · split
      · simp; omega
      · omega
    · omega
/-- What is put. -/
def putA (k r a b n x m : Int) : List Int × Int := if mayA k r a b n x m = true then (fr k [0, k, r, a, b, n, x, m] 8, 0) else ([], 1)
/-- A field's words. -/
def fw (f : S45) : List Int := [f.f0, (f.f1.length : Int)] ++ f.f1
theorem rd45 (l : List S45) (i : Nat) (h : i < l.length) : rd_T45 l (i : Int) = l[i] := by
  unfold rd_T45
  rw [Int.toNat_natCast, List.getD_eq_getElem?_getD, List.getElem?_eq_getElem h]
  rfl
theorem wput_loop (l : List S45) (hl : l.length ≤ 8) (hf : ∀ f ∈ l, 1 ≤ f.f0 ∧ f.f0 ≤ 255 ∧ f.f1.length ≤ 16) : ∀ (d K i : Nat) (out : List Int), l.length - i = d → i ≤ l.length → out.length + ((l.drop i).map (fun f => (fw f).length)).sum ≤ 64 → d < K →
    wire_Put.l0 K l out l (l.length : Int) (i : Int) = some (out ++ ((l.drop i).map fw).flatten, 0) := by
  intro d
  induction d with
  | zero =>
    intro K i out h1 h2 h3 h4
    obtain ⟨K, rfl⟩ : ∃ j, K = j + 1 := ⟨K - 1, by omega⟩
    rw [List.drop_eq_nil_of_le (by omega)] at h3 ⊢
    simp only [List.map_nil, List.sum_nil, Nat.add_zero] at h3
    rw [wire_Put.l0, if_neg (by omega), if_neg (by omega), if_neg (by omega)]
    simp
  | succ d ih =>
    intro K i out h1 h2 h3 h4
    obtain ⟨K, rfl⟩ : ∃ j, K = j + 1 := ⟨K - 1, by omega⟩
    have hi : i < l.length := by omega
    obtain ⟨q1, q2, q3⟩ := hf l[i] (List.getElem_mem hi)
    rw [List.drop_eq_getElem_cons hi] at h3 ⊢
    simp only [List.map_cons, List.sum_cons] at h3
    have hw : (fw l[i]).length = 2 + l[i].f1.length := by unfold fw; simp; omega
    rw [wire_Put.l0, if_pos (by omega), if_pos (by omega), if_pos (by omega), rd45 l i hi]
    have hm : wire_May.f l[i].f0 l[i].f1 = some true := by
      unfold wire_May.f
      rw [if_pos q1, if_pos q2, decide_eq_true (by omega)]
    rw [hm, Option.bind_some, if_pos rfl, Option.bind_some, if_pos (by simp; omega), Option.bind_some, if_pos (by simp; omega), show wrap64 ((i : Int) + 1) = ((i + 1 : Nat) : Int) by rw [w64 (by omega) (by omega)]; rfl, show ((l[i].f1.length : Int)) % 4294967296 = (l[i].f1.length : Int) by omega]
    rw [ih K (i + 1) _ (by omega) (by omega) (by simp only [List.length_append, List.length_cons, List.length_nil]; omega) (by omega)]
    rw [List.map_cons, List.flatten_cons]
    simp only [fw, List.append_assoc]
theorem wput_eq (l : List S45) (K : Nat) (hK : 9 ≤ K) (hl : l.length ≤ 8) (hf : ∀ f ∈ l, 1 ≤ f.f0 ∧ f.f0 ≤ 255 ∧ f.f1.length ≤ 16) (hs : (l.map (fun f => (fw f).length)).sum ≤ 64) : wire_Put.f K l = some ((l.map fw).flatten, 0) := by
  unfold wire_Put.f
  have := wput_loop l hl hf l.length K 0 [] (by omega) (by omega) (by simpa using hs) (by omega)
  simpa using this
theorem fl_fr (k : Int) (ws : List Int) (i : Nat) : ((msg.fl k ws i).map fw).flatten = fr k ws i := by
  induction i with
  | zero => simp [msg.fl, fr, fw]
  | succ i ih =>
    rw [msg.fl, fr]
    split
    · split
      · rw [List.map_append, List.flatten_append, ih]; simp [fw]
      · exact ih
    · exact ih
theorem fl_ok (k : Int) (ws : List Int) (i : Nat) (hi : i ≤ 8) : (msg.fl k ws i).length ≤ 1 + (i - 2) ∧ (∀ f ∈ msg.fl k ws i, 1 ≤ f.f0 ∧ f.f0 ≤ 255 ∧ f.f1.length = 1) ∧ ((msg.fl k ws i).map (fun f => (fw f).length)).sum = 3 * (msg.fl k ws i).length := by
  induction i with
  | zero => simp [msg.fl, fw]
  | succ i ih =>
    obtain ⟨i1, i2, i3⟩ := ih (by omega)
    rw [msg.fl]
    split
    · split
      · refine ⟨by simp; omega, fun f hf => ?_, ?_⟩
        · rcases List.mem_append.1 hf with q | q
          · exact i2 f q
          · obtain rfl := List.mem_singleton.1 q
            exact ⟨by show (1 : Int) ≤ (i : Int); omega, by show (i : Int) ≤ 255; omega, rfl⟩
        · rw [List.map_append, List.sum_append, i3]; simp [fw] <;> omega
      · exact ⟨by omega, i2, i3⟩
    · exact ⟨by omega, i2, i3⟩
theorem put_eq (k r a b n x m : Int) : msg_Put.f k r a b n x m = some (putA k r a b n x m) := by
  unfold msg_Put.f putA
  rw [may_eq, Option.bind_some]
  by_cases c : mayA k r a b n x m = true
  · rw [if_pos c, if_pos c]
    obtain ⟨q1, q2, q3⟩ := fl_ok k [0, k, r, a, b, n, x, m] 8 (Nat.le_refl _)
    rw [wput_eq _ 100 (by omega) (by omega) (fun f hf => ⟨(q2 f hf).1, (q2 f hf).2.1, by have := (q2 f hf).2.2; omega⟩) (by omega), fl_fr]
  · rw [if_neg c, if_neg c]
theorem putA_len (k r a b n x m : Int) : (putA k r a b n x m).1.length ≤ 30 := by
  unfold putA
  split
  · have := fr_len k [0, k, r, a, b, n, x, m] 8; show (fr k [0, k, r, a, b, n, x, m] 8).length ≤ 30; omega
  · simp
/-- The fields of so many tags from one on. -/
def tl (k : Int) (w : Nat → Int) : Nat → Nat → List S45
  | _, 0 => []
  | i, j + 1 => if 2 ≤ i ∧ msg.hasB k (i : Int) = true then ⟨(i : Int), [w i]⟩ :: tl k w (i + 1) j else tl k w (i + 1) j
theorem tl_snoc (k : Int) (w : Nat → Int) (i j : Nat) : tl k w i (j + 1) = tl k w i j ++ (if 2 ≤ i + j ∧ msg.hasB k ((i + j : Nat) : Int) = true then [⟨((i + j : Nat) : Int), [w (i + j)]⟩] else []) := by
  induction j generalizing i with
  | zero => simp only [tl, Nat.add_zero, List.nil_append]
  | succ j ih =>
    rw [tl, ih (i + 1), tl, show i + 1 + j = i + (j + 1) by omega]
    split <;> simp
theorem fl_tl (k r a b n x m : Int) (i : Nat) : msg.fl k [0, k, r, a, b, n, x, m] i = ⟨1, [k]⟩ :: tl k (wd k r a b n x m) 0 i := by
  induction i with
  | zero => rfl
  | succ i ih =>
    rw [msg.fl, tl_snoc, ih, Nat.zero_add]
    by_cases h : 2 ≤ i
    · by_cases q : msg.hasB k (i : Int) = true
      · rw [if_pos h, if_pos q, if_pos ⟨h, q⟩]; rfl
      · rw [if_pos h, if_neg q, if_neg (fun z => q z.2)]; simp
    · rw [if_neg h, if_neg (fun z => h z.1)]; simp
theorem tags {P : Nat → Prop} (h2 : P 2) (h3 : P 3) (h4 : P 4) (h5 : P 5) (h6 : P 6) (h7 : P 7) (t : Nat) (h : 2 ≤ t) (h8 : t < 8) : P t := by
  have : t = 2 ∨ t = 3 ∨ t = 4 ∨ t = 5 ∨ t = 6 ∨ t = 7 := by omega
  rcases this with rfl | rfl | rfl | rfl | rfl | rfl <;> assumption
theorem upd (k v r a b n x m : Int) (i t : Nat) (h : 2 ≤ t) (h8 : t < 8) : wd k (if i = 2 then v else r) (if i = 3 then v else a) (if i = 4 then v else b) (if i = 5 then v else n) (if i = 6 then v else x) (if i = 7 then v else m) t = if i = t then v else wd k r a b n x m t := by
  revert t
  exact fun t h h8 => tags (P := fun t => wd k (if i = 2 then v else r) (if i = 3 then v else a) (if i = 4 then v else b) (if i = 5 then v else n) (if i = 6 then v else x) (if i = 7 then v else m) t = if i = t then v else wd k r a b n x m t) rfl rfl rfl rfl rfl rfl t h h8
theorem len1 (l : List Int) (h : l.length = 1) : l = [rd l 0] := by
  match l, h with
  | [x], _ => rfl
theorem res_ok (k : Int) (j : Nat) (hj : j ≤ 8) : ∀ (fs : List S45) (r a b n x m k1 R A B N X M : Int), msg.res k j fs r a b n x m = (k1, R, A, B, N, X, M, 0) →
    k1 = k ∧ fs = tl k (wd k R A B N X M) (8 - j) j ∧ (∀ t, 2 ≤ t → t < 8 - j → wd k R A B N X M t = wd k r a b n x m t) ∧ (∀ t, 2 ≤ t → 8 - j ≤ t → t < 8 → msg.hasB k (t : Int) = false → wd k R A B N X M t = wd k r a b n x m t) := by
  induction j with
  | zero =>
    intro fs r a b n x m k1 R A B N X M h
    cases fs with
    | nil =>
      rw [msg.res] at h
      simp only [Prod.mk.injEq] at h
      obtain ⟨rfl, rfl, rfl, rfl, rfl, rfl, rfl, _⟩ := h
      exact ⟨rfl, rfl, fun _ _ _ => rfl, fun _ _ h1 h2 => by omega⟩
    | cons f ft =>
      rw [msg.res] at h
      simp only [Prod.mk.injEq] at h
      omega
  | succ j ih =>
    intro fs r a b n x m k1 R A B N X M h
    rw [msg.res_succ] at h
    by_cases c : 2 ≤ 7 - j ∧ msg.hasB k ((7 - j : Nat) : Int) = true
    · rw [if_pos c] at h
      cases fs with
      | nil => simp only [Prod.mk.injEq] at h; omega
      | cons f ft =>
        dsimp only at h
        by_cases d : f.f0 = ((7 - j : Nat) : Int) ∧ f.f1.length = 1
        · rw [if_pos d] at h
          obtain ⟨h1, h2, h3, h4⟩ := ih (by omega) _ _ _ _ _ _ _ _ _ _ _ _ _ _ h
          subst h1
          have hv : wd k1 R A B N X M (7 - j) = rd f.f1 0 := by
            have := h3 (7 - j) c.1 (by omega)
            rw [upd _ _ _ _ _ _ _ _ _ _ c.1 (by omega), if_pos rfl] at this
            exact this
          have hf : f = ⟨((7 - j : Nat) : Int), [wd k1 R A B N X M (7 - j)]⟩ := by
            obtain ⟨g0, g1⟩ := f
            rw [hv, ← len1 _ d.2]
            exact congrArg (fun z => (⟨z, g1⟩ : S45)) d.1
          refine ⟨rfl, ?_, fun t q1 q2 => ?_, fun t q1 q2 q3 q4 => ?_⟩
          · rw [show 8 - (j + 1) = 7 - j by omega, tl, if_pos c, ← hf, show 7 - j + 1 = 8 - j by omega, ← h2]
          · rw [h3 t q1 (by omega), upd _ _ _ _ _ _ _ _ _ _ q1 (by omega), if_neg (by omega)]
          · by_cases e : t = 7 - j
            · subst e; rw [c.2] at q4; cases q4
            · rw [h4 t q1 (by omega) q3 q4, upd _ _ _ _ _ _ _ _ _ _ q1 q3, if_neg (by omega)]
        · rw [if_neg d] at h; simp only [Prod.mk.injEq] at h; omega
    · rw [if_neg c] at h
      obtain ⟨h1, h2, h3, h4⟩ := ih (by omega) _ _ _ _ _ _ _ _ _ _ _ _ _ _ h
      refine ⟨h1, ?_, fun t q1 q2 => h3 t q1 (by omega), fun t q1 q2 q3 q4 => ?_⟩
      · rw [show 8 - (j + 1) = 7 - j by omega, tl, if_neg c, show 7 - j + 1 = 8 - j by omega]; exact h2
      · by_cases e : t = 7 - j
        · exact h3 t q1 (by omega)
        · exact h4 t q1 (by omega) q3 q4
theorem wd_inj (k r a b n x m R A B N X M : Int) (h : ∀ t, 2 ≤ t → t < 8 → wd k r a b n x m t = wd k R A B N X M t) : r = R ∧ a = A ∧ b = B ∧ n = N ∧ x = X ∧ m = M :=
  ⟨h 2 (by omega) (by omega), h 3 (by omega) (by omega), h 4 (by omega) (by omega), h 5 (by omega) (by omega), h 6 (by omega) (by omega), h 7 (by omega) (by omega)⟩
theorem res_tl (k R A B N X M : Int) (j : Nat) (hj : j ≤ 8) : ∀ (r a b n x m : Int), (∀ t, 2 ≤ t → t < 8 - j → wd k r a b n x m t = wd k R A B N X M t) → (∀ t, 2 ≤ t → 8 - j ≤ t → t < 8 → msg.hasB k (t : Int) = false → wd k r a b n x m t = wd k R A B N X M t) →
    msg.res k j (tl k (wd k R A B N X M) (8 - j) j) r a b n x m = (k, R, A, B, N, X, M, 0) := by
  induction j with
  | zero =>
    intro r a b n x m h1 h2
    obtain ⟨rfl, rfl, rfl, rfl, rfl, rfl⟩ := wd_inj _ _ _ _ _ _ _ _ _ _ _ _ _ (fun t q1 q2 => h1 t q1 (by omega))
    rfl
  | succ j ih =>
    intro r a b n x m h1 h2
    rw [msg.res_succ, show 8 - (j + 1) = 7 - j by omega, tl, show 7 - j + 1 = 8 - j by omega]
    by_cases c : 2 ≤ 7 - j ∧ msg.hasB k ((7 - j : Nat) : Int) = true
    · rw [if_pos c, if_pos c]
      dsimp only
      rw [if_pos ⟨rfl, rfl⟩]
      refine ih (by omega) _ _ _ _ _ _ (fun t q1 q2 => ?_) (fun t q1 q2 q3 q4 => ?_)
      · rw [upd _ _ _ _ _ _ _ _ _ _ q1 (by omega)]
        by_cases e : 7 - j = t
        · rw [if_pos e, ← e]; rfl
        · rw [if_neg e]; exact h1 t q1 (by omega)
      · rw [upd _ _ _ _ _ _ _ _ _ _ q1 q3, if_neg (by omega)]; exact h2 t q1 (by omega) q3 q4
    · rw [if_neg c, if_neg c]
      refine ih (by omega) _ _ _ _ _ _ (fun t q1 q2 => ?_) (fun t q1 q2 q3 q4 => h2 t q1 (by omega) q3 q4)
      by_cases e : t = 7 - j
      · subst e
        exact h2 _ q1 (by omega) (by omega) (by cases hq : msg.hasB k ((7 - j : Nat) : Int) with | true => exact absurd ⟨q1, hq⟩ c | false => rfl)
      · exact h1 t q1 (by omega)
theorem res_err (k : Int) (j : Nat) : ∀ (fs : List S45) (r a b n x m k1 R A B N X M e : Int), msg.res k j fs r a b n x m = (k1, R, A, B, N, X, M, e) → e = 0 ∨ (k1 = 0 ∧ R = 0 ∧ A = 0 ∧ B = 0 ∧ N = 0 ∧ X = 0 ∧ M = 0 ∧ e = 2) := by
  induction j with
  | zero =>
    intro fs r a b n x m k1 R A B N X M e h
    cases fs with
    | nil => rw [msg.res] at h; simp only [Prod.mk.injEq] at h; exact .inl h.2.2.2.2.2.2.2.symm
    | cons f ft => rw [msg.res] at h; simp only [Prod.mk.injEq] at h; omega
  | succ j ih =>
    intro fs r a b n x m k1 R A B N X M e h
    rw [msg.res_succ] at h
    split at h
    · cases fs with
      | nil => simp only [Prod.mk.injEq] at h; omega
      | cons f ft =>
        dsimp only at h
        split at h
        · exact ih _ _ _ _ _ _ _ _ _ _ _ _ _ _ _ h
        · simp only [Prod.mk.injEq] at h; omega
    · exact ih _ _ _ _ _ _ _ _ _ _ _ _ _ _ _ h
theorem mayB_iff (k r a b n x m : Int) : msg.mayB k r a b n x m = true ↔ ∀ t : Nat, 2 ≤ t → t < 8 → msg.hasB k (t : Int) = false → wd k r a b n x m t = 0 := by
  have e : ∀ (t : Nat) (v : Int), msg.okB k (t : Int) v = true ↔ (msg.hasB k (t : Int) = false → v = 0) := by
    intro t v
    unfold msg.okB
    cases msg.hasB k (t : Int) <;> simp
  unfold msg.mayB
  simp only [Bool.and_eq_true]
  constructor
  · rintro ⟨⟨⟨⟨⟨g2, g3⟩, g4⟩, g5⟩, g6⟩, g7⟩
    exact fun t h1 h2 => tags (P := fun t => msg.hasB k (t : Int) = false → wd k r a b n x m t = 0) ((e 2 _).1 g2) ((e 3 _).1 g3) ((e 4 _).1 g4) ((e 5 _).1 g5) ((e 6 _).1 g6) ((e 7 _).1 g7) t h1 h2
  · intro h
    exact ⟨⟨⟨⟨⟨(e 2 _).2 (h 2 (by omega) (by omega)), (e 3 _).2 (h 3 (by omega) (by omega))⟩, (e 4 _).2 (h 4 (by omega) (by omega))⟩, (e 5 _).2 (h 5 (by omega) (by omega))⟩, (e 6 _).2 (h 6 (by omega) (by omega))⟩, (e 7 _).2 (h 7 (by omega) (by omega))⟩
theorem wd0 (k : Int) (t : Nat) (h1 : 2 ≤ t) (h2 : t < 8) : wd k 0 0 0 0 0 0 t = 0 := tags (P := fun t => wd k 0 0 0 0 0 0 t = 0) rfl rfl rfl rfl rfl rfl t h1 h2
/-- The fields of a message that may be are read as it. -/
theorem top_fl (k r a b n x m : Int) (h : mayA k r a b n x m = true) : msg.top (msg.fl k [0, k, r, a, b, n, x, m] 8) = some (k, r, a, b, n, x, m, 0) := by
  unfold mayA at h
  by_cases q : 1 ≤ k ∧ k ≤ 9
  · rw [if_pos q] at h
    rw [fl_tl]
    dsimp only [msg.top]
    rw [if_pos ⟨rfl, rfl, q.1, q.2⟩]
    have := res_tl k r a b n x m 8 (Nat.le_refl _) 0 0 0 0 0 0 (fun t q1 q2 => by omega) (fun t q1 q2 q3 q4 => by rw [wd0 k t q1 q3, (mayB_iff k r a b n x m).1 h t q1 q3 q4])
    exact congrArg some this
  · rw [if_neg q] at h; cases h
/-- What is read out of fields is a message that may be, and these are its fields; or all is zero. -/
theorem top_inv (fs : List S45) : ∃ k r a b n x m e, msg.top fs = some (k, r, a, b, n, x, m, e) ∧ (e = 0 → mayA k r a b n x m = true ∧ fs = msg.fl k [0, k, r, a, b, n, x, m] 8) ∧ (e ≠ 0 → k = 0 ∧ r = 0 ∧ a = 0 ∧ b = 0 ∧ n = 0 ∧ x = 0 ∧ m = 0) := by
  cases fs with
  | nil => exact ⟨0, 0, 0, 0, 0, 0, 0, 4, rfl, fun h => by omega, fun _ => ⟨rfl, rfl, rfl, rfl, rfl, rfl, rfl⟩⟩
  | cons f ft =>
    dsimp only [msg.top]
    by_cases c : f.f0 = 1 ∧ f.f1.length = 1 ∧ 1 ≤ rd f.f1 0 ∧ rd f.f1 0 ≤ 9
    · rw [if_pos c]
      obtain ⟨k, hk⟩ : ∃ k, k = rd f.f1 0 := ⟨_, rfl⟩
      rw [← hk] at c ⊢
      obtain ⟨⟨k1, R, A, B, N, X, M, e⟩, hres⟩ : ∃ y, y = msg.res k 8 ft 0 0 0 0 0 0 := ⟨_, rfl⟩
      rw [← hres]
      refine ⟨k1, R, A, B, N, X, M, e, rfl, fun h => ?_, fun h => ?_⟩
      · subst h
        obtain ⟨h1, h2, h3, h4⟩ := res_ok k 8 (Nat.le_refl _) _ _ _ _ _ _ _ _ _ _ _ _ _ _ hres.symm
        subst h1
        refine ⟨?_, ?_⟩
        · unfold mayA
          rw [if_pos ⟨c.2.2.1, c.2.2.2⟩, mayB_iff]
          exact fun t q1 q2 q3 => by rw [h4 t q1 (by omega) q2 q3, wd0 k1 t q1 q2]
        · rw [fl_tl, h2]
          have hf : f = ⟨1, [k1]⟩ := by
            obtain ⟨g0, g1⟩ := f
            have e1 := len1 g1 c.2.1
            rw [hk]
            rw [← e1]
            exact congrArg (fun z => (⟨z, g1⟩ : S45)) c.1
          rw [hf]
      · have := res_err k 8 _ _ _ _ _ _ _ _ _ _ _ _ _ _ _ hres.symm
        omega
    · rw [if_neg c]
      exact ⟨0, 0, 0, 0, 0, 0, 0, 4, rfl, fun h => by omega, fun _ => ⟨rfl, rfl, rfl, rfl, rfl, rfl, rfl⟩⟩
theorem one_eq (t : Int) (l : List Int) (h : l.length ≤ 100) : wire_One.f t l = some (t, l) := by
  unfold wire_One.f slices_Clone_uint32_uint32.f
  rw [Option.bind_some, if_pos (by simp; omega), Option.bind_some, List.nil_append]
theorem wget_nil (K : Nat) (out : List S45) : wire_Get.l0 (K + 1) [] out 0 = some (out, 0) := by
  rw [wire_Get.l0, if_neg (by simp), if_pos rfl]
theorem wget_one (K : Nat) (a : Int) (out : List S45) : ∃ e, wire_Get.l0 (K + 1) [a] out 0 = some ([], e) ∧ e ≠ 0 := by
  rw [wire_Get.l0, if_pos (by simp)]
  by_cases c : (out.length : Int) = 8
  · rw [if_pos c, if_neg (by decide)]; exact ⟨3, rfl, by decide⟩
  · rw [if_neg c, if_pos (by simp), if_neg (by decide)]; exact ⟨2, rfl, by decide⟩
theorem wget_step (K : Nat) (a b : Int) (rest : List Int) (out : List S45) (hb : 0 ≤ b) (hl : rest.length ≤ 62) (ho : out.length ≤ 8) (hb2 : b < 4294967296) :
    wire_Get.l0 (K + 1) (a :: b :: rest) out 0 = if out.length = 8 then some ([], 3) else if a < 1 ∨ 255 < a ∨ 16 < b ∨ (rest.length : Int) < b then some ([], 2) else wire_Get.l0 K (rest.drop b.toNat) (out ++ [⟨a, rest.take b.toNat⟩]) 0 := by
  have e0 : rd (a :: b :: rest) 0 = a := rfl
  have e1 : rd (a :: b :: rest) 1 = b := rfl
  have e2 : ((a :: b :: rest).length : Int) = (rest.length : Int) + 2 := by simp; omega
  rw [wire_Get.l0, if_pos (by omega)]
  by_cases c8 : out.length = 8
  · rw [if_pos (by omega), if_neg (by decide), if_pos c8]
  rw [if_neg (by omega), if_neg c8, if_neg (by omega), if_pos (by omega), e0, e1]
  by_cases c1 : a < 1
  · rw [if_pos c1, if_neg (by decide), if_pos (.inl c1)]
  rw [if_neg c1]
  by_cases c2 : a > 255
  · rw [if_pos c2, if_neg (by decide), if_pos (.inr (.inl c2))]
  rw [if_neg c2, if_pos (by omega)]
  by_cases c3 : b > 16
  · rw [if_pos c3, if_neg (by decide), if_pos (.inr (.inr (.inl c3)))]
  rw [if_neg c3, w64 (x := b) (by omega) (by omega), e2, w64 (x := (rest.length : Int) + 2 - 2) (by omega) (by omega)]
  by_cases c4 : (rest.length : Int) < b
  · rw [if_pos (by omega), if_neg (by decide), if_pos (.inr (.inr (.inr c4)))]
  have e3 : (2 + b).toNat = b.toNat + 2 := by omega
  rw [if_neg (by omega), w64 (x := 2 + b) (by omega) (by omega), if_pos (by omega), if_pos (by omega), e3, show (List.take (b.toNat + 2) (a :: b :: rest)).drop 2 = rest.take b.toNat from rfl, one_eq a _ (by rw [List.length_take]; omega), Option.bind_some, if_pos (by omega), if_pos (by omega), if_neg (show ¬ (a < 1 ∨ 255 < a ∨ 16 < b ∨ (rest.length : Int) < b) by omega)]
  rfl
/-- A field that may be in a frame. -/
def okF (f : S45) : Prop := 1 ≤ f.f0 ∧ f.f0 ≤ 255 ∧ f.f1.length ≤ 16
theorem wget_flat (gs : List S45) : ∀ (K : Nat) (out : List S45), (∀ f ∈ gs, okF f) → out.length + gs.length ≤ 8 → ((gs.map fw).flatten).length ≤ 64 → gs.length < K → wire_Get.l0 K ((gs.map fw).flatten) out 0 = some (out ++ gs, 0) := by
  induction gs with
  | nil =>
    intro K out h1 h2 h3 h4
    obtain ⟨K, rfl⟩ : ∃ j, K = j + 1 := ⟨K - 1, by simp at h4; omega⟩
    simp only [List.map_nil, List.flatten_nil, List.append_nil]
    exact wget_nil K out
  | cons f gs ih =>
    intro K out h1 h2 h3 h4
    simp only [List.length_cons] at h2 h4
    obtain ⟨K, rfl⟩ : ∃ j, K = j + 1 := ⟨K - 1, by omega⟩
    obtain ⟨q1, q2, q3⟩ := h1 f (List.mem_cons_self)
    have e : ((f :: gs).map fw).flatten = f.f0 :: (f.f1.length : Int) :: (f.f1 ++ (gs.map fw).flatten) := by simp [fw]
    rw [e] at h3 ⊢
    simp only [List.length_cons, List.length_append] at h3
    rw [wget_step K _ _ _ _ (by omega) (by rw [List.length_append]; omega) (by omega) (by omega), if_neg (by omega), if_neg (by rw [List.length_append]; omega), Int.toNat_natCast, List.drop_left, List.take_left]
    rw [ih K (out ++ [(⟨f.f0, f.f1⟩ : S45)]) (fun g hg => h1 g (List.mem_cons_of_mem _ hg)) (by simp; omega) (by omega) (by omega)]
    simp
theorem wget_inv (d : Nat) : ∀ (K : Nat) (l : List Int) (out : List S45), l.length ≤ d → l.length ≤ 64 → (∀ x ∈ l, 0 ≤ x ∧ x < 4294967296) → out.length ≤ 8 → d < K →
    ∃ fs e, wire_Get.l0 K l out 0 = some (fs, e) ∧ (e = 0 → ∃ gs, fs = out ++ gs ∧ (gs.map fw).flatten = l) := by
  induction d with
  | zero =>
    intro K l out h1 h2 h3 h4 h5
    obtain ⟨K, rfl⟩ : ∃ j, K = j + 1 := ⟨K - 1, by omega⟩
    obtain rfl : l = [] := List.eq_nil_of_length_eq_zero (by omega)
    exact ⟨out, 0, wget_nil K out, fun _ => ⟨[], by simp, rfl⟩⟩
  | succ d ih =>
    intro K l out h1 h2 h3 h4 h5
    obtain ⟨K, rfl⟩ : ∃ j, K = j + 1 := ⟨K - 1, by omega⟩
    match l, h1, h2, h3 with
    | [], _, _, _ => exact ⟨out, 0, wget_nil K out, fun _ => ⟨[], by simp, rfl⟩⟩
    | [a], _, _, _ =>
      obtain ⟨e, he, hne⟩ := wget_one K a out
      exact ⟨[], e, he, fun h => absurd h hne⟩
    | a :: b :: rest, h1, h2, h3 =>
      have hb := h3 b (by simp)
      simp only [List.length_cons] at h1 h2
      rw [wget_step K a b rest out hb.1 (by omega) h4 hb.2]
      by_cases c8 : out.length = 8
      · rw [if_pos c8]; exact ⟨[], 3, rfl, fun h => by omega⟩
      rw [if_neg c8]
      by_cases c : a < 1 ∨ 255 < a ∨ 16 < b ∨ (rest.length : Int) < b
      · rw [if_pos c]; exact ⟨[], 2, rfl, fun h => by omega⟩
      rw [if_neg c]
      obtain ⟨fs, e, hr, hz⟩ := ih K (rest.drop b.toNat) (out ++ [⟨a, rest.take b.toNat⟩]) (by rw [List.length_drop]; omega) (by rw [List.length_drop]; omega) (fun x hx => h3 x (List.mem_cons_of_mem _ (List.mem_cons_of_mem _ (List.mem_of_mem_drop hx)))) (by simp; omega) (by omega)
      refine ⟨fs, e, hr, fun h => ?_⟩
      obtain ⟨gs, g1, g2⟩ := hz h
      refine ⟨⟨a, rest.take b.toNat⟩ :: gs, by rw [g1]; simp, ?_⟩
      simp only [List.map_cons, List.flatten_cons, g2, fw]
      rw [List.length_take, Nat.min_eq_left (by omega), Int.toNat_of_nonneg hb.1]
      simp
theorem getf_flat (K : Nat) (hK : 20 ≤ K) (k r a b n x m : Int) (h : mayA k r a b n x m = true) : msg_Get.f K (fr k [0, k, r, a, b, n, x, m] 8) = some (k, r, a, b, n, x, m, 0) := by
  obtain ⟨q1, q2, q3⟩ := fl_ok k [0, k, r, a, b, n, x, m] 8 (Nat.le_refl _)
  have hl := fr_len k [0, k, r, a, b, n, x, m] 8
  unfold msg_Get.f wire_Get.f
  rw [if_neg (by omega), ← fl_fr, wget_flat _ K [] (fun f hf => ⟨(q2 f hf).1, (q2 f hf).2.1, by have := (q2 f hf).2.2; omega⟩) (by simp; omega) (by rw [fl_fr]; omega) (by omega), Option.bind_some, List.nil_append]
  exact top_fl k r a b n x m h
theorem get_inv (K : Nat) (hK : 300 ≤ K) (l : List Int) (hl : l.length ≤ 200) (hw : ∀ y ∈ l, 0 ≤ y ∧ y < 4294967296) : ∃ k r a b n x m e, msg_Get.f K l = some (k, r, a, b, n, x, m, e) ∧ (e = 0 → mayA k r a b n x m = true ∧ fr k [0, k, r, a, b, n, x, m] 8 = l) ∧ (e ≠ 0 → k = 0 ∧ r = 0 ∧ a = 0 ∧ b = 0 ∧ n = 0 ∧ x = 0 ∧ m = 0) := by
  unfold msg_Get.f wire_Get.f
  by_cases c : (l.length : Int) > 64
  · rw [if_pos c, Option.bind_some, if_neg (by decide)]
    exact ⟨0, 0, 0, 0, 0, 0, 0, 3, rfl, fun h => by omega, fun _ => ⟨rfl, rfl, rfl, rfl, rfl, rfl, rfl⟩⟩
  rw [if_neg c]
  obtain ⟨fs, e, he, hz⟩ := wget_inv 64 K l [] (by omega) (by omega) hw (by simp) (by omega)
  rw [he, Option.bind_some]
  by_cases h : e = 0
  · rw [if_pos h]
    obtain ⟨gs, g1, g2⟩ := hz h
    obtain ⟨k, r, a, b, n, x, m, e2, t1, t2, t3⟩ := top_inv fs
    refine ⟨k, r, a, b, n, x, m, e2, t1, fun h2 => ?_, t3⟩
    obtain ⟨u1, u2⟩ := t2 h2
    refine ⟨u1, ?_⟩
    rw [← fl_fr, ← u2, g1, List.nil_append, g2]
  · rw [if_neg h]
    exact ⟨0, 0, 0, 0, 0, 0, 0, e, rfl, fun h2 => absurd h2 h, fun _ => ⟨rfl, rfl, rfl, rfl, rfl, rfl, rfl⟩⟩
-- [ref Get]
theorem rd_drop (l : List Int) (n j : Nat) : rd l ((n + j : Nat) : Int) = rd (l.drop n) (j : Int) := by
  unfold rd
  rw [Int.toNat_natCast, Int.toNat_natCast]
  simp [List.getD_eq_getElem?_getD, List.getElem?_drop]
theorem wget_one2 (K : Nat) (a : Int) (out : List S45) : wire_Get.l0 (K + 1) [a] out 0 = if out.length = 8 then some ([], 3) else some ([], 2) := by
  rw [wire_Get.l0, if_pos (by simp)]
  by_cases c : out.length = 8
  · rw [if_pos (by omega), if_neg (by decide), if_pos c]
  · rw [if_neg (by omega), if_pos (by simp), if_neg (by decide), if_neg c]
theorem has_any (K : Nat) (hK : 2 ≤ K) (k : Int) (h1 : 1 ≤ k) (h2 : k ≤ 9) (t : Int) : chamberlainref03_Has.f K k t = some (msg.hasB k t) := by
  by_cases h : 2 ≤ t ∧ t < 8
  · obtain ⟨n, rfl⟩ : ∃ n : Nat, t = (n : Int) := ⟨t.toNat, by omega⟩
    exact has_eq K hK k h1 h2 n (by omega) (by omega)
  · obtain ⟨K, rfl⟩ : ∃ j, K = j + 1 := ⟨K - 1, by omega⟩
    have n2 : t ≠ 2 := by omega
    have n3 : t ≠ 3 := by omega
    have n4 : t ≠ 4 := by omega
    have n5 : t ≠ 5 := by omega
    have n6 : t ≠ 6 := by omega
    have n7 : t ≠ 7 := by omega
    have hk : k = 1 ∨ k = 2 ∨ k = 3 ∨ k = 4 ∨ k = 5 ∨ k = 6 ∨ k = 7 ∨ k = 8 ∨ k = 9 := by omega
    have e1 : chamberlainref03_Has.f (K + 1) k t = some false := by
      rcases hk with rfl | rfl | rfl | rfl | rfl | rfl | rfl | rfl | rfl <;> simp [chamberlainref03_Has.f, chamberlainref03_Has.j0, n2, n3, n4, n5, n6, n7]
    have e2 : msg.hasB k t = false := by
      rcases hk with rfl | rfl | rfl | rfl | rfl | rfl | rfl | rfl | rfl <;> simp [msg.hasB, n2, n3, n4, n5, n6, n7]
    rw [e1, e2]
theorem updI (k v r a b n x m i : Int) (t : Nat) (h : 2 ≤ t) (h8 : t < 8) : wd k (if i = 2 then v else r) (if i = 3 then v else a) (if i = 4 then v else b) (if i = 5 then v else n) (if i = 6 then v else x) (if i = 7 then v else m) t = if i = (t : Int) then v else wd k r a b n x m t := by
  revert t
  exact fun t h h8 => tags (P := fun t => wd k (if i = 2 then v else r) (if i = 3 then v else a) (if i = 4 then v else b) (if i = 5 then v else n) (if i = 6 then v else x) (if i = 7 then v else m) t = if i = (t : Int) then v else wd k r a b n x m t) rfl rfl rfl rfl rfl rfl t h h8
theorem rd45_at (pre post : List S45) (f : S45) : rd_T45 (pre ++ f :: post) (pre.length : Int) = f := by
  rw [rd45 _ _ (by simp)]
  simp
theorem flat_len (gs : List S45) : 2 * gs.length ≤ ((gs.map fw).flatten).length := by
  induction gs with
  | nil => simp
  | cons f gs ih => simp only [List.map_cons, List.flatten_cons, List.length_append, List.length_cons]; have : 2 ≤ (fw f).length := by unfold fw; simp
                    omega

/-- A word that a kind has; 0 of one that it hasn't. -/
def keep (k : Int) (t : Nat) (v : Int) : Int := if msg.hasB k (t : Int) = true then v else 0
theorem bare2 (K : Nat) (hK : 2 ≤ K) (k : Int) (h1 : 1 ≤ k) (h2 : k ≤ 9) (c r a b n x m : Int) : chamberlainref03_Bare.l0 (K + 1) k 2 c r a b n x m = chamberlainref03_Bare.l0 K k 3 c (keep k 2 r) a b n x m := by
  rw [chamberlainref03_Bare.l0, if_pos (by omega), has_any K hK k h1 h2 2, Option.bind_some]
  unfold keep
  cases h : msg.hasB k 2 <;> simp [h]
theorem bare3 (K : Nat) (hK : 2 ≤ K) (k : Int) (h1 : 1 ≤ k) (h2 : k ≤ 9) (c r a b n x m : Int) : chamberlainref03_Bare.l0 (K + 1) k 3 c r a b n x m = chamberlainref03_Bare.l0 K k 4 c r (keep k 3 a) b n x m := by
  rw [chamberlainref03_Bare.l0, if_pos (by omega), has_any K hK k h1 h2 3, Option.bind_some]
  unfold keep
  cases h : msg.hasB k 3 <;> simp [h]
theorem bare4 (K : Nat) (hK : 2 ≤ K) (k : Int) (h1 : 1 ≤ k) (h2 : k ≤ 9) (c r a b n x m : Int) : chamberlainref03_Bare.l0 (K + 1) k 4 c r a b n x m = chamberlainref03_Bare.l0 K k 5 c r a (keep k 4 b) n x m := by
  rw [chamberlainref03_Bare.l0, if_pos (by omega), has_any K hK k h1 h2 4, Option.bind_some]
  unfold keep
  cases h : msg.hasB k 4 <;> simp [h]
theorem bare5 (K : Nat) (hK : 2 ≤ K) (k : Int) (h1 : 1 ≤ k) (h2 : k ≤ 9) (c r a b n x m : Int) : chamberlainref03_Bare.l0 (K + 1) k 5 c r a b n x m = chamberlainref03_Bare.l0 K k 6 c r a b (keep k 5 n) x m := by
  rw [chamberlainref03_Bare.l0, if_pos (by omega), has_any K hK k h1 h2 5, Option.bind_some]
  unfold keep
  cases h : msg.hasB k 5 <;> simp [h]
theorem bare6 (K : Nat) (hK : 2 ≤ K) (k : Int) (h1 : 1 ≤ k) (h2 : k ≤ 9) (c r a b n x m : Int) : chamberlainref03_Bare.l0 (K + 1) k 6 c r a b n x m = chamberlainref03_Bare.l0 K k 7 c r a b n (keep k 6 x) m := by
  rw [chamberlainref03_Bare.l0, if_pos (by omega), has_any K hK k h1 h2 6, Option.bind_some]
  unfold keep
  cases h : msg.hasB k 6 <;> simp [h]
theorem bare7 (K : Nat) (hK : 2 ≤ K) (k : Int) (h1 : 1 ≤ k) (h2 : k ≤ 9) (c r a b n x m : Int) : chamberlainref03_Bare.l0 (K + 1) k 7 c r a b n x m = chamberlainref03_Bare.l0 K k 8 c r a b n x (keep k 7 m) := by
  rw [chamberlainref03_Bare.l0, if_pos (by omega), has_any K hK k h1 h2 7, Option.bind_some]
  unfold keep
  cases h : msg.hasB k 7 <;> simp [h]
theorem bare_eq (K : Nat) (hK : 20 ≤ K) (k : Int) (h1 : 1 ≤ k) (h2 : k ≤ 9) (r a b n x m : Int) : chamberlainref03_Bare.f K k r a b n x m = some (k, keep k 2 r, keep k 3 a, keep k 4 b, keep k 5 n, keep k 6 x, keep k 7 m) := by
  obtain ⟨K, rfl⟩ : ∃ j, K = j + 7 := ⟨K - 7, by omega⟩
  unfold chamberlainref03_Bare.f
  rw [bare2 (K + 6) (by omega) k h1 h2, bare3 (K + 5) (by omega) k h1 h2, bare4 (K + 4) (by omega) k h1 h2, bare5 (K + 3) (by omega) k h1 h2, bare6 (K + 2) (by omega) k h1 h2, bare7 (K + 1) (by omega) k h1 h2, chamberlainref03_Bare.l0, if_neg (by omega)]
theorem keep_not (k : Int) (t : Nat) (v : Int) (h : msg.hasB k (t : Int) = false) : keep k t v = 0 := by
  unfold keep
  rw [h, if_neg (by decide)]
theorem keep_wf (k : Int) (t : Nat) (v : Int) (h : 0 ≤ v ∧ v < 4294967296) : 0 ≤ keep k t v ∧ keep k t v < 4294967296 := by
  unfold keep
  split
  · exact h
  · omega
theorem bare_may (k : Int) (h1 : 1 ≤ k) (h2 : k ≤ 9) (r a b n x m : Int) : mayA k (keep k 2 r) (keep k 3 a) (keep k 4 b) (keep k 5 n) (keep k 6 x) (keep k 7 m) = true := by
  unfold mayA
  rw [if_pos ⟨h1, h2⟩, mayB_iff]
  exact fun t q1 q2 => tags (P := fun t => msg.hasB k (t : Int) = false → wd k (keep k 2 r) (keep k 3 a) (keep k 4 b) (keep k 5 n) (keep k 6 x) (keep k 7 m) t = 0) (keep_not k 2 r) (keep_not k 3 a) (keep_not k 4 b) (keep_not k 5 n) (keep_not k 6 x) (keep_not k 7 m) t q1 q2
theorem fr_mod (k : Int) (ws : List Int) (i : Nat) : (fr k ws i).length % 3 = 0 ∧ 3 ≤ (fr k ws i).length := by
  induction i with
  | zero => simp [fr]
  | succ i ih =>
    rw [fr]
    split
    · split
      · rw [List.length_append]; simp only [List.length_cons, List.length_nil]; omega
      · exact ih
    · exact ih
theorem fr_wf (k : Int) (ws : List Int) (hk : 0 ≤ k ∧ k < 4294967296) (hw : ∀ i, 0 ≤ ws.getD i 0 ∧ ws.getD i 0 < 4294967296) (i : Nat) (hi : i ≤ 8) : ∀ y ∈ fr k ws i, 0 ≤ y ∧ y < 4294967296 := by
  induction i with
  | zero =>
    intro y hy
    simp only [fr, List.mem_cons, List.not_mem_nil, or_false] at hy
    rcases hy with rfl | rfl | rfl
    · omega
    · omega
    · exact hk
  | succ i ih =>
    intro y hy
    rw [fr] at hy
    split at hy
    · split at hy
      · rcases List.mem_append.1 hy with q | q
        · exact ih (by omega) y q
        · simp only [List.mem_cons, List.not_mem_nil, or_false] at q
          rcases q with rfl | rfl | rfl
          · omega
          · omega
          · exact hw i
      · exact ih (by omega) y hy
    · exact ih (by omega) y hy
theorem getD8 (k r a b n x m : Int) (hk : 0 ≤ k ∧ k < 4294967296) (h2 : 0 ≤ r ∧ r < 4294967296) (h3 : 0 ≤ a ∧ a < 4294967296) (h4 : 0 ≤ b ∧ b < 4294967296) (h5 : 0 ≤ n ∧ n < 4294967296) (h6 : 0 ≤ x ∧ x < 4294967296) (h7 : 0 ≤ m ∧ m < 4294967296) (i : Nat) : 0 ≤ ([0, k, r, a, b, n, x, m] : List Int).getD i 0 ∧ ([0, k, r, a, b, n, x, m] : List Int).getD i 0 < 4294967296 := by
  match i with
  | 0 => exact ⟨Int.le_refl _, show (0 : Int) < 4294967296 by decide⟩
  | 1 => exact hk
  | 2 => exact h2
  | 3 => exact h3
  | 4 => exact h4
  | 5 => exact h5
  | 6 => exact h6
  | 7 => exact h7
  | i + 8 => simp
/-- Of words that are no whole number of threes nothing is read. -/
theorem get_none (K : Nat) (hK : 300 ≤ K) (l : List Int) (hl : l.length ≤ 200) (hw : ∀ y ∈ l, 0 ≤ y ∧ y < 4294967296) (h3 : l.length % 3 ≠ 0) : ∃ y, msg_Get.f K l = some y ∧ y.2.2.2.2.2.2.2 ≠ 0 := by
  obtain ⟨k, r, a, b, n, x, m, e, hg, h0, h1⟩ := get_inv K hK l hl hw
  refine ⟨_, hg, fun he => ?_⟩
  obtain ⟨_, u⟩ := h0 he
  have := (fr_mod k [0, k, r, a, b, n, x, m] 8).1
  rw [u] at this
  exact h3 this
theorem MsgSpoilt : chamberlainlaw03_MsgSpoilt.Pure := by
  intro kd w0 w1 w2 w3 w4 w5 at_ ot en hkd v0 v1 v2 v3 v4 v5 hat hot hen
  replace hkd := wf8 hkd
  replace hat := wf8 hat
  replace hot := wf32 hot
  replace hen := wf32 hen
  obtain ⟨K, hK⟩ : ∃ K, K = 20000 := ⟨_, rfl⟩
  refine ⟨K + 2, ?_⟩
  unfold chamberlainlaw03_MsgSpoilt.f
  rw [awake60 _ (by omega), Option.bind_some, if_pos rfl, Int.tmod_eq_emod_of_nonneg hkd.1]
  obtain ⟨k, hk⟩ : ∃ k, k = (1 + kd % 9) % 4294967296 := ⟨_, rfl⟩
  rw [← hk]
  have hk1 : 1 ≤ k := by omega
  have hk9 : k ≤ 9 := by omega
  clear hk
  rw [bare_eq _ (by omega) k hk1 hk9, Option.bind_some]
  dsimp only
  have hm := bare_may k hk1 hk9 w0 w1 w2 w3 w4 w5
  have g0 := keep_wf k 2 w0 (wf32 v0)
  have g1 := keep_wf k 3 w1 (wf32 v1)
  have g2 := keep_wf k 4 w2 (wf32 v2)
  have g3 := keep_wf k 5 w3 (wf32 v3)
  have g4 := keep_wf k 6 w4 (wf32 v4)
  have g5 := keep_wf k 7 w5 (wf32 v5)
  generalize keep k 2 w0 = r at *
  generalize keep k 3 w1 = a at *
  generalize keep k 4 w2 = b at *
  generalize keep k 5 w3 = n at *
  generalize keep k 6 w4 = x at *
  generalize keep k 7 w5 = m at *
  have hpa : putA k r a b n x m = (fr k [0, k, r, a, b, n, x, m] 8, 0) := by unfold putA; rw [if_pos hm]
  rw [put_eq, Option.bind_some, hpa]
  dsimp only
  rw [if_pos rfl, chamberlainlaw03_MsgSpoilt.j0]
  have hfl := fr_len k [0, k, r, a, b, n, x, m] 8
  obtain ⟨hm3, hm4⟩ := fr_mod k [0, k, r, a, b, n, x, m] 8
  have hgm := fun j (hj : 20 ≤ j) => getf_flat j hj k r a b n x m hm
  have hlw := fr_wf k [0, k, r, a, b, n, x, m] (by omega) (getD8 k r a b n x m (by omega) g0 g1 g2 g3 g4 g5) 8 (Nat.le_refl _)
  obtain ⟨l, hl⟩ : ∃ l, l = fr k [0, k, r, a, b, n, x, m] 8 := ⟨_, rfl⟩
  rw [← hl] at hfl hm3 hm4 hgm hlw ⊢
  rw [if_neg (by simp only [beq_iff_eq]; omega), Option.bind_some, if_pos (by rw [List.length_nil]; omega), Option.bind_some, List.nil_append, if_pos (by omega)]
  obtain ⟨y1, e1, f1⟩ := get_none (K + 1) (by omega) (l ++ [en]) (by simp; omega) (fun y hy => by
    rcases List.mem_append.1 hy with q | q
    · exact hlw y q
    · obtain rfl := List.mem_singleton.1 q; exact hen) (by simp; omega)
  rw [e1, Option.bind_some, w64 (x := (l.length : Int) - 1) (by omega) (by omega), if_pos (by omega), if_pos (by omega)]
  obtain ⟨y2, e2, f2⟩ := get_none (K + 1) (by omega) (l.take ((l.length : Int) - 1).toNat) (by rw [List.length_take]; omega) (fun y hy => hlw y (List.mem_of_mem_take hy)) (by rw [List.length_take]; omega)
  rw [e2, Option.bind_some, if_neg (by omega), Option.bind_some, if_pos (by rw [List.length_nil]; omega), Option.bind_some, w64 (x := at_) (by omega) (by omega), Int.tmod_eq_emod_of_nonneg hat.1]
  obtain ⟨i, hi⟩ : ∃ i : Nat, at_ % (l.length : Int) = (i : Int) := ⟨(at_ % (l.length : Int)).toNat, by have := Int.emod_nonneg at_ (show (l.length : Int) ≠ 0 by omega); omega⟩
  have hil : i < l.length := by have := Int.emod_lt_of_pos at_ (show (0 : Int) < (l.length : Int) by omega); omega
  rw [hi, List.nil_append, Int.toNat_natCast, if_pos (by omega), if_pos (by omega)]
  obtain ⟨k', r', a', b', n', x', m', e, hg, h0, h1⟩ := get_inv (K + 1) (by omega) (l.set i ot) (by rw [List.length_set]; omega) (fun y hy => by
    rcases List.mem_or_eq_of_mem_set hy with q | q
    · exact hlw y q
    · rw [q]; exact hot)
  rw [hg, Option.bind_some, if_neg f1, if_neg f2, if_pos (by omega), rd_nat l i hil]
  dsimp only
  by_cases c : l[i] = ot
  · have hs : l.set i ot = l := by rw [← c]; exact List.set_getElem_self hil
    rw [hs, hgm _ (by omega)] at hg
    have hg := Option.some.inj hg
    simp only [Prod.mk.injEq] at hg
    obtain ⟨rfl, rfl, rfl, rfl, rfl, rfl, rfl, _⟩ := hg
    simp [c]
  · have hne : ¬ (k' = k ∧ r' = r ∧ a' = a ∧ b' = b ∧ n' = n ∧ x' = x ∧ m' = m) := by
      rintro ⟨rfl, rfl, rfl, rfl, rfl, rfl, rfl⟩
      by_cases he : e = 0
      · have u := (h0 he).2
        rw [← hl] at u
        have := congrArg (fun z => z[i]?) u
        simp only [List.getElem?_eq_getElem hil, List.getElem?_set_self hil] at this
        exact c (Option.some.inj this)
      · have := (h1 he).1; omega
    have e9 : (k' == k && (r' == r && (a' == a && (b' == b && (n' == n && (x' == x && m' == m)))))) = false := by
      cases q : (k' == k && (r' == r && (a' == a && (b' == b && (n' == n && (x' == x && m' == m)))))) with
      | false => rfl
      | true => simp only [Bool.and_eq_true, beq_iff_eq] at q; exact absurd q hne
    rw [e9]
    simp [c]

end Go.Proofs.YtkmgfleoondblaaDoor.Pure
