/- What is read as data of a type is a value of that type's kind: for numbers, bools, texts, rows and structs of these. -/
import Derived.Test.YthlcpbendleihaaWWords
import Derived.ProofKit
import Derived.OpenShut
import Derived.ChangeOld
import Derived.Below
namespace Go.Proofs.YthlcpbendleihaaW.Opens
open Go Go.RowKit Go.ChangeShapes Go.WideShapes Go.Proofs.YthlcpbendleihaaW.PrintWords
/-- Whatever is read as data of a type is a value of a kind, and meets g. -/
def Opens {α : Type} (P : Program) (t : TypeId) (d : Kd α) (g : α → Prop) : Prop :=
  P.cellsOf t = d.sz ∧ ∀ (H : Type) (enc : TypeId × Value → H) (w : World) (base : Nat) (spare : Nat → Bool) (held : Bool) (fuel : Nat) (cs : List Value) (x : DataW H × List MemPlace),
    DataW.trod enc P w base spare held fuel t cs = some x → ∃ y : α, d.K w y cs ∧ g y
theorem opens_int {P : Program} {t : TypeId} {k : IntKind} (ht : P.underlying t = some (.int k)) (hc : P.cellsOf t = 1) : Opens P t (Kd.int k) (fun n => (Lit.int k n).wf = true) := by
  refine ⟨hc, fun H enc w base spare held fuel cs x h => ?_⟩
  obtain ⟨n, rfl, _, hw⟩ := DataW.trod_int ht h
  exact ⟨n, rfl, hw⟩
theorem opens_bool {P : Program} {t : TypeId} (ht : P.underlying t = some .bool) (hc : P.cellsOf t = 1) : Opens P t Kd.bool (fun _ => True) := by
  refine ⟨hc, fun H enc w base spare held fuel cs x h => ?_⟩
  obtain ⟨b, rfl, _⟩ := DataW.trod_bool ht h
  exact ⟨b, rfl, trivial⟩
theorem opens_string {P : Program} {t : TypeId} (ht : P.underlying t = some .string) (hc : P.cellsOf t = 1) : Opens P t Kd.string (fun s => s.size ≤ maxLen) := by
  refine ⟨hc, fun H enc w base spare held fuel cs x h => ?_⟩
  obtain ⟨s, rfl, _, hs⟩ := DataW.trod_string ht h
  exact ⟨s, rfl, hs⟩
theorem opens_row {α : Type} {P : Program} {t e : TypeId} {d : Kd α} {g : α → Prop} (ht : P.underlying t = some (.slice e)) (he : Opens P e d g)
    {H : Type} {enc : TypeId × Value → H} {w : World} {base : Nat} {spare : Nat → Bool} {held : Bool} {fuel : Nat} {cs : List Value} {x : DataW H × List MemPlace} (h : DataW.trod enc P w base spare held fuel t cs = some x) :
    ∃ (l : List α) (A : Option Addr) (c : Nat), cs = [.slice A l.length c] ∧ l.length ≤ c ∧ c ≤ maxLen ∧ d.C w A l.length l ∧ ∀ y ∈ l, g y := by
  rcases DataW.trod_slice ht h with ⟨rfl, _⟩ | ⟨a, len, cap, elems, rest, n, _, rfl, _, hb, hl, hm, hlen, hel, _⟩
  · exact ⟨[], none, 0, rfl, Nat.le_refl _, Nat.zero_le _, Kd.C_nil d w, by simp⟩
  have each : ∀ i, i < len → ∃ c y, w.cells? base (a.add (i * P.cellsOf e)) (P.cellsOf e) = some c ∧ d.K w y c ∧ g y := by
    intro i hi
    have h1 := hel i hi
    have hi' : i < elems.length := by omega
    rw [List.getElem?_eq_getElem hi', Option.bind_eq_some_iff] at h1
    obtain ⟨c, hc, ht2⟩ := h1
    obtain ⟨y, hk, hg⟩ := he.2 _ _ _ _ _ _ _ _ _ ht2
    exact ⟨c, y, hc, hk, hg⟩
  let ys : List α := List.ofFn (fun i : Fin len => (each i.1 i.2).choose_spec.choose)
  have hys : ys.length = len := by simp [ys]
  have hget : ∀ i (hi : i < len), ys[i]? = some (each i hi).choose_spec.choose := by
    intro i hi
    simp [ys, hi]
  have hmax : maxLen ≤ 9223372036854775807 := by decide
  refine ⟨ys, some a, cap, by rw [hys], by rw [hys]; exact hl, hm, ⟨rfl, by rw [hys]; omega, fun _ => ⟨a, rfl, fun j p hj => ?_⟩⟩, fun y hy => ?_⟩
  · have hjl : j < len := by
      rcases Nat.lt_or_ge j len with q | q
      · exact q
      · rw [List.getElem?_eq_none (by omega)] at hj; cases hj
    rw [hget j hjl] at hj
    cases hj
    have sp := (each j hjl).choose_spec.choose_spec
    obtain ⟨_, hcl, hcc⟩ := World.cells?_some sp.1
    refine ⟨(each j hjl).choose, by rw [hcl]; exact he.1, sp.2.1, fun i u hu => ?_⟩
    have hi : i < P.cellsOf e := by
      rcases Nat.lt_or_ge i (P.cellsOf e) with q | q
      · exact q
      · rw [List.getElem?_eq_none (by omega)] at hu; cases hu
    have := hcc i hi
    rw [hu] at this
    rw [he.1] at this
    have e1 : (a.add (j * d.sz)).add i = a.add (j * d.sz + i) := by
      simp only [Addr.add]
      by_cases q1 : j * d.sz = 0 <;> by_cases q2 : i = 0 <;> simp [q1, q2, Nat.add_assoc]
    rw [e1] at this
    exact this
  · obtain ⟨i, hi, e⟩ := List.getElem_of_mem hy
    have hi2 : i < len := by omega
    have h2 := hget i hi2
    rw [List.getElem?_eq_getElem hi] at h2
    have h3 := Option.some.inj h2
    rw [← e, h3]
    exact (each i hi2).choose_spec.choose_spec.2.2
theorem opens_slice {α : Type} {P : Program} {t e : TypeId} {d : Kd α} {g : α → Prop} (ht : P.underlying t = some (.slice e)) (hc : P.cellsOf t = 1) (he : Opens P e d g) : Opens P t (Kd.slice e d) (fun l => l.length ≤ maxLen ∧ ∀ y ∈ l, g y) := by
  refine ⟨hc, fun H enc w base spare held fuel cs x h => ?_⟩
  obtain ⟨l, A, c, rfl, hl, hm, hC, hg⟩ := opens_row ht he h
  exact ⟨l, ⟨A, c, rfl, hl, hC⟩, Nat.le_trans hl hm, hg⟩
/-- A struct's fields from a place on. -/
def OpensF {α : Type} (P : Program) (off : Nat) (fs : List Field) (d : Kd α) (g : α → Prop) : Prop :=
  ∀ (H : Type) (enc : TypeId × Value → H) (w : World) (base : Nat) (spare : Nat → Bool) (held : Bool) (n : Nat) (cs : List Value), (∀ f ∈ fs, ∃ x, DataW.trod enc P w base spare held n f.type ((cs.drop f.offset).take (P.cellsOf f.type)) = some x) →
    cs.length = off + d.sz → ∃ y : α, d.K w y (cs.drop off) ∧ g y
theorem opensF_one {α : Type} {P : Program} {off : Nat} {f : Field} {d : Kd α} {g : α → Prop} (ho : f.offset = off) (h : Opens P f.type d g) : OpensF P off [f] d g := by
  intro H enc w base spare held n cs hx hl
  obtain ⟨x, hx⟩ := hx f (by simp)
  rw [ho, h.1, List.take_of_length_le (by rw [List.length_drop]; omega)] at hx
  exact h.2 _ _ _ _ _ _ _ _ _ hx
theorem opensF_cons {α β : Type} {P : Program} {off : Nat} {f : Field} {fs : List Field} {d : Kd α} {d' : Kd β} {g : α → Prop} {g' : β → Prop} (ho : f.offset = off) (h : Opens P f.type d g) (hs : OpensF P (off + d.sz) fs d' g') :
    OpensF P off (f :: fs) (Kd.pair d d') (fun p => g p.1 ∧ g' p.2) := by
  intro H enc w base spare held n cs hx hl
  obtain ⟨x, hx0⟩ := hx f (by simp)
  rw [ho, h.1] at hx0
  obtain ⟨y, hk, hg⟩ := h.2 _ _ _ _ _ _ _ _ _ hx0
  have hl2 : cs.length = off + (d.sz + d'.sz) := hl
  obtain ⟨y', hk', hg'⟩ := hs H enc w base spare held n cs (fun f' hf' => hx f' (by simp [hf'])) (by omega)
  refine ⟨(y, y'), ⟨_, _, ?_, hk, hk'⟩, hg, hg'⟩
  rw [← List.drop_drop, List.take_append_drop]
theorem opens_struct {α β : Type} {P : Program} {t : TypeId} {fs : Array Field} {d : Kd α} {g : α → Prop} (f : β → α) (inv : α → β) (hinv : ∀ a, f (inv a) = a) (ht : P.underlying t = some (.struct fs)) (hc : P.cellsOf t = d.sz) (h : OpensF P 0 fs.toList d g) :
    Opens P t (Kd.iso d f) (fun x => g (f x)) := by
  refine ⟨hc, fun H enc w base spare held fuel cs x hx => ?_⟩
  obtain ⟨xs, n, _, _, hl, hlen, hf⟩ := DataW.trod_struct ht hx
  obtain ⟨y, hk, hg⟩ := h H enc w base spare held n cs (fun f' hf' => by
    obtain ⟨i, hi, e⟩ := List.getElem_of_mem hf'
    have h1 : fs[i]? = some f' := by rw [← e]; simp at hi; simp [hi]
    have h2 := hf i f' h1
    have hi2 : i < xs.length := by rw [hlen]; simpa using hi
    rw [List.getElem?_eq_getElem hi2] at h2
    exact ⟨_, h2⟩) (by rw [hl, hc]; omega)
  rw [List.drop_zero] at hk
  refine ⟨inv y, ?_, ?_⟩
  · show d.K w (f (inv y)) cs
    rw [hinv]; exact hk
  · show g (f (inv y))
    rw [hinv]; exact hg
theorem opens_imp {α : Type} {P : Program} {t : TypeId} {d : Kd α} {g g' : α → Prop} (h : Opens P t d g) (hg : ∀ y, g y → g' y) : Opens P t d g' :=
  ⟨h.1, fun H enc w base spare held fuel cs x hx => by obtain ⟨y, a, b⟩ := h.2 H enc w base spare held fuel cs x hx; exact ⟨y, a, hg y b⟩⟩
end Go.Proofs.YthlcpbendleihaaW.Opens
