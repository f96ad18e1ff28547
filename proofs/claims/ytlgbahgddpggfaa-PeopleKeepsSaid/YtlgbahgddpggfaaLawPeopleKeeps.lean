/- The law PeopleKeeps: for every input that can be read it returns true, and each argument reads as it did; no condition. -/
import Derived.Test.YtlgbahgddpggfaaRows
import Derived.Test.YtlgbahgddpggfaaPPeopleKeepsx5
import Derived.Test.YtlgbahgddpggfaaQPeopleKeeps
import Derived.Test.YtlgbahgddpggfaaPurePeopleKeeps
import Derived.Test.YtlgbahgddpggfaaOpens
import Derived.WalkKit
import Derived.ProofKit
import Derived.OpenShut
import Derived.ShutString
import Derived.ChangeOld
import Derived.Below
import Derived.SizedLaws
import Derived.Carry
namespace Go.Proofs.Ytlgbahgddpggfaa.peopleKeeps
open Go Go.ChangeShapes Go.WideShapes Go.ChangeAt Go.RowKit Go.Proofs.Ytlgbahgddpggfaa.PPeopleKeeps Go.Proofs.YtlgbahgddpggfaaW.PrintWords Go.Proofs.YtlgbahgddpggfaaW.Opens Go.Proofs.Ytlgbahgddpggfaa.Pure
open Go.ChangeMaps (open_string shut_string)
theorem own : ownKnob Try.prog.godebug = none := by kernel_rfl
theorem laidOut : laidOutB Try.prog = true := by kernel_rfl
theorem op36 : Opens Try.prog 36 (Kd.int .u32) (fun y => (Lit.int .u32 y).wf = true) := opens_int Try.underlying36 (by kernel_rfl)
theorem op22 : Opens Try.prog 22 (Kd.slice 36 (Kd.int .u32)) (fun y => (y.length ≤ maxLen ∧ ∀ y0 ∈ y, (Lit.int .u32 y0).wf = true)) := opens_slice Try.underlying22 (by kernel_rfl) op36
theorem op3 : Opens Try.prog 3 (Kd.int .i64) (fun y => (Lit.int .i64 y).wf = true) := opens_int Try.underlying3 (by kernel_rfl)
theorem op66 : Opens Try.prog 66 k66 G66 := opens_struct (fun x : S66 => (x.f0, x.f1, x.f2, x.f3, x.f4, x.f5, x.f6, x.f7, x.f8)) (fun y => ⟨y.1, y.2.1, y.2.2.1, y.2.2.2.1, y.2.2.2.2.1, y.2.2.2.2.2.1, y.2.2.2.2.2.2.1, y.2.2.2.2.2.2.2.1, y.2.2.2.2.2.2.2.2⟩) (fun _ => rfl) Try.underlying66 (by kernel_rfl) (opensF_cons rfl op3 (opensF_cons rfl op3 (opensF_cons rfl op36 (opensF_cons rfl op36 (opensF_cons rfl op36 (opensF_cons rfl op36 (opensF_cons rfl op36 (opensF_cons rfl op36 (opensF_one rfl op3)))))))))
theorem op37 : Opens Try.prog 37 (Kd.slice 66 k66) (fun y => (y.length ≤ maxLen ∧ ∀ y0 ∈ y, G66 y0)) := opens_slice Try.underlying37 (by kernel_rfl) op66
theorem op4 : Opens Try.prog 4 Kd.bool (fun _ => True) := opens_bool Try.underlying4 (by kernel_rfl)
theorem op39 : Opens Try.prog 39 k39 G39 := opens_struct (fun x : S39 => (x.f0, x.f1, x.f2, x.f3, x.f4, x.f5)) (fun y => ⟨y.1, y.2.1, y.2.2.1, y.2.2.2.1, y.2.2.2.2.1, y.2.2.2.2.2⟩) (fun _ => rfl) Try.underlying39 (by kernel_rfl) (opensF_cons rfl op36 (opensF_cons rfl op36 (opensF_cons rfl op36 (opensF_cons rfl op22 (opensF_cons rfl op37 (opensF_one rfl op4))))))
theorem op25 : Opens Try.prog 25 (Kd.slice 39 k39) (fun y => (y.length ≤ maxLen ∧ ∀ y0 ∈ y, G39 y0)) := opens_slice Try.underlying25 (by kernel_rfl) op39
theorem opA39 : Opens Try.prog 39 (Kd.iso (Kd.pair (Kd.int .u32) (Kd.pair (Kd.int .u32) (Kd.pair (Kd.int .u32) (Kd.pair (Kd.slice 36 (Kd.int .u32)) (Kd.pair (Kd.slice 66 k66) Kd.bool))))) id) (fun x => (fun p => (fun y : Int => (Lit.int .u32 y).wf = true) p.1 ∧ (fun p => (fun y : Int => (Lit.int .u32 y).wf = true) p.1 ∧ (fun p => (fun y : Int => (Lit.int .u32 y).wf = true) p.1 ∧ (fun p => (fun y : (List Int) => (y.length ≤ maxLen ∧ ∀ y0 ∈ y, (Lit.int .u32 y0).wf = true)) p.1 ∧ (fun p => (fun y : (List S66) => (y.length ≤ maxLen ∧ ∀ y0 ∈ y, G66 y0)) p.1 ∧ (fun _ : Bool => True) p.2) p.2) p.2) p.2) p.2) (id x)) := opens_struct id id (fun _ => rfl) Try.underlying39 (by kernel_rfl) (opensF_cons rfl op36 (opensF_cons rfl op36 (opensF_cons rfl op36 (opensF_cons rfl op22 (opensF_cons rfl op37 (opensF_one rfl op4))))))
set_option maxRecDepth 100000 in
theorem lifted (os : Os) (started : os.Started) (H : Type) (enc : TypeId × Value → H) :
    ReturnsInHanded {} Try.checked os 6 .any (Rows.peopleKeepsSpec.pre6 enc Try.prog Try.f6 Rows.peopleKeepsRow.domain false) (Rows.peopleKeepsSpec.post enc Try.prog Try.f6 false true false false) := by
  refine returnsInHanded_of_change_sized (C := Try.checked) own started (by kernel_rfl) Try.func6
    (ChangeSpec.witness6 (enc := enc) (C := Try.checked) false ⟨#[], #[.slice none 0 0, .agg #[.int .u32 0, .int .u32 0, .int .u32 0, .slice none 0 0, .slice none 0 0, .bool false]], []⟩ 8 (by kernel_rfl) (by kernel_rfl) (by kernel_rfl) (by kernel_rfl)) ?_
  intro W base args ds gs before hval0 hW _ _ _
  have hval : ∀ (j : Nat) t v, Try.f6.params[j]? = some t → args[j]? = some v → Value.okWide Try.prog W .any base t v := hval0
  have hW' := hW
  obtain ⟨p, q, hA0, hV, rfl, hfz, hnd⟩ := hW
  have hA : DataW.TrodAll enc Try.prog W 0 (fun _ => true) true Try.f6.params.toList args.toList ds p := hA0
  rw [Try.params6] at hA hval
  obtain ⟨v0, vs0, e0, es0, p0, q0, hargs, rfl, rfl, h0, r0⟩ := trodAll_cons hA
  obtain ⟨v1, vs1, e1, es1, p1, q1, rfl, rfl, rfl, h1, r1⟩ := trodAll_cons r0
  obtain ⟨rfl, rfl, rfl⟩ := trodAll_nil r1
  obtain rfl : args = #[v0, v1] := by cases args; simp_all
  obtain ⟨rfl, rfl⟩ := trodVars_none hV
  have k0 := h0
  have lt0 : ∀ x ∈ p0, x.block < W.heap.size := by obtain ⟨m, hm⟩ := k0; exact DataW.trod_lt m _ _ _ hm
  obtain ⟨a0, len0, cap0, rfl⟩ := okWide_slice Try.underlying25 (hval 0 25 v0 rfl rfl)
  obtain ⟨fuel0, hf0⟩ := h0
  obtain ⟨l0, A0, c0, he0, hc0, hm0, hr0, g0⟩ := opens_row Try.underlying25 op39 hf0
  simp only [Value.cells, List.cons.injEq, Value.slice.injEq, and_true] at he0
  obtain ⟨x1, x2, x3⟩ := he0
  have y1 := x1.symm
  have y3 := x3.symm
  clear x1 x3
  subst y1 x2 y3
  have k1 := h1
  have lt1 : ∀ x ∈ p1, x.block < W.heap.size := by obtain ⟨m, hm⟩ := k1; exact DataW.trod_lt m _ _ _ hm
  obtain ⟨cs1, rfl, hz1⟩ := okWide_struct Try.underlying39 (hval 1 39 v1 rfl rfl)
  obtain ⟨fuel1, hf1⟩ := h1
  obtain ⟨⟨a1_0, a1_1, a1_2, l1_3, l1_4, a1_5⟩, hK1, ⟨gs1_0, gs1_1, gs1_2, gs1_3, gs1_4, gs1_5⟩⟩ := opA39.2 _ _ _ _ _ _ _ _ _ hf1
  obtain ⟨cl1, hcl1⟩ : ∃ cl, cl = (Value.agg cs1).cells.toList := ⟨_, rfl⟩
  rw [← hcl1] at hK1
  obtain ⟨_, _, rfl, rfl, ⟨_, _, rfl, rfl, ⟨_, _, rfl, rfl, ⟨_, _, rfl, ⟨A1_3, c1_3, rfl, hc1_3, hr1_3⟩, ⟨_, _, rfl, ⟨A1_4, c1_4, rfl, hc1_4, hr1_4⟩, rfl⟩⟩⟩⟩⟩ := hK1
  obtain rfl : cs1 = #[.int .u32 a1_0, .int .u32 a1_1, .int .u32 a1_2, .slice A1_3 l1_3.length c1_3, .slice A1_4 l1_4.length c1_4, .bool a1_5] := by
    apply Array.toList_inj.mp
    exact hcl1.symm
  have hP := Pure.PeopleKeeps l0 a1_0 a1_1 a1_2 l1_3 l1_4 a1_5 (Nat.le_trans hc0 hm0) g0 gs1_0 gs1_1 gs1_2 gs1_3.1 gs1_3.2 gs1_4.1 gs1_4.2
  refine (chamberlainlaw10_PeopleKeeps.calls A0 c0 l0 a1_0 a1_1 a1_2 A1_3 c1_3 l1_3 A1_4 c1_4 l1_4 a1_5 true W hr0 hc0 hr1_3 hc1_3 hr1_4 hc1_4 hP rfl).mono fun e W' ⟨he, bel0⟩ => ?_
  have bel : Below W.heap.size W W' := bel0
  subst he
  exact ⟨_, rfl, _, _, _, [], _, [], hW', trodAll_mk1 (shut_bool Try.underlying4 _), (trodAll_cons_mk (Below.trod laidOut (by kernel_rfl) (of_decide_eq_true (by kernel_rfl)) k0 bel lt0) (trodAll_cons_mk (Below.trod laidOut (by kernel_rfl) (of_decide_eq_true (by kernel_rfl)) k1 bel lt1) trodAll_mk0)), rfl, bel.frame _, fun h => by cases h⟩
theorem over : Rows.peopleKeepsRow.holds Try.pinned (OpenSpec.ofChange Rows.peopleKeepsSpec) :=
  OpenClaim.holds_of_wide 6 Try.f6 rfl rfl rfl rfl rfl rfl rfl ⟨rfl, rfl, rfl, rfl, rfl⟩ rfl rfl rfl rfl rfl (by kernel_rfl) Try.func6 (by kernel_rfl)
    (of_decide_eq_true (by kernel_rfl)) (by unfold Func.isWrapper; first | (rw [if_pos (by decide +kernel)]; kernel_rfl) | (rw [if_neg (by decide +kernel)]; exact ⟨rfl, rfl⟩))
    (fun os started H enc _ => lifted os started H enc)
theorem proved : Rows.PeopleKeepsSaid := over
#print axioms proved
end Go.Proofs.Ytlgbahgddpggfaa.peopleKeeps
namespace Go.Proofs.Ytlgbahgddpggfaa
/-- The row, under a short name, for the claim. -/
theorem peopleKeeps_holds : Rows.PeopleKeepsSaid := peopleKeeps.proved
end Go.Proofs.Ytlgbahgddpggfaa
