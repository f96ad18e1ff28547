/- The law PeopleNews: for every input that can be read it returns true, and each argument reads as it did; no condition. -/
import Derived.Test.YtlgbahgddpggfaaRows
import Derived.Test.YtlgbahgddpggfaaPPeopleNewsx5
import Derived.Test.YtlgbahgddpggfaaQPeopleNews
import Derived.Test.YtlgbahgddpggfaaPurePeopleNews
import Derived.Test.YtlgbahgddpggfaaOpens
import Derived.WalkKit
import Derived.ProofKit
import Derived.OpenShut
import Derived.ShutString
import Derived.ChangeOld
import Derived.Below
import Derived.SizedLaws
import Derived.Carry
namespace Go.Proofs.Ytlgbahgddpggfaa.peopleNews
open Go Go.ChangeShapes Go.WideShapes Go.ChangeAt Go.RowKit Go.Proofs.Ytlgbahgddpggfaa.PPeopleNews Go.Proofs.YtlgbahgddpggfaaW.PrintWords Go.Proofs.YtlgbahgddpggfaaW.Opens Go.Proofs.Ytlgbahgddpggfaa.Pure
open Go.ChangeMaps (open_string shut_string)
theorem own : ownKnob Try.prog.godebug = none := by kernel_rfl
theorem laidOut : laidOutB Try.prog = true := by kernel_rfl
theorem op3 : Opens Try.prog 3 (Kd.int .i64) (fun y => (Lit.int .i64 y).wf = true) := opens_int Try.underlying3 (by kernel_rfl)
theorem op36 : Opens Try.prog 36 (Kd.int .u32) (fun y => (Lit.int .u32 y).wf = true) := opens_int Try.underlying36 (by kernel_rfl)
theorem op22 : Opens Try.prog 22 (Kd.slice 36 (Kd.int .u32)) (fun y => (y.length ≤ maxLen ∧ ∀ y0 ∈ y, (Lit.int .u32 y0).wf = true)) := opens_slice Try.underlying22 (by kernel_rfl) op36
theorem op66 : Opens Try.prog 66 k66 G66 := opens_struct (fun x : S66 => (x.f0, x.f1, x.f2, x.f3, x.f4, x.f5, x.f6, x.f7, x.f8)) (fun y => ⟨y.1, y.2.1, y.2.2.1, y.2.2.2.1, y.2.2.2.2.1, y.2.2.2.2.2.1, y.2.2.2.2.2.2.1, y.2.2.2.2.2.2.2.1, y.2.2.2.2.2.2.2.2⟩) (fun _ => rfl) Try.underlying66 (by kernel_rfl) (opensF_cons rfl op3 (opensF_cons rfl op3 (opensF_cons rfl op36 (opensF_cons rfl op36 (opensF_cons rfl op36 (opensF_cons rfl op36 (opensF_cons rfl op36 (opensF_cons rfl op36 (opensF_one rfl op3)))))))))
theorem op37 : Opens Try.prog 37 (Kd.slice 66 k66) (fun y => (y.length ≤ maxLen ∧ ∀ y0 ∈ y, G66 y0)) := opens_slice Try.underlying37 (by kernel_rfl) op66
theorem op4 : Opens Try.prog 4 Kd.bool (fun _ => True) := opens_bool Try.underlying4 (by kernel_rfl)
theorem op39 : Opens Try.prog 39 k39 G39 := opens_struct (fun x : S39 => (x.f0, x.f1, x.f2, x.f3, x.f4, x.f5)) (fun y => ⟨y.1, y.2.1, y.2.2.1, y.2.2.2.1, y.2.2.2.2.1, y.2.2.2.2.2⟩) (fun _ => rfl) Try.underlying39 (by kernel_rfl) (opensF_cons rfl op36 (opensF_cons rfl op36 (opensF_cons rfl op36 (opensF_cons rfl op22 (opensF_cons rfl op37 (opensF_one rfl op4))))))
theorem op25 : Opens Try.prog 25 (Kd.slice 39 k39) (fun y => (y.length ≤ maxLen ∧ ∀ y0 ∈ y, G39 y0)) := opens_slice Try.underlying25 (by kernel_rfl) op39
theorem opA24 : Opens Try.prog 24 (Kd.iso (Kd.pair (Kd.slice 36 (Kd.int .u32)) (Kd.int .i64)) id) (fun x => (fun p => (fun y : (List Int) => (y.length ≤ maxLen ∧ ∀ y0 ∈ y, (Lit.int .u32 y0).wf = true)) p.1 ∧ (fun y : Int => (Lit.int .i64 y).wf = true) p.2) (id x)) := opens_struct id id (fun _ => rfl) Try.underlying24 (by kernel_rfl) (opensF_cons rfl op22 (opensF_one rfl op3))
set_option maxRecDepth 100000 in
theorem lifted (os : Os) (started : os.Started) (H : Type) (enc : TypeId × Value → H) :
    ReturnsInHanded {} Try.checked os 3 .any (Rows.peopleNewsSpec.pre6 enc Try.prog Try.f3 Rows.peopleNewsRow.domain false) (Rows.peopleNewsSpec.post enc Try.prog Try.f3 false true false false) := by
  refine returnsInHanded_of_change_sized (C := Try.checked) own started (by kernel_rfl) Try.func3
    (ChangeSpec.witness6 (enc := enc) (C := Try.checked) false ⟨#[], #[.int .i64 0, .agg #[.slice none 0 0, .int .i64 0], .slice none 0 0], []⟩ 8 (by kernel_rfl) (by kernel_rfl) (by kernel_rfl) (by kernel_rfl)) ?_
  intro W base args ds gs before hval0 hW _ _ _
  have hval : ∀ (j : Nat) t v, Try.f3.params[j]? = some t → args[j]? = some v → Value.okWide Try.prog W .any base t v := hval0
  have hW' := hW
  obtain ⟨p, q, hA0, hV, rfl, hfz, hnd⟩ := hW
  have hA : DataW.TrodAll enc Try.prog W 0 (fun _ => true) true Try.f3.params.toList args.toList ds p := hA0
  rw [Try.params3] at hA hval
  obtain ⟨v0, vs0, e0, es0, p0, q0, hargs, rfl, rfl, h0, r0⟩ := trodAll_cons hA
  obtain ⟨v1, vs1, e1, es1, p1, q1, rfl, rfl, rfl, h1, r1⟩ := trodAll_cons r0
  obtain ⟨v2, vs2, e2, es2, p2, q2, rfl, rfl, rfl, h2, r2⟩ := trodAll_cons r1
  obtain ⟨rfl, rfl, rfl⟩ := trodAll_nil r2
  obtain rfl : args = #[v0, v1, v2] := by cases args; simp_all
  obtain ⟨rfl, rfl⟩ := trodVars_none hV
  have k0 := h0
  have lt0 : ∀ x ∈ p0, x.block < W.heap.size := by obtain ⟨m, hm⟩ := k0; exact DataW.trod_lt m _ _ _ hm
  obtain ⟨a0, rfl, _, _, w0⟩ := open_int Try.underlying3 (hval 0 3 v0 rfl rfl) h0
  have k1 := h1
  have lt1 : ∀ x ∈ p1, x.block < W.heap.size := by obtain ⟨m, hm⟩ := k1; exact DataW.trod_lt m _ _ _ hm
  obtain ⟨cs1, rfl, hz1⟩ := okWide_struct Try.underlying24 (hval 1 24 v1 rfl rfl)
  obtain ⟨fuel1, hf1⟩ := h1
  obtain ⟨⟨l1_0, a1_1⟩, hK1, ⟨gs1_0, gs1_1⟩⟩ := opA24.2 _ _ _ _ _ _ _ _ _ hf1
  obtain ⟨cl1, hcl1⟩ : ∃ cl, cl = (Value.agg cs1).cells.toList := ⟨_, rfl⟩
  rw [← hcl1] at hK1
  obtain ⟨_, _, rfl, ⟨A1_0, c1_0, rfl, hc1_0, hr1_0⟩, rfl⟩ := hK1
  obtain rfl : cs1 = #[.slice A1_0 l1_0.length c1_0, .int .i64 a1_1] := by
    apply Array.toList_inj.mp
    exact hcl1.symm
  have k2 := h2
  have lt2 : ∀ x ∈ p2, x.block < W.heap.size := by obtain ⟨m, hm⟩ := k2; exact DataW.trod_lt m _ _ _ hm
  obtain ⟨a2, len2, cap2, rfl⟩ := okWide_slice Try.underlying25 (hval 2 25 v2 rfl rfl)
  obtain ⟨fuel2, hf2⟩ := h2
  obtain ⟨l2, A2, c2, he2, hc2, hm2, hr2, g2⟩ := opens_row Try.underlying25 op39 hf2
  simp only [Value.cells, List.cons.injEq, Value.slice.injEq, and_true] at he2
  obtain ⟨x1, x2, x3⟩ := he2
  have y1 := x1.symm
  have y3 := x3.symm
  clear x1 x3
  subst y1 x2 y3
  obtain ⟨k, hP⟩ := Pure.PeopleNews a0 l1_0 a1_1 l2 w0 gs1_0.1 gs1_0.2 gs1_1 (Nat.le_trans hc2 hm2) g2
  refine (chamberlainlaw10_PeopleNews.calls k a0 A1_0 c1_0 l1_0 a1_1 A2 c2 l2 true W hr1_0 hc1_0 hr2 hc2 hP rfl).mono fun e W' ⟨he, bel0⟩ => ?_
  have bel : Below W.heap.size W W' := bel0
  subst he
  exact ⟨_, rfl, _, _, _, [], _, [], hW', trodAll_mk1 (shut_bool Try.underlying4 _), (trodAll_cons_mk (Below.trod laidOut (by kernel_rfl) (of_decide_eq_true (by kernel_rfl)) k0 bel lt0) (trodAll_cons_mk (Below.trod laidOut (by kernel_rfl) (of_decide_eq_true (by kernel_rfl)) k1 bel lt1) (trodAll_cons_mk (Below.trod laidOut (by kernel_rfl) (of_decide_eq_true (by kernel_rfl)) k2 bel lt2) trodAll_mk0))), rfl, bel.frame _, fun h => by cases h⟩
theorem over : Rows.peopleNewsRow.holds Try.pinned (OpenSpec.ofChange Rows.peopleNewsSpec) :=
  OpenClaim.holds_of_wide 3 Try.f3 rfl rfl rfl rfl rfl rfl rfl ⟨rfl, rfl, rfl, rfl, rfl⟩ rfl rfl rfl rfl rfl (by kernel_rfl) Try.func3 (by kernel_rfl)
    (of_decide_eq_true (by kernel_rfl)) (by unfold Func.isWrapper; first | (rw [if_pos (by decide +kernel)]; kernel_rfl) | (rw [if_neg (by decide +kernel)]; exact ⟨rfl, rfl⟩))
    (fun os started H enc _ => lifted os started H enc)
theorem proved : Rows.PeopleNewsSaid := over
#print axioms proved
end Go.Proofs.Ytlgbahgddpggfaa.peopleNews
namespace Go.Proofs.Ytlgbahgddpggfaa
/-- The row, under a short name, for the claim. -/
theorem peopleNews_holds : Rows.PeopleNewsSaid := peopleNews.proved
end Go.Proofs.Ytlgbahgddpggfaa
