/- The law AdvAlone: for every input that can be read it returns true, and each argument reads as it did; no condition. -/
import Derived.Test.YthlcpbendleihaaRows
import Derived.Test.YthlcpbendleihaaPAdvAlonex90
import Derived.Test.YthlcpbendleihaaQAdvAlone
import Derived.Test.YthlcpbendleihaaPureAdvAlone
import Derived.Test.YthlcpbendleihaaOpens
import Derived.WalkKit
import Derived.ProofKit
import Derived.OpenShut
import Derived.ShutString
import Derived.ChangeOld
import Derived.Below
import Derived.SizedLaws
import Derived.Carry
namespace Go.Proofs.Ythlcpbendleihaa.advAlone
open Go Go.ChangeShapes Go.WideShapes Go.ChangeAt Go.RowKit Go.Proofs.Ythlcpbendleihaa.PAdvAlone Go.Proofs.YthlcpbendleihaaW.PrintWords Go.Proofs.YthlcpbendleihaaW.Opens Go.Proofs.Ythlcpbendleihaa.Pure
open Go.ChangeMaps (open_string shut_string)
theorem own : ownKnob Try.prog.godebug = none := by kernel_rfl
theorem laidOut : laidOutB Try.prog = true := by kernel_rfl
theorem op22 : Opens Try.prog 22 (Kd.int .u32) (fun y => (Lit.int .u32 y).wf = true) := opens_int Try.underlying22 (by kernel_rfl)
theorem op3 : Opens Try.prog 3 (Kd.int .i64) (fun y => (Lit.int .i64 y).wf = true) := opens_int Try.underlying3 (by kernel_rfl)
theorem op25 : Opens Try.prog 25 (Kd.slice 22 (Kd.int .u32)) (fun y => (y.length ≤ maxLen ∧ ∀ y0 ∈ y, (Lit.int .u32 y0).wf = true)) := opens_slice Try.underlying25 (by kernel_rfl) op22
theorem op92 : Opens Try.prog 92 k92 G92 := opens_struct (fun x : S92 => (x.f0, x.f1, x.f2, x.f3)) (fun y => ⟨y.1, y.2.1, y.2.2.1, y.2.2.2⟩) (fun _ => rfl) Try.underlying92 (by kernel_rfl) (opensF_cons rfl op22 (opensF_cons rfl op22 (opensF_cons rfl op22 (opensF_one rfl op25))))
theorem op28 : Opens Try.prog 28 (Kd.slice 92 k92) (fun y => (y.length ≤ maxLen ∧ ∀ y0 ∈ y, G92 y0)) := opens_slice Try.underlying28 (by kernel_rfl) op92
theorem op94 : Opens Try.prog 94 k94 G94 := opens_struct (fun x : S94 => (x.f0, x.f1)) (fun y => ⟨y.1, y.2⟩) (fun _ => rfl) Try.underlying94 (by kernel_rfl) (opensF_cons rfl op22 (opensF_one rfl op25))
theorem op31 : Opens Try.prog 31 (Kd.slice 94 k94) (fun y => (y.length ≤ maxLen ∧ ∀ y0 ∈ y, G94 y0)) := opens_slice Try.underlying31 (by kernel_rfl) op94
theorem op32 : Opens Try.prog 32 (Kd.slice 25 (Kd.slice 22 (Kd.int .u32))) (fun y => (y.length ≤ maxLen ∧ ∀ y0 ∈ y, (y0.length ≤ maxLen ∧ ∀ y1 ∈ y0, (Lit.int .u32 y1).wf = true))) := opens_slice Try.underlying32 (by kernel_rfl) op25
theorem op113 : Opens Try.prog 113 k113 G113 := opens_struct (fun x : S113 => (x.f0, x.f1, x.f2, x.f3, x.f4, x.f5, x.f6, x.f7, x.f8)) (fun y => ⟨y.1, y.2.1, y.2.2.1, y.2.2.2.1, y.2.2.2.2.1, y.2.2.2.2.2.1, y.2.2.2.2.2.2.1, y.2.2.2.2.2.2.2.1, y.2.2.2.2.2.2.2.2⟩) (fun _ => rfl) Try.underlying113 (by kernel_rfl) (opensF_cons rfl op3 (opensF_cons rfl op3 (opensF_cons rfl op22 (opensF_cons rfl op22 (opensF_cons rfl op22 (opensF_cons rfl op22 (opensF_cons rfl op22 (opensF_cons rfl op22 (opensF_one rfl op3)))))))))
theorem op53 : Opens Try.prog 53 (Kd.slice 113 k113) (fun y => (y.length ≤ maxLen ∧ ∀ y0 ∈ y, G113 y0)) := opens_slice Try.underlying53 (by kernel_rfl) op113
theorem op4 : Opens Try.prog 4 Kd.bool (fun _ => True) := opens_bool Try.underlying4 (by kernel_rfl)
theorem op55 : Opens Try.prog 55 k55 G55 := opens_struct (fun x : S55 => (x.f0, x.f1, x.f2, x.f3, x.f4, x.f5)) (fun y => ⟨y.1, y.2.1, y.2.2.1, y.2.2.2.1, y.2.2.2.2.1, y.2.2.2.2.2⟩) (fun _ => rfl) Try.underlying55 (by kernel_rfl) (opensF_cons rfl op22 (opensF_cons rfl op22 (opensF_cons rfl op22 (opensF_cons rfl op25 (opensF_cons rfl op53 (opensF_one rfl op4))))))
theorem op35 : Opens Try.prog 35 (Kd.slice 55 k55) (fun y => (y.length ≤ maxLen ∧ ∀ y0 ∈ y, G55 y0)) := opens_slice Try.underlying35 (by kernel_rfl) op55
theorem op83 : Opens Try.prog 83 k83 G83 := opens_struct (fun x : S83 => (x.f0, x.f1, x.f2, x.f3, x.f4, x.f5, x.f6, x.f7, x.f8, x.f9)) (fun y => ⟨y.1, y.2.1, y.2.2.1, y.2.2.2.1, y.2.2.2.2.1, y.2.2.2.2.2.1, y.2.2.2.2.2.2.1, y.2.2.2.2.2.2.2.1, y.2.2.2.2.2.2.2.2.1, y.2.2.2.2.2.2.2.2.2⟩) (fun _ => rfl) Try.underlying83 (by kernel_rfl) (opensF_cons rfl op3 (opensF_cons rfl op3 (opensF_cons rfl op3 (opensF_cons rfl op22 (opensF_cons rfl op22 (opensF_cons rfl op22 (opensF_cons rfl op22 (opensF_cons rfl op22 (opensF_cons rfl op22 (opensF_one rfl op22))))))))))
theorem op36 : Opens Try.prog 36 (Kd.slice 83 k83) (fun y => (y.length ≤ maxLen ∧ ∀ y0 ∈ y, G83 y0)) := opens_slice Try.underlying36 (by kernel_rfl) op83
theorem op85 : Opens Try.prog 85 k85 G85 := opens_struct (fun x : S85 => (x.f0, x.f1)) (fun y => ⟨y.1, y.2⟩) (fun _ => rfl) Try.underlying85 (by kernel_rfl) (opensF_cons rfl op22 (opensF_one rfl op22))
theorem op37 : Opens Try.prog 37 (Kd.slice 85 k85) (fun y => (y.length ≤ maxLen ∧ ∀ y0 ∈ y, G85 y0)) := opens_slice Try.underlying37 (by kernel_rfl) op85
theorem opA24 : Opens Try.prog 24 (Kd.iso (Kd.pair (Kd.int .u32) (Kd.pair (Kd.int .i64) (Kd.pair (Kd.int .i64) (Kd.pair (Kd.int .i64) (Kd.pair (Kd.int .i64) (Kd.pair (Kd.int .i64) (Kd.int .i64))))))) id) (fun x => (fun p => (fun y : Int => (Lit.int .u32 y).wf = true) p.1 ∧ (fun p => (fun y : Int => (Lit.int .i64 y).wf = true) p.1 ∧ (fun p => (fun y : Int => (Lit.int .i64 y).wf = true) p.1 ∧ (fun p => (fun y : Int => (Lit.int .i64 y).wf = true) p.1 ∧ (fun p => (fun y : Int => (Lit.int .i64 y).wf = true) p.1 ∧ (fun p => (fun y : Int => (Lit.int .i64 y).wf = true) p.1 ∧ (fun y : Int => (Lit.int .i64 y).wf = true) p.2) p.2) p.2) p.2) p.2) p.2) (id x)) := opens_struct id id (fun _ => rfl) Try.underlying24 (by kernel_rfl) (opensF_cons rfl op22 (opensF_cons rfl op3 (opensF_cons rfl op3 (opensF_cons rfl op3 (opensF_cons rfl op3 (opensF_cons rfl op3 (opensF_one rfl op3)))))))
theorem opA27 : Opens Try.prog 27 (Kd.iso (Kd.pair (Kd.slice 22 (Kd.int .u32)) (Kd.int .i64)) id) (fun x => (fun p => (fun y : (List Int) => (y.length ≤ maxLen ∧ ∀ y0 ∈ y, (Lit.int .u32 y0).wf = true)) p.1 ∧ (fun y : Int => (Lit.int .i64 y).wf = true) p.2) (id x)) := opens_struct id id (fun _ => rfl) Try.underlying27 (by kernel_rfl) (opensF_cons rfl op25 (opensF_one rfl op3))
theorem opA30 : Opens Try.prog 30 (Kd.iso (Kd.pair (Kd.int .i64) (Kd.slice 92 k92)) id) (fun x => (fun p => (fun y : Int => (Lit.int .i64 y).wf = true) p.1 ∧ (fun y : (List S92) => (y.length ≤ maxLen ∧ ∀ y0 ∈ y, G92 y0)) p.2) (id x)) := opens_struct id id (fun _ => rfl) Try.underlying30 (by kernel_rfl) (opensF_cons rfl op3 (opensF_one rfl op28))
theorem opA34 : Opens Try.prog 34 (Kd.iso (Kd.pair (Kd.int .i64) (Kd.pair (Kd.slice 94 k94) (Kd.slice 25 (Kd.slice 22 (Kd.int .u32))))) id) (fun x => (fun p => (fun y : Int => (Lit.int .i64 y).wf = true) p.1 ∧ (fun p => (fun y : (List S94) => (y.length ≤ maxLen ∧ ∀ y0 ∈ y, G94 y0)) p.1 ∧ (fun y : (List (List Int)) => (y.length ≤ maxLen ∧ ∀ y0 ∈ y, (y0.length ≤ maxLen ∧ ∀ y1 ∈ y0, (Lit.int .u32 y1).wf = true))) p.2) p.2) (id x)) := opens_struct id id (fun _ => rfl) Try.underlying34 (by kernel_rfl) (opensF_cons rfl op3 (opensF_cons rfl op31 (opensF_one rfl op32)))
theorem opA39 : Opens Try.prog 39 (Kd.iso (Kd.pair (Kd.iso (Kd.pair (Kd.int .u32) (Kd.pair (Kd.int .i64) (Kd.pair (Kd.int .i64) (Kd.pair (Kd.int .i64) (Kd.pair (Kd.int .i64) (Kd.pair (Kd.int .i64) (Kd.int .i64))))))) id) (Kd.pair (Kd.iso (Kd.pair (Kd.slice 22 (Kd.int .u32)) (Kd.int .i64)) id) (Kd.pair (Kd.iso (Kd.pair (Kd.int .i64) (Kd.slice 92 k92)) id) (Kd.pair (Kd.iso (Kd.pair (Kd.int .i64) (Kd.pair (Kd.slice 94 k94) (Kd.slice 25 (Kd.slice 22 (Kd.int .u32))))) id) (Kd.pair (Kd.slice 55 k55) (Kd.pair (Kd.slice 83 k83) (Kd.pair (Kd.slice 25 (Kd.slice 22 (Kd.int .u32))) (Kd.slice 85 k85)))))))) id) (fun x => (fun p => (fun x => (fun p => (fun y : Int => (Lit.int .u32 y).wf = true) p.1 ∧ (fun p => (fun y : Int => (Lit.int .i64 y).wf = true) p.1 ∧ (fun p => (fun y : Int => (Lit.int .i64 y).wf = true) p.1 ∧ (fun p => (fun y : Int => (Lit.int .i64 y).wf = true) p.1 ∧ (fun p => (fun y : Int => (Lit.int .i64 y).wf = true) p.1 ∧ (fun p => (fun y : Int => (Lit.int .i64 y).wf = true) p.1 ∧ (fun y : Int => (Lit.int .i64 y).wf = true) p.2) p.2) p.2) p.2) p.2) p.2) (id x)) p.1 ∧ (fun p => (fun x => (fun p => (fun y : (List Int) => (y.length ≤ maxLen ∧ ∀ y0 ∈ y, (Lit.int .u32 y0).wf = true)) p.1 ∧ (fun y : Int => (Lit.int .i64 y).wf = true) p.2) (id x)) p.1 ∧ (fun p => (fun x => (fun p => (fun y : Int => (Lit.int .i64 y).wf = true) p.1 ∧ (fun y : (List S92) => (y.length ≤ maxLen ∧ ∀ y0 ∈ y, G92 y0)) p.2) (id x)) p.1 ∧ (fun p => (fun x => (fun p => (fun y : Int => (Lit.int .i64 y).wf = true) p.1 ∧ (fun p => (fun y : (List S94) => (y.length ≤ maxLen ∧ ∀ y0 ∈ y, G94 y0)) p.1 ∧ (fun y : (List (List Int)) => (y.length ≤ maxLen ∧ ∀ y0 ∈ y, (y0.length ≤ maxLen ∧ ∀ y1 ∈ y0, (Lit.int .u32 y1).wf = true))) p.2) p.2) (id x)) p.1 ∧ (fun p => (fun y : (List S55) => (y.length ≤ maxLen ∧ ∀ y0 ∈ y, G55 y0)) p.1 ∧ (fun p => (fun y : (List S83) => (y.length ≤ maxLen ∧ ∀ y0 ∈ y, G83 y0)) p.1 ∧ (fun p => (fun y : (List (List Int)) => (y.length ≤ maxLen ∧ ∀ y0 ∈ y, (y0.length ≤ maxLen ∧ ∀ y1 ∈ y0, (Lit.int .u32 y1).wf = true))) p.1 ∧ (fun y : (List S85) => (y.length ≤ maxLen ∧ ∀ y0 ∈ y, G85 y0)) p.2) p.2) p.2) p.2) p.2) p.2) p.2) (id x)) := opens_struct id id (fun _ => rfl) Try.underlying39 (by kernel_rfl) (opensF_cons rfl opA24 (opensF_cons rfl opA27 (opensF_cons rfl opA30 (opensF_cons rfl opA34 (opensF_cons rfl op35 (opensF_cons rfl op36 (opensF_cons rfl op32 (opensF_one rfl op37))))))))
theorem opA41 : Opens Try.prog 41 (Kd.iso (Kd.pair (Kd.int .i64) (Kd.pair (Kd.int .i64) (Kd.pair (Kd.int .i64) (Kd.pair (Kd.int .i64) (Kd.pair (Kd.int .i64) (Kd.slice 22 (Kd.int .u32))))))) id) (fun x => (fun p => (fun y : Int => (Lit.int .i64 y).wf = true) p.1 ∧ (fun p => (fun y : Int => (Lit.int .i64 y).wf = true) p.1 ∧ (fun p => (fun y : Int => (Lit.int .i64 y).wf = true) p.1 ∧ (fun p => (fun y : Int => (Lit.int .i64 y).wf = true) p.1 ∧ (fun p => (fun y : Int => (Lit.int .i64 y).wf = true) p.1 ∧ (fun y : (List Int) => (y.length ≤ maxLen ∧ ∀ y0 ∈ y, (Lit.int .u32 y0).wf = true)) p.2) p.2) p.2) p.2) p.2) (id x)) := opens_struct id id (fun _ => rfl) Try.underlying41 (by kernel_rfl) (opensF_cons rfl op3 (opensF_cons rfl op3 (opensF_cons rfl op3 (opensF_cons rfl op3 (opensF_cons rfl op3 (opensF_one rfl op25))))))
set_option maxRecDepth 100000 in
theorem lifted (os : Os) (started : os.Started) (H : Type) (enc : TypeId × Value → H) :
    ReturnsInHanded {} Try.checked os 4 .any (Rows.advAloneSpec.pre6 enc Try.prog Try.f4 Rows.advAloneRow.domain false) (Rows.advAloneSpec.post enc Try.prog Try.f4 false true false false) := by
  refine returnsInHanded_of_change_sized (C := Try.checked) own started (by kernel_rfl) Try.func4
    (ChangeSpec.witness6 (enc := enc) (C := Try.checked) false ⟨#[], #[.agg #[.int .u32 0, .int .i64 0, .int .i64 0, .int .i64 0, .int .i64 0, .int .i64 0, .int .i64 0, .slice none 0 0, .int .i64 0, .int .i64 0, .slice none 0 0, .int .i64 0, .slice none 0 0, .slice none 0 0, .slice none 0 0, .slice none 0 0, .slice none 0 0, .slice none 0 0], .agg #[.int .i64 0, .int .i64 0, .int .i64 0, .int .i64 0, .int .i64 0, .slice none 0 0]], []⟩ 8 (by kernel_rfl) (by kernel_rfl) (by kernel_rfl) (by kernel_rfl)) ?_
  intro W base args ds gs before hval0 hW _ _ _
  have hval : ∀ (j : Nat) t v, Try.f4.params[j]? = some t → args[j]? = some v → Value.okWide Try.prog W .any base t v := hval0
  have hW' := hW
  obtain ⟨p, q, hA0, hV, rfl, hfz, hnd⟩ := hW
  have hA : DataW.TrodAll enc Try.prog W 0 (fun _ => true) true Try.f4.params.toList args.toList ds p := hA0
  rw [Try.params4] at hA hval
  obtain ⟨v0, vs0, e0, es0, p0, q0, hargs, rfl, rfl, h0, r0⟩ := trodAll_cons hA
  obtain ⟨v1, vs1, e1, es1, p1, q1, rfl, rfl, rfl, h1, r1⟩ := trodAll_cons r0
  obtain ⟨rfl, rfl, rfl⟩ := trodAll_nil r1
  obtain rfl : args = #[v0, v1] := by cases args; simp_all
  obtain ⟨rfl, rfl⟩ := trodVars_none hV
  have k0 := h0
  have lt0 : ∀ x ∈ p0, x.block < W.heap.size := by obtain ⟨m, hm⟩ := k0; exact DataW.trod_lt m _ _ _ hm
  obtain ⟨cs0, rfl, hz0⟩ := okWide_struct Try.underlying39 (hval 0 39 v0 rfl rfl)
  obtain ⟨fuel0, hf0⟩ := h0
  obtain ⟨⟨⟨a0_0, a0_1, a0_2, a0_3, a0_4, a0_5, a0_6⟩, ⟨l0_7, a0_8⟩, ⟨a0_9, l0_10⟩, ⟨a0_11, l0_12, l0_13⟩, l0_14, l0_15, l0_16, l0_17⟩, hK0, ⟨⟨gs0_0, gs0_1, gs0_2, gs0_3, gs0_4, gs0_5, gs0_6⟩, ⟨gs0_7, gs0_8⟩, ⟨gs0_9, gs0_10⟩, ⟨gs0_11, gs0_12, gs0_13⟩, gs0_14, gs0_15, gs0_16, gs0_17⟩⟩ := opA39.2 _ _ _ _ _ _ _ _ _ hf0
  obtain ⟨cl0, hcl0⟩ : ∃ cl, cl = (Value.agg cs0).cells.toList := ⟨_, rfl⟩
  rw [← hcl0] at hK0
  obtain ⟨_, _, rfl, ⟨_, _, rfl, rfl, ⟨_, _, rfl, rfl, ⟨_, _, rfl, rfl, ⟨_, _, rfl, rfl, ⟨_, _, rfl, rfl, ⟨_, _, rfl, rfl, rfl⟩⟩⟩⟩⟩⟩, ⟨_, _, rfl, ⟨_, _, rfl, ⟨A0_7, c0_7, rfl, hc0_7, hr0_7⟩, rfl⟩, ⟨_, _, rfl, ⟨_, _, rfl, rfl, ⟨A0_10, c0_10, rfl, hc0_10, hr0_10⟩⟩, ⟨_, _, rfl, ⟨_, _, rfl, rfl, ⟨_, _, rfl, ⟨A0_12, c0_12, rfl, hc0_12, hr0_12⟩, ⟨A0_13, c0_13, rfl, hc0_13, hr0_13⟩⟩⟩, ⟨_, _, rfl, ⟨A0_14, c0_14, rfl, hc0_14, hr0_14⟩, ⟨_, _, rfl, ⟨A0_15, c0_15, rfl, hc0_15, hr0_15⟩, ⟨_, _, rfl, ⟨A0_16, c0_16, rfl, hc0_16, hr0_16⟩, ⟨A0_17, c0_17, rfl, hc0_17, hr0_17⟩⟩⟩⟩⟩⟩⟩⟩ := hK0
  obtain rfl : cs0 = #[.int .u32 a0_0, .int .i64 a0_1, .int .i64 a0_2, .int .i64 a0_3, .int .i64 a0_4, .int .i64 a0_5, .int .i64 a0_6, .slice A0_7 l0_7.length c0_7, .int .i64 a0_8, .int .i64 a0_9, .slice A0_10 l0_10.length c0_10, .int .i64 a0_11, .slice A0_12 l0_12.length c0_12, .slice A0_13 l0_13.length c0_13, .slice A0_14 l0_14.length c0_14, .slice A0_15 l0_15.length c0_15, .slice A0_16 l0_16.length c0_16, .slice A0_17 l0_17.length c0_17] := by
    apply Array.toList_inj.mp
    exact hcl0.symm
  have k1 := h1
  have lt1 : ∀ x ∈ p1, x.block < W.heap.size := by obtain ⟨m, hm⟩ := k1; exact DataW.trod_lt m _ _ _ hm
  obtain ⟨cs1, rfl, hz1⟩ := okWide_struct Try.underlying41 (hval 1 41 v1 rfl rfl)
  obtain ⟨fuel1, hf1⟩ := h1
  obtain ⟨⟨a1_0, a1_1, a1_2, a1_3, a1_4, l1_5⟩, hK1, ⟨gs1_0, gs1_1, gs1_2, gs1_3, gs1_4, gs1_5⟩⟩ := opA41.2 _ _ _ _ _ _ _ _ _ hf1
  obtain ⟨cl1, hcl1⟩ : ∃ cl, cl = (Value.agg cs1).cells.toList := ⟨_, rfl⟩
  rw [← hcl1] at hK1
  obtain ⟨_, _, rfl, rfl, ⟨_, _, rfl, rfl, ⟨_, _, rfl, rfl, ⟨_, _, rfl, rfl, ⟨_, _, rfl, rfl, ⟨A1_5, c1_5, rfl, hc1_5, hr1_5⟩⟩⟩⟩⟩⟩ := hK1
  obtain rfl : cs1 = #[.int .i64 a1_0, .int .i64 a1_1, .int .i64 a1_2, .int .i64 a1_3, .int .i64 a1_4, .slice A1_5 l1_5.length c1_5] := by
    apply Array.toList_inj.mp
    exact hcl1.symm
  have hP := Pure.AdvAlone a0_0 a0_1 a0_2 a0_3 a0_4 a0_5 a0_6 l0_7 a0_8 a0_9 l0_10 a0_11 l0_12 l0_13 l0_14 l0_15 l0_16 l0_17 a1_0 a1_1 a1_2 a1_3 a1_4 l1_5 gs0_0 gs0_1 gs0_2 gs0_3 gs0_4 gs0_5 gs0_6 gs0_7.1 gs0_7.2 gs0_8 gs0_9 gs0_10.1 gs0_10.2 gs0_11 gs0_12.1 gs0_12.2 gs0_13.1 gs0_13.2 gs0_14.1 gs0_14.2 gs0_15.1 gs0_15.2 gs0_16.1 gs0_16.2 gs0_17.1 gs0_17.2 gs1_0 gs1_1 gs1_2 gs1_3 gs1_4 gs1_5.1 gs1_5.2
  refine (law_AdvAlone.calls a0_0 a0_1 a0_2 a0_3 a0_4 a0_5 a0_6 A0_7 c0_7 l0_7 a0_8 a0_9 A0_10 c0_10 l0_10 a0_11 A0_12 c0_12 l0_12 A0_13 c0_13 l0_13 A0_14 c0_14 l0_14 A0_15 c0_15 l0_15 A0_16 c0_16 l0_16 A0_17 c0_17 l0_17 a1_0 a1_1 a1_2 a1_3 a1_4 A1_5 c1_5 l1_5 true W hr0_7 hc0_7 hr0_10 hc0_10 hr0_12 hc0_12 hr0_13 hc0_13 hr0_14 hc0_14 hr0_15 hc0_15 hr0_16 hc0_16 hr0_17 hc0_17 hr1_5 hc1_5 hP).mono fun e W' ⟨he, bel0⟩ => ?_
  have bel : Below W.heap.size W W' := bel0
  subst he
  exact ⟨_, rfl, _, _, _, [], _, [], hW', trodAll_mk1 (shut_bool Try.underlying4 _), (trodAll_cons_mk (Below.trod laidOut (by kernel_rfl) (of_decide_eq_true (by kernel_rfl)) k0 bel lt0) (trodAll_cons_mk (Below.trod laidOut (by kernel_rfl) (of_decide_eq_true (by kernel_rfl)) k1 bel lt1) trodAll_mk0)), rfl, bel.frame _, fun h => by cases h⟩
theorem over : Rows.advAloneRow.holds Try.pinned (OpenSpec.ofChange Rows.advAloneSpec) :=
  OpenClaim.holds_of_wide 4 Try.f4 rfl rfl rfl rfl rfl rfl rfl ⟨rfl, rfl, rfl, rfl, rfl⟩ rfl rfl rfl rfl rfl (by kernel_rfl) Try.func4 (by kernel_rfl)
    (of_decide_eq_true (by kernel_rfl)) (by unfold Func.isWrapper; first | (rw [if_pos (by decide +kernel)]; kernel_rfl) | (rw [if_neg (by decide +kernel)]; exact ⟨rfl, rfl⟩))
    (fun os started H enc _ => lifted os started H enc)
theorem proved : Rows.AdvAloneSaid := over
#print axioms proved
end Go.Proofs.Ythlcpbendleihaa.advAlone
namespace Go.Proofs.Ythlcpbendleihaa
/-- The row, under a short name, for the claim. -/
theorem advAlone_holds : Rows.AdvAloneSaid := advAlone.proved
end Go.Proofs.Ythlcpbendleihaa
