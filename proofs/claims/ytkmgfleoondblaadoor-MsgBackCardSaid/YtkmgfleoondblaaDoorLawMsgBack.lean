/- The law MsgBack: for every input that can be read it returns true, and each argument reads as it did; no condition. -/
import Derived.Test.YtkmgfleoondblaaDoorRows
import Derived.Test.YtkmgfleoondblaaDoorPMsgBackx4
import Derived.Test.YtkmgfleoondblaaDoorQMsgBack
import Derived.Test.YtkmgfleoondblaaDoorPureMsgBack
import Derived.Test.YtkmgfleoondblaaDoorOpens
import Derived.Test.YtkmgfleoondblaaDoorTie
import Derived.Test.YtkmgfleoondblaaDoorCards
import Derived.LaidMore
import Derived.Lay
import Derived.LaidOnce
import Derived.SevenTiedAt
import Derived.Stop.Joined
import Derived.WalkKit
import Derived.ProofKit
import Derived.OpenShut
import Derived.ShutString
import Derived.ChangeOld
import Derived.Below
import Derived.SizedLaws
import Derived.Carry
namespace Go.Proofs.YtkmgfleoondblaaDoor.msgBack
open Go Go.ChangeShapes Go.WideShapes Go.ChangeAt Go.RowKit Go.Proofs.YtkmgfleoondblaaDoor.PMsgBack Go.Proofs.YtkmgfleoondblaaDoorW.PrintWords Go.Proofs.YtkmgfleoondblaaDoorW.Opens Go.Proofs.YtkmgfleoondblaaDoor.Pure
open Go.ChangeMaps (open_string shut_string)
theorem own : ownKnob Tryd.prog.godebug = none := by kernel_rfl
theorem laidOut : laidOutB Tryd.prog = true := by kernel_rfl
theorem op22 : Opens Tryd.prog 22 (Kd.int .u32) (fun y => (Lit.int .u32 y).wf = true) := opens_int Tryd.underlying22 (by kernel_rfl)
theorem op26 : Opens Tryd.prog 26 (Kd.slice 22 (Kd.int .u32)) (fun y => (y.length ≤ maxLen ∧ ∀ y0 ∈ y, (Lit.int .u32 y0).wf = true)) := opens_slice Tryd.underlying26 (by kernel_rfl) op22
theorem opA24 : Opens Tryd.prog 24 (Kd.iso (Kd.pair (Kd.int .u32) (Kd.pair (Kd.int .u32) (Kd.pair (Kd.int .u32) (Kd.pair (Kd.int .u32) (Kd.pair (Kd.int .u32) (Kd.pair (Kd.int .u32) (Kd.int .u32))))))) id) (fun x => (fun p => (fun y : Int => (Lit.int .u32 y).wf = true) p.1 ∧ (fun p => (fun y : Int => (Lit.int .u32 y).wf = true) p.1 ∧ (fun p => (fun y : Int => (Lit.int .u32 y).wf = true) p.1 ∧ (fun p => (fun y : Int => (Lit.int .u32 y).wf = true) p.1 ∧ (fun p => (fun y : Int => (Lit.int .u32 y).wf = true) p.1 ∧ (fun p => (fun y : Int => (Lit.int .u32 y).wf = true) p.1 ∧ (fun y : Int => (Lit.int .u32 y).wf = true) p.2) p.2) p.2) p.2) p.2) p.2) (id x)) := opens_struct id id (fun _ => rfl) Tryd.underlying24 (by kernel_rfl) (opensF_cons rfl op22 (opensF_cons rfl op22 (opensF_cons rfl op22 (opensF_cons rfl op22 (opensF_cons rfl op22 (opensF_cons rfl op22 (opensF_one rfl op22)))))))
def laid : List (String × DataW Unit) := [("chamberlain/msg.has", Rows.laid_chamberlain_msg_has)]
/-- The listed table's cells. -/
theorem gh_var {W : World} (h : laidMetH Tryd.prog laid W) : W.var? Tryd.prog "chamberlain/msg.has" = some #[.int .u32 0, .int .u32 56, .int .u32 64, .int .u32 64, .int .u32 64, .int .u32 64, .int .u32 92, .int .u32 220, .int .u32 196, .int .u32 68] := by
  rw [MakeChecks.laidMetH_plain _ _ _ (by kernel_rfl)] at h
  obtain ⟨ps, ⟨g, t, cs, fuel, p, q, hg, ht, hv, hd, _, _⟩, _, _⟩ := h
  obtain rfl := Option.some.inj ((show Tryd.prog.globalNamed "chamberlain/msg.has" = some 0 by kernel_rfl).symm.trans hg)
  obtain rfl := Option.some.inj ((show (Tryd.prog.globals[0]?).map (·.type) = some 61 by kernel_rfl).symm.trans ht)
  have c22 : Tryd.prog.cellsOf 22 = 1 := by kernel_rfl
  have c61 : Tryd.prog.cellsOf 61 = 10 := by kernel_rfl
  obtain ⟨xs, m, _, ex, hlen, hl, hel⟩ := DataW.trod_array Tryd.underlying61 hd
  rw [c61] at hlen
  obtain ⟨l⟩ := cs
  match l, hlen with
  | [a0, a1, a2, a3, a4, a5, a6, a7, a8, a9], _ =>
    match xs, hl with
    | [x0, x1, x2, x3, x4, x5, x6, x7, x8, x9], _ =>
      have e3 := (DataW.agg.inj (Prod.mk.inj ex).1)
      simp only [List.map_cons, List.map_nil, List.cons.injEq, and_true] at e3
      have k0 := hel 0 (by omega)
      have k1 := hel 1 (by omega)
      have k2 := hel 2 (by omega)
      have k3 := hel 3 (by omega)
      have k4 := hel 4 (by omega)
      have k5 := hel 5 (by omega)
      have k6 := hel 6 (by omega)
      have k7 := hel 7 (by omega)
      have k8 := hel 8 (by omega)
      have k9 := hel 9 (by omega)
      rw [c22] at k0 k1 k2 k3 k4 k5 k6 k7 k8 k9
      obtain ⟨z0, s0, b0, _⟩ := DataW.trod_int Tryd.underlying22 k0
      obtain ⟨z1, s1, b1, _⟩ := DataW.trod_int Tryd.underlying22 k1
      obtain ⟨z2, s2, b2, _⟩ := DataW.trod_int Tryd.underlying22 k2
      obtain ⟨z3, s3, b3, _⟩ := DataW.trod_int Tryd.underlying22 k3
      obtain ⟨z4, s4, b4, _⟩ := DataW.trod_int Tryd.underlying22 k4
      obtain ⟨z5, s5, b5, _⟩ := DataW.trod_int Tryd.underlying22 k5
      obtain ⟨z6, s6, b6, _⟩ := DataW.trod_int Tryd.underlying22 k6
      obtain ⟨z7, s7, b7, _⟩ := DataW.trod_int Tryd.underlying22 k7
      obtain ⟨z8, s8, b8, _⟩ := DataW.trod_int Tryd.underlying22 k8
      obtain ⟨z9, s9, b9, _⟩ := DataW.trod_int Tryd.underlying22 k9
      rw [hv]
      simp_all
      omega
theorem gh_row {W : World} (h : laidMetH Tryd.prog laid W) : GH W := by
  intro i hi
  have hcell := World.var?_cell (show Tryd.prog.globalNamed "chamberlain/msg.has" = some 0 by kernel_rfl) (gh_var h) i
  rw [hcell]
  have hc : i = 0 ∨ i = 1 ∨ i = 2 ∨ i = 3 ∨ i = 4 ∨ i = 5 ∨ i = 6 ∨ i = 7 ∨ i = 8 ∨ i = 9 := by omega
  rcases hc with rfl | rfl | rfl | rfl | rfl | rfl | rfl | rfl | rfl | rfl <;> rfl
set_option maxRecDepth 100000 in
theorem lifted (os : Os) (started : os.Started) (H : Type) (enc : TypeId × Value → H) :
    ReturnsInHanded {} Tryd.checked os 5 .any (fun w args => (Rows.msgBackSpec.pre enc Tryd.prog Tryd.f5 [] false w args ∧ laidMetH Tryd.prog laid w) ∧ sizedMet enc Tryd.prog Tryd.f5 (OpenSpec.ofChange Rows.msgBackSpec) false w args) (Rows.msgBackSpec.post enc Tryd.prog Tryd.f5 false true false false) := by
  refine returnsInHanded_of_change_and (C := Tryd.checked) (X := fun w _ => laidMetH Tryd.prog laid w) (fun _ _ _ hh h => h.of_heap hh) own started (by kernel_rfl) Tryd.func5
    (ChangeSpec.witness_shaped (enc := enc) (C := Tryd.checked) (os := os) (X := fun w _ => laidMetH Tryd.prog laid w) false (World.laidAll Tryd.prog os laid) #[.agg #[.int .u32 0, .int .u32 0, .int .u32 0, .int .u32 0, .int .u32 0, .int .u32 0, .int .u32 0], .agg #[.int .u32 0, .int .u32 0, .int .u32 0, .int .u32 0, .int .u32 0, .int .u32 0, .int .u32 0], .slice none 0 0] 8 (World.laidAll_os _ _ _) (World.shaped_of_ZipB (by kernel_rfl) (by kernel_rfl)) (by kernel_rfl) (by kernel_rfl) (by kernel_rfl)
      (by rw [MakeChecks.laidMetH_plain _ _ _ (by kernel_rfl)]; exact laidMet_laidAll _ (by kernel_rfl) (by kernel_rfl))) ?_
  intro W base args ds gs before hval0 hW _ _ hL _
  have hval : ∀ (j : Nat) t v, Tryd.f5.params[j]? = some t → args[j]? = some v → Value.okWide Tryd.prog W .any base t v := hval0
  have hW' := hW
  obtain ⟨p, q, hA0, hV, rfl, hfz, hnd⟩ := hW
  have hA : DataW.TrodAll enc Tryd.prog W 0 (fun _ => true) true Tryd.f5.params.toList args.toList ds p := hA0
  rw [Tryd.params5] at hA hval
  obtain ⟨v0, vs0, e0, es0, p0, q0, hargs, rfl, rfl, h0, r0⟩ := trodAll_cons hA
  obtain ⟨v1, vs1, e1, es1, p1, q1, rfl, rfl, rfl, h1, r1⟩ := trodAll_cons r0
  obtain ⟨v2, vs2, e2, es2, p2, q2, rfl, rfl, rfl, h2, r2⟩ := trodAll_cons r1
  obtain ⟨rfl, rfl, rfl⟩ := trodAll_nil r2
  obtain rfl : args = #[v0, v1, v2] := by cases args; simp_all
  obtain ⟨rfl, rfl⟩ := trodVars_none hV
  have hG := gh_row hL
  have k0 := h0
  have lt0 : ∀ x ∈ p0, x.block < W.heap.size := by obtain ⟨m, hm⟩ := k0; exact DataW.trod_lt m _ _ _ hm
  obtain ⟨cs0, rfl, hz0⟩ := okWide_struct Tryd.underlying24 (hval 0 24 v0 rfl rfl)
  obtain ⟨fuel0, hf0⟩ := h0
  obtain ⟨⟨a0_0, a0_1, a0_2, a0_3, a0_4, a0_5, a0_6⟩, hK0, ⟨gs0_0, gs0_1, gs0_2, gs0_3, gs0_4, gs0_5, gs0_6⟩⟩ := opA24.2 _ _ _ _ _ _ _ _ _ hf0
  obtain ⟨cl0, hcl0⟩ : ∃ cl, cl = (Value.agg cs0).cells.toList := ⟨_, rfl⟩
  rw [← hcl0] at hK0
  obtain ⟨_, _, rfl, rfl, ⟨_, _, rfl, rfl, ⟨_, _, rfl, rfl, ⟨_, _, rfl, rfl, ⟨_, _, rfl, rfl, ⟨_, _, rfl, rfl, rfl⟩⟩⟩⟩⟩⟩ := hK0
  obtain rfl : cs0 = #[.int .u32 a0_0, .int .u32 a0_1, .int .u32 a0_2, .int .u32 a0_3, .int .u32 a0_4, .int .u32 a0_5, .int .u32 a0_6] := by
    apply Array.toList_inj.mp
    exact hcl0.symm
  have k1 := h1
  have lt1 : ∀ x ∈ p1, x.block < W.heap.size := by obtain ⟨m, hm⟩ := k1; exact DataW.trod_lt m _ _ _ hm
  obtain ⟨cs1, rfl, hz1⟩ := okWide_struct Tryd.underlying24 (hval 1 24 v1 rfl rfl)
  obtain ⟨fuel1, hf1⟩ := h1
  obtain ⟨⟨a1_0, a1_1, a1_2, a1_3, a1_4, a1_5, a1_6⟩, hK1, ⟨gs1_0, gs1_1, gs1_2, gs1_3, gs1_4, gs1_5, gs1_6⟩⟩ := opA24.2 _ _ _ _ _ _ _ _ _ hf1
  obtain ⟨cl1, hcl1⟩ : ∃ cl, cl = (Value.agg cs1).cells.toList := ⟨_, rfl⟩
  rw [← hcl1] at hK1
  obtain ⟨_, _, rfl, rfl, ⟨_, _, rfl, rfl, ⟨_, _, rfl, rfl, ⟨_, _, rfl, rfl, ⟨_, _, rfl, rfl, ⟨_, _, rfl, rfl, rfl⟩⟩⟩⟩⟩⟩ := hK1
  obtain rfl : cs1 = #[.int .u32 a1_0, .int .u32 a1_1, .int .u32 a1_2, .int .u32 a1_3, .int .u32 a1_4, .int .u32 a1_5, .int .u32 a1_6] := by
    apply Array.toList_inj.mp
    exact hcl1.symm
  have k2 := h2
  have lt2 : ∀ x ∈ p2, x.block < W.heap.size := by obtain ⟨m, hm⟩ := k2; exact DataW.trod_lt m _ _ _ hm
  obtain ⟨a2, len2, cap2, rfl⟩ := okWide_slice Tryd.underlying26 (hval 2 26 v2 rfl rfl)
  obtain ⟨fuel2, hf2⟩ := h2
  obtain ⟨l2, A2, c2, he2, hc2, hm2, hr2, g2⟩ := opens_row Tryd.underlying26 op22 hf2
  simp only [Value.cells, List.cons.injEq, Value.slice.injEq, and_true] at he2
  obtain ⟨x1, x2, x3⟩ := he2
  have y1 := x1.symm
  have y3 := x3.symm
  clear x1 x3
  subst y1 x2 y3
  obtain ⟨k, hP⟩ := Pure.MsgBack a0_0 a0_1 a0_2 a0_3 a0_4 a0_5 a0_6 a1_0 a1_1 a1_2 a1_3 a1_4 a1_5 a1_6 l2 gs0_0 gs0_1 gs0_2 gs0_3 gs0_4 gs0_5 gs0_6 gs1_0 gs1_1 gs1_2 gs1_3 gs1_4 gs1_5 gs1_6 (Nat.le_trans hc2 hm2) g2
  refine (chamberlainlaw03_MsgBack.calls k a0_0 a0_1 a0_2 a0_3 a0_4 a0_5 a0_6 a1_0 a1_1 a1_2 a1_3 a1_4 a1_5 a1_6 A2 c2 l2 true W hG hr2 hc2 hP rfl).mono fun e W' ⟨he, bel0⟩ => ?_
  have bel : Below W.heap.size W W' := bel0
  subst he
  exact ⟨_, rfl, _, _, _, [], _, [], hW', trodAll_mk1 (shut_bool Tryd.underlying4 _), (trodAll_cons_mk (Below.trod laidOut (by kernel_rfl) (of_decide_eq_true (by kernel_rfl)) k0 bel lt0) (trodAll_cons_mk (Below.trod laidOut (by kernel_rfl) (of_decide_eq_true (by kernel_rfl)) k1 bel lt1) (trodAll_cons_mk (Below.trod laidOut (by kernel_rfl) (of_decide_eq_true (by kernel_rfl)) k2 bel lt2) trodAll_mk0))), rfl, bel.frame _, fun h => by cases h⟩
theorem over : Rows.msgBackRow.holds Tryd.pinned (OpenSpec.ofChange Rows.msgBackSpec) :=
  OpenClaim.holds_of_wide 5 Tryd.f5 rfl rfl rfl rfl rfl rfl rfl ⟨rfl, rfl, rfl, rfl, rfl⟩ rfl rfl rfl rfl rfl (by kernel_rfl) Tryd.func5 (by kernel_rfl)
    (of_decide_eq_true (by kernel_rfl)) (by unfold Func.isWrapper; first | (rw [if_pos (by decide +kernel)]; kernel_rfl) | (rw [if_neg (by decide +kernel)]; exact ⟨rfl, rfl⟩))
    (fun os started H enc _ => lifted os started H enc)
theorem proved : Rows.MsgBackSaid := over
#print axioms proved
end Go.Proofs.YtkmgfleoondblaaDoor.msgBack
namespace Go.Proofs.YtkmgfleoondblaaDoor
/-- The row, under a short name, for the claim. -/
theorem msgBack_holds : Rows.MsgBackSaid := msgBack.proved
/-- The card, its listed variable tied to the program's text. -/
theorem msgBack_card : Rows.MsgBackCardSaid :=
  Claim7.holds_tied_plain_at .later [] [.data] true (true, "7242ace02ed7528fa88854aa8f3e901976bae7278800be57dc2e3c81a9ce6e2a") false msgBack.proved (fun _ h => by cases h) (by kernel_rfl) (fun _ h => by cases h) msgBack_row_tie rfl ⟨rfl, rfl⟩ (by kernel_rfl) rfl
    (fun f fn hf hfn => by
      obtain rfl : f = 5 := Option.some.inj ((show Tryd.prog.funcNamed "chamberlain/chamberlainlaw03.MsgBack" = some 5 by kernel_rfl).symm.trans hf) |>.symm
      obtain rfl : fn = Tryd.f5 := (Option.some.inj (Tryd.func5.symm.trans hfn)).symm
      exact ⟨by kernel_rfl, fun j t ht => by
        rw [Tryd.params5] at ht
        have hm : t ∈ [24, 24, 26] := by simpa using Array.mem_of_getElem? ht
        have hall : ([24, 24, 26].all fun u => !Tryd.prog.wantsStandIn u) = true := by kernel_rfl
        exact (show Tryd.prog.wantsStandIn t = false by simpa using List.all_eq_true.1 hall t hm)⟩)
    (by kernel_rfl)
#print axioms msgBack_card
end Go.Proofs.YtkmgfleoondblaaDoor
