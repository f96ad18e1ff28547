/- The law MsgSpoilt: for every input that can be read it returns true, and each argument reads as it did; no condition. -/
import Derived.Test.YtkmgfleoondblaaDoorRows
import Derived.Test.YtkmgfleoondblaaDoorPMsgSpoiltx5
import Derived.Test.YtkmgfleoondblaaDoorQMsgSpoilt
import Derived.Test.YtkmgfleoondblaaDoorPureMsgSpoilt
import Derived.Test.YtkmgfleoondblaaDoorOpens
import Derived.Test.YtkmgfleoondblaaDoorTie
import Derived.Test.YtkmgfleoondblaaDoorCards
import Derived.LaidMore
import Derived.Lay
import Derived.LaidOnce
import Derived.SevenTiedAt
import Derived.Stop.Joined
import Derived.WalkKit
import Derived.ProofKit
import Derived.OpenShut
import Derived.ShutString
import Derived.ChangeOld
import Derived.Below
import Derived.SizedLaws
import Derived.Carry
namespace Go.Proofs.YtkmgfleoondblaaDoor.msgSpoilt
open Go Go.ChangeShapes Go.WideShapes Go.ChangeAt Go.RowKit Go.Proofs.YtkmgfleoondblaaDoor.PMsgSpoilt Go.Proofs.YtkmgfleoondblaaDoorW.PrintWords Go.Proofs.YtkmgfleoondblaaDoorW.Opens Go.Proofs.YtkmgfleoondblaaDoor.Pure
open Go.ChangeMaps (open_string shut_string)
open Go.Proofs.YtkmgfleoondblaaDoor.PMsgSpoilt
theorem own : ownKnob Tryd.prog.godebug = none := by kernel_rfl
theorem laidOut : laidOutB Tryd.prog = true := by kernel_rfl
theorem op5 : Opens Tryd.prog 5 (Kd.int .u8) (fun y => (Lit.int .u8 y).wf = true) := opens_int Tryd.underlying5 (by kernel_rfl)
theorem op22 : Opens Tryd.prog 22 (Kd.int .u32) (fun y => (Lit.int .u32 y).wf = true) := opens_int Tryd.underlying22 (by kernel_rfl)
theorem cut6 {α : Type} (l : List α) (h : l.length = 6) : ∃ u0 u1 u2 u3 u4 u5, l = [u0, u1, u2, u3, u4, u5] := by
  match l, h with
  | [u0, u1, u2, u3, u4, u5], _ => exact ⟨_, _, _, _, _, _, rfl⟩
theorem okWide_array {P : Program} {w : World} {r : Reach} {base : Nat} {t : TypeId} {v : Value} {n : Nat} {e : TypeId} (ht : P.underlying t = some (.array n e)) (h : Value.okWide P w r base t v) : ∃ cs, v = .agg cs ∧ cs.size = P.cellsOf t := by
  simp only [Value.okWide, ht] at h
  obtain ⟨cs, h1, h2, _⟩ := h
  exact ⟨cs, h1, h2⟩
def laid : List (String × DataW Unit) := [("chamberlain/msg.has", Rows.laid_chamberlain_msg_has)]
/-- The listed table's cells. -/
theorem gh_var {W : World} (h : laidMetH Tryd.prog laid W) : W.var? Tryd.prog "chamberlain/msg.has" = some #[.int .u32 0, .int .u32 56, .int .u32 64, .int .u32 64, .int .u32 64, .int .u32 64, .int .u32 92, .int .u32 220, .int .u32 196, .int .u32 68] := by
  rw [MakeChecks.laidMetH_plain _ _ _ (by kernel_rfl)] at h
  obtain ⟨ps, ⟨g, t, cs, fuel, p, q, hg, ht, hv, hd, _, _⟩, _, _⟩ := h
  obtain rfl := Option.some.inj ((show Tryd.prog.globalNamed "chamberlain/msg.has" = some 0 by kernel_rfl).symm.trans hg)
  obtain rfl := Option.some.inj ((show (Tryd.prog.globals[0]?).map (·.type) = some 61 by kernel_rfl).symm.trans ht)
  have c22 : Tryd.prog.cellsOf 22 = 1 := by kernel_rfl
  have c61 : Tryd.prog.cellsOf 61 = 10 := by kernel_rfl
  obtain ⟨xs, m, _, ex, hlen, hl, hel⟩ := DataW.trod_array Tryd.underlying61 hd
  rw [c61] at hlen
  obtain ⟨l⟩ := cs
  match l, hlen with
  | [a0, a1, a2, a3, a4, a5, a6, a7, a8, a9], _ =>
    match xs, hl with
    | [x0, x1, x2, x3, x4, x5, x6, x7, x8, x9], _ =>
      have e3 := (DataW.agg.inj (Prod.mk.inj ex).1)
      simp only [List.map_cons, List.map_nil, List.cons.injEq, and_true] at e3
      have k0 := hel 0 (by omega)
      have k1 := hel 1 (by omega)
      have k2 := hel 2 (by omega)
      have k3 := hel 3 (by omega)
      have k4 := hel 4 (by omega)
      have k5 := hel 5 (by omega)
      have k6 := hel 6 (by omega)
      have k7 := hel 7 (by omega)
      have k8 := hel 8 (by omega)
      have k9 := hel 9 (by omega)
      rw [c22] at k0 k1 k2 k3 k4 k5 k6 k7 k8 k9
      obtain ⟨z0, s0, b0, _⟩ := DataW.trod_int Tryd.underlying22 k0
      obtain ⟨z1, s1, b1, _⟩ := DataW.trod_int Tryd.underlying22 k1
      obtain ⟨z2, s2, b2, _⟩ := DataW.trod_int Tryd.underlying22 k2
      obtain ⟨z3, s3, b3, _⟩ := DataW.trod_int Tryd.underlying22 k3
      obtain ⟨z4, s4, b4, _⟩ := DataW.trod_int Tryd.underlying22 k4
      obtain ⟨z5, s5, b5, _⟩ := DataW.trod_int Tryd.underlying22 k5
      obtain ⟨z6, s6, b6, _⟩ := DataW.trod_int Tryd.underlying22 k6
      obtain ⟨z7, s7, b7, _⟩ := DataW.trod_int Tryd.underlying22 k7
      obtain ⟨z8, s8, b8, _⟩ := DataW.trod_int Tryd.underlying22 k8
      obtain ⟨z9, s9, b9, _⟩ := DataW.trod_int Tryd.underlying22 k9
      rw [hv]
      simp_all
      omega
theorem gh_row {W : World} (h : laidMetH Tryd.prog laid W) : GH W := by
  intro i hi
  have hcell := World.var?_cell (show Tryd.prog.globalNamed "chamberlain/msg.has" = some 0 by kernel_rfl) (gh_var h) i
  rw [hcell]
  have hc : i = 0 ∨ i = 1 ∨ i = 2 ∨ i = 3 ∨ i = 4 ∨ i = 5 ∨ i = 6 ∨ i = 7 ∨ i = 8 ∨ i = 9 := by omega
  rcases hc with rfl | rfl | rfl | rfl | rfl | rfl | rfl | rfl | rfl | rfl <;> rfl
set_option maxRecDepth 100000 in
theorem lifted (os : Os) (started : os.Started) (H : Type) (enc : TypeId × Value → H) :
    ReturnsInHanded {} Tryd.checked os 6 .any (fun w args => (Rows.msgSpoiltSpec.pre enc Tryd.prog Tryd.f6 [] false w args ∧ laidMetH Tryd.prog laid w) ∧ sizedMet enc Tryd.prog Tryd.f6 (OpenSpec.ofChange Rows.msgSpoiltSpec) false w args) (Rows.msgSpoiltSpec.post enc Tryd.prog Tryd.f6 false true false false) := by
  refine returnsInHanded_of_change_and (C := Tryd.checked) (X := fun w _ => laidMetH Tryd.prog laid w) (fun _ _ _ hh h => h.of_heap hh) own started (by kernel_rfl) Tryd.func6
    (ChangeSpec.witness_shaped (enc := enc) (C := Tryd.checked) (os := os) (X := fun w _ => laidMetH Tryd.prog laid w) false (World.laidAll Tryd.prog os laid) #[.int .u8 0, .agg #[.int .u32 0, .int .u32 0, .int .u32 0, .int .u32 0, .int .u32 0, .int .u32 0], .int .u8 0, .int .u32 0, .int .u32 0] 8 (World.laidAll_os _ _ _) (World.shaped_of_ZipB (by kernel_rfl) (by kernel_rfl)) (by kernel_rfl) (by kernel_rfl) (by kernel_rfl)
      (by rw [MakeChecks.laidMetH_plain _ _ _ (by kernel_rfl)]; exact laidMet_laidAll _ (by kernel_rfl) (by kernel_rfl))) ?_
  intro W base args ds gs before hval0 hW _ _ hL _
  have hval : ∀ (j : Nat) t v, Tryd.f6.params[j]? = some t → args[j]? = some v → Value.okWide Tryd.prog W .any base t v := hval0
  have hW' := hW
  obtain ⟨p, q, hA0, hV, rfl, hfz, hnd⟩ := hW
  have hA : DataW.TrodAll enc Tryd.prog W 0 (fun _ => true) true Tryd.f6.params.toList args.toList ds p := hA0
  rw [Tryd.params6] at hA hval
  obtain ⟨v0, vs0, e0, es0, p0, q0, hargs, rfl, rfl, h0, r0⟩ := trodAll_cons hA
  obtain ⟨v1, vs1, e1, es1, p1, q1, rfl, rfl, rfl, h1, r1⟩ := trodAll_cons r0
  obtain ⟨v2, vs2, e2, es2, p2, q2, rfl, rfl, rfl, h2, r2⟩ := trodAll_cons r1
  obtain ⟨v3, vs3, e3, es3, p3, q3, rfl, rfl, rfl, h3, r3⟩ := trodAll_cons r2
  obtain ⟨v4, vs4, e4, es4, p4, q4, rfl, rfl, rfl, h4, r4⟩ := trodAll_cons r3
  obtain ⟨rfl, rfl, rfl⟩ := trodAll_nil r4
  obtain rfl : args = #[v0, v1, v2, v3, v4] := by cases args; simp_all
  obtain ⟨rfl, rfl⟩ := trodVars_none hV
  have hG := gh_row hL
  have k0 := h0
  have lt0 : ∀ x ∈ p0, x.block < W.heap.size := by obtain ⟨m, hm⟩ := k0; exact DataW.trod_lt m _ _ _ hm
  obtain ⟨a0, rfl, _, _, w0⟩ := open_int Tryd.underlying5 (hval 0 5 v0 rfl rfl) h0
  have k1 := h1
  have lt1 : ∀ x ∈ p1, x.block < W.heap.size := by obtain ⟨m, hm⟩ := k1; exact DataW.trod_lt m _ _ _ hm
  obtain ⟨cs1, rfl, hz1⟩ := okWide_array Tryd.underlying41 (hval 1 41 v1 rfl rfl)
  obtain ⟨fuel1, hf1⟩ := h1
  obtain ⟨l1⟩ := cs1
  obtain ⟨xs1, m1, _, ex1, hlen1, hl1, hel1⟩ := DataW.trod_array Tryd.underlying41 hf1
  rw [show Tryd.prog.cellsOf 41 = 6 by kernel_rfl] at hlen1
  replace hlen1 : l1.length = 6 := hlen1
  obtain ⟨u1_0, u1_1, u1_2, u1_3, u1_4, u1_5, rfl⟩ := cut6 l1 hlen1
  obtain ⟨y1_0, y1_1, y1_2, y1_3, y1_4, y1_5, rfl⟩ := cut6 xs1 hl1
  have ka1_0 := hel1 0 (by omega)
  rw [show Tryd.prog.cellsOf 22 = 1 by kernel_rfl] at ka1_0
  obtain ⟨a1_0, sa1_0, _, wa1_0⟩ := DataW.trod_int Tryd.underlying22 ka1_0
  obtain rfl : u1_0 = .int .u32 a1_0 := List.cons.inj sa1_0 |>.1
  have ka1_1 := hel1 1 (by omega)
  rw [show Tryd.prog.cellsOf 22 = 1 by kernel_rfl] at ka1_1
  obtain ⟨a1_1, sa1_1, _, wa1_1⟩ := DataW.trod_int Tryd.underlying22 ka1_1
  obtain rfl : u1_1 = .int .u32 a1_1 := List.cons.inj sa1_1 |>.1
  have ka1_2 := hel1 2 (by omega)
  rw [show Tryd.prog.cellsOf 22 = 1 by kernel_rfl] at ka1_2
  obtain ⟨a1_2, sa1_2, _, wa1_2⟩ := DataW.trod_int Tryd.underlying22 ka1_2
  obtain rfl : u1_2 = .int .u32 a1_2 := List.cons.inj sa1_2 |>.1
  have ka1_3 := hel1 3 (by omega)
  rw [show Tryd.prog.cellsOf 22 = 1 by kernel_rfl] at ka1_3
  obtain ⟨a1_3, sa1_3, _, wa1_3⟩ := DataW.trod_int Tryd.underlying22 ka1_3
  obtain rfl : u1_3 = .int .u32 a1_3 := List.cons.inj sa1_3 |>.1
  have ka1_4 := hel1 4 (by omega)
  rw [show Tryd.prog.cellsOf 22 = 1 by kernel_rfl] at ka1_4
  obtain ⟨a1_4, sa1_4, _, wa1_4⟩ := DataW.trod_int Tryd.underlying22 ka1_4
  obtain rfl : u1_4 = .int .u32 a1_4 := List.cons.inj sa1_4 |>.1
  have ka1_5 := hel1 5 (by omega)
  rw [show Tryd.prog.cellsOf 22 = 1 by kernel_rfl] at ka1_5
  obtain ⟨a1_5, sa1_5, _, wa1_5⟩ := DataW.trod_int Tryd.underlying22 ka1_5
  obtain rfl : u1_5 = .int .u32 a1_5 := List.cons.inj sa1_5 |>.1
  have k2 := h2
  have lt2 : ∀ x ∈ p2, x.block < W.heap.size := by obtain ⟨m, hm⟩ := k2; exact DataW.trod_lt m _ _ _ hm
  obtain ⟨a2, rfl, _, _, w2⟩ := open_int Tryd.underlying5 (hval 2 5 v2 rfl rfl) h2
  have k3 := h3
  have lt3 : ∀ x ∈ p3, x.block < W.heap.size := by obtain ⟨m, hm⟩ := k3; exact DataW.trod_lt m _ _ _ hm
  obtain ⟨a3, rfl, _, _, w3⟩ := open_int Tryd.underlying22 (hval 3 22 v3 rfl rfl) h3
  have k4 := h4
  have lt4 : ∀ x ∈ p4, x.block < W.heap.size := by obtain ⟨m, hm⟩ := k4; exact DataW.trod_lt m _ _ _ hm
  obtain ⟨a4, rfl, _, _, w4⟩ := open_int Tryd.underlying22 (hval 4 22 v4 rfl rfl) h4
  obtain ⟨k, hP⟩ := Pure.MsgSpoilt a0 a1_0 a1_1 a1_2 a1_3 a1_4 a1_5 a2 a3 a4 w0 wa1_0 wa1_1 wa1_2 wa1_3 wa1_4 wa1_5 w2 w3 w4
  refine (chamberlainlaw03_MsgSpoilt.calls k a0 a1_0 a1_1 a1_2 a1_3 a1_4 a1_5 a2 a3 a4 true W hG hP rfl).mono fun e W' ⟨he, bel0⟩ => ?_
  have bel : Below W.heap.size W W' := bel0
  subst he
  exact ⟨_, rfl, _, _, _, [], _, [], hW', trodAll_mk1 (shut_bool Tryd.underlying4 _), (trodAll_cons_mk (Below.trod laidOut (by kernel_rfl) (of_decide_eq_true (by kernel_rfl)) k0 bel lt0) (trodAll_cons_mk (Below.trod laidOut (by kernel_rfl) (of_decide_eq_true (by kernel_rfl)) k1 bel lt1) (trodAll_cons_mk (Below.trod laidOut (by kernel_rfl) (of_decide_eq_true (by kernel_rfl)) k2 bel lt2) (trodAll_cons_mk (Below.trod laidOut (by kernel_rfl) (of_decide_eq_true (by kernel_rfl)) k3 bel lt3) (trodAll_cons_mk (Below.trod laidOut (by kernel_rfl) (of_decide_eq_true (by kernel_rfl)) k4 bel lt4) trodAll_mk0))))), rfl, bel.frame _, fun h => by cases h⟩
theorem over : Rows.msgSpoiltRow.holds Tryd.pinned (OpenSpec.ofChange Rows.msgSpoiltSpec) :=
  OpenClaim.holds_of_wide 6 Tryd.f6 rfl rfl rfl rfl rfl rfl rfl ⟨rfl, rfl, rfl, rfl, rfl⟩ rfl rfl rfl rfl rfl (by kernel_rfl) Tryd.func6 (by kernel_rfl)
    (of_decide_eq_true (by kernel_rfl)) (by unfold Func.isWrapper; first | (rw [if_pos (by decide +kernel)]; kernel_rfl) | (rw [if_neg (by decide +kernel)]; exact ⟨rfl, rfl⟩))
    (fun os started H enc _ => lifted os started H enc)
theorem proved : Rows.MsgSpoiltSaid := over
#print axioms proved
end Go.Proofs.YtkmgfleoondblaaDoor.msgSpoilt
namespace Go.Proofs.YtkmgfleoondblaaDoor
/-- The row, under a short name, for the claim. -/
theorem msgSpoilt_holds : Rows.MsgSpoiltSaid := msgSpoilt.proved
/-- The card, its listed variable tied to the program's text. -/
theorem msgSpoilt_card : Rows.MsgSpoiltCardSaid :=
  Claim7.holds_tied_plain_at .later [] [.data] true (true, "7242ace02ed7528fa88854aa8f3e901976bae7278800be57dc2e3c81a9ce6e2a") false msgSpoilt.proved (fun _ h => by cases h) (by kernel_rfl) (fun _ h => by cases h) msgSpoilt_row_tie rfl ⟨rfl, rfl⟩ (by kernel_rfl) rfl
    (fun f fn hf hfn => by
      obtain rfl : f = 6 := Option.some.inj ((show Tryd.prog.funcNamed "chamberlain/chamberlainlaw03.MsgSpoilt" = some 6 by kernel_rfl).symm.trans hf) |>.symm
      obtain rfl : fn = Tryd.f6 := (Option.some.inj (Tryd.func6.symm.trans hfn)).symm
      exact ⟨by kernel_rfl, fun j t ht => by
        rw [Tryd.params6] at ht
        have hm : t ∈ [5, 41, 5, 22, 22] := by simpa using Array.mem_of_getElem? ht
        have hall : ([5, 41, 5, 22, 22].all fun u => !Tryd.prog.wantsStandIn u) = true := by kernel_rfl
        exact (show Tryd.prog.wantsStandIn t = false by simpa using List.all_eq_true.1 hall t hm)⟩)
    (by kernel_rfl)
#print axioms msgSpoilt_card
end Go.Proofs.YtkmgfleoondblaaDoor
