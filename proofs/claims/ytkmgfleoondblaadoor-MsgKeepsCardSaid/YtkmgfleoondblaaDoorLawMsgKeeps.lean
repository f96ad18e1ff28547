-- Written for this claim by wip/tools/myprint.py (print.py's forms; proofs of the faked functions by hand).
import Derived.Test.YtkmgfleoondblaaDoorRows
import Derived.Test.YtkmgfleoondblaaDoorPMsgKeepsx6
import Derived.Test.YtkmgfleoondblaaDoorPureMsgKeeps
import Derived.Test.YtkmgfleoondblaaDoorTie
import Derived.Test.YtkmgfleoondblaaDoorCards
import Derived.LaidMore
import Derived.Lay
import Derived.LaidOnce
import Derived.SevenTiedAt
import Derived.Stop.Joined
import Derived.WalkKit
import Derived.ProofKit
import Derived.OpenShut
import Derived.ShutString
import Derived.ChangeOld
import Derived.Below
import Derived.SizedLaws
import Derived.Test.YtkmgfleoondblaaDoorWSized
namespace Go.Proofs.YtkmgfleoondblaaDoor.msgKeeps
open Go.ChangeShapes Go.WideShapes Go.ChangeAt Go.RowKit
open Go.ChangeMaps (open_string shut_string)
open Go.Proofs.YtkmgfleoondblaaDoor.PMsgKeeps
set_option linter.unusedVariables false
theorem own : ownKnob Tryd.prog.godebug = none := by kernel_rfl
theorem laidOut : laidOutB Tryd.prog = true := by kernel_rfl
def IsRow (k : IntKind) (w : World) (a : Option Addr) (len cap : Nat) (zs : List Int) : Prop :=
  (a = none ∧ len = 0 ∧ cap = 0 ∧ zs = []) ∨
  ∃ x, a = some x ∧ len ≤ cap ∧ cap ≤ maxLen ∧ zs.length = cap ∧ (∀ i, i < zs.length → w.cell? (x.add i) = some (.int k (zs.getD i 0))) ∧ ∀ n ∈ zs, (Lit.int k n).wf = true
def laid : List (String × DataW Unit) := [("chamberlain/msg.has", Rows.laid_chamberlain_msg_has)]
/-- The listed table's cells. -/
theorem gh_var {W : World} (h : laidMetH Tryd.prog laid W) : W.var? Tryd.prog "chamberlain/msg.has" = some #[.int .u32 0, .int .u32 56, .int .u32 64, .int .u32 64, .int .u32 64, .int .u32 64, .int .u32 92, .int .u32 220, .int .u32 196, .int .u32 68] := by
  rw [MakeChecks.laidMetH_plain _ _ _ (by kernel_rfl)] at h
  obtain ⟨ps, ⟨g, t, cs, fuel, p, q, hg, ht, hv, hd, _, _⟩, _, _⟩ := h
  obtain rfl := Option.some.inj ((show Tryd.prog.globalNamed "chamberlain/msg.has" = some 0 by kernel_rfl).symm.trans hg)
  obtain rfl := Option.some.inj ((show (Tryd.prog.globals[0]?).map (·.type) = some 61 by kernel_rfl).symm.trans ht)
  have c22 : Tryd.prog.cellsOf 22 = 1 := by kernel_rfl
  have c61 : Tryd.prog.cellsOf 61 = 10 := by kernel_rfl
  obtain ⟨xs, m, _, ex, hlen, hl, hel⟩ := DataW.trod_array Tryd.underlying61 hd
  rw [c61] at hlen
  obtain ⟨l⟩ := cs
  match l, hlen with
  | [a0, a1, a2, a3, a4, a5, a6, a7, a8, a9], _ =>
    match xs, hl with
    | [x0, x1, x2, x3, x4, x5, x6, x7, x8, x9], _ =>
      have e3 := (DataW.agg.inj (Prod.mk.inj ex).1)
      simp only [List.map_cons, List.map_nil, List.cons.injEq, and_true] at e3
      have k0 := hel 0 (by omega)
      have k1 := hel 1 (by omega)
      have k2 := hel 2 (by omega)
      have k3 := hel 3 (by omega)
      have k4 := hel 4 (by omega)
      have k5 := hel 5 (by omega)
      have k6 := hel 6 (by omega)
      have k7 := hel 7 (by omega)
      have k8 := hel 8 (by omega)
      have k9 := hel 9 (by omega)
      rw [c22] at k0 k1 k2 k3 k4 k5 k6 k7 k8 k9
      obtain ⟨z0, s0, b0, _⟩ := DataW.trod_int Tryd.underlying22 k0
      obtain ⟨z1, s1, b1, _⟩ := DataW.trod_int Tryd.underlying22 k1
      obtain ⟨z2, s2, b2, _⟩ := DataW.trod_int Tryd.underlying22 k2
      obtain ⟨z3, s3, b3, _⟩ := DataW.trod_int Tryd.underlying22 k3
      obtain ⟨z4, s4, b4, _⟩ := DataW.trod_int Tryd.underlying22 k4
      obtain ⟨z5, s5, b5, _⟩ := DataW.trod_int Tryd.underlying22 k5
      obtain ⟨z6, s6, b6, _⟩ := DataW.trod_int Tryd.underlying22 k6
      obtain ⟨z7, s7, b7, _⟩ := DataW.trod_int Tryd.underlying22 k7
      obtain ⟨z8, s8, b8, _⟩ := DataW.trod_int Tryd.underlying22 k8
      obtain ⟨z9, s9, b9, _⟩ := DataW.trod_int Tryd.underlying22 k9
      rw [hv]
      simp_all
      omega
theorem gh_row {W : World} (h : laidMetH Tryd.prog laid W) : GH W := by
  intro i hi
  have hcell := World.var?_cell (show Tryd.prog.globalNamed "chamberlain/msg.has" = some 0 by kernel_rfl) (gh_var h) i
  rw [hcell]
  have hc : i = 0 ∨ i = 1 ∨ i = 2 ∨ i = 3 ∨ i = 4 ∨ i = 5 ∨ i = 6 ∨ i = 7 ∨ i = 8 ∨ i = 9 := by omega
  rcases hc with rfl | rfl | rfl | rfl | rfl | rfl | rfl | rfl | rfl | rfl <;> rfl
set_option maxRecDepth 100000 in
theorem lifted (os : Os) (started : os.Started) (H : Type) (enc : TypeId × Value → H) :
    ReturnsInHanded {} Tryd.checked os 7 .any (fun w args => (Rows.msgKeepsSpec.pre enc Tryd.prog Tryd.f7 [] false w args ∧ laidMetH Tryd.prog laid w) ∧ sizedMet enc Tryd.prog Tryd.f7 (OpenSpec.ofChange Rows.msgKeepsSpec) false w args) (Rows.msgKeepsSpec.post enc Tryd.prog Tryd.f7 false true false false) := by
  refine returnsInHanded_of_change_and (C := Tryd.checked) (X := fun w _ => laidMetH Tryd.prog laid w) (fun _ _ _ hh h => h.of_heap hh) own started (by kernel_rfl) Tryd.func7
    (ChangeSpec.witness_shaped (enc := enc) (C := Tryd.checked) (os := os) (X := fun w _ => laidMetH Tryd.prog laid w) false (World.laidAll Tryd.prog os laid) #[.slice none 0 0] 8 (World.laidAll_os _ _ _) (World.shaped_of_ZipB (by kernel_rfl) (by kernel_rfl)) (by kernel_rfl) (by kernel_rfl) (by kernel_rfl)
      (by rw [MakeChecks.laidMetH_plain _ _ _ (by kernel_rfl)]; exact laidMet_laidAll _ (by kernel_rfl) (by kernel_rfl))) ?_
  intro W base args ds gs before hval0 hW hcnd hsz0 hL _
  have hsz : (DataW.weightsEach Tryd.prog (Tryd.f7.params.toList ++ Rows.msgKeepsSpec.plain.varTypes Tryd.prog) (ds ++ gs)).all (· ≤ reachBytes) = true := hsz0
  have hval : ∀ (j : Nat) t v, Tryd.f7.params[j]? = some t → args[j]? = some v → Value.okWide Tryd.prog W .any base t v := hval0
  have hW' := hW
  obtain ⟨p, q, hA0, hV, rfl, hfz, hnd⟩ := hW
  have hA : DataW.TrodAll enc Tryd.prog W 0 (fun _ => true) true Tryd.f7.params.toList args.toList ds p := hA0
  rw [Tryd.params7] at hA hval hsz
  obtain ⟨v0, vs0, d0, ds0, p0, q0, hargs, rfl, rfl, h0, r0⟩ := trodAll_cons hA
  obtain ⟨rfl, rfl, rfl⟩ := trodAll_nil r0
  obtain rfl : args = #[v0] := by cases args; simp_all
  obtain ⟨rfl, rfl⟩ := trodVars_none hV
  have hG := gh_row hL
  obtain ⟨a0, len0, cap0, rfl⟩ := okWide_slice Tryd.underlying26 (hval 0 26 v0 rfl rfl)
  have k0 := h0
  have lt0 : ∀ x ∈ p0, x.block < W.heap.size := by obtain ⟨m, hm⟩ := k0; exact DataW.trod_lt m _ _ _ hm
  obtain ⟨z0, w0⟩ : ∃ zs, IsRow .u32 W a0 len0 cap0 zs := by
    obtain ⟨fuel, hf⟩ := h0
    rcases open_ints Tryd.underlying26 Tryd.underlying22 (by kernel_rfl) hf with ⟨hcs, _⟩ | ⟨x, l, c, zs, hcs, _, hl, hm, hz, _, hcell, hwz⟩
    · simp [Value.cells] at hcs
      obtain ⟨rfl, rfl, rfl⟩ := hcs
      exact ⟨[], .inl ⟨rfl, rfl, rfl, rfl⟩⟩
    · simp [Value.cells] at hcs
      obtain ⟨rfl, rfl, rfl⟩ := hcs
      exact ⟨zs, .inr ⟨_, rfl, hl, hm, by simpa using hz, hcell, hwz⟩⟩
  have y0 : len0 * 4 ≤ 140737488351232 := Go.Proofs.YtkmgfleoondblaaDoorW.PrintWords.sized_ints hsz (j := 0) (t := 26) rfl rfl Tryd.underlying26 Tryd.underlying22 (by kernel_rfl) (by kernel_rfl) h0
  clear hA0 hval0 hsz0 hsz
  refine (PMsgKeeps.chamberlainlaw03_MsgKeeps.walk Pure.MsgKeeps a0 len0 cap0 z0 W hG w0 y0).mono fun e W' ⟨he, bel⟩ => ?_
  subst he
  exact ⟨_, rfl, _, _, _, [], _, [], hW', trodAll_mk1 (shut_bool Tryd.underlying4 _), (trodAll_cons_mk (Below.trod laidOut (by kernel_rfl) (of_decide_eq_true (by kernel_rfl)) k0 bel lt0) trodAll_mk0), rfl, bel.frame _, fun h => by cases h⟩
theorem over : Rows.msgKeepsRow.holds Tryd.pinned (OpenSpec.ofChange Rows.msgKeepsSpec) :=
  OpenClaim.holds_of_wide 7 Tryd.f7 rfl rfl rfl rfl rfl rfl rfl ⟨rfl, rfl, rfl, rfl, rfl⟩ rfl rfl rfl rfl rfl (by kernel_rfl) Tryd.func7 (by kernel_rfl)
    (of_decide_eq_true (by kernel_rfl)) (by unfold Func.isWrapper; first | (rw [if_pos (by decide +kernel)]; kernel_rfl) | (rw [if_neg (by decide +kernel)]; exact ⟨rfl, rfl⟩))
    (fun os started H enc _ => lifted os started H enc)
theorem proved : Rows.MsgKeepsSaid := over
#print axioms proved
end Go.Proofs.YtkmgfleoondblaaDoor.msgKeeps
namespace Go.Proofs.YtkmgfleoondblaaDoor
/-- The row, under a short name, for the claim. -/
theorem msgKeeps_holds : Rows.MsgKeepsSaid := msgKeeps.proved
/-- The card, its listed variable tied to the program's text. -/
theorem msgKeeps_card : Rows.MsgKeepsCardSaid :=
  Claim7.holds_tied_plain_at .later [] [.data] true (true, "7242ace02ed7528fa88854aa8f3e901976bae7278800be57dc2e3c81a9ce6e2a") false msgKeeps.proved (fun _ h => by cases h) (by kernel_rfl) (fun _ h => by cases h) msgKeeps_row_tie rfl ⟨rfl, rfl⟩ (by kernel_rfl) rfl
    (fun f fn hf hfn => by
      obtain rfl : f = 7 := Option.some.inj ((show Tryd.prog.funcNamed "chamberlain/chamberlainlaw03.MsgKeeps" = some 7 by kernel_rfl).symm.trans hf) |>.symm
      obtain rfl : fn = Tryd.f7 := (Option.some.inj (Tryd.func7.symm.trans hfn)).symm
      exact ⟨by kernel_rfl, fun j t ht => by
        rw [Tryd.params7] at ht
        have hm : t ∈ [26] := by simpa using Array.mem_of_getElem? ht
        have hall : ([26].all fun u => !Tryd.prog.wantsStandIn u) = true := by kernel_rfl
        exact (show Tryd.prog.wantsStandIn t = false by simpa using List.all_eq_true.1 hall t hm)⟩)
    (by kernel_rfl)
#print axioms msgKeeps_card
end Go.Proofs.YtkmgfleoondblaaDoor
