-- Written for this claim by wip/tools/myprint.py (print.py's forms; proofs of the faked functions by hand).
import Derived.Test.YtpbmmompbknimaaPPartWordsx0
namespace Go.Proofs.Ytpbmmompbknimaa.PPartWords
open Go.RowKit Go.Proofs.YtpbmmompbknimaaW.PrintWords Go.Proofs.YtpbmmompbknimaaW.PrintLast Go.Proofs.YtpbmmompbknimaaW.PrintMore
attribute [local go_sem] max2_int min2_int max_two min_two max_three min_three max_four min_four   -- for this text's walks alone
set_option linter.unusedVariables false
set_option linter.unusedSimpArgs false

-- NOT PRINTED: function 17 (part_places)

/-! ### part_Put: function 9 -/
/-- Which fields a label's part has, in order. -/
def pix (label : Int) : List Nat := if label = 2 then [0, 3, 4, 5, 6] else if label = 3 then [4, 2, 5] else if label = 4 then [0] else if label = 5 then [0] else if label = 6 then [0, 1, 2, 3] else if label = 7 then [0, 1, 2, 3] else if label = 8 then [0, 4] else if label = 9 then [0, 4] else []
def pf (fs : List Int) (j : Nat) : Int := fs.getD j 0
def pz (zs : List Nat) (fs : List Int) (j : Nat) : Int := if zs.contains j then 0 else pf fs j
def pfits (label : Int) (fs : List Int) : Bool := !(pix label).isEmpty && (List.range 7).all (fun j => pz (pix label) fs j == 0)
def pwords (label : Int) (fs : List Int) : List Int := if pfits label fs then (pix label).map (fun j => pf fs j) else []
def pwhy (label : Int) (fs : List Int) : Int := if pfits label fs then 0 else 1
def part_Put.f (a0 : Int) (a1_0 : Int) (a1_1 : Int) (a1_2 : Int) (a1_3 : Int) (a1_4 : Int) (a1_5 : Int) (a1_6 : Int) : Option (List Int × Int) := if 0 ≤ a0 ∧ a0 < 4294967296 then some (pwords a0 [a1_0, a1_1, a1_2, a1_3, a1_4, a1_5, a1_6], pwhy a0 [a1_0, a1_1, a1_2, a1_3, a1_4, a1_5, a1_6]) else none
theorem plc.new {w : World} {cs : Array Value} {t n : Nat} (h : w.heap.size = n) : (w.alloc (.cells cs t)).heap[n]? = some (.cells cs t (0, 0)) := by subst h; exact (MapKept.heap_alloc _ _).1
theorem plc.c19 (b c : Nat) (w : World) (hc : w.heap[c]? = some (.cells #[.pointer (some ⟨b, 0, none⟩)] 45 (0, 0))) :
    Calls Try.prog 19 #[.pointer (some ⟨c, 0, none⟩)] w fun e w' => e = .returned (.slice (some ⟨w.heap.size, 0, none⟩) 5 5) ∧ w'.heap[w.heap.size]? = some (.cells #[.pointer (some ⟨b, 0, none⟩), .pointer (some ⟨b, 3, none⟩), .pointer (some ⟨b, 4, none⟩), .pointer (some ⟨b, 5, none⟩), .pointer (some ⟨b, 6, none⟩)] 46 (0, 0)) ∧ Below w.heap.size w w' := by
  have z : w.cell? ⟨c, 0, none⟩ = some (.pointer (some ⟨b, 0, none⟩)) := (blk_cell hc 0).trans rfl
  go_enter Try.func19, Try.ntmps19
  go_wp2
  have hS : (fun w' : World => w'.cell? ⟨c, 0, none⟩ = some (.pointer (some ⟨b, 0, none⟩))) w.drew := z
  refine start_ (n := 17) (S := fun w' : World => w'.cell? ⟨c, 0, none⟩ = some (.pointer (some ⟨b, 0, none⟩))) (ds := []) #[false, false, false, false, false, false, false, false, false, false, false, false, false, false, false, false, false] (by kernel_rfl) rfl rfl hS (fun hHeld => ?_)
  refine take_ (i := 0) (N := some 2) (v := .pointer (some ⟨b, 0, none⟩)) (a' := ?a1) #[true, false, false, false, false, false, false, false, false, false, false, false, false, false, false, false, false] rfl rfl (by kernel_rfl) (fun _ _ _ h => h) (Or.inl ⟨by rfl, ?hy1⟩) hHeld ?ha1 ?hh1
  case hy1 => (intro w' s0; go_simp)
  case ha1 => (simp only [Act.put, List.setIfInBounds_toArray, List.set_cons_zero, List.set_cons_succ, i64_w, i32_w]); rfl
  refine pure_ (i := 1) (N := some 3) (v := ?v2) (a' := ?a2) #[true, true, false, false, false, false, false, false, false, false, false, false, false, false, false, false, false] rfl rfl (by kernel_rfl) (fun _ _ _ h => h) (Or.inl ⟨by rfl, ?hy2⟩) ?ha2 ?hh2
  case hy2 => (intro w'; go_simp; with_reducible rfl)
  case ha2 => (simp only [Act.put, List.setIfInBounds_toArray, List.set_cons_zero, List.set_cons_succ, i64_w, i32_w]); rfl
  refine pure_ (i := 2) (N := some 4) (v := ?v3) (a' := ?a3) #[true, true, true, false, false, false, false, false, false, false, false, false, false, false, false, false, false] rfl rfl (by kernel_rfl) (fun _ _ _ h => h) (Or.inl ⟨by rfl, ?hy3⟩) ?ha3 ?hh3
  case hy3 => (intro w'; go_simp; with_reducible rfl)
  case ha3 => (simp only [Act.put, List.setIfInBounds_toArray, List.set_cons_zero, List.set_cons_succ, i64_w, i32_w]); rfl
  refine take_ (i := 3) (N := some 5) (v := .pointer (some ⟨b, 0, none⟩)) (a' := ?a4) #[true, true, true, true, false, false, false, false, false, false, false, false, false, false, false, false, false] rfl rfl (by kernel_rfl) (fun _ _ _ h => h) (Or.inl ⟨by rfl, ?hy4⟩) hHeld ?ha4 ?hh4
  case hy4 => (intro w' s0; go_simp)
  case ha4 => (simp only [Act.put, List.setIfInBounds_toArray, List.set_cons_zero, List.set_cons_succ, i64_w, i32_w]); rfl
  refine pure_ (i := 4) (N := some 6) (v := ?v5) (a' := ?a5) #[true, true, true, true, true, false, false, false, false, false, false, false, false, false, false, false, false] rfl rfl (by kernel_rfl) (fun _ _ _ h => h) (Or.inl ⟨by rfl, ?hy5⟩) ?ha5 ?hh5
  case hy5 => (intro w'; go_simp; with_reducible rfl)
  case ha5 => (simp only [Act.put, List.setIfInBounds_toArray, List.set_cons_zero, List.set_cons_succ, i64_w, i32_w]); rfl
  refine pure_ (i := 5) (N := some 7) (v := ?v6) (a' := ?a6) #[true, true, true, true, true, true, false, false, false, false, false, false, false, false, false, false, false] rfl rfl (by kernel_rfl) (fun _ _ _ h => h) (Or.inl ⟨by rfl, ?hy6⟩) ?ha6 ?hh6
  case hy6 => (intro w'; go_simp; with_reducible rfl)
  case ha6 => (simp only [Act.put, List.setIfInBounds_toArray, List.set_cons_zero, List.set_cons_succ, i64_w, i32_w]); rfl
  refine take_ (i := 6) (N := some 8) (v := .pointer (some ⟨b, 0, none⟩)) (a' := ?a7) #[true, true, true, true, true, true, true, false, false, false, false, false, false, false, false, false, false] rfl rfl (by kernel_rfl) (fun _ _ _ h => h) (Or.inl ⟨by rfl, ?hy7⟩) hHeld ?ha7 ?hh7
  case hy7 => (intro w' s0; go_simp)
  case ha7 => (simp only [Act.put, List.setIfInBounds_toArray, List.set_cons_zero, List.set_cons_succ, i64_w, i32_w]); rfl
  refine pure_ (i := 7) (N := some 9) (v := ?v8) (a' := ?a8) #[true, true, true, true, true, true, true, true, false, false, false, false, false, false, false, false, false] rfl rfl (by kernel_rfl) (fun _ _ _ h => h) (Or.inl ⟨by rfl, ?hy8⟩) ?ha8 ?hh8
  case hy8 => (intro w'; go_simp; with_reducible rfl)
  case ha8 => (simp only [Act.put, List.setIfInBounds_toArray, List.set_cons_zero, List.set_cons_succ, i64_w, i32_w]); rfl
  refine pure_ (i := 8) (N := some 10) (v := ?v9) (a' := ?a9) #[true, true, true, true, true, true, true, true, true, false, false, false, false, false, false, false, false] rfl rfl (by kernel_rfl) (fun _ _ _ h => h) (Or.inl ⟨by rfl, ?hy9⟩) ?ha9 ?hh9
  case hy9 => (intro w'; go_simp; with_reducible rfl)
  case ha9 => (simp only [Act.put, List.setIfInBounds_toArray, List.set_cons_zero, List.set_cons_succ, i64_w, i32_w]); rfl
  refine take_ (i := 9) (N := some 11) (v := .pointer (some ⟨b, 0, none⟩)) (a' := ?a10) #[true, true, true, true, true, true, true, true, true, true, false, false, false, false, false, false, false] rfl rfl (by kernel_rfl) (fun _ _ _ h => h) (Or.inl ⟨by rfl, ?hy10⟩) hHeld ?ha10 ?hh10
  case hy10 => (intro w' s0; go_simp)
  case ha10 => (simp only [Act.put, List.setIfInBounds_toArray, List.set_cons_zero, List.set_cons_succ, i64_w, i32_w]); rfl
  refine pure_ (i := 10) (N := some 12) (v := ?v11) (a' := ?a11) #[true, true, true, true, true, true, true, true, true, true, true, false, false, false, false, false, false] rfl rfl (by kernel_rfl) (fun _ _ _ h => h) (Or.inl ⟨by rfl, ?hy11⟩) ?ha11 ?hh11
  case hy11 => (intro w'; go_simp; with_reducible rfl)
  case ha11 => (simp only [Act.put, List.setIfInBounds_toArray, List.set_cons_zero, List.set_cons_succ, i64_w, i32_w]); rfl
  refine pure_ (i := 11) (N := some 13) (v := ?v12) (a' := ?a12) #[true, true, true, true, true, true, true, true, true, true, true, true, false, false, false, false, false] rfl rfl (by kernel_rfl) (fun _ _ _ h => h) (Or.inl ⟨by rfl, ?hy12⟩) ?ha12 ?hh12
  case hy12 => (intro w'; go_simp; with_reducible rfl)
  case ha12 => (simp only [Act.put, List.setIfInBounds_toArray, List.set_cons_zero, List.set_cons_succ, i64_w, i32_w]); rfl
  refine take_ (i := 12) (N := some 14) (v := .pointer (some ⟨b, 0, none⟩)) (a' := ?a13) #[true, true, true, true, true, true, true, true, true, true, true, true, true, false, false, false, false] rfl rfl (by kernel_rfl) (fun _ _ _ h => h) (Or.inl ⟨by rfl, ?hy13⟩) hHeld ?ha13 ?hh13
  case hy13 => (intro w' s0; go_simp)
  case ha13 => (simp only [Act.put, List.setIfInBounds_toArray, List.set_cons_zero, List.set_cons_succ, i64_w, i32_w]); rfl
  refine pure_ (i := 13) (N := some 15) (v := ?v14) (a' := ?a14) #[true, true, true, true, true, true, true, true, true, true, true, true, true, true, false, false, false] rfl rfl (by kernel_rfl) (fun _ _ _ h => h) (Or.inl ⟨by rfl, ?hy14⟩) ?ha14 ?hh14
  case hy14 => (intro w'; go_simp; with_reducible rfl)
  case ha14 => (simp only [Act.put, List.setIfInBounds_toArray, List.set_cons_zero, List.set_cons_succ, i64_w, i32_w]); rfl
  refine pure_ (i := 14) (N := some 16) (v := ?v15) (a' := ?a15) #[true, true, true, true, true, true, true, true, true, true, true, true, true, true, true, false, false] rfl rfl (by kernel_rfl) (fun _ _ _ h => h) (Or.inl ⟨by rfl, ?hy15⟩) ?ha15 ?hh15
  case hy15 => (intro w'; go_simp; with_reducible rfl)
  case ha15 => (simp only [Act.put, List.setIfInBounds_toArray, List.set_cons_zero, List.set_cons_succ, i64_w, i32_w]); rfl
  refine one_ (i := 15) (N := some 17) #[true, true, true, true, true, true, true, true, true, true, true, true, true, true, true, true, false] rfl rfl (by kernel_rfl) (by decide) (fun K hK => ?_)
  refine value_ (v := .slice (some ⟨w.heap.size, 0, none⟩) 5 5) (w1 := w.drew.alloc (.cells #[.pointer (some ⟨b, 0, none⟩), .pointer (some ⟨b, 3, none⟩), .pointer (some ⟨b, 4, none⟩), .pointer (some ⟨b, 5, none⟩), .pointer (some ⟨b, 6, none⟩)] 46)) (by rfl) rfl ?hrun ?_
  case hrun => go_simp
  have hS1 : (w.drew.alloc (.cells #[.pointer (some ⟨b, 0, none⟩), .pointer (some ⟨b, 3, none⟩), .pointer (some ⟨b, 4, none⟩), .pointer (some ⟨b, 5, none⟩), .pointer (some ⟨b, 6, none⟩)] 46)).cell? ⟨c, 0, none⟩ = some (.pointer (some ⟨b, 0, none⟩)) := (blk_cell (blk_alloc (blk_drew hc) _) 0).trans rfl
  refine hK.out _ _ hS1 (fun hHeld => ?_)
  clear hK K
  refine pure_ (i := 16) (N := some 1) (v := ?v16) (a' := ?a16) #[true, true, true, true, true, true, true, true, true, true, true, true, true, true, true, true, true] rfl rfl (by kernel_rfl) (fun _ _ _ h => h) (Or.inl ⟨by rfl, ?hy16⟩) ?ha16 ?hh16
  case hy16 => (intro w'; go_simp; with_reducible rfl)
  case ha16 => (simp only [Act.put, List.setIfInBounds_toArray, List.set_cons_zero, List.set_cons_succ, i64_w, i32_w]); rfl
  refine done_ (by kernel_rfl) ?_
  go_wp2
  go_ret
  exact ⟨rfl, plc.new rfl, below_alloc (below_drew (Below.refl _ _)) _⟩
theorem plc.c20 (b c : Nat) (w : World) (hc : w.heap[c]? = some (.cells #[.pointer (some ⟨b, 0, none⟩)] 45 (0, 0))) :
    Calls Try.prog 20 #[.pointer (some ⟨c, 0, none⟩)] w fun e w' => e = .returned (.slice (some ⟨w.heap.size, 0, none⟩) 3 3) ∧ w'.heap[w.heap.size]? = some (.cells #[.pointer (some ⟨b, 4, none⟩), .pointer (some ⟨b, 2, none⟩), .pointer (some ⟨b, 5, none⟩)] 46 (0, 0)) ∧ Below w.heap.size w w' := by
  have z : w.cell? ⟨c, 0, none⟩ = some (.pointer (some ⟨b, 0, none⟩)) := (blk_cell hc 0).trans rfl
  go_enter Try.func20, Try.ntmps20
  go_wp2
  have hS : (fun w' : World => w'.cell? ⟨c, 0, none⟩ = some (.pointer (some ⟨b, 0, none⟩))) w.drew := z
  refine start_ (n := 11) (S := fun w' : World => w'.cell? ⟨c, 0, none⟩ = some (.pointer (some ⟨b, 0, none⟩))) (ds := []) #[false, false, false, false, false, false, false, false, false, false, false] (by kernel_rfl) rfl rfl hS (fun hHeld => ?_)
  refine take_ (i := 0) (N := some 2) (v := .pointer (some ⟨b, 0, none⟩)) (a' := ?a1) #[true, false, false, false, false, false, false, false, false, false, false] rfl rfl (by kernel_rfl) (fun _ _ _ h => h) (Or.inl ⟨by rfl, ?hy1⟩) hHeld ?ha1 ?hh1
  case hy1 => (intro w' s0; go_simp)
  case ha1 => (simp only [Act.put, List.setIfInBounds_toArray, List.set_cons_zero, List.set_cons_succ, i64_w, i32_w]); rfl
  refine pure_ (i := 1) (N := some 3) (v := ?v2) (a' := ?a2) #[true, true, false, false, false, false, false, false, false, false, false] rfl rfl (by kernel_rfl) (fun _ _ _ h => h) (Or.inl ⟨by rfl, ?hy2⟩) ?ha2 ?hh2
  case hy2 => (intro w'; go_simp; with_reducible rfl)
  case ha2 => (simp only [Act.put, List.setIfInBounds_toArray, List.set_cons_zero, List.set_cons_succ, i64_w, i32_w]); rfl
  refine pure_ (i := 2) (N := some 4) (v := ?v3) (a' := ?a3) #[true, true, true, false, false, false, false, false, false, false, false] rfl rfl (by kernel_rfl) (fun _ _ _ h => h) (Or.inl ⟨by rfl, ?hy3⟩) ?ha3 ?hh3
  case hy3 => (intro w'; go_simp; with_reducible rfl)
  case ha3 => (simp only [Act.put, List.setIfInBounds_toArray, List.set_cons_zero, List.set_cons_succ, i64_w, i32_w]); rfl
  refine take_ (i := 3) (N := some 5) (v := .pointer (some ⟨b, 0, none⟩)) (a' := ?a4) #[true, true, true, true, false, false, false, false, false, false, false] rfl rfl (by kernel_rfl) (fun _ _ _ h => h) (Or.inl ⟨by rfl, ?hy4⟩) hHeld ?ha4 ?hh4
  case hy4 => (intro w' s0; go_simp)
  case ha4 => (simp only [Act.put, List.setIfInBounds_toArray, List.set_cons_zero, List.set_cons_succ, i64_w, i32_w]); rfl
  refine pure_ (i := 4) (N := some 6) (v := ?v5) (a' := ?a5) #[true, true, true, true, true, false, false, false, false, false, false] rfl rfl (by kernel_rfl) (fun _ _ _ h => h) (Or.inl ⟨by rfl, ?hy5⟩) ?ha5 ?hh5
  case hy5 => (intro w'; go_simp; with_reducible rfl)
  case ha5 => (simp only [Act.put, List.setIfInBounds_toArray, List.set_cons_zero, List.set_cons_succ, i64_w, i32_w]); rfl
  refine pure_ (i := 5) (N := some 7) (v := ?v6) (a' := ?a6) #[true, true, true, true, true, true, false, false, false, false, false] rfl rfl (by kernel_rfl) (fun _ _ _ h => h) (Or.inl ⟨by rfl, ?hy6⟩) ?ha6 ?hh6
  case hy6 => (intro w'; go_simp; with_reducible rfl)
  case ha6 => (simp only [Act.put, List.setIfInBounds_toArray, List.set_cons_zero, List.set_cons_succ, i64_w, i32_w]); rfl
  refine take_ (i := 6) (N := some 8) (v := .pointer (some ⟨b, 0, none⟩)) (a' := ?a7) #[true, true, true, true, true, true, true, false, false, false, false] rfl rfl (by kernel_rfl) (fun _ _ _ h => h) (Or.inl ⟨by rfl, ?hy7⟩) hHeld ?ha7 ?hh7
  case hy7 => (intro w' s0; go_simp)
  case ha7 => (simp only [Act.put, List.setIfInBounds_toArray, List.set_cons_zero, List.set_cons_succ, i64_w, i32_w]); rfl
  refine pure_ (i := 7) (N := some 9) (v := ?v8) (a' := ?a8) #[true, true, true, true, true, true, true, true, false, false, false] rfl rfl (by kernel_rfl) (fun _ _ _ h => h) (Or.inl ⟨by rfl, ?hy8⟩) ?ha8 ?hh8
  case hy8 => (intro w'; go_simp; with_reducible rfl)
  case ha8 => (simp only [Act.put, List.setIfInBounds_toArray, List.set_cons_zero, List.set_cons_succ, i64_w, i32_w]); rfl
  refine pure_ (i := 8) (N := some 10) (v := ?v9) (a' := ?a9) #[true, true, true, true, true, true, true, true, true, false, false] rfl rfl (by kernel_rfl) (fun _ _ _ h => h) (Or.inl ⟨by rfl, ?hy9⟩) ?ha9 ?hh9
  case hy9 => (intro w'; go_simp; with_reducible rfl)
  case ha9 => (simp only [Act.put, List.setIfInBounds_toArray, List.set_cons_zero, List.set_cons_succ, i64_w, i32_w]); rfl
  refine one_ (i := 9) (N := some 11) #[true, true, true, true, true, true, true, true, true, true, false] rfl rfl (by kernel_rfl) (by decide) (fun K hK => ?_)
  refine value_ (v := .slice (some ⟨w.heap.size, 0, none⟩) 3 3) (w1 := w.drew.alloc (.cells #[.pointer (some ⟨b, 4, none⟩), .pointer (some ⟨b, 2, none⟩), .pointer (some ⟨b, 5, none⟩)] 46)) (by rfl) rfl ?hrun ?_
  case hrun => go_simp
  have hS1 : (w.drew.alloc (.cells #[.pointer (some ⟨b, 4, none⟩), .pointer (some ⟨b, 2, none⟩), .pointer (some ⟨b, 5, none⟩)] 46)).cell? ⟨c, 0, none⟩ = some (.pointer (some ⟨b, 0, none⟩)) := (blk_cell (blk_alloc (blk_drew hc) _) 0).trans rfl
  refine hK.out _ _ hS1 (fun hHeld => ?_)
  clear hK K
  refine pure_ (i := 10) (N := some 1) (v := ?v10) (a' := ?a10) #[true, true, true, true, true, true, true, true, true, true, true] rfl rfl (by kernel_rfl) (fun _ _ _ h => h) (Or.inl ⟨by rfl, ?hy10⟩) ?ha10 ?hh10
  case hy10 => (intro w'; go_simp; with_reducible rfl)
  case ha10 => (simp only [Act.put, List.setIfInBounds_toArray, List.set_cons_zero, List.set_cons_succ, i64_w, i32_w]); rfl
  refine done_ (by kernel_rfl) ?_
  go_wp2
  go_ret
  exact ⟨rfl, plc.new rfl, below_alloc (below_drew (Below.refl _ _)) _⟩
theorem plc.c21 (b c : Nat) (w : World) (hc : w.heap[c]? = some (.cells #[.pointer (some ⟨b, 0, none⟩)] 45 (0, 0))) :
    Calls Try.prog 21 #[.pointer (some ⟨c, 0, none⟩)] w fun e w' => e = .returned (.slice (some ⟨w.heap.size, 0, none⟩) 1 1) ∧ w'.heap[w.heap.size]? = some (.cells #[.pointer (some ⟨b, 0, none⟩)] 46 (0, 0)) ∧ Below w.heap.size w w' := by
  have z : w.cell? ⟨c, 0, none⟩ = some (.pointer (some ⟨b, 0, none⟩)) := (blk_cell hc 0).trans rfl
  go_enter Try.func21, Try.ntmps21
  go_wp2
  go_ret
  exact ⟨rfl, plc.new rfl, below_alloc (Below.refl _ _) _⟩
theorem plc.c22 (b c : Nat) (w : World) (hc : w.heap[c]? = some (.cells #[.pointer (some ⟨b, 0, none⟩)] 45 (0, 0))) :
    Calls Try.prog 22 #[.pointer (some ⟨c, 0, none⟩)] w fun e w' => e = .returned (.slice (some ⟨w.heap.size, 0, none⟩) 1 1) ∧ w'.heap[w.heap.size]? = some (.cells #[.pointer (some ⟨b, 0, none⟩)] 46 (0, 0)) ∧ Below w.heap.size w w' := by
  have z : w.cell? ⟨c, 0, none⟩ = some (.pointer (some ⟨b, 0, none⟩)) := (blk_cell hc 0).trans rfl
  go_enter Try.func22, Try.ntmps22
  go_wp2
  go_ret
  exact ⟨rfl, plc.new rfl, below_alloc (Below.refl _ _) _⟩
theorem plc.c23 (b c : Nat) (w : World) (hc : w.heap[c]? = some (.cells #[.pointer (some ⟨b, 0, none⟩)] 45 (0, 0))) :
    Calls Try.prog 23 #[.pointer (some ⟨c, 0, none⟩)] w fun e w' => e = .returned (.slice (some ⟨w.heap.size, 0, none⟩) 4 4) ∧ w'.heap[w.heap.size]? = some (.cells #[.pointer (some ⟨b, 0, none⟩), .pointer (some ⟨b, 1, none⟩), .pointer (some ⟨b, 2, none⟩), .pointer (some ⟨b, 3, none⟩)] 46 (0, 0)) ∧ Below w.heap.size w w' := by
  have z : w.cell? ⟨c, 0, none⟩ = some (.pointer (some ⟨b, 0, none⟩)) := (blk_cell hc 0).trans rfl
  go_enter Try.func23, Try.ntmps23
  go_wp2
  have hS : (fun w' : World => w'.cell? ⟨c, 0, none⟩ = some (.pointer (some ⟨b, 0, none⟩))) w.drew := z
  refine start_ (n := 14) (S := fun w' : World => w'.cell? ⟨c, 0, none⟩ = some (.pointer (some ⟨b, 0, none⟩))) (ds := []) #[false, false, false, false, false, false, false, false, false, false, false, false, false, false] (by kernel_rfl) rfl rfl hS (fun hHeld => ?_)
  refine take_ (i := 0) (N := some 2) (v := .pointer (some ⟨b, 0, none⟩)) (a' := ?a1) #[true, false, false, false, false, false, false, false, false, false, false, false, false, false] rfl rfl (by kernel_rfl) (fun _ _ _ h => h) (Or.inl ⟨by rfl, ?hy1⟩) hHeld ?ha1 ?hh1
  case hy1 => (intro w' s0; go_simp)
  case ha1 => (simp only [Act.put, List.setIfInBounds_toArray, List.set_cons_zero, List.set_cons_succ, i64_w, i32_w]); rfl
  refine pure_ (i := 1) (N := some 3) (v := ?v2) (a' := ?a2) #[true, true, false, false, false, false, false, false, false, false, false, false, false, false] rfl rfl (by kernel_rfl) (fun _ _ _ h => h) (Or.inl ⟨by rfl, ?hy2⟩) ?ha2 ?hh2
  case hy2 => (intro w'; go_simp; with_reducible rfl)
  case ha2 => (simp only [Act.put, List.setIfInBounds_toArray, List.set_cons_zero, List.set_cons_succ, i64_w, i32_w]); rfl
  refine pure_ (i := 2) (N := some 4) (v := ?v3) (a' := ?a3) #[true, true, true, false, false, false, false, false, false, false, false, false, false, false] rfl rfl (by kernel_rfl) (fun _ _ _ h => h) (Or.inl ⟨by rfl, ?hy3⟩) ?ha3 ?hh3
  case hy3 => (intro w'; go_simp; with_reducible rfl)
  case ha3 => (simp only [Act.put, List.setIfInBounds_toArray, List.set_cons_zero, List.set_cons_succ, i64_w, i32_w]); rfl
  refine take_ (i := 3) (N := some 5) (v := .pointer (some ⟨b, 0, none⟩)) (a' := ?a4) #[true, true, true, true, false, false, false, false, false, false, false, false, false, false] rfl rfl (by kernel_rfl) (fun _ _ _ h => h) (Or.inl ⟨by rfl, ?hy4⟩) hHeld ?ha4 ?hh4
  case hy4 => (intro w' s0; go_simp)
  case ha4 => (simp only [Act.put, List.setIfInBounds_toArray, List.set_cons_zero, List.set_cons_succ, i64_w, i32_w]); rfl
  refine pure_ (i := 4) (N := some 6) (v := ?v5) (a' := ?a5) #[true, true, true, true, true, false, false, false, false, false, false, false, false, false] rfl rfl (by kernel_rfl) (fun _ _ _ h => h) (Or.inl ⟨by rfl, ?hy5⟩) ?ha5 ?hh5
  case hy5 => (intro w'; go_simp; with_reducible rfl)
  case ha5 => (simp only [Act.put, List.setIfInBounds_toArray, List.set_cons_zero, List.set_cons_succ, i64_w, i32_w]); rfl
  refine pure_ (i := 5) (N := some 7) (v := ?v6) (a' := ?a6) #[true, true, true, true, true, true, false, false, false, false, false, false, false, false] rfl rfl (by kernel_rfl) (fun _ _ _ h => h) (Or.inl ⟨by rfl, ?hy6⟩) ?ha6 ?hh6
  case hy6 => (intro w'; go_simp; with_reducible rfl)
  case ha6 => (simp only [Act.put, List.setIfInBounds_toArray, List.set_cons_zero, List.set_cons_succ, i64_w, i32_w]); rfl
  refine take_ (i := 6) (N := some 8) (v := .pointer (some ⟨b, 0, none⟩)) (a' := ?a7) #[true, true, true, true, true, true, true, false, false, false, false, false, false, false] rfl rfl (by kernel_rfl) (fun _ _ _ h => h) (Or.inl ⟨by rfl, ?hy7⟩) hHeld ?ha7 ?hh7
  case hy7 => (intro w' s0; go_simp)
  case ha7 => (simp only [Act.put, List.setIfInBounds_toArray, List.set_cons_zero, List.set_cons_succ, i64_w, i32_w]); rfl
  refine pure_ (i := 7) (N := some 9) (v := ?v8) (a' := ?a8) #[true, true, true, true, true, true, true, true, false, false, false, false, false, false] rfl rfl (by kernel_rfl) (fun _ _ _ h => h) (Or.inl ⟨by rfl, ?hy8⟩) ?ha8 ?hh8
  case hy8 => (intro w'; go_simp; with_reducible rfl)
  case ha8 => (simp only [Act.put, List.setIfInBounds_toArray, List.set_cons_zero, List.set_cons_succ, i64_w, i32_w]); rfl
  refine pure_ (i := 8) (N := some 10) (v := ?v9) (a' := ?a9) #[true, true, true, true, true, true, true, true, true, false, false, false, false, false] rfl rfl (by kernel_rfl) (fun _ _ _ h => h) (Or.inl ⟨by rfl, ?hy9⟩) ?ha9 ?hh9
  case hy9 => (intro w'; go_simp; with_reducible rfl)
  case ha9 => (simp only [Act.put, List.setIfInBounds_toArray, List.set_cons_zero, List.set_cons_succ, i64_w, i32_w]); rfl
  refine take_ (i := 9) (N := some 11) (v := .pointer (some ⟨b, 0, none⟩)) (a' := ?a10) #[true, true, true, true, true, true, true, true, true, true, false, false, false, false] rfl rfl (by kernel_rfl) (fun _ _ _ h => h) (Or.inl ⟨by rfl, ?hy10⟩) hHeld ?ha10 ?hh10
  case hy10 => (intro w' s0; go_simp)
  case ha10 => (simp only [Act.put, List.setIfInBounds_toArray, List.set_cons_zero, List.set_cons_succ, i64_w, i32_w]); rfl
  refine pure_ (i := 10) (N := some 12) (v := ?v11) (a' := ?a11) #[true, true, true, true, true, true, true, true, true, true, true, false, false, false] rfl rfl (by kernel_rfl) (fun _ _ _ h => h) (Or.inl ⟨by rfl, ?hy11⟩) ?ha11 ?hh11
  case hy11 => (intro w'; go_simp; with_reducible rfl)
  case ha11 => (simp only [Act.put, List.setIfInBounds_toArray, List.set_cons_zero, List.set_cons_succ, i64_w, i32_w]); rfl
  refine pure_ (i := 11) (N := some 13) (v := ?v12) (a' := ?a12) #[true, true, true, true, true, true, true, true, true, true, true, true, false, false] rfl rfl (by kernel_rfl) (fun _ _ _ h => h) (Or.inl ⟨by rfl, ?hy12⟩) ?ha12 ?hh12
  case hy12 => (intro w'; go_simp; with_reducible rfl)
  case ha12 => (simp only [Act.put, List.setIfInBounds_toArray, List.set_cons_zero, List.set_cons_succ, i64_w, i32_w]); rfl
  refine one_ (i := 12) (N := some 14) #[true, true, true, true, true, true, true, true, true, true, true, true, true, false] rfl rfl (by kernel_rfl) (by decide) (fun K hK => ?_)
  refine value_ (v := .slice (some ⟨w.heap.size, 0, none⟩) 4 4) (w1 := w.drew.alloc (.cells #[.pointer (some ⟨b, 0, none⟩), .pointer (some ⟨b, 1, none⟩), .pointer (some ⟨b, 2, none⟩), .pointer (some ⟨b, 3, none⟩)] 46)) (by rfl) rfl ?hrun ?_
  case hrun => go_simp
  have hS1 : (w.drew.alloc (.cells #[.pointer (some ⟨b, 0, none⟩), .pointer (some ⟨b, 1, none⟩), .pointer (some ⟨b, 2, none⟩), .pointer (some ⟨b, 3, none⟩)] 46)).cell? ⟨c, 0, none⟩ = some (.pointer (some ⟨b, 0, none⟩)) := (blk_cell (blk_alloc (blk_drew hc) _) 0).trans rfl
  refine hK.out _ _ hS1 (fun hHeld => ?_)
  clear hK K
  refine pure_ (i := 13) (N := some 1) (v := ?v13) (a' := ?a13) #[true, true, true, true, true, true, true, true, true, true, true, true, true, true] rfl rfl (by kernel_rfl) (fun _ _ _ h => h) (Or.inl ⟨by rfl, ?hy13⟩) ?ha13 ?hh13
  case hy13 => (intro w'; go_simp; with_reducible rfl)
  case ha13 => (simp only [Act.put, List.setIfInBounds_toArray, List.set_cons_zero, List.set_cons_succ, i64_w, i32_w]); rfl
  refine done_ (by kernel_rfl) ?_
  go_wp2
  go_ret
  exact ⟨rfl, plc.new rfl, below_alloc (below_drew (Below.refl _ _)) _⟩
theorem plc.c24 (b c : Nat) (w : World) (hc : w.heap[c]? = some (.cells #[.pointer (some ⟨b, 0, none⟩)] 45 (0, 0))) :
    Calls Try.prog 24 #[.pointer (some ⟨c, 0, none⟩)] w fun e w' => e = .returned (.slice (some ⟨w.heap.size, 0, none⟩) 4 4) ∧ w'.heap[w.heap.size]? = some (.cells #[.pointer (some ⟨b, 0, none⟩), .pointer (some ⟨b, 1, none⟩), .pointer (some ⟨b, 2, none⟩), .pointer (some ⟨b, 3, none⟩)] 46 (0, 0)) ∧ Below w.heap.size w w' := by
  have z : w.cell? ⟨c, 0, none⟩ = some (.pointer (some ⟨b, 0, none⟩)) := (blk_cell hc 0).trans rfl
  go_enter Try.func24, Try.ntmps24
  go_wp2
  have hS : (fun w' : World => w'.cell? ⟨c, 0, none⟩ = some (.pointer (some ⟨b, 0, none⟩))) w.drew := z
  refine start_ (n := 14) (S := fun w' : World => w'.cell? ⟨c, 0, none⟩ = some (.pointer (some ⟨b, 0, none⟩))) (ds := []) #[false, false, false, false, false, false, false, false, false, false, false, false, false, false] (by kernel_rfl) rfl rfl hS (fun hHeld => ?_)
  refine take_ (i := 0) (N := some 2) (v := .pointer (some ⟨b, 0, none⟩)) (a' := ?a1) #[true, false, false, false, false, false, false, false, false, false, false, false, false, false] rfl rfl (by kernel_rfl) (fun _ _ _ h => h) (Or.inl ⟨by rfl, ?hy1⟩) hHeld ?ha1 ?hh1
  case hy1 => (intro w' s0; go_simp)
  case ha1 => (simp only [Act.put, List.setIfInBounds_toArray, List.set_cons_zero, List.set_cons_succ, i64_w, i32_w]); rfl
  refine pure_ (i := 1) (N := some 3) (v := ?v2) (a' := ?a2) #[true, true, false, false, false, false, false, false, false, false, false, false, false, false] rfl rfl (by kernel_rfl) (fun _ _ _ h => h) (Or.inl ⟨by rfl, ?hy2⟩) ?ha2 ?hh2
  case hy2 => (intro w'; go_simp; with_reducible rfl)
  case ha2 => (simp only [Act.put, List.setIfInBounds_toArray, List.set_cons_zero, List.set_cons_succ, i64_w, i32_w]); rfl
  refine pure_ (i := 2) (N := some 4) (v := ?v3) (a' := ?a3) #[true, true, true, false, false, false, false, false, false, false, false, false, false, false] rfl rfl (by kernel_rfl) (fun _ _ _ h => h) (Or.inl ⟨by rfl, ?hy3⟩) ?ha3 ?hh3
  case hy3 => (intro w'; go_simp; with_reducible rfl)
  case ha3 => (simp only [Act.put, List.setIfInBounds_toArray, List.set_cons_zero, List.set_cons_succ, i64_w, i32_w]); rfl
  refine take_ (i := 3) (N := some 5) (v := .pointer (some ⟨b, 0, none⟩)) (a' := ?a4) #[true, true, true, true, false, false, false, false, false, false, false, false, false, false] rfl rfl (by kernel_rfl) (fun _ _ _ h => h) (Or.inl ⟨by rfl, ?hy4⟩) hHeld ?ha4 ?hh4
  case hy4 => (intro w' s0; go_simp)
  case ha4 => (simp only [Act.put, List.setIfInBounds_toArray, List.set_cons_zero, List.set_cons_succ, i64_w, i32_w]); rfl
  refine pure_ (i := 4) (N := some 6) (v := ?v5) (a' := ?a5) #[true, true, true, true, true, false, false, false, false, false, false, false, false, false] rfl rfl (by kernel_rfl) (fun _ _ _ h => h) (Or.inl ⟨by rfl, ?hy5⟩) ?ha5 ?hh5
  case hy5 => (intro w'; go_simp; with_reducible rfl)
  case ha5 => (simp only [Act.put, List.setIfInBounds_toArray, List.set_cons_zero, List.set_cons_succ, i64_w, i32_w]); rfl
  refine pure_ (i := 5) (N := some 7) (v := ?v6) (a' := ?a6) #[true, true, true, true, true, true, false, false, false, false, false, false, false, false] rfl rfl (by kernel_rfl) (fun _ _ _ h => h) (Or.inl ⟨by rfl, ?hy6⟩) ?ha6 ?hh6
  case hy6 => (intro w'; go_simp; with_reducible rfl)
  case ha6 => (simp only [Act.put, List.setIfInBounds_toArray, List.set_cons_zero, List.set_cons_succ, i64_w, i32_w]); rfl
  refine take_ (i := 6) (N := some 8) (v := .pointer (some ⟨b, 0, none⟩)) (a' := ?a7) #[true, true, true, true, true, true, true, false, false, false, false, false, false, false] rfl rfl (by kernel_rfl) (fun _ _ _ h => h) (Or.inl ⟨by rfl, ?hy7⟩) hHeld ?ha7 ?hh7
  case hy7 => (intro w' s0; go_simp)
  case ha7 => (simp only [Act.put, List.setIfInBounds_toArray, List.set_cons_zero, List.set_cons_succ, i64_w, i32_w]); rfl
  refine pure_ (i := 7) (N := some 9) (v := ?v8) (a' := ?a8) #[true, true, true, true, true, true, true, true, false, false, false, false, false, false] rfl rfl (by kernel_rfl) (fun _ _ _ h => h) (Or.inl ⟨by rfl, ?hy8⟩) ?ha8 ?hh8
  case hy8 => (intro w'; go_simp; with_reducible rfl)
  case ha8 => (simp only [Act.put, List.setIfInBounds_toArray, List.set_cons_zero, List.set_cons_succ, i64_w, i32_w]); rfl
  refine pure_ (i := 8) (N := some 10) (v := ?v9) (a' := ?a9) #[true, true, true, true, true, true, true, true, true, false, false, false, false, false] rfl rfl (by kernel_rfl) (fun _ _ _ h => h) (Or.inl ⟨by rfl, ?hy9⟩) ?ha9 ?hh9
  case hy9 => (intro w'; go_simp; with_reducible rfl)
  case ha9 => (simp only [Act.put, List.setIfInBounds_toArray, List.set_cons_zero, List.set_cons_succ, i64_w, i32_w]); rfl
  refine take_ (i := 9) (N := some 11) (v := .pointer (some ⟨b, 0, none⟩)) (a' := ?a10) #[true, true, true, true, true, true, true, true, true, true, false, false, false, false] rfl rfl (by kernel_rfl) (fun _ _ _ h => h) (Or.inl ⟨by rfl, ?hy10⟩) hHeld ?ha10 ?hh10
  case hy10 => (intro w' s0; go_simp)
  case ha10 => (simp only [Act.put, List.setIfInBounds_toArray, List.set_cons_zero, List.set_cons_succ, i64_w, i32_w]); rfl
  refine pure_ (i := 10) (N := some 12) (v := ?v11) (a' := ?a11) #[true, true, true, true, true, true, true, true, true, true, true, false, false, false] rfl rfl (by kernel_rfl) (fun _ _ _ h => h) (Or.inl ⟨by rfl, ?hy11⟩) ?ha11 ?hh11
  case hy11 => (intro w'; go_simp; with_reducible rfl)
  case ha11 => (simp only [Act.put, List.setIfInBounds_toArray, List.set_cons_zero, List.set_cons_succ, i64_w, i32_w]); rfl
  refine pure_ (i := 11) (N := some 13) (v := ?v12) (a' := ?a12) #[true, true, true, true, true, true, true, true, true, true, true, true, false, false] rfl rfl (by kernel_rfl) (fun _ _ _ h => h) (Or.inl ⟨by rfl, ?hy12⟩) ?ha12 ?hh12
  case hy12 => (intro w'; go_simp; with_reducible rfl)
  case ha12 => (simp only [Act.put, List.setIfInBounds_toArray, List.set_cons_zero, List.set_cons_succ, i64_w, i32_w]); rfl
  refine one_ (i := 12) (N := some 14) #[true, true, true, true, true, true, true, true, true, true, true, true, true, false] rfl rfl (by kernel_rfl) (by decide) (fun K hK => ?_)
  refine value_ (v := .slice (some ⟨w.heap.size, 0, none⟩) 4 4) (w1 := w.drew.alloc (.cells #[.pointer (some ⟨b, 0, none⟩), .pointer (some ⟨b, 1, none⟩), .pointer (some ⟨b, 2, none⟩), .pointer (some ⟨b, 3, none⟩)] 46)) (by rfl) rfl ?hrun ?_
  case hrun => go_simp
  have hS1 : (w.drew.alloc (.cells #[.pointer (some ⟨b, 0, none⟩), .pointer (some ⟨b, 1, none⟩), .pointer (some ⟨b, 2, none⟩), .pointer (some ⟨b, 3, none⟩)] 46)).cell? ⟨c, 0, none⟩ = some (.pointer (some ⟨b, 0, none⟩)) := (blk_cell (blk_alloc (blk_drew hc) _) 0).trans rfl
  refine hK.out _ _ hS1 (fun hHeld => ?_)
  clear hK K
  refine pure_ (i := 13) (N := some 1) (v := ?v13) (a' := ?a13) #[true, true, true, true, true, true, true, true, true, true, true, true, true, true] rfl rfl (by kernel_rfl) (fun _ _ _ h => h) (Or.inl ⟨by rfl, ?hy13⟩) ?ha13 ?hh13
  case hy13 => (intro w'; go_simp; with_reducible rfl)
  case ha13 => (simp only [Act.put, List.setIfInBounds_toArray, List.set_cons_zero, List.set_cons_succ, i64_w, i32_w]); rfl
  refine done_ (by kernel_rfl) ?_
  go_wp2
  go_ret
  exact ⟨rfl, plc.new rfl, below_alloc (below_drew (Below.refl _ _)) _⟩
theorem plc.c25 (b c : Nat) (w : World) (hc : w.heap[c]? = some (.cells #[.pointer (some ⟨b, 0, none⟩)] 45 (0, 0))) :
    Calls Try.prog 25 #[.pointer (some ⟨c, 0, none⟩)] w fun e w' => e = .returned (.slice (some ⟨w.heap.size, 0, none⟩) 2 2) ∧ w'.heap[w.heap.size]? = some (.cells #[.pointer (some ⟨b, 0, none⟩), .pointer (some ⟨b, 4, none⟩)] 46 (0, 0)) ∧ Below w.heap.size w w' := by
  have z : w.cell? ⟨c, 0, none⟩ = some (.pointer (some ⟨b, 0, none⟩)) := (blk_cell hc 0).trans rfl
  go_enter Try.func25, Try.ntmps25
  go_wp2
  have hS : (fun w' : World => w'.cell? ⟨c, 0, none⟩ = some (.pointer (some ⟨b, 0, none⟩))) w.drew := z
  refine start_ (n := 8) (S := fun w' : World => w'.cell? ⟨c, 0, none⟩ = some (.pointer (some ⟨b, 0, none⟩))) (ds := []) #[false, false, false, false, false, false, false, false] (by kernel_rfl) rfl rfl hS (fun hHeld => ?_)
  refine take_ (i := 0) (N := some 2) (v := .pointer (some ⟨b, 0, none⟩)) (a' := ?a1) #[true, false, false, false, false, false, false, false] rfl rfl (by kernel_rfl) (fun _ _ _ h => h) (Or.inl ⟨by rfl, ?hy1⟩) hHeld ?ha1 ?hh1
  case hy1 => (intro w' s0; go_simp)
  case ha1 => (simp only [Act.put, List.setIfInBounds_toArray, List.set_cons_zero, List.set_cons_succ, i64_w, i32_w]); rfl
  refine pure_ (i := 1) (N := some 3) (v := ?v2) (a' := ?a2) #[true, true, false, false, false, false, false, false] rfl rfl (by kernel_rfl) (fun _ _ _ h => h) (Or.inl ⟨by rfl, ?hy2⟩) ?ha2 ?hh2
  case hy2 => (intro w'; go_simp; with_reducible rfl)
  case ha2 => (simp only [Act.put, List.setIfInBounds_toArray, List.set_cons_zero, List.set_cons_succ, i64_w, i32_w]); rfl
  refine pure_ (i := 2) (N := some 4) (v := ?v3) (a' := ?a3) #[true, true, true, false, false, false, false, false] rfl rfl (by kernel_rfl) (fun _ _ _ h => h) (Or.inl ⟨by rfl, ?hy3⟩) ?ha3 ?hh3
  case hy3 => (intro w'; go_simp; with_reducible rfl)
  case ha3 => (simp only [Act.put, List.setIfInBounds_toArray, List.set_cons_zero, List.set_cons_succ, i64_w, i32_w]); rfl
  refine take_ (i := 3) (N := some 5) (v := .pointer (some ⟨b, 0, none⟩)) (a' := ?a4) #[true, true, true, true, false, false, false, false] rfl rfl (by kernel_rfl) (fun _ _ _ h => h) (Or.inl ⟨by rfl, ?hy4⟩) hHeld ?ha4 ?hh4
  case hy4 => (intro w' s0; go_simp)
  case ha4 => (simp only [Act.put, List.setIfInBounds_toArray, List.set_cons_zero, List.set_cons_succ, i64_w, i32_w]); rfl
  refine pure_ (i := 4) (N := some 6) (v := ?v5) (a' := ?a5) #[true, true, true, true, true, false, false, false] rfl rfl (by kernel_rfl) (fun _ _ _ h => h) (Or.inl ⟨by rfl, ?hy5⟩) ?ha5 ?hh5
  case hy5 => (intro w'; go_simp; with_reducible rfl)
  case ha5 => (simp only [Act.put, List.setIfInBounds_toArray, List.set_cons_zero, List.set_cons_succ, i64_w, i32_w]); rfl
  refine pure_ (i := 5) (N := some 7) (v := ?v6) (a' := ?a6) #[true, true, true, true, true, true, false, false] rfl rfl (by kernel_rfl) (fun _ _ _ h => h) (Or.inl ⟨by rfl, ?hy6⟩) ?ha6 ?hh6
  case hy6 => (intro w'; go_simp; with_reducible rfl)
  case ha6 => (simp only [Act.put, List.setIfInBounds_toArray, List.set_cons_zero, List.set_cons_succ, i64_w, i32_w]); rfl
  refine one_ (i := 6) (N := some 8) #[true, true, true, true, true, true, true, false] rfl rfl (by kernel_rfl) (by decide) (fun K hK => ?_)
  refine value_ (v := .slice (some ⟨w.heap.size, 0, none⟩) 2 2) (w1 := w.drew.alloc (.cells #[.pointer (some ⟨b, 0, none⟩), .pointer (some ⟨b, 4, none⟩)] 46)) (by rfl) rfl ?hrun ?_
  case hrun => go_simp
  have hS1 : (w.drew.alloc (.cells #[.pointer (some ⟨b, 0, none⟩), .pointer (some ⟨b, 4, none⟩)] 46)).cell? ⟨c, 0, none⟩ = some (.pointer (some ⟨b, 0, none⟩)) := (blk_cell (blk_alloc (blk_drew hc) _) 0).trans rfl
  refine hK.out _ _ hS1 (fun hHeld => ?_)
  clear hK K
  refine pure_ (i := 7) (N := some 1) (v := ?v7) (a' := ?a7) #[true, true, true, true, true, true, true, true] rfl rfl (by kernel_rfl) (fun _ _ _ h => h) (Or.inl ⟨by rfl, ?hy7⟩) ?ha7 ?hh7
  case hy7 => (intro w'; go_simp; with_reducible rfl)
  case ha7 => (simp only [Act.put, List.setIfInBounds_toArray, List.set_cons_zero, List.set_cons_succ, i64_w, i32_w]); rfl
  refine done_ (by kernel_rfl) ?_
  go_wp2
  go_ret
  exact ⟨rfl, plc.new rfl, below_alloc (below_drew (Below.refl _ _)) _⟩
theorem plc.c26 (b c : Nat) (w : World) (hc : w.heap[c]? = some (.cells #[.pointer (some ⟨b, 0, none⟩)] 45 (0, 0))) :
    Calls Try.prog 26 #[.pointer (some ⟨c, 0, none⟩)] w fun e w' => e = .returned (.slice (some ⟨w.heap.size, 0, none⟩) 2 2) ∧ w'.heap[w.heap.size]? = some (.cells #[.pointer (some ⟨b, 0, none⟩), .pointer (some ⟨b, 4, none⟩)] 46 (0, 0)) ∧ Below w.heap.size w w' := by
  have z : w.cell? ⟨c, 0, none⟩ = some (.pointer (some ⟨b, 0, none⟩)) := (blk_cell hc 0).trans rfl
  go_enter Try.func26, Try.ntmps26
  go_wp2
  have hS : (fun w' : World => w'.cell? ⟨c, 0, none⟩ = some (.pointer (some ⟨b, 0, none⟩))) w.drew := z
  refine start_ (n := 8) (S := fun w' : World => w'.cell? ⟨c, 0, none⟩ = some (.pointer (some ⟨b, 0, none⟩))) (ds := []) #[false, false, false, false, false, false, false, false] (by kernel_rfl) rfl rfl hS (fun hHeld => ?_)
  refine take_ (i := 0) (N := some 2) (v := .pointer (some ⟨b, 0, none⟩)) (a' := ?a1) #[true, false, false, false, false, false, false, false] rfl rfl (by kernel_rfl) (fun _ _ _ h => h) (Or.inl ⟨by rfl, ?hy1⟩) hHeld ?ha1 ?hh1
  case hy1 => (intro w' s0; go_simp)
  case ha1 => (simp only [Act.put, List.setIfInBounds_toArray, List.set_cons_zero, List.set_cons_succ, i64_w, i32_w]); rfl
  refine pure_ (i := 1) (N := some 3) (v := ?v2) (a' := ?a2) #[true, true, false, false, false, false, false, false] rfl rfl (by kernel_rfl) (fun _ _ _ h => h) (Or.inl ⟨by rfl, ?hy2⟩) ?ha2 ?hh2
  case hy2 => (intro w'; go_simp; with_reducible rfl)
  case ha2 => (simp only [Act.put, List.setIfInBounds_toArray, List.set_cons_zero, List.set_cons_succ, i64_w, i32_w]); rfl
  refine pure_ (i := 2) (N := some 4) (v := ?v3) (a' := ?a3) #[true, true, true, false, false, false, false, false] rfl rfl (by kernel_rfl) (fun _ _ _ h => h) (Or.inl ⟨by rfl, ?hy3⟩) ?ha3 ?hh3
  case hy3 => (intro w'; go_simp; with_reducible rfl)
  case ha3 => (simp only [Act.put, List.setIfInBounds_toArray, List.set_cons_zero, List.set_cons_succ, i64_w, i32_w]); rfl
  refine take_ (i := 3) (N := some 5) (v := .pointer (some ⟨b, 0, none⟩)) (a' := ?a4) #[true, true, true, true, false, false, false, false] rfl rfl (by kernel_rfl) (fun _ _ _ h => h) (Or.inl ⟨by rfl, ?hy4⟩) hHeld ?ha4 ?hh4
  case hy4 => (intro w' s0; go_simp)
  case ha4 => (simp only [Act.put, List.setIfInBounds_toArray, List.set_cons_zero, List.set_cons_succ, i64_w, i32_w]); rfl
  refine pure_ (i := 4) (N := some 6) (v := ?v5) (a' := ?a5) #[true, true, true, true, true, false, false, false] rfl rfl (by kernel_rfl) (fun _ _ _ h => h) (Or.inl ⟨by rfl, ?hy5⟩) ?ha5 ?hh5
  case hy5 => (intro w'; go_simp; with_reducible rfl)
  case ha5 => (simp only [Act.put, List.setIfInBounds_toArray, List.set_cons_zero, List.set_cons_succ, i64_w, i32_w]); rfl
  refine pure_ (i := 5) (N := some 7) (v := ?v6) (a' := ?a6) #[true, true, true, true, true, true, false, false] rfl rfl (by kernel_rfl) (fun _ _ _ h => h) (Or.inl ⟨by rfl, ?hy6⟩) ?ha6 ?hh6
  case hy6 => (intro w'; go_simp; with_reducible rfl)
  case ha6 => (simp only [Act.put, List.setIfInBounds_toArray, List.set_cons_zero, List.set_cons_succ, i64_w, i32_w]); rfl
  refine one_ (i := 6) (N := some 8) #[true, true, true, true, true, true, true, false] rfl rfl (by kernel_rfl) (by decide) (fun K hK => ?_)
  refine value_ (v := .slice (some ⟨w.heap.size, 0, none⟩) 2 2) (w1 := w.drew.alloc (.cells #[.pointer (some ⟨b, 0, none⟩), .pointer (some ⟨b, 4, none⟩)] 46)) (by rfl) rfl ?hrun ?_
  case hrun => go_simp
  have hS1 : (w.drew.alloc (.cells #[.pointer (some ⟨b, 0, none⟩), .pointer (some ⟨b, 4, none⟩)] 46)).cell? ⟨c, 0, none⟩ = some (.pointer (some ⟨b, 0, none⟩)) := (blk_cell (blk_alloc (blk_drew hc) _) 0).trans rfl
  refine hK.out _ _ hS1 (fun hHeld => ?_)
  clear hK K
  refine pure_ (i := 7) (N := some 1) (v := ?v7) (a' := ?a7) #[true, true, true, true, true, true, true, true] rfl rfl (by kernel_rfl) (fun _ _ _ h => h) (Or.inl ⟨by rfl, ?hy7⟩) ?ha7 ?hh7
  case hy7 => (intro w'; go_simp; with_reducible rfl)
  case ha7 => (simp only [Act.put, List.setIfInBounds_toArray, List.set_cons_zero, List.set_cons_succ, i64_w, i32_w]); rfl
  refine done_ (by kernel_rfl) ?_
  go_wp2
  go_ret
  exact ⟨rfl, plc.new rfl, below_alloc (below_drew (Below.refl _ _)) _⟩
theorem plc.ins {H : Type} {P : Program} (w : World) {ops : Array Oper} {rest : List Oper} {o : Oper} {a : Act} {Q : Exit → Act → World → Prop}
    (hg : o.guard = none) (m x v : Operand) (t : TypeId) (hop : o.op = Op.insert t m x v)
    (k e : TypeId) (K : Maps.Keyed P k) (ht : P.underlying t = some (.map k e)) (R : Value → Option (DataW H × List MemPlace)) (b n : Nat) (D : DataW H)
    (hm : a.eval m = .map (some b)) (hown : w.ownsMap P k R b n D) (hn : n < maxLen) (key val : Value) (kl : Lit) (hx : a.eval x = key) (hv : a.eval v = val) (hkey : keyOf P k key = some kl)
    (d : DataW H) (ps : List MemPlace) (hval : R val = some (d, ps))
    (hK : ∀ w', w'.ownsMap P k R b (n + 1) (D.put kl d) → w.grownBy w' (some b) → wpList P ops Q rest (a.put o.dst undef) w') :
    wpList P ops Q (o :: rest) a w := by
  refine wpList_plain hg fun K' hK' => ?_
  obtain ⟨w', hrun, r1, r2⟩ := hown.update K ht hn hkey hval
  unfold Oper.wp
  simp [execOp, hop, hm, hx, hv, hrun, Result.andThen]
  exact hK' _ _ (hK w' r1 r2)
open Classical in
/-- How a function value that has captured this alone reads: by its number. -/
noncomputable def pfun (cap : Value) (v : Value) : Option (DataW Unit × List MemPlace) := if h : ∃ n : Nat, v = .func (.func n) #[] #[cap] then some (.lit (.int .i64 ((Classical.choose h : Nat) : Int)), []) else if v = .nilFunc then some (.lit (.bool false), []) else none
theorem pfun.mk (cap : Value) (n : Nat) : pfun cap (.func (.func n) #[] #[cap]) = some (.lit (.int .i64 n), []) := by
  unfold pfun
  split
  · rename_i h
    have e := Classical.choose_spec h
    have e2 : n = Classical.choose h := by injection e with e1; injection e1
    rw [← e2]
  · rename_i h
    exact absurd ⟨n, rfl⟩ h
theorem pfun.nil (cap : Value) : pfun cap .nilFunc = some (.lit (.bool false), []) := by
  unfold pfun
  rw [dif_neg (fun ⟨_, h⟩ => by cases h), if_pos rfl]
theorem pfun.inv {cap v : Value} {n : Nat} {ps : List MemPlace} (h : pfun cap v = some (.lit (.int .i64 n), ps)) : v = .func (.func n) #[] #[cap] := by
  unfold pfun at h
  split at h
  · rename_i q
    have e := Classical.choose_spec q
    simp only [Option.some.injEq, Prod.mk.injEq, DataW.lit.injEq, Lit.int.injEq, true_and, Int.natCast_inj] at h
    rw [h.1] at e; exact e
  · split at h <;> simp at h
theorem pfun.invnil {cap v : Value} {ps : List MemPlace} (h : pfun cap v = some (.lit (.bool false), ps)) : v = .nilFunc := by
  unfold pfun at h
  split at h
  · simp at h
  · split at h
    · assumption
    · cases h
theorem plc.look {H : Type} {P : Program} (w : World) {ops : Array Oper} {rest : List Oper} {o : Oper} {a : Act} {Q : Exit → Act → World → Prop} (hg : o.guard = none) (m x : Operand) (t : TypeId) (hop : o.op = Op.lookup t m x true)
    (k e : TypeId) (K : Maps.Keyed P k) (ht : P.underlying t = some (.map k e)) (R : Value → Option (DataW H × List MemPlace)) {z : Value} (hz : (zeroValue e).run P w = .ok z w) (zd : DataW H) (zp : List MemPlace) (hzd : R z = some (zd, zp)) (b n : Nat) (D : DataW H)
    (hm : a.eval m = .map (some b)) (hown : w.ownsMap P k R b n D) (key : Value) (kl : Lit) (hx : a.eval x = key) (hkey : keyOf P k key = some kl) (f : Value) (ok : Bool)
    (hf : ∀ v ps, R v = some (D.atKey kl zd, ps) → v = f) (hok : Maps.has D kl = ok)
    (hK : wpList P ops Q rest (a.put o.dst (.tuple #[f, .bool ok])) w) :
    wpList P ops Q (o :: rest) a w := by
  refine wpList_lookup_own_ok w hg m x t hop k e K ht R hz zd zp hzd b n D hm hown key kl hx hkey (fun v ps hv => ?_)
  obtain rfl := hf v ps hv
  rw [hok]
  exact hK
theorem plc.keep {w w1 w2 : World} {o : Obj} (h : Below w.heap.size w w1 ∧ w1.heap[w.heap.size]? = some o) (hg : w1.grownBy w2 (some (w.heap.size + 1))) : Below w.heap.size w w2 ∧ w2.heap[w.heap.size]? = some o :=
  ⟨h.1.grown hg h.1.size (fun k hk => by cases hk; omega), (hg.block _ (blk_lt h.2) (fun e => by have := Option.some.inj e; omega)).trans h.2⟩
theorem plc.wf {x : Int} (h : 0 ≤ x ∧ x < 4294967296) : (Lit.int .u32 x).wf = true := by
  simp only [Lit.wf, IntKind.min, IntKind.max, IntKind.signed, IntKind.bits, Bool.and_eq_true]
  simp
  omega
theorem plc.ne {x y : Int} (h : x ≠ y) : Lit.int .u32 x ≠ Lit.int .u32 y := fun e => h (by injection e)
set_option maxHeartbeats 8000000 in
set_option maxRecDepth 100000 in
theorem plc.places (b : Nat) (label : Int) (hl : 0 ≤ label ∧ label < 4294967296) (w : World) :
    Calls Try.prog 17 #[.pointer (some ⟨b, 0, none⟩), .int .u32 label] w fun e w' => Below w.heap.size w w' ∧ (((pix label).isEmpty = true ∧ e = .returned (.tuple #[.slice none 0 0, .bool false])) ∨
      ((pix label).isEmpty = false ∧ ∃ g, w.heap.size ≤ g ∧ e = .returned (.tuple #[.slice (some ⟨g, 0, none⟩) (pix label).length (pix label).length, .bool true]) ∧ w'.heap[g]? = some (.cells ((pix label).map (fun i => Value.pointer (some ⟨b, i, none⟩))).toArray 46 (0, 0)))) := by
  have hmf : ∀ (fn : Fn) (first cap : Array Value) (w : World), (Instr.makeFunc fn first cap).run Try.prog w = .ok (.func fn first cap) w := fun _ _ _ _ => rfl
  have hmm := @run_makeMap Try.prog
  have hu := Try.underlying49
  have K22 : Maps.Keyed Try.prog 22 := Maps.int_keyed Try.underlying22
  have hk : ∀ n : Int, (Lit.int .u32 n).wf = true → keyOf Try.prog 22 (.int .u32 n) = some (.int .u32 n) := fun n hn => Maps.keyOf_int_mk Try.underlying22 hn
  have hown0 : ((w.alloc (.cells #[.pointer (some ⟨b, 0, none⟩)] 45)).alloc (.map #[] 0)).ownsMap Try.prog 22 (pfun (.pointer (some ⟨w.heap.size, 0, none⟩))) (w.heap.size + 1) 0 (.map [] : DataW Unit) := by
    have := World.ownsMap_made (H := Unit) (w.alloc (.cells #[.pointer (some ⟨b, 0, none⟩)] 45)) Try.prog 22 (pfun (.pointer (some ⟨w.heap.size, 0, none⟩)))
    simpa using this
  have hkp0 : Below w.heap.size w ((w.alloc (.cells #[.pointer (some ⟨b, 0, none⟩)] 45)).alloc (.map #[] 0)) ∧ ((w.alloc (.cells #[.pointer (some ⟨b, 0, none⟩)] 45)).alloc (.map #[] 0)).heap[w.heap.size]? = some (.cells #[.pointer (some ⟨b, 0, none⟩)] 45 (0, 0)) :=
    ⟨below_alloc (below_alloc (Below.refl _ _) _) _, blk_alloc (plc.new rfl) _⟩
  have hz : ∀ w : World, (zeroValue 48).run Try.prog w = .ok .nilFunc w := fun _ => by kernel_rfl
  have hcase : label = 2 ∨ label = 3 ∨ label = 4 ∨ label = 5 ∨ label = 6 ∨ label = 7 ∨ label = 8 ∨ label = 9 ∨ (label ≠ 2 ∧ label ≠ 3 ∧ label ≠ 4 ∧ label ≠ 5 ∧ label ≠ 6 ∧ label ≠ 7 ∧ label ≠ 8 ∧ label ≠ 9) := by omega
  rcases hcase with rfl | rfl | rfl | rfl | rfl | rfl | rfl | rfl | ⟨n2, n3, n4, n5, n6, n7, n8, n9⟩
  · go_enter Try.func17, Try.ntmps17
    go_wp2_with (first | (refine plc.ins _ rfl _ _ _ 49 rfl 22 48 K22 hu (pfun (.pointer (some ⟨w.heap.size, 0, none⟩))) (w.heap.size + 1) _ _ rfl (by assumption) (by unfold maxLen; omega) _ _ _ rfl rfl (hk _ (by decide)) _ _ (pfun.mk _ _) ?_; intro w1 hown1 hg1; have hkp := plc.keep (by assumption) hg1; clear hg1) | (refine plc.look _ rfl _ _ 49 rfl 22 48 K22 hu (pfun (.pointer (some ⟨w.heap.size, 0, none⟩))) (hz _) (.lit (.bool false)) [] (pfun.nil _) (w.heap.size + 1) ?nN_1 ?nD_1 rfl ?h1_1 _ (.int .u32 2) rfl (hk _ (by decide)) (.func (.func 19) #[] #[.pointer (some ⟨w.heap.size, 0, none⟩)]) true ?h2_1 ?h3_1 ?h4_1; (case h1_1 => assumption); (case h2_1 => exact (fun v ps hv => pfun.inv (n := 19) (by rw [Maps.atKey_put_other (plc.ne (by decide : (2 : Int) ≠ 9)), Maps.atKey_put_other (plc.ne (by decide : (2 : Int) ≠ 8)), Maps.atKey_put_other (plc.ne (by decide : (2 : Int) ≠ 7)), Maps.atKey_put_other (plc.ne (by decide : (2 : Int) ≠ 6)), Maps.atKey_put_other (plc.ne (by decide : (2 : Int) ≠ 5)), Maps.atKey_put_other (plc.ne (by decide : (2 : Int) ≠ 4)), Maps.atKey_put_other (plc.ne (by decide : (2 : Int) ≠ 3)), Maps.atKey_put_same Maps.isMap_empty (show WideAt.IsKeyLit (.int .u32 2) from trivial)] at hv; exact hv))); (case h3_1 => exact (by rw [Maps.has_put_other (plc.ne (by decide : (2 : Int) ≠ 9)), Maps.has_put_other (plc.ne (by decide : (2 : Int) ≠ 8)), Maps.has_put_other (plc.ne (by decide : (2 : Int) ≠ 7)), Maps.has_put_other (plc.ne (by decide : (2 : Int) ≠ 6)), Maps.has_put_other (plc.ne (by decide : (2 : Int) ≠ 5)), Maps.has_put_other (plc.ne (by decide : (2 : Int) ≠ 4)), Maps.has_put_other (plc.ne (by decide : (2 : Int) ≠ 3)), Maps.has_put_same Maps.isMap_empty (show WideAt.IsKeyLit (.int .u32 2) from trivial)]))) | (go_at_call 19; refine (plc.c19 b w.heap.size _ hkp.2).mono ?_; rintro e w2 ⟨rfl, hg2, hb2⟩))
    go_ret2
    exact ⟨hkp.1.trans (hb2.mono hkp.1.size), Or.inr ⟨rfl, w1.heap.size, hkp.1.size, rfl, hg2⟩⟩
  · go_enter Try.func17, Try.ntmps17
    go_wp2_with (first | (refine plc.ins _ rfl _ _ _ 49 rfl 22 48 K22 hu (pfun (.pointer (some ⟨w.heap.size, 0, none⟩))) (w.heap.size + 1) _ _ rfl (by assumption) (by unfold maxLen; omega) _ _ _ rfl rfl (hk _ (by decide)) _ _ (pfun.mk _ _) ?_; intro w1 hown1 hg1; have hkp := plc.keep (by assumption) hg1; clear hg1) | (refine plc.look _ rfl _ _ 49 rfl 22 48 K22 hu (pfun (.pointer (some ⟨w.heap.size, 0, none⟩))) (hz _) (.lit (.bool false)) [] (pfun.nil _) (w.heap.size + 1) ?nN_2 ?nD_2 rfl ?h1_2 _ (.int .u32 3) rfl (hk _ (by decide)) (.func (.func 20) #[] #[.pointer (some ⟨w.heap.size, 0, none⟩)]) true ?h2_2 ?h3_2 ?h4_2; (case h1_2 => assumption); (case h2_2 => exact (fun v ps hv => pfun.inv (n := 20) (by rw [Maps.atKey_put_other (plc.ne (by decide : (3 : Int) ≠ 9)), Maps.atKey_put_other (plc.ne (by decide : (3 : Int) ≠ 8)), Maps.atKey_put_other (plc.ne (by decide : (3 : Int) ≠ 7)), Maps.atKey_put_other (plc.ne (by decide : (3 : Int) ≠ 6)), Maps.atKey_put_other (plc.ne (by decide : (3 : Int) ≠ 5)), Maps.atKey_put_other (plc.ne (by decide : (3 : Int) ≠ 4)), Maps.atKey_put_same (Maps.isMap_empty.put _ _) (show WideAt.IsKeyLit (.int .u32 3) from trivial)] at hv; exact hv))); (case h3_2 => exact (by rw [Maps.has_put_other (plc.ne (by decide : (3 : Int) ≠ 9)), Maps.has_put_other (plc.ne (by decide : (3 : Int) ≠ 8)), Maps.has_put_other (plc.ne (by decide : (3 : Int) ≠ 7)), Maps.has_put_other (plc.ne (by decide : (3 : Int) ≠ 6)), Maps.has_put_other (plc.ne (by decide : (3 : Int) ≠ 5)), Maps.has_put_other (plc.ne (by decide : (3 : Int) ≠ 4)), Maps.has_put_same (Maps.isMap_empty.put _ _) (show WideAt.IsKeyLit (.int .u32 3) from trivial)]))) | (go_at_call 20; refine (plc.c20 b w.heap.size _ hkp.2).mono ?_; rintro e w2 ⟨rfl, hg2, hb2⟩))
    go_ret2
    exact ⟨hkp.1.trans (hb2.mono hkp.1.size), Or.inr ⟨rfl, w1.heap.size, hkp.1.size, rfl, hg2⟩⟩
  · go_enter Try.func17, Try.ntmps17
    go_wp2_with (first | (refine plc.ins _ rfl _ _ _ 49 rfl 22 48 K22 hu (pfun (.pointer (some ⟨w.heap.size, 0, none⟩))) (w.heap.size + 1) _ _ rfl (by assumption) (by unfold maxLen; omega) _ _ _ rfl rfl (hk _ (by decide)) _ _ (pfun.mk _ _) ?_; intro w1 hown1 hg1; have hkp := plc.keep (by assumption) hg1; clear hg1) | (refine plc.look _ rfl _ _ 49 rfl 22 48 K22 hu (pfun (.pointer (some ⟨w.heap.size, 0, none⟩))) (hz _) (.lit (.bool false)) [] (pfun.nil _) (w.heap.size + 1) ?nN_3 ?nD_3 rfl ?h1_3 _ (.int .u32 4) rfl (hk _ (by decide)) (.func (.func 21) #[] #[.pointer (some ⟨w.heap.size, 0, none⟩)]) true ?h2_3 ?h3_3 ?h4_3; (case h1_3 => assumption); (case h2_3 => exact (fun v ps hv => pfun.inv (n := 21) (by rw [Maps.atKey_put_other (plc.ne (by decide : (4 : Int) ≠ 9)), Maps.atKey_put_other (plc.ne (by decide : (4 : Int) ≠ 8)), Maps.atKey_put_other (plc.ne (by decide : (4 : Int) ≠ 7)), Maps.atKey_put_other (plc.ne (by decide : (4 : Int) ≠ 6)), Maps.atKey_put_other (plc.ne (by decide : (4 : Int) ≠ 5)), Maps.atKey_put_same ((Maps.isMap_empty.put _ _).put _ _) (show WideAt.IsKeyLit (.int .u32 4) from trivial)] at hv; exact hv))); (case h3_3 => exact (by rw [Maps.has_put_other (plc.ne (by decide : (4 : Int) ≠ 9)), Maps.has_put_other (plc.ne (by decide : (4 : Int) ≠ 8)), Maps.has_put_other (plc.ne (by decide : (4 : Int) ≠ 7)), Maps.has_put_other (plc.ne (by decide : (4 : Int) ≠ 6)), Maps.has_put_other (plc.ne (by decide : (4 : Int) ≠ 5)), Maps.has_put_same ((Maps.isMap_empty.put _ _).put _ _) (show WideAt.IsKeyLit (.int .u32 4) from trivial)]))) | (go_at_call 21; refine (plc.c21 b w.heap.size _ hkp.2).mono ?_; rintro e w2 ⟨rfl, hg2, hb2⟩))
    go_ret2
    exact ⟨hkp.1.trans (hb2.mono hkp.1.size), Or.inr ⟨rfl, w1.heap.size, hkp.1.size, rfl, hg2⟩⟩
  · go_enter Try.func17, Try.ntmps17
    go_wp2_with (first | (refine plc.ins _ rfl _ _ _ 49 rfl 22 48 K22 hu (pfun (.pointer (some ⟨w.heap.size, 0, none⟩))) (w.heap.size + 1) _ _ rfl (by assumption) (by unfold maxLen; omega) _ _ _ rfl rfl (hk _ (by decide)) _ _ (pfun.mk _ _) ?_; intro w1 hown1 hg1; have hkp := plc.keep (by assumption) hg1; clear hg1) | (refine plc.look _ rfl _ _ 49 rfl 22 48 K22 hu (pfun (.pointer (some ⟨w.heap.size, 0, none⟩))) (hz _) (.lit (.bool false)) [] (pfun.nil _) (w.heap.size + 1) ?nN_4 ?nD_4 rfl ?h1_4 _ (.int .u32 5) rfl (hk _ (by decide)) (.func (.func 22) #[] #[.pointer (some ⟨w.heap.size, 0, none⟩)]) true ?h2_4 ?h3_4 ?h4_4; (case h1_4 => assumption); (case h2_4 => exact (fun v ps hv => pfun.inv (n := 22) (by rw [Maps.atKey_put_other (plc.ne (by decide : (5 : Int) ≠ 9)), Maps.atKey_put_other (plc.ne (by decide : (5 : Int) ≠ 8)), Maps.atKey_put_other (plc.ne (by decide : (5 : Int) ≠ 7)), Maps.atKey_put_other (plc.ne (by decide : (5 : Int) ≠ 6)), Maps.atKey_put_same (((Maps.isMap_empty.put _ _).put _ _).put _ _) (show WideAt.IsKeyLit (.int .u32 5) from trivial)] at hv; exact hv))); (case h3_4 => exact (by rw [Maps.has_put_other (plc.ne (by decide : (5 : Int) ≠ 9)), Maps.has_put_other (plc.ne (by decide : (5 : Int) ≠ 8)), Maps.has_put_other (plc.ne (by decide : (5 : Int) ≠ 7)), Maps.has_put_other (plc.ne (by decide : (5 : Int) ≠ 6)), Maps.has_put_same (((Maps.isMap_empty.put _ _).put _ _).put _ _) (show WideAt.IsKeyLit (.int .u32 5) from trivial)]))) | (go_at_call 22; refine (plc.c22 b w.heap.size _ hkp.2).mono ?_; rintro e w2 ⟨rfl, hg2, hb2⟩))
    go_ret2
    exact ⟨hkp.1.trans (hb2.mono hkp.1.size), Or.inr ⟨rfl, w1.heap.size, hkp.1.size, rfl, hg2⟩⟩
  · go_enter Try.func17, Try.ntmps17
    go_wp2_with (first | (refine plc.ins _ rfl _ _ _ 49 rfl 22 48 K22 hu (pfun (.pointer (some ⟨w.heap.size, 0, none⟩))) (w.heap.size + 1) _ _ rfl (by assumption) (by unfold maxLen; omega) _ _ _ rfl rfl (hk _ (by decide)) _ _ (pfun.mk _ _) ?_; intro w1 hown1 hg1; have hkp := plc.keep (by assumption) hg1; clear hg1) | (refine plc.look _ rfl _ _ 49 rfl 22 48 K22 hu (pfun (.pointer (some ⟨w.heap.size, 0, none⟩))) (hz _) (.lit (.bool false)) [] (pfun.nil _) (w.heap.size + 1) ?nN_5 ?nD_5 rfl ?h1_5 _ (.int .u32 6) rfl (hk _ (by decide)) (.func (.func 23) #[] #[.pointer (some ⟨w.heap.size, 0, none⟩)]) true ?h2_5 ?h3_5 ?h4_5; (case h1_5 => assumption); (case h2_5 => exact (fun v ps hv => pfun.inv (n := 23) (by rw [Maps.atKey_put_other (plc.ne (by decide : (6 : Int) ≠ 9)), Maps.atKey_put_other (plc.ne (by decide : (6 : Int) ≠ 8)), Maps.atKey_put_other (plc.ne (by decide : (6 : Int) ≠ 7)), Maps.atKey_put_same ((((Maps.isMap_empty.put _ _).put _ _).put _ _).put _ _) (show WideAt.IsKeyLit (.int .u32 6) from trivial)] at hv; exact hv))); (case h3_5 => exact (by rw [Maps.has_put_other (plc.ne (by decide : (6 : Int) ≠ 9)), Maps.has_put_other (plc.ne (by decide : (6 : Int) ≠ 8)), Maps.has_put_other (plc.ne (by decide : (6 : Int) ≠ 7)), Maps.has_put_same ((((Maps.isMap_empty.put _ _).put _ _).put _ _).put _ _) (show WideAt.IsKeyLit (.int .u32 6) from trivial)]))) | (go_at_call 23; refine (plc.c23 b w.heap.size _ hkp.2).mono ?_; rintro e w2 ⟨rfl, hg2, hb2⟩))
    go_ret2
    exact ⟨hkp.1.trans (hb2.mono hkp.1.size), Or.inr ⟨rfl, w1.heap.size, hkp.1.size, rfl, hg2⟩⟩
  · go_enter Try.func17, Try.ntmps17
    go_wp2_with (first | (refine plc.ins _ rfl _ _ _ 49 rfl 22 48 K22 hu (pfun (.pointer (some ⟨w.heap.size, 0, none⟩))) (w.heap.size + 1) _ _ rfl (by assumption) (by unfold maxLen; omega) _ _ _ rfl rfl (hk _ (by decide)) _ _ (pfun.mk _ _) ?_; intro w1 hown1 hg1; have hkp := plc.keep (by assumption) hg1; clear hg1) | (refine plc.look _ rfl _ _ 49 rfl 22 48 K22 hu (pfun (.pointer (some ⟨w.heap.size, 0, none⟩))) (hz _) (.lit (.bool false)) [] (pfun.nil _) (w.heap.size + 1) ?nN_6 ?nD_6 rfl ?h1_6 _ (.int .u32 7) rfl (hk _ (by decide)) (.func (.func 24) #[] #[.pointer (some ⟨w.heap.size, 0, none⟩)]) true ?h2_6 ?h3_6 ?h4_6; (case h1_6 => assumption); (case h2_6 => exact (fun v ps hv => pfun.inv (n := 24) (by rw [Maps.atKey_put_other (plc.ne (by decide : (7 : Int) ≠ 9)), Maps.atKey_put_other (plc.ne (by decide : (7 : Int) ≠ 8)), Maps.atKey_put_same (((((Maps.isMap_empty.put _ _).put _ _).put _ _).put _ _).put _ _) (show WideAt.IsKeyLit (.int .u32 7) from trivial)] at hv; exact hv))); (case h3_6 => exact (by rw [Maps.has_put_other (plc.ne (by decide : (7 : Int) ≠ 9)), Maps.has_put_other (plc.ne (by decide : (7 : Int) ≠ 8)), Maps.has_put_same (((((Maps.isMap_empty.put _ _).put _ _).put _ _).put _ _).put _ _) (show WideAt.IsKeyLit (.int .u32 7) from trivial)]))) | (go_at_call 24; refine (plc.c24 b w.heap.size _ hkp.2).mono ?_; rintro e w2 ⟨rfl, hg2, hb2⟩))
    go_ret2
    exact ⟨hkp.1.trans (hb2.mono hkp.1.size), Or.inr ⟨rfl, w1.heap.size, hkp.1.size, rfl, hg2⟩⟩
  · go_enter Try.func17, Try.ntmps17
    go_wp2_with (first | (refine plc.ins _ rfl _ _ _ 49 rfl 22 48 K22 hu (pfun (.pointer (some ⟨w.heap.size, 0, none⟩))) (w.heap.size + 1) _ _ rfl (by assumption) (by unfold maxLen; omega) _ _ _ rfl rfl (hk _ (by decide)) _ _ (pfun.mk _ _) ?_; intro w1 hown1 hg1; have hkp := plc.keep (by assumption) hg1; clear hg1) | (refine plc.look _ rfl _ _ 49 rfl 22 48 K22 hu (pfun (.pointer (some ⟨w.heap.size, 0, none⟩))) (hz _) (.lit (.bool false)) [] (pfun.nil _) (w.heap.size + 1) ?nN_7 ?nD_7 rfl ?h1_7 _ (.int .u32 8) rfl (hk _ (by decide)) (.func (.func 25) #[] #[.pointer (some ⟨w.heap.size, 0, none⟩)]) true ?h2_7 ?h3_7 ?h4_7; (case h1_7 => assumption); (case h2_7 => exact (fun v ps hv => pfun.inv (n := 25) (by rw [Maps.atKey_put_other (plc.ne (by decide : (8 : Int) ≠ 9)), Maps.atKey_put_same ((((((Maps.isMap_empty.put _ _).put _ _).put _ _).put _ _).put _ _).put _ _) (show WideAt.IsKeyLit (.int .u32 8) from trivial)] at hv; exact hv))); (case h3_7 => exact (by rw [Maps.has_put_other (plc.ne (by decide : (8 : Int) ≠ 9)), Maps.has_put_same ((((((Maps.isMap_empty.put _ _).put _ _).put _ _).put _ _).put _ _).put _ _) (show WideAt.IsKeyLit (.int .u32 8) from trivial)]))) | (go_at_call 25; refine (plc.c25 b w.heap.size _ hkp.2).mono ?_; rintro e w2 ⟨rfl, hg2, hb2⟩))
    go_ret2
    exact ⟨hkp.1.trans (hb2.mono hkp.1.size), Or.inr ⟨rfl, w1.heap.size, hkp.1.size, rfl, hg2⟩⟩
  · go_enter Try.func17, Try.ntmps17
    go_wp2_with (first | (refine plc.ins _ rfl _ _ _ 49 rfl 22 48 K22 hu (pfun (.pointer (some ⟨w.heap.size, 0, none⟩))) (w.heap.size + 1) _ _ rfl (by assumption) (by unfold maxLen; omega) _ _ _ rfl rfl (hk _ (by decide)) _ _ (pfun.mk _ _) ?_; intro w1 hown1 hg1; have hkp := plc.keep (by assumption) hg1; clear hg1) | (refine plc.look _ rfl _ _ 49 rfl 22 48 K22 hu (pfun (.pointer (some ⟨w.heap.size, 0, none⟩))) (hz _) (.lit (.bool false)) [] (pfun.nil _) (w.heap.size + 1) ?nN_8 ?nD_8 rfl ?h1_8 _ (.int .u32 9) rfl (hk _ (by decide)) (.func (.func 26) #[] #[.pointer (some ⟨w.heap.size, 0, none⟩)]) true ?h2_8 ?h3_8 ?h4_8; (case h1_8 => assumption); (case h2_8 => exact (fun v ps hv => pfun.inv (n := 26) (by rw [Maps.atKey_put_same (((((((Maps.isMap_empty.put _ _).put _ _).put _ _).put _ _).put _ _).put _ _).put _ _) (show WideAt.IsKeyLit (.int .u32 9) from trivial)] at hv; exact hv))); (case h3_8 => exact (by rw [Maps.has_put_same (((((((Maps.isMap_empty.put _ _).put _ _).put _ _).put _ _).put _ _).put _ _).put _ _) (show WideAt.IsKeyLit (.int .u32 9) from trivial)]))) | (go_at_call 26; refine (plc.c26 b w.heap.size _ hkp.2).mono ?_; rintro e w2 ⟨rfl, hg2, hb2⟩))
    go_ret2
    exact ⟨hkp.1.trans (hb2.mono hkp.1.size), Or.inr ⟨rfl, w1.heap.size, hkp.1.size, rfl, hg2⟩⟩
  · have ne : ∀ n : Int, label ≠ n → Lit.int .u32 label ≠ Lit.int .u32 n := fun n hn h => hn (by injection h)
    go_enter Try.func17, Try.ntmps17
    go_wp2_with (first | (refine plc.ins _ rfl _ _ _ 49 rfl 22 48 K22 hu (pfun (.pointer (some ⟨w.heap.size, 0, none⟩))) (w.heap.size + 1) _ _ rfl (by assumption) (by unfold maxLen; omega) _ _ _ rfl rfl (hk _ (by decide)) _ _ (pfun.mk _ _) ?_; intro w1 hown1 hg1; have hkp := plc.keep (by assumption) hg1; clear hg1) | (refine plc.look _ rfl _ _ 49 rfl 22 48 K22 hu (pfun (.pointer (some ⟨w.heap.size, 0, none⟩))) (hz _) (.lit (.bool false)) [] (pfun.nil _) (w.heap.size + 1) ?nN_9 ?nD_9 rfl ?h1_9 _ (.int .u32 label) rfl (hk _ (plc.wf hl)) .nilFunc false ?h2_9 ?h3_9 ?h4_9; (case h1_9 => assumption); (case h2_9 => exact (fun v ps hv => pfun.invnil (by rw [Maps.atKey_put_other (ne _ n9), Maps.atKey_put_other (ne _ n8), Maps.atKey_put_other (ne _ n7), Maps.atKey_put_other (ne _ n6), Maps.atKey_put_other (ne _ n5), Maps.atKey_put_other (ne _ n4), Maps.atKey_put_other (ne _ n3), Maps.atKey_put_other (ne _ n2)] at hv; exact hv))); (case h3_9 => exact (by rw [Maps.has_put_other (ne _ n9), Maps.has_put_other (ne _ n8), Maps.has_put_other (ne _ n7), Maps.has_put_other (ne _ n6), Maps.has_put_other (ne _ n5), Maps.has_put_other (ne _ n4), Maps.has_put_other (ne _ n3), Maps.has_put_other (ne _ n2)]; rfl))))
    go_ret2
    have e : pix label = [] := by simp [pix, n2, n3, n4, n5, n6, n7, n8, n9]
    exact ⟨hkp.1, Or.inl ⟨by rw [e]; rfl, rfl⟩⟩
theorem plc.res {P : Program} {fn : Func} {p : Tmp} {ty : TypeId} (h : fn.results = #[.cell p ty]) (tmps : Array Value) (w : World) (g : Nat) (t : TypeId) (cs : Array Value) (fr : Nat × Nat) (d : TypeDesc)
    (hp : tmps.getD p undef = .pointer (some ⟨g, 0, none⟩)) (hg : w.heap[g]? = some (.cells cs t fr))
    (hu : P.underlying ty = some d) (hd : (match d with | .struct _ | .array _ _ => true | _ => false) = true) (hi : (P.info? ty).map (·.size) = some cs.size) :
    (results fn tmps).run P w = .ok (.agg cs) w := by
  have hp' : tmps[p]?.getD undef = .pointer (some ⟨g, 0, none⟩) := by simpa using hp
  simp [results, h, hp', asAddr, run_loadVar_row w g t ty cs fr d hg hu hd hi]
theorem plc.put {P : Program} {ops : Array Oper} {rest : List Oper} {o : Oper} {a : Act} {Q : Exit → Act → World → Prop} {W : World} (hgd : o.guard = none) (t : TypeId) (p x : Operand) (ho : o.op = .store t p x) (hN : o.dst = none) (g : Nat) (cur : Array Value) (e : TypeId)
    (hp : a.eval p = .pointer (some ⟨g, 0, none⟩)) (cs : Array Value) (hx : a.eval x = .agg cs) (hh : W.heap[g]? = some (.cells cur e (0, 0))) (hsz : cs.size = cur.size) (ht : (P.info? t).map (·.size) = some cs.size) (h1 : ∀ q ∈ cs.toList, q.oneCell' = true)
    (h : ∀ w', w'.heap[g]? = some (.cells cs e (0, 0)) → W.grownBy w' (some g) → wpList P ops Q rest a w') : wpList P ops Q (o :: rest) a W := by
  refine wpList_plain hgd fun K hK => ?_
  have hrun := run_store_run (P := P) (w := W) (g := g) (o := 0) (e := e) (cur := cur) t (.agg cs) cs.toList hh rfl (by rw [ht]; simp) (by simp; omega) h1
  obtain ⟨cur', h3, h4, h5⟩ := setCells_row cs.toList 0 W cur hh (by simp; omega)
  obtain ⟨s1, s2, s3, s4⟩ := setCells_same g cs.toList 0 W
  have hc : cur' = cs := by
    apply Array.toList_inj.mp
    rw [h5]
    simp only [List.take_zero, List.nil_append, Nat.zero_add, Array.length_toList]
    rw [List.drop_eq_nil_of_le (by simp; omega), List.append_nil]
  subst hc
  have hk := hK (a.put o.dst undef) (W.setCells g 0 cur'.toList) (by rw [hN]; exact h _ h3 ⟨s1, s2, s3, by rw [s4]; exact Nat.le_refl _, fun k _ hk => setCells_far _ _ k (fun he => hk (by rw [he]))⟩)
  unfold Oper.wp
  simp [execOp, ho, hp, hx, hrun, Result.andThen]
  exact hk
theorem plc.no (b : Nat) (label : Int) (hl : 0 ≤ label ∧ label < 4294967296) (hE : (pix label).isEmpty = true) (w : World) :
    Calls Try.prog 17 #[.pointer (some ⟨b, 0, none⟩), .int .u32 label] w fun e w' => e = .returned (.tuple #[.slice none 0 0, .bool false]) ∧ Below w.heap.size w w' := by
  refine (plc.places b label hl w).mono ?_
  rintro e w' ⟨hb, ⟨he, rfl⟩ | ⟨he, g, hg, rfl, hh⟩⟩
  · exact ⟨rfl, hb⟩
  · rw [hE] at he; cases he
theorem plc.yes (b : Nat) (label : Int) (hl : 0 ≤ label ∧ label < 4294967296) (hE : (pix label).isEmpty = false) (w : World) :
    Calls Try.prog 17 #[.pointer (some ⟨b, 0, none⟩), .int .u32 label] w fun e w' => ∃ g, w.heap.size ≤ g ∧ e = .returned (.tuple #[.slice (some ⟨g, 0, none⟩) (pix label).length (pix label).length, .bool true]) ∧ w'.heap[g]? = some (.cells ((pix label).map (fun i => Value.pointer (some ⟨b, i, none⟩))).toArray 46 (0, 0)) ∧ Below w.heap.size w w' := by
  refine (plc.places b label hl w).mono ?_
  rintro e w' ⟨hb, ⟨he, rfl⟩ | ⟨he, g, hg, rfl, hh⟩⟩
  · rw [hE] at he; cases he
  · exact ⟨g, hg, rfl, hh, hb⟩
/-- A part's cells, those of these places as 0. -/
def pcells (fs : List Int) (zs : List Nat) : Array Value := ((List.range 7).map (fun j => Value.int .u32 (pz zs fs j))).toArray
theorem pcells.size (fs : List Int) (zs : List Nat) : (pcells fs zs).size = 7 := by simp [pcells]
theorem pcells.at_ (fs : List Int) (zs : List Nat) (j : Nat) (h : j < 7) (hn : zs.contains j = false) : (pcells fs zs)[j]? = some (.int .u32 (pf fs j)) := by
  simp [pcells, pz, h, hn]
  intro hc
  have := List.contains_iff_mem.2 hc
  rw [hn] at this; cases this
theorem pcells.set (fs : List Int) (zs : List Nat) (j : Nat) (h : j < 7) : (pcells fs zs).setIfInBounds j (.int .u32 0) = pcells fs (zs ++ [j]) := by
  apply Array.ext'
  apply List.ext_getElem?
  intro i
  simp only [pcells, pz, List.setIfInBounds_toArray, List.getElem?_set]
  by_cases e : j = i
  · subst e; simp [h]
  · simp only [e, if_false, List.getElem?_map, List.contains_append]
    by_cases q : i < 7
    · have : ([j] : List Nat).contains i = false := by simp; omega
      simp [q]
      by_cases r : i ∈ zs
      · simp [r]
      · have : i ≠ j := fun x => e x.symm
        simp [r, this]
    · simp [List.getElem?_eq_none, q]
theorem pix.len (label : Int) : (pix label).length ≤ 5 := by
  unfold pix
  repeat' split
  all_goals decide
theorem pfits.no {label : Int} {fs : List Int} (h : ∃ j, j < 7 ∧ pz (pix label) fs j ≠ 0) : pfits label fs = false := by
  obtain ⟨j, hj, hz⟩ := h
  cases c : pfits label fs with
  | false => rfl
  | true =>
    unfold pfits at c
    rw [Bool.and_eq_true, List.all_eq_true] at c
    exact absurd (by simpa using c.2 j (List.mem_range.2 hj)) hz
theorem pfits.yes {label : Int} {fs : List Int} (hE : (pix label).isEmpty = false) (h0 : pz (pix label) fs 0 = 0) (h1 : pz (pix label) fs 1 = 0) (h2 : pz (pix label) fs 2 = 0) (h3 : pz (pix label) fs 3 = 0) (h4 : pz (pix label) fs 4 = 0) (h5 : pz (pix label) fs 5 = 0) (h6 : pz (pix label) fs 6 = 0) : pfits label fs = true := by
  unfold pfits
  rw [hE, show List.range 7 = [0, 1, 2, 3, 4, 5, 6] from rfl]
  simp [h0, h1, h2, h3, h4, h5, h6]
/-- The places of a label: below 7, none twice. -/
theorem pix.good (label : Int) (n : Nat) (hn : n < (pix label).length) : (pix label)[n] < 7 ∧ ((pix label).take n).contains (pix label)[n] = false := by
  have key : ∀ L : List Nat, (∀ n (h : n < L.length), L[n] < 7 ∧ (L.take n).contains L[n] = false) → L = pix label → ((pix label)[n] < 7 ∧ ((pix label).take n).contains (pix label)[n] = false) := fun L h e => by subst e; exact h n hn
  have c : pix label = [0, 3, 4, 5, 6] ∨ pix label = [4, 2, 5] ∨ pix label = [0] ∨ pix label = [0, 1, 2, 3] ∨ pix label = [0, 4] ∨ pix label = [] := by
    unfold pix
    split
    · exact Or.inl rfl
    split
    · exact Or.inr (Or.inl rfl)
    split
    · exact Or.inr (Or.inr (Or.inl rfl))
    split
    · exact Or.inr (Or.inr (Or.inl rfl))
    split
    · exact Or.inr (Or.inr (Or.inr (Or.inl rfl)))
    split
    · exact Or.inr (Or.inr (Or.inr (Or.inl rfl)))
    split
    · exact Or.inr (Or.inr (Or.inr (Or.inr (Or.inl rfl))))
    split
    · exact Or.inr (Or.inr (Or.inr (Or.inr (Or.inl rfl))))
    exact Or.inr (Or.inr (Or.inr (Or.inr (Or.inr (rfl)))))
  rcases c with c | c | c | c | c | c
  · exact key _ (by decide) c.symm
  · exact key _ (by decide) c.symm
  · exact key _ (by decide) c.symm
  · exact key _ (by decide) c.symm
  · exact key _ (by decide) c.symm
  · exact key _ (by decide) c.symm
theorem plc.found (b : Nat) (label : Int) (hl : 0 ≤ label ∧ label < 4294967296) (w : World) :
    Calls Try.prog 17 #[.pointer (some ⟨b, 0, none⟩), .int .u32 label] w fun e w' => ∃ A : Option Addr, e = .returned (.tuple #[.slice A (pix label).length (pix label).length, .bool (!(pix label).isEmpty)]) ∧ Below w.heap.size w w' ∧
      ((pix label).isEmpty = false → ∃ g, A = some ⟨g, 0, none⟩ ∧ w.heap.size ≤ g ∧ w'.heap[g]? = some (.cells ((pix label).map (fun i => Value.pointer (some ⟨b, i, none⟩))).toArray 46 (0, 0))) := by
  refine (plc.places b label hl w).mono ?_
  rintro e w' ⟨hb, ⟨he, rfl⟩ | ⟨he, g, hg, rfl, hh⟩⟩
  · have e0 : pix label = [] := by simpa using he
    exact ⟨none, by rw [e0]; rfl, hb, fun h => by rw [he] at h; cases h⟩
  · exact ⟨_, by rw [he]; rfl, hb, fun _ => ⟨g, rfl, hg, hh⟩⟩
set_option maxHeartbeats 8000000 in
set_option maxRecDepth 100000 in
theorem part_Put.calls (a0 : Int) (a1_0 : Int) (a1_1 : Int) (a1_2 : Int) (a1_3 : Int) (a1_4 : Int) (a1_5 : Int) (a1_6 : Int) (r1 : List Int) (r2 : Int) (w : World) (h : part_Put.f a0 a1_0 a1_1 a1_2 a1_3 a1_4 a1_5 a1_6 = some (r1, r2)) :
    Calls Try.prog 9 #[.int .u32 a0, .agg #[.int .u32 a1_0, .int .u32 a1_1, .int .u32 a1_2, .int .u32 a1_3, .int .u32 a1_4, .int .u32 a1_5, .int .u32 a1_6]] w fun e w' => ∃ v0_ : Value, e = .returned (.tuple #[v0_, .int .i64 r2]) ∧ Kd.R (Kd.int .u32) 22 w' w.heap.size (fun _ => True) v0_ r1 ∧ Below w.heap.size w w' := by
  unfold part_Put.f at h
  by_cases hm : 0 ≤ a0 ∧ a0 < 4294967296
  rotate_left
  · rw [if_neg hm] at h; cases h
  rw [if_pos hm] at h
  simp only [Option.some.injEq, Prod.mk.injEq] at h
  obtain ⟨rfl, rfl⟩ := h
  have HM := Aside0.mk hm
  clear hm
  have hu24 := Try.underlying24
  have h1 : ∀ q ∈ (#[.int .u32 a1_0, .int .u32 a1_1, .int .u32 a1_2, .int .u32 a1_3, .int .u32 a1_4, .int .u32 a1_5, .int .u32 a1_6] : Array Value).toList, q.oneCell' = true := by
    intro q hq
    simp only [List.mem_cons, List.not_mem_nil, or_false] at hq
    rcases hq with rfl | rfl | rfl | rfl | rfl | rfl | rfl <;> rfl
  cases hE : (pix a0).isEmpty with
  | true =>
    go_enter Try.func9, Try.ntmps9
    go_wp2_with (first | ((with_reducible refine gate_store (t := 24) (p := 6) (v := .tmp 12) rfl ?_); refine plc.put rfl 24 _ _ rfl rfl (w.heap.size + 1) _ 24 rfl _ rfl (plc.new (by simp)) rfl (by kernel_rfl) h1 ?_; intro w1 hw1 hg1) | (go_at_call 17; refine (plc.no _ a0 HM.out hE _).mono ?_; rintro e w2 ⟨rfl, hb2⟩))
    go_ret2
    have hf : pfits a0 [a1_0, a1_1, a1_2, a1_3, a1_4, a1_5, a1_6] = false := by unfold pfits; rw [hE]; rfl
    unfold pwords pwhy
    rw [hf]
    exact ⟨_, rfl, Kd.R_nil _ _ _ _ _, ((below_alloc (below_alloc (Below.refl _ _) _) _).grown hg1 (by simp <;> omega) (fun k hk => by cases hk; omega)).trans (hb2.mono (by have := hg1.size; simp at this; omega))⟩
  | false =>
    go_enter Try.func9, Try.ntmps9
    go_wp2_with (first | ((with_reducible refine gate_store (t := 24) (p := 6) (v := .tmp 12) rfl ?_); refine plc.put rfl 24 _ _ rfl rfl (w.heap.size + 1) _ 24 rfl _ rfl (plc.new (by simp)) rfl (by kernel_rfl) h1 ?_; intro w1 hw1 hg1) | (go_at_call 17; refine (plc.yes _ a0 HM.out hE _).mono ?_; rintro e w2 ⟨g, hg, rfl, hh, hb2⟩))
    have hB : Below w.heap.size w w2 := ((below_alloc (below_alloc (Below.refl _ _) _) _).grown hg1 (by simp <;> omega) (fun k hk => by cases hk; omega)).trans (hb2.mono (by have := hg1.size; simp at this; omega))
    have hR : w2.heap[w.heap.size + 1]? = some (.cells (pcells [a1_0, a1_1, a1_2, a1_3, a1_4, a1_5, a1_6] ((pix a0).take 0)) 24 (0, 0)) := (hb2.block _ (blk_lt hw1)).trans hw1
    have hgr : w.heap.size + 1 < g := Nat.lt_of_lt_of_le (blk_lt hw1) hg
    have hgl : g < w2.heap.size := blk_lt hh
    clear hw1 hg1 hb2 hg h1
    go_loopw [22, 9] (fun i o wr => ∃ n : Nat, n ≤ (pix a0).length ∧ i = .int .i64 n ∧ Aside0 (Kd.R (Kd.int .u32) 22 wr w.heap.size (fun k => k ≠ g ∧ k ≠ w.heap.size + 1) o (((pix a0).take n).map (fun j => pf [a1_0, a1_1, a1_2, a1_3, a1_4, a1_5, a1_6] j))) ∧ Aside0 (wr.heap[w.heap.size + 1]? = some (.cells (pcells [a1_0, a1_1, a1_2, a1_3, a1_4, a1_5, a1_6] ((pix a0).take n)) 24 (0, 0))) ∧ Aside0 (wr.heap[g]? = some (.cells ((pix a0).map (fun i => Value.pointer (some ⟨w.heap.size + 1, i, none⟩))).toArray 46 (0, 0))) ∧ Aside0 (Below w.heap.size w wr))
      (fun i _ _ => (pix a0).length - (intOf i).toNat)
    case atStart => exact ⟨0, Nat.zero_le _, rfl, ⟨Kd.R_nil _ _ _ _ _⟩, ⟨hR⟩, ⟨hh⟩, ⟨hB⟩⟩
    case round =>
      obtain ⟨n, hn, rfl, HO, HP, HL, HB⟩ := hrel
      by_cases hlt : n < (pix a0).length
      · obtain ⟨j, hj⟩ : ∃ j, (pix a0)[n] = j := ⟨_, rfl⟩
        obtain ⟨j7, jn⟩ := pix.good a0 n hlt
        rw [hj] at j7 jn
        have hlen := pix.len a0
        have e1 : wr.cell? ⟨g, n, none⟩ = some (.pointer (some ⟨w.heap.size + 1, j, none⟩)) := (blk_cell HL.out n).trans (by simp [hlt, hj])
        have e2 : wr.cell? ⟨w.heap.size + 1, j, none⟩ = some (.int .u32 (pf [a1_0, a1_1, a1_2, a1_3, a1_4, a1_5, a1_6] j)) := (blk_cell HP.out _).trans (pcells.at_ _ _ _ j7 jn)
        have i22 : (Try.prog.info? 22).map (fun i => (i.zero, i.size, i.bytes)) = some (some (.int .u32 0), 1, 4) := by kernel_rfl
        have hlp := blk_lt HP.out
        have hll := blk_lt HL.out
        go_wp2_with ((with_reducible refine gate_dst (N := 31) rfl ?_); refine Kd.R_append (Kd.int .u32) (w0 := w) w.heap.size rfl (.tmp 26) (.tmp 30) 26 22 (.int .u32 0) 4 rfl Try.underlying26 i22 rfl (by decide) (by omega) _ _ (pf [a1_0, a1_1, a1_2, a1_3, a1_4, a1_5, a1_6] j) [.int .u32 (pf [a1_0, a1_1, a1_2, a1_3, a1_4, a1_5, a1_6] j)] (fun k => k ≠ g ∧ k ≠ w.heap.size + 1) (fun _ => False) rfl rfl ?aP (fun _ hk => hk.elim) ?aF HO.out HB.out HB.out.size ?aL ?_; (case aP => first | rfl | exact ⟨rfl⟩ | trivial); (case aF => exact fun k hk => ⟨by omega, by omega⟩); (case aL => rw [List.length_map, List.length_take]; omega); intro v1 w1 ho1 hb1 hg1 hat1; have hP1 := (hg1.block _ hlp (Kd.R_away HO.out (fun k hk => hk.2))).trans HP.out; have hL1 := (hg1.block _ hll (Kd.R_away HO.out (fun k hk => hk.1))).trans HL.out; have z1 : w1.cell? ⟨w.heap.size + 1, j, none⟩ = some (.int .u32 (pf [a1_0, a1_1, a1_2, a1_3, a1_4, a1_5, a1_6] j)) := (blk_cell hP1 _).trans (pcells.at_ _ _ _ j7 jn); have f1 := blk_frozen hP1 j)
        go_roundw
        case rel =>
          refine ⟨n + 1, by omega, by go_num, ⟨?_⟩, ⟨?_⟩, ⟨?_⟩, ⟨?_⟩⟩
          · rw [List.take_succ_eq_append_getElem hlt, List.map_append, hj]
            exact Kd.R_far (p := ⟨w.heap.size + 1, j, none⟩) ho1 (fun k hk => hk.2) _
          · exact blk_put hP1 j _ (by rw [List.take_succ_eq_append_getElem hlt, hj]; exact pcells.set _ _ j j7)
          · exact blk_far (p := ⟨w.heap.size + 1, j, none⟩) hL1 (by show g ≠ w.heap.size + 1; omega) _
          · exact below_set hb1 (by omega)
        case measure => simp [intOf]; omega
      · obtain rfl : n = (pix a0).length := by omega
        have hP := HP.out
        have hO := HO.out
        rw [List.take_length] at hP hO
        have i24 : (Try.prog.info? 24).map (·.size) = some 7 := by kernel_rfl
        have e0 : wr.cell? ⟨w.heap.size + 1, 0, none⟩ = some (.int .u32 (pz (pix a0) [a1_0, a1_1, a1_2, a1_3, a1_4, a1_5, a1_6] 0)) := (blk_cell hP 0).trans rfl
        have e1 : wr.cell? ⟨w.heap.size + 1, 1, none⟩ = some (.int .u32 (pz (pix a0) [a1_0, a1_1, a1_2, a1_3, a1_4, a1_5, a1_6] 1)) := (blk_cell hP 1).trans rfl
        have e2 : wr.cell? ⟨w.heap.size + 1, 2, none⟩ = some (.int .u32 (pz (pix a0) [a1_0, a1_1, a1_2, a1_3, a1_4, a1_5, a1_6] 2)) := (blk_cell hP 2).trans rfl
        have e3 : wr.cell? ⟨w.heap.size + 1, 3, none⟩ = some (.int .u32 (pz (pix a0) [a1_0, a1_1, a1_2, a1_3, a1_4, a1_5, a1_6] 3)) := (blk_cell hP 3).trans rfl
        have e4 : wr.cell? ⟨w.heap.size + 1, 4, none⟩ = some (.int .u32 (pz (pix a0) [a1_0, a1_1, a1_2, a1_3, a1_4, a1_5, a1_6] 4)) := (blk_cell hP 4).trans rfl
        have e5 : wr.cell? ⟨w.heap.size + 1, 5, none⟩ = some (.int .u32 (pz (pix a0) [a1_0, a1_1, a1_2, a1_3, a1_4, a1_5, a1_6] 5)) := (blk_cell hP 5).trans rfl
        have e6 : wr.cell? ⟨w.heap.size + 1, 6, none⟩ = some (.int .u32 (pz (pix a0) [a1_0, a1_1, a1_2, a1_3, a1_4, a1_5, a1_6] 6)) := (blk_cell hP 6).trans rfl
        go_wp2
        · rename_i q0 q1 q2 q3 q4 q5 q6
          have hf := pfits.yes hE q0 q1 q2 q3 q4 q5 q6
          go_ret2
          unfold pwords pwhy
          rw [hf]
          exact ⟨_, rfl, Kd.R_mono hO (fun _ _ => trivial), HB.out⟩
        all_goals
          have hf : pfits a0 [a1_0, a1_1, a1_2, a1_3, a1_4, a1_5, a1_6] = false := pfits.no (by first | exact ⟨6, by decide, by assumption⟩ | exact ⟨5, by decide, by assumption⟩ | exact ⟨4, by decide, by assumption⟩ | exact ⟨3, by decide, by assumption⟩ | exact ⟨2, by decide, by assumption⟩ | exact ⟨1, by decide, by assumption⟩ | exact ⟨0, by decide, by assumption⟩)
          go_ret2
          unfold pwords pwhy
          rw [hf]
          exact ⟨_, rfl, Kd.R_nil _ _ _ _ _, HB.out⟩

/-! ### chamberlainref01_Same: function 11 -/
def chamberlainref01_Same.l0 : Nat → List Int → List Int → Int → Option (Bool)
  | 0, _, _, _ => none
  | k + 1, x0, x1, x5 => if x5 < (x0.length : Int) then (if 0 ≤ x5 then (if x5 < (x1.length : Int) then (if (rd x0 x5) = (rd x1 x5) then (chamberlainref01_Same.l0 k x0 x1 (wrap64 (x5 + 1))) else (some false)) else (none)) else (none)) else (some true)
def chamberlainref01_Same.f (k : Nat) (l0 : List Int) (l1 : List Int) : Option (Bool) := if (l0.length : Int) = (l1.length : Int) then (chamberlainref01_Same.l0 k l0 l1 0) else (some false)
theorem chamberlainref01_Same.mono_l : ∀ k, (∀ y0 y1 y2, LeO (chamberlainref01_Same.l0 k y0 y1 y2) (chamberlainref01_Same.l0 (k + 1) y0 y1 y2))
  | 0 => fun _ _ _ r h => by simp [chamberlainref01_Same.l0] at h
  | k + 1 => by
    have ih0 := chamberlainref01_Same.mono_l k
    · intro y0 y1 y2
      unfold chamberlainref01_Same.l0
      repeat' first
      | (with_reducible exact ih0 _ _ _)
      | (with_reducible exact LeO.refl _)
      | (with_reducible exact LeO.none _)
      | (with_reducible refine LeO.ite ?_ ?_)
      | (with_reducible refine LeO.bind ?_ (fun _ => ?_))
      | exact ih0 _ _ _
      | exact LeO.none _
      | refine LeO.ite ?_ ?_
      | refine LeO.bind ?_ (fun _ => ?_)
theorem chamberlainref01_Same.mono : ∀ a0 a1 k, LeO (chamberlainref01_Same.f k a0 a1) (chamberlainref01_Same.f (k + 1) a0 a1) := by
  intro a0 a1 k
  have ih0 := chamberlainref01_Same.mono_l k
  unfold chamberlainref01_Same.f
  repeat' first
      | (with_reducible exact ih0 _ _ _)
      | (with_reducible exact LeO.refl _)
      | (with_reducible exact LeO.none _)
      | (with_reducible refine LeO.ite ?_ ?_)
      | (with_reducible refine LeO.bind ?_ (fun _ => ?_))
      | exact ih0 _ _ _
      | exact LeO.none _
      | refine LeO.ite ?_ ?_
      | refine LeO.bind ?_ (fun _ => ?_)
set_option maxHeartbeats 8000000 in
set_option maxRecDepth 100000 in
theorem chamberlainref01_Same.calls (k : Nat) (A0 : Option Addr) (c0 : Nat) (l0 : List Int) (A1 : Option Addr) (c1 : Nat) (l1 : List Int) (r : Bool) (w : World) (hr0 : Kd.C (Kd.int .u32) w A0 l0.length l0) (hc0 : l0.length ≤ c0) (hr1 : Kd.C (Kd.int .u32) w A1 l1.length l1) (hc1 : l1.length ≤ c1) (h : chamberlainref01_Same.f k l0 l1 = some r) :
    Calls Try.prog 11 #[.slice A0 l0.length c0, .slice A1 l1.length c1] w fun e w' => e = .returned (.bool r) ∧ Drawn0 w w' := by
  have HR0 := Aside0.mk hr0
  have HC0 := Aside0.mk hc0
  clear hr0 hc0
  have HR1 := Aside0.mk hr1
  have HC1 := Aside0.mk hc1
  clear hr1 hc1
  have H : (if (l0.length : Int) = (l1.length : Int) then (chamberlainref01_Same.l0 k l0 l1 0) else (some false)) = some r := h
  clear h
  by_cases c3 : (l0.length : Int) = (l1.length : Int)
  · rw [if_pos c3] at H
    have c3b0 : ((l0.length : Int) == (l1.length : Int)) = true := beq_iff_eq.mpr c3
    have c3b1 : ((l0.length : Int) != (l1.length : Int)) = false := bne_eq_false_iff_eq.mpr c3
    have c3b2 : (l0.length == l1.length) = true := by first | simpa using c3 | (simp at c3 ⊢; omega)
    clear c3
    have H' := Aside0.mk H
    clear H
    go_enter Try.func11, Try.ntmps11
    go_wp2
    repeat (go_quiet (fail); try go_wp2)
    go_loopg [5] k (fun kq v5 w' => ∃ (x5_1 : Int), v5 = .int .i64 x5_1 ∧ Aside0 (chamberlainref01_Same.l0 kq l0 l1 x5_1 = some r) ∧ Aside0 (kq ≤ k) ∧ Drawn0 w w')
    case atStart => exact ⟨(0), (by first | rfl | (simp; done) | (simp [*]; done)), H', ⟨Nat.le_refl _⟩, by repeat (first | exact Drawn0.refl _ | apply Drawn0.step)⟩
    case round =>
      clear H'
      try clear c1
      try clear p2
      try clear c3
      try clear c3b0
      try clear c3b1
      try clear c3b2
      obtain ⟨x5_1, rfl, HA, HK1, ⟨m1, rfl⟩⟩ := hrel
      cases gk with
      | zero => exact absurd HA.out (by simp [chamberlainref01_Same.l0])
      | succ k1 =>
        have H := HA.out
        clear HA
        simp only [chamberlainref01_Same.l0] at H
        by_cases c4 : x5_1 < (l0.length : Int)
        · rw [if_pos c4] at H
          have c4b0 : decide (x5_1 < (l0.length : Int)) = true := decide_eq_true c4
          clear c4
          by_cases c5 : 0 ≤ x5_1
          · rw [if_pos c5] at H
            have c5b0 : decide (0 ≤ x5_1) = true := decide_eq_true c5
            clear c5
            by_cases c6 : x5_1 < (l1.length : Int)
            · rw [if_pos c6] at H
              have c6b0 : decide (x5_1 < (l1.length : Int)) = true := decide_eq_true c6
              clear c6
              by_cases c7 : (rd l0 x5_1) = (rd l1 x5_1)
              · rw [if_pos c7] at H
                have c7b0 : ((rd l0 x5_1) == (rd l1 x5_1)) = true := beq_iff_eq.mpr c7
                have c7b1 : ((rd l0 x5_1) != (rd l1 x5_1)) = false := bne_eq_false_iff_eq.mpr c7
                clear c7
                have H' := Aside0.mk H
                clear H
                have p105 : 0 ≤ (x5_1 : Int) := of_decide_eq_true (by first | (with_reducible assumption) | assumption)
                have q105 : x5_1 < (l0.length : Int) := of_decide_eq_true (by first | (with_reducible assumption) | assumption)
                obtain ⟨ad105, e105, hx105_0⟩ := Kd.at_int HR0.out x5_1 p105 q105
                cases e105
                replace p105 := eq_true p105
                replace q105 := eq_true q105
                have p106 : 0 ≤ (x5_1 : Int) := of_decide_eq_true (by first | (with_reducible assumption) | assumption)
                have q106 : x5_1 < (l1.length : Int) := of_decide_eq_true (by first | (with_reducible assumption) | assumption)
                obtain ⟨ad106, e106, hx106_0⟩ := Kd.at_int HR1.out x5_1 p106 q106
                cases e106
                replace p106 := eq_true p106
                replace q106 := eq_true q106
                go_wp2
                repeat (go_quiet (fail); try go_wp2)
                go_roundg k1
                case measure => have := HK1.out; omega
                case rel => exact ⟨(wrap64 (x5_1 + 1)), (by first | rfl | (simp; done) | (simp [*]; done)), H', ⟨by have := HK1.out; omega⟩, by repeat (first | exact Drawn0.refl _ | apply Drawn0.step)⟩
              · rw [if_neg c7] at H
                have c7b0 : ((rd l0 x5_1) == (rd l1 x5_1)) = false := beq_eq_false_iff_ne.mpr c7
                have c7b1 : ((rd l0 x5_1) != (rd l1 x5_1)) = true := bne_iff_ne.mpr c7
                obtain rfl := Option.some.inj H
                have p105 : 0 ≤ (x5_1 : Int) := of_decide_eq_true (by first | (with_reducible assumption) | assumption)
                have q105 : x5_1 < (l0.length : Int) := of_decide_eq_true (by first | (with_reducible assumption) | assumption)
                obtain ⟨ad105, e105, hx105_0⟩ := Kd.at_int HR0.out x5_1 p105 q105
                cases e105
                replace p105 := eq_true p105
                replace q105 := eq_true q105
                have p106 : 0 ≤ (x5_1 : Int) := of_decide_eq_true (by first | (with_reducible assumption) | assumption)
                have q106 : x5_1 < (l1.length : Int) := of_decide_eq_true (by first | (with_reducible assumption) | assumption)
                obtain ⟨ad106, e106, hx106_0⟩ := Kd.at_int HR1.out x5_1 p106 q106
                cases e106
                replace p106 := eq_true p106
                replace q106 := eq_true q106
                go_wp2
                repeat (go_quiet (fail); try go_wp2)
                go_ret
                exact ⟨by first | rfl | (simp; done) | (simp [*]; done), by repeat (first | exact Drawn0.refl _ | apply Drawn0.step)⟩
            · rw [if_neg c6] at H
              exact absurd H (by simp)
          · rw [if_neg c5] at H
            exact absurd H (by simp)
        · rw [if_neg c4] at H
          have c4b0 : decide (x5_1 < (l0.length : Int)) = false := decide_eq_false c4
          clear c4
          obtain rfl := Option.some.inj H
          go_wp2
          repeat (go_quiet (fail); try go_wp2)
          go_ret
          exact ⟨by first | rfl | (simp; done) | (simp [*]; done), by repeat (first | exact Drawn0.refl _ | apply Drawn0.step)⟩
  · rw [if_neg c3] at H
    have c3b0 : ((l0.length : Int) == (l1.length : Int)) = false := beq_eq_false_iff_ne.mpr c3
    have c3b1 : ((l0.length : Int) != (l1.length : Int)) = true := bne_iff_ne.mpr c3
    have c3b2 : (l0.length == l1.length) = false := by first | simpa using c3 | (simp at c3 ⊢; omega)
    obtain rfl := Option.some.inj H
    go_enter Try.func11, Try.ntmps11
    go_wp2
    repeat (go_quiet (fail); try go_wp2)
    go_ret
    exact ⟨by first | rfl | (simp; done) | (simp [*]; done), by repeat (first | exact Drawn0.refl _ | apply Drawn0.step)⟩

/-! ### part_May: function 12 -/
def part_May.f (a0 : Int) (a1_0 : Int) (a1_1 : Int) (a1_2 : Int) (a1_3 : Int) (a1_4 : Int) (a1_5 : Int) (a1_6 : Int) : Option (Bool) := (part_Put.f a0 a1_0 a1_1 a1_2 a1_3 a1_4 a1_5 a1_6).bind fun bt108 => (some (bt108.2 == 0))
set_option maxHeartbeats 8000000 in
set_option maxRecDepth 100000 in
theorem part_May.calls (a0 : Int) (a1_0 : Int) (a1_1 : Int) (a1_2 : Int) (a1_3 : Int) (a1_4 : Int) (a1_5 : Int) (a1_6 : Int) (r : Bool) (w : World) (h : part_May.f a0 a1_0 a1_1 a1_2 a1_3 a1_4 a1_5 a1_6 = some r) :
    Calls Try.prog 12 #[.int .u32 a0, .agg #[.int .u32 a1_0, .int .u32 a1_1, .int .u32 a1_2, .int .u32 a1_3, .int .u32 a1_4, .int .u32 a1_5, .int .u32 a1_6]] w fun e w' => e = .returned (.bool r) ∧ Below w.heap.size w w' := by
  have hu24 := Try.underlying24
  have HB := Aside0.mk (Below.refl w.heap.size w)
  have H : ((part_Put.f a0 a1_0 a1_1 a1_2 a1_3 a1_4 a1_5 a1_6).bind fun bt108 => (some (bt108.2 == 0))) = some r := h
  clear h
  replace H := Option.bind_eq_some_iff.mp H
  obtain ⟨⟨t108, t111⟩, A30, H⟩ := H
  replace H : (some (t111 == 0)) = some r := H
  have A3 := Aside0.mk A30
  clear A30
  obtain rfl := Option.some.inj H
  go_enter Try.func12, Try.ntmps12
  go_wp2_with (first | ((with_reducible refine gate_dst (N := 3) rfl ?_); refine box_event ?hg (N := 3) ?hd (cs := #[.int .u32 a1_0, .int .u32 a1_1, .int .u32 a1_2, .int .u32 a1_3, .int .u32 a1_4, .int .u32 a1_5, .int .u32 a1_6]) (t := 24) ?hr ?_; (case hd => rfl); (case hg => rfl); (case hr => first | (go_simp; done) | (go_simp; rfl)); intro gb107 hg w4 hbox hb; have n0_ := Aside0.mk (below_step (by repeat (first | (with_reducible first | exact HB.out | apply below_alloc | apply pw_below_drewN | apply below_drew1) | exact HB.out)) hb); have n1_ := Aside0.mk (hbox); have n2_ := Aside0.mk ((by rw [hg]; exact (below_size (by repeat (first | (with_reducible first | exact HB.out | apply below_alloc | apply pw_below_drewN | apply below_drew1) | exact HB.out))) : w.heap.size ≤ gb107)); have n3_ := Aside0.mk ((by rw [hg]; exact (below_size (by repeat (first | (with_reducible first | exact HB.out | apply below_alloc | apply pw_below_drewN | apply below_drew1) | exact HB.out))) : w.heap.size ≤ gb107)); clear HB; have HB := n0_; have BK107 := n1_; have GW107 := n2_; have GE107 := n3_; clear n0_ n1_ n2_ n3_; clear hb hbox hg; have hcz5_0 : w4.cell? ⟨gb107, 0, none⟩ = some (.int .u32 a1_0) := (blk_cell BK107.out 0).trans rfl; have hcz5_1 : w4.cell? ⟨gb107, 1, none⟩ = some (.int .u32 a1_1) := (blk_cell BK107.out 1).trans rfl; have hcz5_2 : w4.cell? ⟨gb107, 2, none⟩ = some (.int .u32 a1_2) := (blk_cell BK107.out 2).trans rfl; have hcz5_3 : w4.cell? ⟨gb107, 3, none⟩ = some (.int .u32 a1_3) := (blk_cell BK107.out 3).trans rfl; have hcz5_4 : w4.cell? ⟨gb107, 4, none⟩ = some (.int .u32 a1_4) := (blk_cell BK107.out 4).trans rfl; have hcz5_5 : w4.cell? ⟨gb107, 5, none⟩ = some (.int .u32 a1_5) := (blk_cell BK107.out 5).trans rfl; have hcz5_6 : w4.cell? ⟨gb107, 6, none⟩ = some (.int .u32 a1_6) := (blk_cell BK107.out 6).trans rfl; have hfz5_0 := blk_frozen BK107.out 0; have hfz5_1 := blk_frozen BK107.out 1; have hfz5_2 := blk_frozen BK107.out 2; have hfz5_3 := blk_frozen BK107.out 3; have hfz5_4 := blk_frozen BK107.out 4; have hfz5_5 := blk_frozen BK107.out 5; have hfz5_6 := blk_frozen BK107.out 6) | ((with_reducible refine gate_callee (f := 9) rfl ?_); refine goesL_ (some 10) rfl rfl Try.func9 (by kernel_rfl) rfl #[.int .u32 a0, .agg #[.int .u32 a1_0, .int .u32 a1_1, .int .u32 a1_2, .int .u32 a1_3, .int .u32 a1_4, .int .u32 a1_5, .int .u32 a1_6]] rfl (by (try simp only [List.map_toArray, List.map_cons, List.map_nil]); first | done | rfl | (simp only [List.length_drop, List.length_take]; rfl)) ?_; (with_reducible refine (part_Put.calls a0 a1_0 a1_1 a1_2 a1_3 a1_4 a1_5 a1_6 t108 t111 _ A3.out).mono ?_); rintro e w6 ⟨v109, rfl, ho0, hb⟩; refine ⟨_, rfl, ?_⟩; have n0_ := Aside0.mk (Kd.R_lower ho0 (below_size (by repeat (first | (with_reducible first | exact HB.out | apply below_alloc | apply pw_below_drewN | apply below_drew1 | refine below_set ?_ GE107.out) | exact HB.out)))); have n1_ := Aside0.mk (blk_below (g := gb107) (o := .cells #[.int .u32 a1_0, .int .u32 a1_1, .int .u32 a1_2, .int .u32 a1_3, .int .u32 a1_4, .int .u32 a1_5, .int .u32 a1_6] 24 (0, 0)) (by (with_reducible repeat (first | refine blk_drewN ?_ _ | refine blk_drew ?_ | refine blk_alloc ?_ _)); exact BK107.out) hb); have n2_ := Aside0.mk (below_step (by repeat (first | (with_reducible first | exact HB.out | apply below_alloc | apply pw_below_drewN | apply below_drew1 | refine below_set ?_ GE107.out) | exact HB.out)) hb); clear BK107; clear HB; have HO110 := n0_; have BK107 := n1_; have HB := n2_; clear n0_ n1_ n2_; (try clear hb); (try clear hb2); (try clear hk); (try clear hi); (try clear ho0)))
  go_ret
  exact ⟨by first | rfl | (simp [errW_none, errW_some] <;> rfl) | (simp [*, errW_none, errW_some] <;> rfl), by repeat (first | (with_reducible first | exact HB.out | apply below_alloc | apply pw_below_drewN | apply below_drew1 | refine below_set ?_ GE107.out) | exact HB.out)⟩

/-! ### part_Size: function 13 -/
def part_Size.f (a0 : Int) : Option Int := if 0 ≤ a0 ∧ a0 < 4294967296 then some ((pix a0).length : Int) else none
set_option maxHeartbeats 8000000 in
set_option maxRecDepth 100000 in
theorem part_Size.calls (a0 : Int) (r : Int) (w : World) (h : part_Size.f a0 = some r) :
    Calls Try.prog 13 #[.int .u32 a0] w fun e w' => e = .returned (.int .i64 r) ∧ Below w.heap.size w w' := by
  unfold part_Size.f at h
  by_cases hm : 0 ≤ a0 ∧ a0 < 4294967296
  rotate_left
  · rw [if_neg hm] at h; cases h
  rw [if_pos hm] at h
  obtain rfl := Option.some.inj h
  clear h
  have HM := Aside0.mk hm
  clear hm
  have hu24 := Try.underlying24
  go_enter Try.func13, Try.ntmps13
  go_wp2_with (go_at_call 17; refine (plc.found _ a0 HM.out _).mono ?_; rintro e w1 ⟨A, rfl, hb, _⟩)
  go_ret
  exact ⟨rfl, (below_alloc (Below.refl _ _) _).trans (hb.mono (by simp))⟩

/-! ### part_Get: function 15 -/
def pgat (zs : List (Nat × Int)) (j : Nat) : Int := match zs.find? (fun p => p.1 == j) with | some p => p.2 | none => 0
def pgetwhy (label : Int) (l : List Int) : Int := if (pix label).isEmpty then 1 else if (pix label).length = l.length then 0 else 2
def pget (label : Int) (l : List Int) (j : Nat) : Int := if pgetwhy label l = 0 then pgat ((pix label).zip l) j else 0
def part_Get.f (a0 : Int) (l1 : List Int) : Option (Int × Int × Int × Int × Int × Int × Int × Int) := if 0 ≤ a0 ∧ a0 < 4294967296 then some (pget a0 l1 0, pget a0 l1 1, pget a0 l1 2, pget a0 l1 3, pget a0 l1 4, pget a0 l1 5, pget a0 l1 6, pgetwhy a0 l1) else none
def gcells (zs : List (Nat × Int)) : Array Value := ((List.range 7).map (fun j => Value.int .u32 (pgat zs j))).toArray
theorem gcells.at_ (zs : List (Nat × Int)) (j : Nat) (h : j < 7) : (gcells zs)[j]? = some (.int .u32 (pgat zs j)) := by simp [gcells, h]
theorem gcells.set (zs : List (Nat × Int)) (j : Nat) (v : Int) (h : j < 7) (hn : zs.find? (fun p => p.1 == j) = none) : (gcells zs).setIfInBounds j (.int .u32 v) = gcells (zs ++ [(j, v)]) := by
  apply Array.ext'
  apply List.ext_getElem?
  intro i
  simp only [gcells, List.setIfInBounds_toArray, List.getElem?_set]
  by_cases e : j = i
  · subst e; simp [h, pgat, List.find?_append, hn]
  · have e2 : ((j == i) = false) := by simpa using e
    simp only [e, if_false, List.getElem?_map]
    have : pgat (zs ++ [(j, v)]) i = pgat zs i := by simp [pgat, List.find?_append, e2]
    by_cases q : i < 7
    · simp [q, this]
    · simp [List.getElem?_eq_none, q]
theorem part_Get.one (g : Nat → Int) : ∀ q ∈ (#[.int .u32 (g 0), .int .u32 (g 1), .int .u32 (g 2), .int .u32 (g 3), .int .u32 (g 4), .int .u32 (g 5), .int .u32 (g 6)] : Array Value).toList, q.oneCell' = true := by
  intro q hq
  simp only [List.mem_cons, List.not_mem_nil, or_false] at hq
  rcases hq with rfl | rfl | rfl | rfl | rfl | rfl | rfl <;> rfl
theorem part_Get.no {label : Int} {l : List Int} (h : pgetwhy label l ≠ 0) (j : Nat) : pget label l j = 0 := by unfold pget; rw [if_neg h]
theorem part_Get.yes {label : Int} {l : List Int} (h : pgetwhy label l = 0) (j : Nat) : pget label l j = pgat ((pix label).zip l) j := by unfold pget; rw [if_pos h]
set_option maxHeartbeats 8000000 in
set_option maxRecDepth 100000 in
theorem part_Get.calls (a0 : Int) (A1 : Option Addr) (c1 : Nat) (l1 : List Int) (r1 : Int) (r2 : Int) (r3 : Int) (r4 : Int) (r5 : Int) (r6 : Int) (r7 : Int) (r8 : Int) (w : World) (hr1 : Kd.C (Kd.int .u32) w A1 l1.length l1) (hc1 : l1.length ≤ c1) (h : part_Get.f a0 l1 = some (r1, r2, r3, r4, r5, r6, r7, r8)) :
    Calls Try.prog 15 #[.int .u32 a0, .slice A1 l1.length c1] w fun e w' => e = .returned (.tuple #[.agg #[.int .u32 r1, .int .u32 r2, .int .u32 r3, .int .u32 r4, .int .u32 r5, .int .u32 r6, .int .u32 r7], .int .i64 r8]) ∧ Below w.heap.size w w' := by
  unfold part_Get.f at h
  by_cases hm : 0 ≤ a0 ∧ a0 < 4294967296
  rotate_left
  · rw [if_neg hm] at h; cases h
  rw [if_pos hm] at h
  simp only [Option.some.injEq, Prod.mk.injEq] at h
  obtain ⟨rfl, rfl, rfl, rfl, rfl, rfl, rfl, rfl⟩ := h
  have HM := Aside0.mk hm
  clear hm
  have hu24 := Try.underlying24
  have z0 := part_Get.one (fun _ => 0)
  cases hE : (pix a0).isEmpty with
  | true =>
    have hw : pgetwhy a0 l1 = 1 := by unfold pgetwhy; rw [hE]; rfl
    have hg := fun j => part_Get.no (label := a0) (l := l1) (by rw [hw]; decide) j
    simp only [hw, hg]
    go_enter Try.func15, Try.ntmps15
    go_wp2_with (first | (go_at_call 17; refine (plc.no _ a0 HM.out hE _).mono ?_; rintro e w2 ⟨rfl, hb2⟩) | ((with_reducible refine gate_store (t := 24) (p := 4) (v := .tmp 19) rfl ?_); refine plc.put rfl 24 _ _ rfl rfl w.heap.size _ 24 rfl _ rfl ((hb2.block _ (by simp <;> omega)).trans (blk_alloc (plc.new rfl) _)) rfl (by kernel_rfl) z0 ?_; intro w3 hw3 hg3))
    refine bodyPost_ret (results_ct rfl _ _ w.heap.size 24 _ (0, 0) _ rfl hw3 Try.underlying24 rfl (by kernel_rfl)) rfl ?_
    have hB : Below w.heap.size w w2 := (below_alloc (below_alloc (Below.refl _ _) _) _).trans (hb2.mono (by simp <;> omega))
    exact ⟨rfl, hB.grown hg3 hB.size (fun k hk => by cases hk; omega)⟩
  | false =>
    by_cases hl : (pix a0).length = l1.length
    rotate_left
    · have hw : pgetwhy a0 l1 = 2 := by unfold pgetwhy; rw [hE, if_neg hl]; rfl
      have hg := fun j => part_Get.no (label := a0) (l := l1) (by rw [hw]; decide) j
      simp only [hw, hg]
      have hlc : ¬ (((pix a0).length : Int) = (l1.length : Int)) := by omega
      go_enter Try.func15, Try.ntmps15
      go_wp2_with (first | (go_at_call 17; refine (plc.yes _ a0 HM.out hE _).mono ?_; rintro e w2 ⟨g, hgg, rfl, hh, hb2⟩) | ((with_reducible refine gate_store (t := 24) (p := 4) (v := .tmp 26) rfl ?_); refine plc.put rfl 24 _ _ rfl rfl w.heap.size _ 24 rfl _ rfl ((hb2.block _ (by simp <;> omega)).trans (blk_alloc (plc.new rfl) _)) rfl (by kernel_rfl) z0 ?_; intro w3 hw3 hg3))
      refine bodyPost_ret (results_ct rfl _ _ w.heap.size 24 _ (0, 0) _ rfl hw3 Try.underlying24 rfl (by kernel_rfl)) rfl ?_
      have hB : Below w.heap.size w w2 := (below_alloc (below_alloc (Below.refl _ _) _) _).trans (hb2.mono (by simp <;> omega))
      exact ⟨rfl, hB.grown hg3 hB.size (fun k hk => by cases hk; omega)⟩
    · have hw : pgetwhy a0 l1 = 0 := by unfold pgetwhy; rw [hE, if_pos hl]; rfl
      have hg := fun j => part_Get.yes (label := a0) (l := l1) hw j
      simp only [hw, hg]
      have hlc : ((pix a0).length : Int) = (l1.length : Int) := by omega
      have h1 := part_Get.one (pgat ((pix a0).zip l1))
      go_enter Try.func15, Try.ntmps15
      go_wp2_with (go_at_call 17; refine (plc.yes _ a0 HM.out hE _).mono ?_; rintro e w2 ⟨g, hgg, rfl, hh, hb2⟩)
      have hB : Below w.heap.size w w2 := (below_alloc (below_alloc (Below.refl _ _) _) _).trans (hb2.mono (by simp <;> omega))
      have hR : w2.heap[w.heap.size + 1]? = some (.cells (gcells (((pix a0).take 0).zip (l1.take 0))) 24 (0, 0)) := (hb2.block _ (by simp <;> omega)).trans (plc.new (by simp))
      have hQ : w2.heap[w.heap.size]? = some (.cells #[.int .u32 0, .int .u32 0, .int .u32 0, .int .u32 0, .int .u32 0, .int .u32 0, .int .u32 0] 24 (0, 0)) := (hb2.block _ (by simp <;> omega)).trans (blk_alloc (plc.new rfl) _)
      have hgr : w.heap.size + 1 < g := by have := hgg; simp at this; omega
      have hHR := Aside0.mk hr1
      clear hgg hb2 hr1
      go_loopw [29] (fun i wr => ∃ n : Nat, n ≤ (pix a0).length ∧ i = .int .i64 n ∧ Aside0 (wr.heap[w.heap.size + 1]? = some (.cells (gcells (((pix a0).take n).zip (l1.take n))) 24 (0, 0))) ∧ Aside0 (wr.heap[w.heap.size]? = some (.cells #[.int .u32 0, .int .u32 0, .int .u32 0, .int .u32 0, .int .u32 0, .int .u32 0, .int .u32 0] 24 (0, 0))) ∧ Aside0 (wr.heap[g]? = some (.cells ((pix a0).map (fun i => Value.pointer (some ⟨w.heap.size + 1, i, none⟩))).toArray 46 (0, 0))) ∧ Aside0 (Below w.heap.size w wr))
        (fun i _ => (pix a0).length - (intOf i).toNat)
      case atStart => exact ⟨0, Nat.zero_le _, rfl, ⟨hR⟩, ⟨hQ⟩, ⟨hh⟩, ⟨hB⟩⟩
      case round =>
        obtain ⟨n, hn, rfl, HP, HQ, HL, HB⟩ := hrel
        by_cases hlt : n < (pix a0).length
        · obtain ⟨j, hj⟩ : ∃ j, (pix a0)[n] = j := ⟨_, rfl⟩
          obtain ⟨j7, jn⟩ := pix.good a0 n hlt
          rw [hj] at j7 jn
          have hlt1 : n < l1.length := by omega
          have hlen := pix.len a0
          have e1 : wr.cell? ⟨g, n, none⟩ = some (.pointer (some ⟨w.heap.size + 1, j, none⟩)) := (blk_cell HL.out n).trans (by simp [hlt, hj])
          have e2 : wr.cell? ⟨w.heap.size + 1, j, none⟩ = some (.int .u32 (pgat (((pix a0).take n).zip (l1.take n)) j)) := (blk_cell HP.out _).trans (gcells.at_ _ _ j7)
          have f2 := blk_frozen HP.out j
          obtain ⟨ad, eA, hx⟩ := Kd.at_int (Kd.C_below hHR.out HB.out) (n : Int) (by omega) (by omega)
          subst eA
          rw [Int.toNat_natCast] at hx
          have er : rd l1 (n : Int) = l1[n] := by
            unfold rd
            rw [Int.toNat_natCast, List.getD_eq_getElem?_getD, List.getElem?_eq_getElem hlt1]; rfl
          rw [er] at hx
          obtain ⟨v, hv⟩ : ∃ v, l1[n] = v := ⟨_, rfl⟩
          rw [hv] at hx
          have hnf : (((pix a0).take n).zip (l1.take n)).find? (fun p => p.1 == j) = none := by
            rw [List.find?_eq_none]
            intro p hp hq
            have hm := (List.of_mem_zip (a := p.1) (b := p.2) hp).1
            rw [beq_iff_eq] at hq
            rw [hq] at hm
            have := List.contains_iff_mem.2 hm
            rw [jn] at this; cases this
          go_wp2
          go_roundw
          case rel =>
            refine ⟨n + 1, by omega, by go_num, ⟨?_⟩, ⟨?_⟩, ⟨?_⟩, ⟨?_⟩⟩
            · exact blk_put HP.out j _ (by rw [List.take_succ_eq_append_getElem hlt, List.take_succ_eq_append_getElem hlt1, hj, hv, List.zip_append (by simp; omega)]; exact gcells.set _ j v j7 hnf)
            · exact blk_far (p := ⟨w.heap.size + 1, j, none⟩) HQ.out (by show w.heap.size ≠ w.heap.size + 1; omega) _
            · exact blk_far (p := ⟨w.heap.size + 1, j, none⟩) HL.out (by show g ≠ w.heap.size + 1; omega) _
            · exact below_set HB.out (by omega)
          case measure => simp [intOf]; omega
        · obtain rfl : n = (pix a0).length := by omega
          have hP := HP.out
          rw [List.take_length, hl, List.take_length] at hP
          have e0 : wr.cell? ⟨w.heap.size + 1, 0, none⟩ = some (.int .u32 (pgat ((pix a0).zip l1) 0)) := (blk_cell hP 0).trans rfl
          have e1 : wr.cell? ⟨w.heap.size + 1, 1, none⟩ = some (.int .u32 (pgat ((pix a0).zip l1) 1)) := (blk_cell hP 1).trans rfl
          have e2 : wr.cell? ⟨w.heap.size + 1, 2, none⟩ = some (.int .u32 (pgat ((pix a0).zip l1) 2)) := (blk_cell hP 2).trans rfl
          have e3 : wr.cell? ⟨w.heap.size + 1, 3, none⟩ = some (.int .u32 (pgat ((pix a0).zip l1) 3)) := (blk_cell hP 3).trans rfl
          have e4 : wr.cell? ⟨w.heap.size + 1, 4, none⟩ = some (.int .u32 (pgat ((pix a0).zip l1) 4)) := (blk_cell hP 4).trans rfl
          have e5 : wr.cell? ⟨w.heap.size + 1, 5, none⟩ = some (.int .u32 (pgat ((pix a0).zip l1) 5)) := (blk_cell hP 5).trans rfl
          have e6 : wr.cell? ⟨w.heap.size + 1, 6, none⟩ = some (.int .u32 (pgat ((pix a0).zip l1) 6)) := (blk_cell hP 6).trans rfl
          go_wp2_with ((with_reducible refine gate_store (t := 24) (p := 4) (v := .tmp 41) rfl ?_); refine plc.put rfl 24 _ _ rfl rfl w.heap.size _ 24 rfl _ rfl HQ.out rfl (by kernel_rfl) h1 ?_; intro w3 hw3 hg3)
          refine bodyPost_ret (results_ct rfl _ _ w.heap.size 24 _ (0, 0) _ rfl hw3 Try.underlying24 rfl (by kernel_rfl)) rfl ?_
          exact ⟨rfl, HB.out.grown hg3 HB.out.size (fun k hk => by cases hk; omega)⟩

end Go.Proofs.Ytpbmmompbknimaa.PPartWords
