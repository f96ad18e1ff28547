-- Written for this claim by wip/tools/myprint.py (print.py's forms; proofs of the faked functions by hand).
import Derived.Test.YtkmgfleoondblaaDoorPMsgSpoiltx1
import Derived.Test.YtkmgfleoondblaaDoorPMsgSpoiltx0
namespace Go.Proofs.YtkmgfleoondblaaDoor.PMsgSpoilt
open Go.RowKit Go.Proofs.YtkmgfleoondblaaDoorW.PrintWords Go.Proofs.YtkmgfleoondblaaDoorW.PrintLast Go.Proofs.YtkmgfleoondblaaDoorW.PrintMore
attribute [local go_sem] max2_int min2_int max_two min_two max_three min_three max_four min_four   -- for this text's walks alone
set_option linter.unusedVariables false
set_option linter.unusedSimpArgs false

-- NOT PRINTED: function 19 (msg_words)

abbrev Y : Bool := true
abbrev Z : Bool := false
abbrev vA0 : Array Value := #[.int .u32 0, .int .u32 0, .int .u32 0, .int .u32 0, .int .u32 0, .int .u32 0, .int .u32 0]
/-- What each kind has: the table, and as bits. -/
def msg.hasL : List Int := [0, 56, 64, 64, 64, 64, 92, 220, 196, 68]
def msg.hasB (k t : Int) : Bool := (([[], [3, 4, 5], [6], [6], [6], [6], [2, 3, 4, 6], [2, 3, 4, 6, 7], [2, 6, 7], [2, 6]] : List (List Int)).getD k.toNat []).contains t
/-- The table reads as it was laid. -/
def GH (w : World) : Prop := ∀ i : Nat, i < 10 → w.cell? ⟨0, i, none⟩ = some (.int .u32 (msg.hasL.getD i 0))
theorem GH.below {w W : World} (h : GH w) (hb : Below w.heap.size w W) : GH W := fun i hi => pw_cell_below hb (h i hi)
theorem msg.bits_eq : ∀ k : Nat, k < 10 → ∀ t : Nat, t < 8 → (Go.bits .and .u32 (msg.hasL[k]?.getD 0) (2 ^ t % 4294967296) != 0) = msg.hasB (k : Int) (t : Int) := by decide +kernel
/-- A struct as the one result. -/
theorem nrow.res {P : Program} {fn : Func} {p : Tmp} {ty : TypeId} (h : fn.results = #[.cell p ty]) (tmps : Array Value) (w : World) (g : Nat) (t : TypeId) (cs : Array Value) (fr : Nat × Nat) (d : TypeDesc)
    (hp : tmps.getD p undef = .pointer (some ⟨g, 0, none⟩)) (hg : w.heap[g]? = some (.cells cs t fr))
    (hu : P.underlying ty = some d) (hd : (match d with | .struct _ | .array _ _ => true | _ => false) = true) (hi : (P.info? ty).map (·.size) = some cs.size) :
    (results fn tmps).run P w = .ok (.agg cs) w := by
  have hp' : tmps[p]?.getD undef = .pointer (some ⟨g, 0, none⟩) := by simpa using hp
  simp [results, h, hp', asAddr, run_loadVar_row w g t ty cs fr d hg hu hd hi]

/-! ### msg_part: function 20 -/
def msg_part.f (a0 : Int) (a1 : Int) : Option (Bool) := if (0 ≤ a0 ∧ a0 ≤ 9) ∧ 0 ≤ a1 ∧ a1 ≤ 7 then some (msg.hasB a0 a1) else none
set_option maxHeartbeats 8000000 in
set_option maxRecDepth 100000 in
theorem msg_part.calls (a0 : Int) (a1 : Int) (r : Bool) (w : World) (hG : GH w) (h : msg_part.f a0 a1 = some r) :
  Calls Tryd.prog 20 #[.int .u32 a0, .int .i64 a1] w fun e w' => e = .returned (.bool r) ∧ Drawn0 w w' := by
 unfold msg_part.f at h
 by_cases hk : (0 ≤ a0 ∧ a0 ≤ 9) ∧ 0 ≤ a1 ∧ a1 ≤ 7
 rotate_left
 ·
  rw [if_neg hk] at h; cases h
 rw [if_pos hk] at h
 obtain rfl := Option.some.inj h
 clear h
 obtain ⟨k, rfl⟩ : ∃ k : Nat, a0 = (k : Int) := ⟨a0.toNat, by omega⟩
 have hx := hG k (by omega)
 obtain ⟨x, hxx⟩ : ∃ x, x = msg.hasL.getD k 0 := ⟨_, rfl⟩
 rw [← hxx] at hx
 have p1 : (0 ≤ (k : Int)) = True := eq_true (by omega)
 have p2 : ((k : Int) < 10) = True := eq_true (by omega)
 have p3 : (0 ≤ a1) = True := eq_true (by omega)
 go_enter Tryd.func20, Tryd.ntmps20
 go_wp2
 go_quiet (fail)
 go_wp2
 go_ret
 refine ⟨?_, nq, rfl⟩
 obtain ⟨t, rfl⟩ : ∃ t : Nat, a1 = (t : Int) := ⟨a1.toNat, by omega⟩
 rw [Int.toNat_natCast, msg.bits_eq k (by omega) t (by omega)]
 rfl

/-! ### msg_May: function 11 -/
/-- May a message be? -/
def msg.okB (k t v : Int) : Bool := msg.hasB k t || v == 0
def msg.mayB (k r a b n x m : Int) : Bool := msg.okB k 2 r && msg.okB k 3 a && msg.okB k 4 b && msg.okB k 5 n && msg.okB k 6 x && msg.okB k 7 m
def msg_May.f (a0_0 a0_1 a0_2 a0_3 a0_4 a0_5 a0_6 : Int) : Option Bool := if a0_0 < 1 then some false else if 9 < a0_0 then some false else some (msg.mayB a0_0 a0_1 a0_2 a0_3 a0_4 a0_5 a0_6)
/-- The words of a message, as pointers. -/
theorem msg_words.calls (g : Nat) (w : World) :
  Calls Tryd.prog 19 #[.pointer (some ⟨g, 0, none⟩)] w fun e w' => e = .returned (.agg #[.pointer none, .pointer (some ⟨g, 0, none⟩), .pointer (some ⟨g, 1, none⟩), .pointer (some ⟨g, 2, none⟩), .pointer (some ⟨g, 3, none⟩), .pointer (some ⟨g, 4, none⟩), .pointer (some ⟨g, 5, none⟩), .pointer (some ⟨g, 6, none⟩)]) ∧ Below w.heap.size w w' := by
 go_enter Tryd.func19, Tryd.ntmps19
 go_wp2
 obtain ⟨Wn, hWn⟩ : ∃ Wn : World, Wn = w.alloc (.cells #[.pointer none, .pointer none, .pointer none, .pointer none, .pointer none, .pointer none, .pointer none, .pointer none] 49) := ⟨_, rfl⟩
 rw [← hWn]
 have B1 : Wn.heap[w.heap.size]? = some (.cells #[.pointer none, .pointer none, .pointer none, .pointer none, .pointer none, .pointer none, .pointer none, .pointer none] 49 (0, 0)) := by rw [hWn]; exact (MapKept.heap_alloc _ _).1
 have hB : Below w.heap.size w Wn := by rw [hWn]; exact below_alloc (Below.refl _ _) _
 clear hWn
 refine start_ (n := 23) (S := fun _ => True) (ds := [22]) #[Z,Z,Z,Z,Z,Z,Z,Z,Z,Z,Z,Z,Z,Z,Z,Z,Z,Z,Z,Z,Z,Z,Z] (by kernel_rfl) rfl rfl trivial (fun hHeld => ?_)
 refine pure_ (i := 0) (N := some 3) (v := ?_) (a' := ?_) #[Y,Z,Z,Z,Z,Z,Z,Z,Z,Z,Z,Z,Z,Z,Z,Z,Z,Z,Z,Z,Z,Z,Z] rfl rfl (by kernel_rfl) (fun _ _ _ h => h) (Or.inl ⟨by rfl, ?_⟩) ?_ ?_
 rotate_left
 ·
  intro w'
  go_simp
  with_reducible rfl
 rotate_left
 ·
  simp only [Act.put, List.setIfInBounds_toArray, List.set_cons_zero, List.set_cons_succ, i64_w, i32_w]
  rfl
 refine pure_ (i := 1) (N := some 4) (v := ?_) (a' := ?_) #[Y,Y,Z,Z,Z,Z,Z,Z,Z,Z,Z,Z,Z,Z,Z,Z,Z,Z,Z,Z,Z,Z,Z] rfl rfl (by kernel_rfl) (fun _ _ _ h => h) (Or.inl ⟨by rfl, ?_⟩) ?_ ?_
 rotate_left
 ·
  intro w'
  go_simp
  with_reducible rfl
 rotate_left
 ·
  simp only [Act.put, List.setIfInBounds_toArray, List.set_cons_zero, List.set_cons_succ, i64_w, i32_w]
  rfl
 refine pure_ (i := 2) (N := some 5) (v := ?_) (a' := ?_) #[Y,Y,Y,Z,Z,Z,Z,Z,Z,Z,Z,Z,Z,Z,Z,Z,Z,Z,Z,Z,Z,Z,Z] rfl rfl (by kernel_rfl) (fun _ _ _ h => h) (Or.inl ⟨by rfl, ?_⟩) ?_ ?_
 rotate_left
 ·
  intro w'
  go_simp
  with_reducible rfl
 rotate_left
 ·
  simp only [Act.put, List.setIfInBounds_toArray, List.set_cons_zero, List.set_cons_succ, i64_w, i32_w]
  rfl
 refine pure_ (i := 3) (N := some 6) (v := ?_) (a' := ?_) #[Y,Y,Y,Y,Z,Z,Z,Z,Z,Z,Z,Z,Z,Z,Z,Z,Z,Z,Z,Z,Z,Z,Z] rfl rfl (by kernel_rfl) (fun _ _ _ h => h) (Or.inl ⟨by rfl, ?_⟩) ?_ ?_
 rotate_left
 ·
  intro w'
  go_simp
  with_reducible rfl
 rotate_left
 ·
  simp only [Act.put, List.setIfInBounds_toArray, List.set_cons_zero, List.set_cons_succ, i64_w, i32_w]
  rfl
 refine pure_ (i := 4) (N := some 7) (v := ?_) (a' := ?_) #[Y,Y,Y,Y,Y,Z,Z,Z,Z,Z,Z,Z,Z,Z,Z,Z,Z,Z,Z,Z,Z,Z,Z] rfl rfl (by kernel_rfl) (fun _ _ _ h => h) (Or.inl ⟨by rfl, ?_⟩) ?_ ?_
 rotate_left
 ·
  intro w'
  go_simp
  with_reducible rfl
 rotate_left
 ·
  simp only [Act.put, List.setIfInBounds_toArray, List.set_cons_zero, List.set_cons_succ, i64_w, i32_w]
  rfl
 refine pure_ (i := 5) (N := some 8) (v := ?_) (a' := ?_) #[Y,Y,Y,Y,Y,Y,Z,Z,Z,Z,Z,Z,Z,Z,Z,Z,Z,Z,Z,Z,Z,Z,Z] rfl rfl (by kernel_rfl) (fun _ _ _ h => h) (Or.inl ⟨by rfl, ?_⟩) ?_ ?_
 rotate_left
 ·
  intro w'
  go_simp
  with_reducible rfl
 rotate_left
 ·
  simp only [Act.put, List.setIfInBounds_toArray, List.set_cons_zero, List.set_cons_succ, i64_w, i32_w]
  rfl
 refine pure_ (i := 6) (N := some 9) (v := ?_) (a' := ?_) #[Y,Y,Y,Y,Y,Y,Y,Z,Z,Z,Z,Z,Z,Z,Z,Z,Z,Z,Z,Z,Z,Z,Z] rfl rfl (by kernel_rfl) (fun _ _ _ h => h) (Or.inl ⟨by rfl, ?_⟩) ?_ ?_
 rotate_left
 ·
  intro w'
  go_simp
  with_reducible rfl
 rotate_left
 ·
  simp only [Act.put, List.setIfInBounds_toArray, List.set_cons_zero, List.set_cons_succ, i64_w, i32_w]
  rfl
 refine pure_ (i := 7) (N := some 10) (v := ?_) (a' := ?_) #[Y,Y,Y,Y,Y,Y,Y,Y,Z,Z,Z,Z,Z,Z,Z,Z,Z,Z,Z,Z,Z,Z,Z] rfl rfl (by kernel_rfl) (fun _ _ _ h => h) (Or.inl ⟨by rfl, ?_⟩) ?_ ?_
 rotate_left
 ·
  intro w'
  go_simp
  with_reducible rfl
 rotate_left
 ·
  simp only [Act.put, List.setIfInBounds_toArray, List.set_cons_zero, List.set_cons_succ, i64_w, i32_w]
  rfl
 refine pure_ (i := 8) (N := some 11) (v := ?_) (a' := ?_) #[Y,Y,Y,Y,Y,Y,Y,Y,Y,Z,Z,Z,Z,Z,Z,Z,Z,Z,Z,Z,Z,Z,Z] rfl rfl (by kernel_rfl) (fun _ _ _ h => h) (Or.inl ⟨by rfl, ?_⟩) ?_ ?_
 rotate_left
 ·
  intro w'
  go_simp
  with_reducible rfl
 rotate_left
 ·
  simp only [Act.put, List.setIfInBounds_toArray, List.set_cons_zero, List.set_cons_succ, i64_w, i32_w]
  rfl
 refine pure_ (i := 9) (N := some 12) (v := ?_) (a' := ?_) #[Y,Y,Y,Y,Y,Y,Y,Y,Y,Y,Z,Z,Z,Z,Z,Z,Z,Z,Z,Z,Z,Z,Z] rfl rfl (by kernel_rfl) (fun _ _ _ h => h) (Or.inl ⟨by rfl, ?_⟩) ?_ ?_
 rotate_left
 ·
  intro w'
  go_simp
  with_reducible rfl
 rotate_left
 ·
  simp only [Act.put, List.setIfInBounds_toArray, List.set_cons_zero, List.set_cons_succ, i64_w, i32_w]
  rfl
 refine pure_ (i := 10) (N := some 13) (v := ?_) (a' := ?_) #[Y,Y,Y,Y,Y,Y,Y,Y,Y,Y,Y,Z,Z,Z,Z,Z,Z,Z,Z,Z,Z,Z,Z] rfl rfl (by kernel_rfl) (fun _ _ _ h => h) (Or.inl ⟨by rfl, ?_⟩) ?_ ?_
 rotate_left
 ·
  intro w'
  go_simp
  with_reducible rfl
 rotate_left
 ·
  simp only [Act.put, List.setIfInBounds_toArray, List.set_cons_zero, List.set_cons_succ, i64_w, i32_w]
  rfl
 refine pure_ (i := 11) (N := some 14) (v := ?_) (a' := ?_) #[Y,Y,Y,Y,Y,Y,Y,Y,Y,Y,Y,Y,Z,Z,Z,Z,Z,Z,Z,Z,Z,Z,Z] rfl rfl (by kernel_rfl) (fun _ _ _ h => h) (Or.inl ⟨by rfl, ?_⟩) ?_ ?_
 rotate_left
 ·
  intro w'
  go_simp
  with_reducible rfl
 rotate_left
 ·
  simp only [Act.put, List.setIfInBounds_toArray, List.set_cons_zero, List.set_cons_succ, i64_w, i32_w]
  rfl
 refine pure_ (i := 12) (N := some 15) (v := ?_) (a' := ?_) #[Y,Y,Y,Y,Y,Y,Y,Y,Y,Y,Y,Y,Y,Z,Z,Z,Z,Z,Z,Z,Z,Z,Z] rfl rfl (by kernel_rfl) (fun _ _ _ h => h) (Or.inl ⟨by rfl, ?_⟩) ?_ ?_
 rotate_left
 ·
  intro w'
  go_simp
  with_reducible rfl
 rotate_left
 ·
  simp only [Act.put, List.setIfInBounds_toArray, List.set_cons_zero, List.set_cons_succ, i64_w, i32_w]
  rfl
 refine pure_ (i := 13) (N := some 16) (v := ?_) (a' := ?_) #[Y,Y,Y,Y,Y,Y,Y,Y,Y,Y,Y,Y,Y,Y,Z,Z,Z,Z,Z,Z,Z,Z,Z] rfl rfl (by kernel_rfl) (fun _ _ _ h => h) (Or.inl ⟨by rfl, ?_⟩) ?_ ?_
 rotate_left
 ·
  intro w'
  go_simp
  with_reducible rfl
 rotate_left
 ·
  simp only [Act.put, List.setIfInBounds_toArray, List.set_cons_zero, List.set_cons_succ, i64_w, i32_w]
  rfl
 refine pure_ (i := 14) (N := some 17) (v := ?_) (a' := ?_) #[Y,Y,Y,Y,Y,Y,Y,Y,Y,Y,Y,Y,Y,Y,Y,Z,Z,Z,Z,Z,Z,Z,Z] rfl rfl (by kernel_rfl) (fun _ _ _ h => h) (Or.inl ⟨by rfl, ?_⟩) ?_ ?_
 rotate_left
 ·
  intro w'
  go_simp
  with_reducible rfl
 rotate_left
 ·
  simp only [Act.put, List.setIfInBounds_toArray, List.set_cons_zero, List.set_cons_succ, i64_w, i32_w]
  rfl
 refine pure_ (i := 15) (N := some 18) (v := ?_) (a' := ?_) #[Y,Y,Y,Y,Y,Y,Y,Y,Y,Y,Y,Y,Y,Y,Y,Y,Z,Z,Z,Z,Z,Z,Z] rfl rfl (by kernel_rfl) (fun _ _ _ h => h) (Or.inl ⟨by rfl, ?_⟩) ?_ ?_
 rotate_left
 ·
  intro w'
  go_simp
  with_reducible rfl
 rotate_left
 ·
  simp only [Act.put, List.setIfInBounds_toArray, List.set_cons_zero, List.set_cons_succ, i64_w, i32_w]
  rfl
 refine pure_ (i := 16) (N := some 19) (v := ?_) (a' := ?_) #[Y,Y,Y,Y,Y,Y,Y,Y,Y,Y,Y,Y,Y,Y,Y,Y,Y,Z,Z,Z,Z,Z,Z] rfl rfl (by kernel_rfl) (fun _ _ _ h => h) (Or.inl ⟨by rfl, ?_⟩) ?_ ?_
 rotate_left
 ·
  intro w'
  go_simp
  with_reducible rfl
 rotate_left
 ·
  simp only [Act.put, List.setIfInBounds_toArray, List.set_cons_zero, List.set_cons_succ, i64_w, i32_w]
  rfl
 refine pure_ (i := 17) (N := some 20) (v := ?_) (a' := ?_) #[Y,Y,Y,Y,Y,Y,Y,Y,Y,Y,Y,Y,Y,Y,Y,Y,Y,Y,Z,Z,Z,Z,Z] rfl rfl (by kernel_rfl) (fun _ _ _ h => h) (Or.inl ⟨by rfl, ?_⟩) ?_ ?_
 rotate_left
 ·
  intro w'
  go_simp
  with_reducible rfl
 rotate_left
 ·
  simp only [Act.put, List.setIfInBounds_toArray, List.set_cons_zero, List.set_cons_succ, i64_w, i32_w]
  rfl
 refine pure_ (i := 18) (N := some 21) (v := ?_) (a' := ?_) #[Y,Y,Y,Y,Y,Y,Y,Y,Y,Y,Y,Y,Y,Y,Y,Y,Y,Y,Y,Z,Z,Z,Z] rfl rfl (by kernel_rfl) (fun _ _ _ h => h) (Or.inl ⟨by rfl, ?_⟩) ?_ ?_
 rotate_left
 ·
  intro w'
  go_simp
  with_reducible rfl
 rotate_left
 ·
  simp only [Act.put, List.setIfInBounds_toArray, List.set_cons_zero, List.set_cons_succ, i64_w, i32_w]
  rfl
 refine pure_ (i := 19) (N := some 22) (v := ?_) (a' := ?_) #[Y,Y,Y,Y,Y,Y,Y,Y,Y,Y,Y,Y,Y,Y,Y,Y,Y,Y,Y,Y,Z,Z,Z] rfl rfl (by kernel_rfl) (fun _ _ _ h => h) (Or.inl ⟨by rfl, ?_⟩) ?_ ?_
 rotate_left
 ·
  intro w'
  go_simp
  with_reducible rfl
 rotate_left
 ·
  simp only [Act.put, List.setIfInBounds_toArray, List.set_cons_zero, List.set_cons_succ, i64_w, i32_w]
  rfl
 refine pure_ (i := 20) (N := some 23) (v := ?_) (a' := ?_) #[Y,Y,Y,Y,Y,Y,Y,Y,Y,Y,Y,Y,Y,Y,Y,Y,Y,Y,Y,Y,Y,Z,Z] rfl rfl (by kernel_rfl) (fun _ _ _ h => h) (Or.inl ⟨by rfl, ?_⟩) ?_ ?_
 rotate_left
 ·
  intro w'
  go_simp
  with_reducible rfl
 rotate_left
 ·
  simp only [Act.put, List.setIfInBounds_toArray, List.set_cons_zero, List.set_cons_succ, i64_w, i32_w]
  rfl
 refine pure_ (i := 21) (N := some 24) (v := ?_) (a' := ?_) #[Y,Y,Y,Y,Y,Y,Y,Y,Y,Y,Y,Y,Y,Y,Y,Y,Y,Y,Y,Y,Y,Y,Z] rfl rfl (by kernel_rfl) (fun _ _ _ h => h) (Or.inl ⟨by rfl, ?_⟩) ?_ ?_
 rotate_left
 ·
  intro w'
  go_simp
  with_reducible rfl
 rotate_left
 ·
  simp only [Act.put, List.setIfInBounds_toArray, List.set_cons_zero, List.set_cons_succ, i64_w, i32_w]
  rfl
 refine last_ (i := 22) (N := none) #[Y,Y,Y,Y,Y,Y,Y,Y,Y,Y,Y,Y,Y,Y,Y,Y,Y,Y,Y,Y,Y,Y,Y] rfl rfl (by kernel_rfl) (by decide) (fun K hK => ?_)
 obtain ⟨Wd, hWd⟩ : ∃ Wd : World, Wd = Wn.drew := ⟨_, rfl⟩
 have hBd : Below Wn.heap.size Wn Wd := by rw [hWd]; exact below_drew (Below.refl _ _)
 rw [← hWd]
 clear hWd
 have C1 := blk_below B1 hBd
 have hB2 : Below w.heap.size w Wd := hB.trans (hBd.mono hB.size)
 clear B1 hBd hB
 have q0 : Wd.cell? ⟨w.heap.size, 0, none⟩ = some (.pointer none) := (blk_cell C1 0).trans rfl
 have z0 := blk_frozen C1 0
 have q1 : Wd.cell? ⟨w.heap.size, 1, none⟩ = some (.pointer none) := (blk_cell C1 1).trans rfl
 have z1 := blk_frozen C1 1
 have q2 : Wd.cell? ⟨w.heap.size, 2, none⟩ = some (.pointer none) := (blk_cell C1 2).trans rfl
 have z2 := blk_frozen C1 2
 have q3 : Wd.cell? ⟨w.heap.size, 3, none⟩ = some (.pointer none) := (blk_cell C1 3).trans rfl
 have z3 := blk_frozen C1 3
 have q4 : Wd.cell? ⟨w.heap.size, 4, none⟩ = some (.pointer none) := (blk_cell C1 4).trans rfl
 have z4 := blk_frozen C1 4
 have q5 : Wd.cell? ⟨w.heap.size, 5, none⟩ = some (.pointer none) := (blk_cell C1 5).trans rfl
 have z5 := blk_frozen C1 5
 have q6 : Wd.cell? ⟨w.heap.size, 6, none⟩ = some (.pointer none) := (blk_cell C1 6).trans rfl
 have z6 := blk_frozen C1 6
 have q7 : Wd.cell? ⟨w.heap.size, 7, none⟩ = some (.pointer none) := (blk_cell C1 7).trans rfl
 have z7 := blk_frozen C1 7
 refine skip_ (w1 := ?_) (by rfl) rfl ?_ ?_
 rotate_left
 ·
  go_simp
  rfl
 refine hK.out _ _ ?_
 clear hK K
 refine done_ (by kernel_rfl) ?_
 go_wp2
 refine bodyPost_ret (nrow.res rfl _ _ w.heap.size 49 #[.pointer none, .pointer (some ⟨g, 0, none⟩), .pointer (some ⟨g, 1, none⟩), .pointer (some ⟨g, 2, none⟩), .pointer (some ⟨g, 3, none⟩), .pointer (some ⟨g, 4, none⟩), .pointer (some ⟨g, 5, none⟩), .pointer (some ⟨g, 6, none⟩)] (0, 0) _ rfl (by refine blk_put (cs := #[.pointer none, .pointer (some ⟨g, 0, none⟩), .pointer (some ⟨g, 1, none⟩), .pointer (some ⟨g, 2, none⟩), .pointer (some ⟨g, 3, none⟩), .pointer (some ⟨g, 4, none⟩), .pointer (some ⟨g, 5, none⟩), .pointer none]) ?_ 7 _ rfl; refine blk_put (cs := #[.pointer none, .pointer (some ⟨g, 0, none⟩), .pointer (some ⟨g, 1, none⟩), .pointer (some ⟨g, 2, none⟩), .pointer (some ⟨g, 3, none⟩), .pointer (some ⟨g, 4, none⟩), .pointer none, .pointer none]) ?_ 6 _ rfl; refine blk_put (cs := #[.pointer none, .pointer (some ⟨g, 0, none⟩), .pointer (some ⟨g, 1, none⟩), .pointer (some ⟨g, 2, none⟩), .pointer (some ⟨g, 3, none⟩), .pointer none, .pointer none, .pointer none]) ?_ 5 _ rfl; refine blk_put (cs := #[.pointer none, .pointer (some ⟨g, 0, none⟩), .pointer (some ⟨g, 1, none⟩), .pointer (some ⟨g, 2, none⟩), .pointer none, .pointer none, .pointer none, .pointer none]) ?_ 4 _ rfl; refine blk_put (cs := #[.pointer none, .pointer (some ⟨g, 0, none⟩), .pointer (some ⟨g, 1, none⟩), .pointer none, .pointer none, .pointer none, .pointer none, .pointer none]) ?_ 3 _ rfl; refine blk_put (cs := #[.pointer none, .pointer (some ⟨g, 0, none⟩), .pointer none, .pointer none, .pointer none, .pointer none, .pointer none, .pointer none]) ?_ 2 _ rfl; refine blk_put (cs := #[.pointer none, .pointer none, .pointer none, .pointer none, .pointer none, .pointer none, .pointer none, .pointer none]) ?_ 1 _ rfl; exact blk_put C1 0 _ rfl) Tryd.underlying49 rfl (by kernel_rfl)) rfl ?_
 exact ⟨rfl, (below_set (below_set (below_set (below_set (below_set (below_set (below_set (below_set hB2 (Nat.le_refl _)) (Nat.le_refl _)) (Nat.le_refl _)) (Nat.le_refl _)) (Nat.le_refl _)) (Nat.le_refl _)) (Nat.le_refl _)) (Nat.le_refl _))⟩
theorem msg.idx0 (g : Nat) : ∀ W : World, (Instr.index 49 (.agg #[.pointer none, .pointer (some ⟨g, 0, none⟩), .pointer (some ⟨g, 1, none⟩), .pointer (some ⟨g, 2, none⟩), .pointer (some ⟨g, 3, none⟩), .pointer (some ⟨g, 4, none⟩), .pointer (some ⟨g, 5, none⟩), .pointer (some ⟨g, 6, none⟩)]) (.int .i64 0)).run Tryd.prog W = .ok (.pointer none) W := fun W => by kernel_rfl
theorem msg.idx1 (g : Nat) : ∀ W : World, (Instr.index 49 (.agg #[.pointer none, .pointer (some ⟨g, 0, none⟩), .pointer (some ⟨g, 1, none⟩), .pointer (some ⟨g, 2, none⟩), .pointer (some ⟨g, 3, none⟩), .pointer (some ⟨g, 4, none⟩), .pointer (some ⟨g, 5, none⟩), .pointer (some ⟨g, 6, none⟩)]) (.int .i64 1)).run Tryd.prog W = .ok (.pointer (some ⟨g, 0, none⟩)) W := fun W => by kernel_rfl
theorem msg.idx2 (g : Nat) : ∀ W : World, (Instr.index 49 (.agg #[.pointer none, .pointer (some ⟨g, 0, none⟩), .pointer (some ⟨g, 1, none⟩), .pointer (some ⟨g, 2, none⟩), .pointer (some ⟨g, 3, none⟩), .pointer (some ⟨g, 4, none⟩), .pointer (some ⟨g, 5, none⟩), .pointer (some ⟨g, 6, none⟩)]) (.int .i64 2)).run Tryd.prog W = .ok (.pointer (some ⟨g, 1, none⟩)) W := fun W => by kernel_rfl
theorem msg.idx3 (g : Nat) : ∀ W : World, (Instr.index 49 (.agg #[.pointer none, .pointer (some ⟨g, 0, none⟩), .pointer (some ⟨g, 1, none⟩), .pointer (some ⟨g, 2, none⟩), .pointer (some ⟨g, 3, none⟩), .pointer (some ⟨g, 4, none⟩), .pointer (some ⟨g, 5, none⟩), .pointer (some ⟨g, 6, none⟩)]) (.int .i64 3)).run Tryd.prog W = .ok (.pointer (some ⟨g, 2, none⟩)) W := fun W => by kernel_rfl
theorem msg.idx4 (g : Nat) : ∀ W : World, (Instr.index 49 (.agg #[.pointer none, .pointer (some ⟨g, 0, none⟩), .pointer (some ⟨g, 1, none⟩), .pointer (some ⟨g, 2, none⟩), .pointer (some ⟨g, 3, none⟩), .pointer (some ⟨g, 4, none⟩), .pointer (some ⟨g, 5, none⟩), .pointer (some ⟨g, 6, none⟩)]) (.int .i64 4)).run Tryd.prog W = .ok (.pointer (some ⟨g, 3, none⟩)) W := fun W => by kernel_rfl
theorem msg.idx5 (g : Nat) : ∀ W : World, (Instr.index 49 (.agg #[.pointer none, .pointer (some ⟨g, 0, none⟩), .pointer (some ⟨g, 1, none⟩), .pointer (some ⟨g, 2, none⟩), .pointer (some ⟨g, 3, none⟩), .pointer (some ⟨g, 4, none⟩), .pointer (some ⟨g, 5, none⟩), .pointer (some ⟨g, 6, none⟩)]) (.int .i64 5)).run Tryd.prog W = .ok (.pointer (some ⟨g, 4, none⟩)) W := fun W => by kernel_rfl
theorem msg.idx6 (g : Nat) : ∀ W : World, (Instr.index 49 (.agg #[.pointer none, .pointer (some ⟨g, 0, none⟩), .pointer (some ⟨g, 1, none⟩), .pointer (some ⟨g, 2, none⟩), .pointer (some ⟨g, 3, none⟩), .pointer (some ⟨g, 4, none⟩), .pointer (some ⟨g, 5, none⟩), .pointer (some ⟨g, 6, none⟩)]) (.int .i64 6)).run Tryd.prog W = .ok (.pointer (some ⟨g, 5, none⟩)) W := fun W => by kernel_rfl
theorem msg.idx7 (g : Nat) : ∀ W : World, (Instr.index 49 (.agg #[.pointer none, .pointer (some ⟨g, 0, none⟩), .pointer (some ⟨g, 1, none⟩), .pointer (some ⟨g, 2, none⟩), .pointer (some ⟨g, 3, none⟩), .pointer (some ⟨g, 4, none⟩), .pointer (some ⟨g, 5, none⟩), .pointer (some ⟨g, 6, none⟩)]) (.int .i64 7)).run Tryd.prog W = .ok (.pointer (some ⟨g, 6, none⟩)) W := fun W => by kernel_rfl
set_option maxHeartbeats 8000000 in
set_option maxRecDepth 100000 in
theorem msg_May.calls (a0_0 : Int) (a0_1 : Int) (a0_2 : Int) (a0_3 : Int) (a0_4 : Int) (a0_5 : Int) (a0_6 : Int) (r : Bool) (w : World) (hG : GH w) (h : msg_May.f a0_0 a0_1 a0_2 a0_3 a0_4 a0_5 a0_6 = some r) :
  Calls Tryd.prog 11 #[.agg #[.int .u32 a0_0, .int .u32 a0_1, .int .u32 a0_2, .int .u32 a0_3, .int .u32 a0_4, .int .u32 a0_5, .int .u32 a0_6]] w fun e w' => e = .returned (.bool r) ∧ Below w.heap.size w w' := by
 unfold msg_May.f at h
 by_cases c1 : a0_0 < 1
 ·
  rw [if_pos c1] at h
  obtain rfl := Option.some.inj h
  have b1 : decide (a0_0 < 1) = true := decide_eq_true c1
  clear h
  go_enter Tryd.func11, Tryd.ntmps11
  go_wp2_with (first | ((with_reducible refine gate_dst (N := 1) rfl ?_); refine box_event ?hg (N := 1) ?hd (cs := #[.int .u32 a0_0, .int .u32 a0_1, .int .u32 a0_2, .int .u32 a0_3, .int .u32 a0_4, .int .u32 a0_5, .int .u32 a0_6]) (t := 24) ?hr ?_; (case hd => rfl); (case hg => rfl); (case hr => first | (go_simp; done) | (go_simp; rfl)); intro gm hgm W0 BK HB; clear hgm; have k0_ : W0.cell? ⟨gm, 0, none⟩ = some (.int .u32 a0_0) := (blk_cell BK 0).trans rfl; have z0_ := blk_frozen BK 0; have k1_ : W0.cell? ⟨gm, 1, none⟩ = some (.int .u32 a0_1) := (blk_cell BK 1).trans rfl; have z1_ := blk_frozen BK 1; have k2_ : W0.cell? ⟨gm, 2, none⟩ = some (.int .u32 a0_2) := (blk_cell BK 2).trans rfl; have z2_ := blk_frozen BK 2; have k3_ : W0.cell? ⟨gm, 3, none⟩ = some (.int .u32 a0_3) := (blk_cell BK 3).trans rfl; have z3_ := blk_frozen BK 3; have k4_ : W0.cell? ⟨gm, 4, none⟩ = some (.int .u32 a0_4) := (blk_cell BK 4).trans rfl; have z4_ := blk_frozen BK 4; have k5_ : W0.cell? ⟨gm, 5, none⟩ = some (.int .u32 a0_5) := (blk_cell BK 5).trans rfl; have z5_ := blk_frozen BK 5; have k6_ : W0.cell? ⟨gm, 6, none⟩ = some (.int .u32 a0_6) := (blk_cell BK 6).trans rfl; have z6_ := blk_frozen BK 6))
  go_ret
  exact ⟨rfl, HB⟩
 rw [if_neg c1] at h
 have b1 : decide (a0_0 < 1) = false := decide_eq_false c1
 by_cases c2 : 9 < a0_0
 ·
  rw [if_pos c2] at h
  obtain rfl := Option.some.inj h
  have b2 : decide (9 < a0_0) = true := decide_eq_true c2
  have b3 : decide (a0_0 > 9) = true := decide_eq_true c2
  clear h
  go_enter Tryd.func11, Tryd.ntmps11
  go_wp2_with (first | ((with_reducible refine gate_dst (N := 1) rfl ?_); refine box_event ?hg (N := 1) ?hd (cs := #[.int .u32 a0_0, .int .u32 a0_1, .int .u32 a0_2, .int .u32 a0_3, .int .u32 a0_4, .int .u32 a0_5, .int .u32 a0_6]) (t := 24) ?hr ?_; (case hd => rfl); (case hg => rfl); (case hr => first | (go_simp; done) | (go_simp; rfl)); intro gm hgm W0 BK HB; clear hgm; have k0_ : W0.cell? ⟨gm, 0, none⟩ = some (.int .u32 a0_0) := (blk_cell BK 0).trans rfl; have z0_ := blk_frozen BK 0; have k1_ : W0.cell? ⟨gm, 1, none⟩ = some (.int .u32 a0_1) := (blk_cell BK 1).trans rfl; have z1_ := blk_frozen BK 1; have k2_ : W0.cell? ⟨gm, 2, none⟩ = some (.int .u32 a0_2) := (blk_cell BK 2).trans rfl; have z2_ := blk_frozen BK 2; have k3_ : W0.cell? ⟨gm, 3, none⟩ = some (.int .u32 a0_3) := (blk_cell BK 3).trans rfl; have z3_ := blk_frozen BK 3; have k4_ : W0.cell? ⟨gm, 4, none⟩ = some (.int .u32 a0_4) := (blk_cell BK 4).trans rfl; have z4_ := blk_frozen BK 4; have k5_ : W0.cell? ⟨gm, 5, none⟩ = some (.int .u32 a0_5) := (blk_cell BK 5).trans rfl; have z5_ := blk_frozen BK 5; have k6_ : W0.cell? ⟨gm, 6, none⟩ = some (.int .u32 a0_6) := (blk_cell BK 6).trans rfl; have z6_ := blk_frozen BK 6))
  go_ret
  exact ⟨rfl, HB⟩
 rw [if_neg c2] at h
 have b2 : decide (9 < a0_0) = false := decide_eq_false c2
 have b3 : decide (a0_0 > 9) = false := decide_eq_false c2
 obtain rfl := Option.some.inj h
 clear h
 have hk : 0 ≤ a0_0 ∧ a0_0 ≤ 9 := by omega
 go_enter Tryd.func11, Tryd.ntmps11
 go_wp2_with (first | ((with_reducible refine gate_dst (N := 1) rfl ?_); refine box_event ?hg (N := 1) ?hd (cs := #[.int .u32 a0_0, .int .u32 a0_1, .int .u32 a0_2, .int .u32 a0_3, .int .u32 a0_4, .int .u32 a0_5, .int .u32 a0_6]) (t := 24) ?hr ?_; (case hd => rfl); (case hg => rfl); (case hr => first | (go_simp; done) | (go_simp; rfl)); intro gm hgm W0 BK HB; clear hgm; have k0_ : W0.cell? ⟨gm, 0, none⟩ = some (.int .u32 a0_0) := (blk_cell BK 0).trans rfl; have z0_ := blk_frozen BK 0; have k1_ : W0.cell? ⟨gm, 1, none⟩ = some (.int .u32 a0_1) := (blk_cell BK 1).trans rfl; have z1_ := blk_frozen BK 1; have k2_ : W0.cell? ⟨gm, 2, none⟩ = some (.int .u32 a0_2) := (blk_cell BK 2).trans rfl; have z2_ := blk_frozen BK 2; have k3_ : W0.cell? ⟨gm, 3, none⟩ = some (.int .u32 a0_3) := (blk_cell BK 3).trans rfl; have z3_ := blk_frozen BK 3; have k4_ : W0.cell? ⟨gm, 4, none⟩ = some (.int .u32 a0_4) := (blk_cell BK 4).trans rfl; have z4_ := blk_frozen BK 4; have k5_ : W0.cell? ⟨gm, 5, none⟩ = some (.int .u32 a0_5) := (blk_cell BK 5).trans rfl; have z5_ := blk_frozen BK 5; have k6_ : W0.cell? ⟨gm, 6, none⟩ = some (.int .u32 a0_6) := (blk_cell BK 6).trans rfl; have z6_ := blk_frozen BK 6) | (go_at_call 19; (with_reducible refine (msg_words.calls gm _).mono ?_); rintro e W1 ⟨rfl, hb_⟩; replace BK := blk_below BK hb_; replace HB := HB.trans (hb_.mono HB.size); clear hb_; (try clear k0_); (try clear z0_); (try clear k1_); (try clear z1_); (try clear k2_); (try clear z2_); (try clear k3_); (try clear z3_); (try clear k4_); (try clear z4_); (try clear k5_); (try clear z5_); (try clear k6_); (try clear z6_); have k0_ : W1.cell? ⟨gm, 0, none⟩ = some (.int .u32 a0_0) := (blk_cell BK 0).trans rfl; have z0_ := blk_frozen BK 0; have k1_ : W1.cell? ⟨gm, 1, none⟩ = some (.int .u32 a0_1) := (blk_cell BK 1).trans rfl; have z1_ := blk_frozen BK 1; have k2_ : W1.cell? ⟨gm, 2, none⟩ = some (.int .u32 a0_2) := (blk_cell BK 2).trans rfl; have z2_ := blk_frozen BK 2; have k3_ : W1.cell? ⟨gm, 3, none⟩ = some (.int .u32 a0_3) := (blk_cell BK 3).trans rfl; have z3_ := blk_frozen BK 3; have k4_ : W1.cell? ⟨gm, 4, none⟩ = some (.int .u32 a0_4) := (blk_cell BK 4).trans rfl; have z4_ := blk_frozen BK 4; have k5_ : W1.cell? ⟨gm, 5, none⟩ = some (.int .u32 a0_5) := (blk_cell BK 5).trans rfl; have z5_ := blk_frozen BK 5; have k6_ : W1.cell? ⟨gm, 6, none⟩ = some (.int .u32 a0_6) := (blk_cell BK 6).trans rfl; have z6_ := blk_frozen BK 6))
 clear b1 b2 b3 c1 c2
 (try clear k0_); (try clear z0_); (try clear k1_); (try clear z1_); (try clear k2_); (try clear z2_); (try clear k3_); (try clear z3_); (try clear k4_); (try clear z4_); (try clear k5_); (try clear z5_); (try clear k6_); (try clear z6_)
 go_loopg [14] 9 (fun kq v14 w' => ∃ (i : Nat), v14 = .int .i64 (i : Int) ∧ Aside0 (i + kq = 9) ∧ Aside0 (i ≤ 8) ∧ Aside0 (∀ t : Nat, 2 ≤ t → t < i → msg.okB a0_0 (t : Int) (([0, 0, a0_1, a0_2, a0_3, a0_4, a0_5, a0_6] : List Int).getD t 0) = true) ∧ Aside0 (w'.heap[gm]? = some (.cells #[.int .u32 a0_0, .int .u32 a0_1, .int .u32 a0_2, .int .u32 a0_3, .int .u32 a0_4, .int .u32 a0_5, .int .u32 a0_6] 24 (0, 0))) ∧ Aside0 (Below w.heap.size w w'))
 case atStart => exact ⟨0, rfl, ⟨Nat.zero_add _⟩, ⟨Nat.zero_le _⟩, ⟨fun t h1 h2 => by omega⟩, ⟨BK⟩, ⟨HB⟩⟩
 case round =>
  clear BK HB
  obtain ⟨i, rfl, HA, HL, HO, HBK, HHB⟩ := hrel
  have BK := HBK.out
  have HB := HHB.out
  clear HBK HHB
  cases gk with
  | zero => have := HA.out; have := HL.out; omega
  | succ k2 =>
   have hi := HL.out
   have A1 : i + 1 + k2 = 9 := by have := HA.out; omega
   have k0_ : wr.cell? ⟨gm, 0, none⟩ = some (.int .u32 a0_0) := (blk_cell BK 0).trans rfl; have z0_ := blk_frozen BK 0; have k1_ : wr.cell? ⟨gm, 1, none⟩ = some (.int .u32 a0_1) := (blk_cell BK 1).trans rfl; have z1_ := blk_frozen BK 1; have k2_ : wr.cell? ⟨gm, 2, none⟩ = some (.int .u32 a0_2) := (blk_cell BK 2).trans rfl; have z2_ := blk_frozen BK 2; have k3_ : wr.cell? ⟨gm, 3, none⟩ = some (.int .u32 a0_3) := (blk_cell BK 3).trans rfl; have z3_ := blk_frozen BK 3; have k4_ : wr.cell? ⟨gm, 4, none⟩ = some (.int .u32 a0_4) := (blk_cell BK 4).trans rfl; have z4_ := blk_frozen BK 4; have k5_ : wr.cell? ⟨gm, 5, none⟩ = some (.int .u32 a0_5) := (blk_cell BK 5).trans rfl; have z5_ := blk_frozen BK 5; have k6_ : wr.cell? ⟨gm, 6, none⟩ = some (.int .u32 a0_6) := (blk_cell BK 6).trans rfl; have z6_ := blk_frozen BK 6
   rcases Nat.lt_or_ge i 8 with c | c
   rotate_left
   ·
    obtain rfl : i = 8 := by omega
    have hall : msg.mayB a0_0 a0_1 a0_2 a0_3 a0_4 a0_5 a0_6 = true := by
     unfold msg.mayB
     rw [show msg.okB a0_0 2 a0_1 = true from HO.out 2 (by omega) (by omega), show msg.okB a0_0 3 a0_2 = true from HO.out 3 (by omega) (by omega), show msg.okB a0_0 4 a0_3 = true from HO.out 4 (by omega) (by omega), show msg.okB a0_0 5 a0_4 = true from HO.out 5 (by omega) (by omega), show msg.okB a0_0 6 a0_5 = true from HO.out 6 (by omega) (by omega), show msg.okB a0_0 7 a0_6 = true from HO.out 7 (by omega) (by omega)]
     rfl
    clear HO HA HL A1 hi c
    go_wp2
    go_ret
    exact ⟨by rw [hall]; rfl, HB⟩
   have hcase : i = 0 ∨ i = 1 ∨ i = 2 ∨ i = 3 ∨ i = 4 ∨ i = 5 ∨ i = 6 ∨ i = 7 := by omega
   rcases hcase with rfl | rfl | rfl | rfl | rfl | rfl | rfl | rfl
   ·
    have hI := msg.idx0 gm
    clear hi c
    go_wp2
    go_roundg k2
    case measure => exact Nat.lt_succ_self _
    case rel => exact ⟨1, (by first | rfl | (simp; done)), ⟨by omega⟩, ⟨by omega⟩, ⟨fun t h1 h2 => by omega⟩, ⟨BK⟩, ⟨HB⟩⟩
   ·
    have hI := msg.idx1 gm
    clear hi c
    go_wp2
    go_roundg k2
    case measure => exact Nat.lt_succ_self _
    case rel => exact ⟨2, (by first | rfl | (simp; done)), ⟨by omega⟩, ⟨by omega⟩, ⟨fun t h1 h2 => by omega⟩, ⟨BK⟩, ⟨HB⟩⟩
   ·
    have hI := msg.idx2 gm
    have hO := HO.out
    clear hi c HO
    obtain ⟨b, hb⟩ : ∃ b, b = msg.hasB a0_0 2 := ⟨_, rfl⟩
    have AP := Aside0.mk (show msg_part.f a0_0 2 = some b by unfold msg_part.f; rw [if_pos ⟨hk, by decide⟩, hb])
    cases b with
    | true =>
     have hok_ : msg.okB a0_0 ((2 : Nat) : Int) (([0, 0, a0_1, a0_2, a0_3, a0_4, a0_5, a0_6] : List Int).getD 2 0) = true := by unfold msg.okB; rw [show msg.hasB a0_0 ((2 : Nat) : Int) = true from hb.symm]; rfl
     clear hb
     go_wp2_with (first | (go_at_call 20; (with_reducible refine (msg_part.calls a0_0 2 true _ (hG.below HB) AP.out).mono ?_); rintro e w9 ⟨rfl, hd_⟩; have hb_ := hd_.below; replace BK := blk_below BK hb_; replace HB := HB.trans (hb_.mono HB.size); clear hb_ hd_; (try clear k0_); (try clear z0_); (try clear k1_); (try clear z1_); (try clear k2_); (try clear z2_); (try clear k3_); (try clear z3_); (try clear k4_); (try clear z4_); (try clear k5_); (try clear z5_); (try clear k6_); (try clear z6_); have k0_ : w9.cell? ⟨gm, 0, none⟩ = some (.int .u32 a0_0) := (blk_cell BK 0).trans rfl; have z0_ := blk_frozen BK 0; have k1_ : w9.cell? ⟨gm, 1, none⟩ = some (.int .u32 a0_1) := (blk_cell BK 1).trans rfl; have z1_ := blk_frozen BK 1; have k2_ : w9.cell? ⟨gm, 2, none⟩ = some (.int .u32 a0_2) := (blk_cell BK 2).trans rfl; have z2_ := blk_frozen BK 2; have k3_ : w9.cell? ⟨gm, 3, none⟩ = some (.int .u32 a0_3) := (blk_cell BK 3).trans rfl; have z3_ := blk_frozen BK 3; have k4_ : w9.cell? ⟨gm, 4, none⟩ = some (.int .u32 a0_4) := (blk_cell BK 4).trans rfl; have z4_ := blk_frozen BK 4; have k5_ : w9.cell? ⟨gm, 5, none⟩ = some (.int .u32 a0_5) := (blk_cell BK 5).trans rfl; have z5_ := blk_frozen BK 5; have k6_ : w9.cell? ⟨gm, 6, none⟩ = some (.int .u32 a0_6) := (blk_cell BK 6).trans rfl; have z6_ := blk_frozen BK 6))
     go_roundg k2
     case measure => exact Nat.lt_succ_self _
     case rel => exact ⟨3, (by first | rfl | (simp; done)), ⟨by omega⟩, ⟨by omega⟩, ⟨fun t_ h1 h2 => by rcases Nat.lt_or_ge t_ 2 with q | q; (exact hO t_ h1 q); (obtain rfl : t_ = 2 := by omega); exact hok_⟩, ⟨BK⟩, ⟨HB⟩⟩
    | false =>
     by_cases hz : a0_1 = 0
     ·
      have hok_ : msg.okB a0_0 ((2 : Nat) : Int) (([0, 0, a0_1, a0_2, a0_3, a0_4, a0_5, a0_6] : List Int).getD 2 0) = true := by unfold msg.okB; rw [show (([0, 0, a0_1, a0_2, a0_3, a0_4, a0_5, a0_6] : List Int).getD 2 0) = a0_1 from rfl, hz]; simp
      have e1 : (a0_1 != 0) = false := bne_eq_false_iff_eq.mpr hz
      have e2 : (a0_1 == 0) = true := beq_iff_eq.mpr hz
      clear hb hz
      go_wp2_with (first | (go_at_call 20; (with_reducible refine (msg_part.calls a0_0 2 false _ (hG.below HB) AP.out).mono ?_); rintro e w9 ⟨rfl, hd_⟩; have hb_ := hd_.below; replace BK := blk_below BK hb_; replace HB := HB.trans (hb_.mono HB.size); clear hb_ hd_; (try clear k0_); (try clear z0_); (try clear k1_); (try clear z1_); (try clear k2_); (try clear z2_); (try clear k3_); (try clear z3_); (try clear k4_); (try clear z4_); (try clear k5_); (try clear z5_); (try clear k6_); (try clear z6_); have k0_ : w9.cell? ⟨gm, 0, none⟩ = some (.int .u32 a0_0) := (blk_cell BK 0).trans rfl; have z0_ := blk_frozen BK 0; have k1_ : w9.cell? ⟨gm, 1, none⟩ = some (.int .u32 a0_1) := (blk_cell BK 1).trans rfl; have z1_ := blk_frozen BK 1; have k2_ : w9.cell? ⟨gm, 2, none⟩ = some (.int .u32 a0_2) := (blk_cell BK 2).trans rfl; have z2_ := blk_frozen BK 2; have k3_ : w9.cell? ⟨gm, 3, none⟩ = some (.int .u32 a0_3) := (blk_cell BK 3).trans rfl; have z3_ := blk_frozen BK 3; have k4_ : w9.cell? ⟨gm, 4, none⟩ = some (.int .u32 a0_4) := (blk_cell BK 4).trans rfl; have z4_ := blk_frozen BK 4; have k5_ : w9.cell? ⟨gm, 5, none⟩ = some (.int .u32 a0_5) := (blk_cell BK 5).trans rfl; have z5_ := blk_frozen BK 5; have k6_ : w9.cell? ⟨gm, 6, none⟩ = some (.int .u32 a0_6) := (blk_cell BK 6).trans rfl; have z6_ := blk_frozen BK 6))
      go_roundg k2
      case measure => exact Nat.lt_succ_self _
      case rel => exact ⟨3, (by first | rfl | (simp; done)), ⟨by omega⟩, ⟨by omega⟩, ⟨fun t_ h1 h2 => by rcases Nat.lt_or_ge t_ 2 with q | q; (exact hO t_ h1 q); (obtain rfl : t_ = 2 := by omega); exact hok_⟩, ⟨BK⟩, ⟨HB⟩⟩
     ·
      have hno : msg.mayB a0_0 a0_1 a0_2 a0_3 a0_4 a0_5 a0_6 = false := by
       have : msg.okB a0_0 2 a0_1 = false := by unfold msg.okB; rw [← hb]; simpa using hz
       unfold msg.mayB
       rw [this]
       simp
      have e1 : (a0_1 != 0) = true := bne_iff_ne.mpr hz
      have e2 : (a0_1 == 0) = false := beq_eq_false_iff_ne.mpr hz
      clear hb hz hO
      go_wp2_with (first | (go_at_call 20; (with_reducible refine (msg_part.calls a0_0 2 false _ (hG.below HB) AP.out).mono ?_); rintro e w9 ⟨rfl, hd_⟩; have hb_ := hd_.below; replace BK := blk_below BK hb_; replace HB := HB.trans (hb_.mono HB.size); clear hb_ hd_; (try clear k0_); (try clear z0_); (try clear k1_); (try clear z1_); (try clear k2_); (try clear z2_); (try clear k3_); (try clear z3_); (try clear k4_); (try clear z4_); (try clear k5_); (try clear z5_); (try clear k6_); (try clear z6_); have k0_ : w9.cell? ⟨gm, 0, none⟩ = some (.int .u32 a0_0) := (blk_cell BK 0).trans rfl; have z0_ := blk_frozen BK 0; have k1_ : w9.cell? ⟨gm, 1, none⟩ = some (.int .u32 a0_1) := (blk_cell BK 1).trans rfl; have z1_ := blk_frozen BK 1; have k2_ : w9.cell? ⟨gm, 2, none⟩ = some (.int .u32 a0_2) := (blk_cell BK 2).trans rfl; have z2_ := blk_frozen BK 2; have k3_ : w9.cell? ⟨gm, 3, none⟩ = some (.int .u32 a0_3) := (blk_cell BK 3).trans rfl; have z3_ := blk_frozen BK 3; have k4_ : w9.cell? ⟨gm, 4, none⟩ = some (.int .u32 a0_4) := (blk_cell BK 4).trans rfl; have z4_ := blk_frozen BK 4; have k5_ : w9.cell? ⟨gm, 5, none⟩ = some (.int .u32 a0_5) := (blk_cell BK 5).trans rfl; have z5_ := blk_frozen BK 5; have k6_ : w9.cell? ⟨gm, 6, none⟩ = some (.int .u32 a0_6) := (blk_cell BK 6).trans rfl; have z6_ := blk_frozen BK 6))
      go_ret
      exact ⟨by rw [hno]; rfl, HB⟩
   ·
    have hI := msg.idx3 gm
    have hO := HO.out
    clear hi c HO
    obtain ⟨b, hb⟩ : ∃ b, b = msg.hasB a0_0 3 := ⟨_, rfl⟩
    have AP := Aside0.mk (show msg_part.f a0_0 3 = some b by unfold msg_part.f; rw [if_pos ⟨hk, by decide⟩, hb])
    cases b with
    | true =>
     have hok_ : msg.okB a0_0 ((3 : Nat) : Int) (([0, 0, a0_1, a0_2, a0_3, a0_4, a0_5, a0_6] : List Int).getD 3 0) = true := by unfold msg.okB; rw [show msg.hasB a0_0 ((3 : Nat) : Int) = true from hb.symm]; rfl
     clear hb
     go_wp2_with (first | (go_at_call 20; (with_reducible refine (msg_part.calls a0_0 3 true _ (hG.below HB) AP.out).mono ?_); rintro e w9 ⟨rfl, hd_⟩; have hb_ := hd_.below; replace BK := blk_below BK hb_; replace HB := HB.trans (hb_.mono HB.size); clear hb_ hd_; (try clear k0_); (try clear z0_); (try clear k1_); (try clear z1_); (try clear k2_); (try clear z2_); (try clear k3_); (try clear z3_); (try clear k4_); (try clear z4_); (try clear k5_); (try clear z5_); (try clear k6_); (try clear z6_); have k0_ : w9.cell? ⟨gm, 0, none⟩ = some (.int .u32 a0_0) := (blk_cell BK 0).trans rfl; have z0_ := blk_frozen BK 0; have k1_ : w9.cell? ⟨gm, 1, none⟩ = some (.int .u32 a0_1) := (blk_cell BK 1).trans rfl; have z1_ := blk_frozen BK 1; have k2_ : w9.cell? ⟨gm, 2, none⟩ = some (.int .u32 a0_2) := (blk_cell BK 2).trans rfl; have z2_ := blk_frozen BK 2; have k3_ : w9.cell? ⟨gm, 3, none⟩ = some (.int .u32 a0_3) := (blk_cell BK 3).trans rfl; have z3_ := blk_frozen BK 3; have k4_ : w9.cell? ⟨gm, 4, none⟩ = some (.int .u32 a0_4) := (blk_cell BK 4).trans rfl; have z4_ := blk_frozen BK 4; have k5_ : w9.cell? ⟨gm, 5, none⟩ = some (.int .u32 a0_5) := (blk_cell BK 5).trans rfl; have z5_ := blk_frozen BK 5; have k6_ : w9.cell? ⟨gm, 6, none⟩ = some (.int .u32 a0_6) := (blk_cell BK 6).trans rfl; have z6_ := blk_frozen BK 6))
     go_roundg k2
     case measure => exact Nat.lt_succ_self _
     case rel => exact ⟨4, (by first | rfl | (simp; done)), ⟨by omega⟩, ⟨by omega⟩, ⟨fun t_ h1 h2 => by rcases Nat.lt_or_ge t_ 3 with q | q; (exact hO t_ h1 q); (obtain rfl : t_ = 3 := by omega); exact hok_⟩, ⟨BK⟩, ⟨HB⟩⟩
    | false =>
     by_cases hz : a0_2 = 0
     ·
      have hok_ : msg.okB a0_0 ((3 : Nat) : Int) (([0, 0, a0_1, a0_2, a0_3, a0_4, a0_5, a0_6] : List Int).getD 3 0) = true := by unfold msg.okB; rw [show (([0, 0, a0_1, a0_2, a0_3, a0_4, a0_5, a0_6] : List Int).getD 3 0) = a0_2 from rfl, hz]; simp
      have e1 : (a0_2 != 0) = false := bne_eq_false_iff_eq.mpr hz
      have e2 : (a0_2 == 0) = true := beq_iff_eq.mpr hz
      clear hb hz
      go_wp2_with (first | (go_at_call 20; (with_reducible refine (msg_part.calls a0_0 3 false _ (hG.below HB) AP.out).mono ?_); rintro e w9 ⟨rfl, hd_⟩; have hb_ := hd_.below; replace BK := blk_below BK hb_; replace HB := HB.trans (hb_.mono HB.size); clear hb_ hd_; (try clear k0_); (try clear z0_); (try clear k1_); (try clear z1_); (try clear k2_); (try clear z2_); (try clear k3_); (try clear z3_); (try clear k4_); (try clear z4_); (try clear k5_); (try clear z5_); (try clear k6_); (try clear z6_); have k0_ : w9.cell? ⟨gm, 0, none⟩ = some (.int .u32 a0_0) := (blk_cell BK 0).trans rfl; have z0_ := blk_frozen BK 0; have k1_ : w9.cell? ⟨gm, 1, none⟩ = some (.int .u32 a0_1) := (blk_cell BK 1).trans rfl; have z1_ := blk_frozen BK 1; have k2_ : w9.cell? ⟨gm, 2, none⟩ = some (.int .u32 a0_2) := (blk_cell BK 2).trans rfl; have z2_ := blk_frozen BK 2; have k3_ : w9.cell? ⟨gm, 3, none⟩ = some (.int .u32 a0_3) := (blk_cell BK 3).trans rfl; have z3_ := blk_frozen BK 3; have k4_ : w9.cell? ⟨gm, 4, none⟩ = some (.int .u32 a0_4) := (blk_cell BK 4).trans rfl; have z4_ := blk_frozen BK 4; have k5_ : w9.cell? ⟨gm, 5, none⟩ = some (.int .u32 a0_5) := (blk_cell BK 5).trans rfl; have z5_ := blk_frozen BK 5; have k6_ : w9.cell? ⟨gm, 6, none⟩ = some (.int .u32 a0_6) := (blk_cell BK 6).trans rfl; have z6_ := blk_frozen BK 6))
      go_roundg k2
      case measure => exact Nat.lt_succ_self _
      case rel => exact ⟨4, (by first | rfl | (simp; done)), ⟨by omega⟩, ⟨by omega⟩, ⟨fun t_ h1 h2 => by rcases Nat.lt_or_ge t_ 3 with q | q; (exact hO t_ h1 q); (obtain rfl : t_ = 3 := by omega); exact hok_⟩, ⟨BK⟩, ⟨HB⟩⟩
     ·
      have hno : msg.mayB a0_0 a0_1 a0_2 a0_3 a0_4 a0_5 a0_6 = false := by
       have : msg.okB a0_0 3 a0_2 = false := by unfold msg.okB; rw [← hb]; simpa using hz
       unfold msg.mayB
       rw [this]
       simp
      have e1 : (a0_2 != 0) = true := bne_iff_ne.mpr hz
      have e2 : (a0_2 == 0) = false := beq_eq_false_iff_ne.mpr hz
      clear hb hz hO
      go_wp2_with (first | (go_at_call 20; (with_reducible refine (msg_part.calls a0_0 3 false _ (hG.below HB) AP.out).mono ?_); rintro e w9 ⟨rfl, hd_⟩; have hb_ := hd_.below; replace BK := blk_below BK hb_; replace HB := HB.trans (hb_.mono HB.size); clear hb_ hd_; (try clear k0_); (try clear z0_); (try clear k1_); (try clear z1_); (try clear k2_); (try clear z2_); (try clear k3_); (try clear z3_); (try clear k4_); (try clear z4_); (try clear k5_); (try clear z5_); (try clear k6_); (try clear z6_); have k0_ : w9.cell? ⟨gm, 0, none⟩ = some (.int .u32 a0_0) := (blk_cell BK 0).trans rfl; have z0_ := blk_frozen BK 0; have k1_ : w9.cell? ⟨gm, 1, none⟩ = some (.int .u32 a0_1) := (blk_cell BK 1).trans rfl; have z1_ := blk_frozen BK 1; have k2_ : w9.cell? ⟨gm, 2, none⟩ = some (.int .u32 a0_2) := (blk_cell BK 2).trans rfl; have z2_ := blk_frozen BK 2; have k3_ : w9.cell? ⟨gm, 3, none⟩ = some (.int .u32 a0_3) := (blk_cell BK 3).trans rfl; have z3_ := blk_frozen BK 3; have k4_ : w9.cell? ⟨gm, 4, none⟩ = some (.int .u32 a0_4) := (blk_cell BK 4).trans rfl; have z4_ := blk_frozen BK 4; have k5_ : w9.cell? ⟨gm, 5, none⟩ = some (.int .u32 a0_5) := (blk_cell BK 5).trans rfl; have z5_ := blk_frozen BK 5; have k6_ : w9.cell? ⟨gm, 6, none⟩ = some (.int .u32 a0_6) := (blk_cell BK 6).trans rfl; have z6_ := blk_frozen BK 6))
      go_ret
      exact ⟨by rw [hno]; rfl, HB⟩
   ·
    have hI := msg.idx4 gm
    have hO := HO.out
    clear hi c HO
    obtain ⟨b, hb⟩ : ∃ b, b = msg.hasB a0_0 4 := ⟨_, rfl⟩
    have AP := Aside0.mk (show msg_part.f a0_0 4 = some b by unfold msg_part.f; rw [if_pos ⟨hk, by decide⟩, hb])
    cases b with
    | true =>
     have hok_ : msg.okB a0_0 ((4 : Nat) : Int) (([0, 0, a0_1, a0_2, a0_3, a0_4, a0_5, a0_6] : List Int).getD 4 0) = true := by unfold msg.okB; rw [show msg.hasB a0_0 ((4 : Nat) : Int) = true from hb.symm]; rfl
     clear hb
     go_wp2_with (first | (go_at_call 20; (with_reducible refine (msg_part.calls a0_0 4 true _ (hG.below HB) AP.out).mono ?_); rintro e w9 ⟨rfl, hd_⟩; have hb_ := hd_.below; replace BK := blk_below BK hb_; replace HB := HB.trans (hb_.mono HB.size); clear hb_ hd_; (try clear k0_); (try clear z0_); (try clear k1_); (try clear z1_); (try clear k2_); (try clear z2_); (try clear k3_); (try clear z3_); (try clear k4_); (try clear z4_); (try clear k5_); (try clear z5_); (try clear k6_); (try clear z6_); have k0_ : w9.cell? ⟨gm, 0, none⟩ = some (.int .u32 a0_0) := (blk_cell BK 0).trans rfl; have z0_ := blk_frozen BK 0; have k1_ : w9.cell? ⟨gm, 1, none⟩ = some (.int .u32 a0_1) := (blk_cell BK 1).trans rfl; have z1_ := blk_frozen BK 1; have k2_ : w9.cell? ⟨gm, 2, none⟩ = some (.int .u32 a0_2) := (blk_cell BK 2).trans rfl; have z2_ := blk_frozen BK 2; have k3_ : w9.cell? ⟨gm, 3, none⟩ = some (.int .u32 a0_3) := (blk_cell BK 3).trans rfl; have z3_ := blk_frozen BK 3; have k4_ : w9.cell? ⟨gm, 4, none⟩ = some (.int .u32 a0_4) := (blk_cell BK 4).trans rfl; have z4_ := blk_frozen BK 4; have k5_ : w9.cell? ⟨gm, 5, none⟩ = some (.int .u32 a0_5) := (blk_cell BK 5).trans rfl; have z5_ := blk_frozen BK 5; have k6_ : w9.cell? ⟨gm, 6, none⟩ = some (.int .u32 a0_6) := (blk_cell BK 6).trans rfl; have z6_ := blk_frozen BK 6))
     go_roundg k2
     case measure => exact Nat.lt_succ_self _
     case rel => exact ⟨5, (by first | rfl | (simp; done)), ⟨by omega⟩, ⟨by omega⟩, ⟨fun t_ h1 h2 => by rcases Nat.lt_or_ge t_ 4 with q | q; (exact hO t_ h1 q); (obtain rfl : t_ = 4 := by omega); exact hok_⟩, ⟨BK⟩, ⟨HB⟩⟩
    | false =>
     by_cases hz : a0_3 = 0
     ·
      have hok_ : msg.okB a0_0 ((4 : Nat) : Int) (([0, 0, a0_1, a0_2, a0_3, a0_4, a0_5, a0_6] : List Int).getD 4 0) = true := by unfold msg.okB; rw [show (([0, 0, a0_1, a0_2, a0_3, a0_4, a0_5, a0_6] : List Int).getD 4 0) = a0_3 from rfl, hz]; simp
      have e1 : (a0_3 != 0) = false := bne_eq_false_iff_eq.mpr hz
      have e2 : (a0_3 == 0) = true := beq_iff_eq.mpr hz
      clear hb hz
      go_wp2_with (first | (go_at_call 20; (with_reducible refine (msg_part.calls a0_0 4 false _ (hG.below HB) AP.out).mono ?_); rintro e w9 ⟨rfl, hd_⟩; have hb_ := hd_.below; replace BK := blk_below BK hb_; replace HB := HB.trans (hb_.mono HB.size); clear hb_ hd_; (try clear k0_); (try clear z0_); (try clear k1_); (try clear z1_); (try clear k2_); (try clear z2_); (try clear k3_); (try clear z3_); (try clear k4_); (try clear z4_); (try clear k5_); (try clear z5_); (try clear k6_); (try clear z6_); have k0_ : w9.cell? ⟨gm, 0, none⟩ = some (.int .u32 a0_0) := (blk_cell BK 0).trans rfl; have z0_ := blk_frozen BK 0; have k1_ : w9.cell? ⟨gm, 1, none⟩ = some (.int .u32 a0_1) := (blk_cell BK 1).trans rfl; have z1_ := blk_frozen BK 1; have k2_ : w9.cell? ⟨gm, 2, none⟩ = some (.int .u32 a0_2) := (blk_cell BK 2).trans rfl; have z2_ := blk_frozen BK 2; have k3_ : w9.cell? ⟨gm, 3, none⟩ = some (.int .u32 a0_3) := (blk_cell BK 3).trans rfl; have z3_ := blk_frozen BK 3; have k4_ : w9.cell? ⟨gm, 4, none⟩ = some (.int .u32 a0_4) := (blk_cell BK 4).trans rfl; have z4_ := blk_frozen BK 4; have k5_ : w9.cell? ⟨gm, 5, none⟩ = some (.int .u32 a0_5) := (blk_cell BK 5).trans rfl; have z5_ := blk_frozen BK 5; have k6_ : w9.cell? ⟨gm, 6, none⟩ = some (.int .u32 a0_6) := (blk_cell BK 6).trans rfl; have z6_ := blk_frozen BK 6))
      go_roundg k2
      case measure => exact Nat.lt_succ_self _
      case rel => exact ⟨5, (by first | rfl | (simp; done)), ⟨by omega⟩, ⟨by omega⟩, ⟨fun t_ h1 h2 => by rcases Nat.lt_or_ge t_ 4 with q | q; (exact hO t_ h1 q); (obtain rfl : t_ = 4 := by omega); exact hok_⟩, ⟨BK⟩, ⟨HB⟩⟩
     ·
      have hno : msg.mayB a0_0 a0_1 a0_2 a0_3 a0_4 a0_5 a0_6 = false := by
       have : msg.okB a0_0 4 a0_3 = false := by unfold msg.okB; rw [← hb]; simpa using hz
       unfold msg.mayB
       rw [this]
       simp
      have e1 : (a0_3 != 0) = true := bne_iff_ne.mpr hz
      have e2 : (a0_3 == 0) = false := beq_eq_false_iff_ne.mpr hz
      clear hb hz hO
      go_wp2_with (first | (go_at_call 20; (with_reducible refine (msg_part.calls a0_0 4 false _ (hG.below HB) AP.out).mono ?_); rintro e w9 ⟨rfl, hd_⟩; have hb_ := hd_.below; replace BK := blk_below BK hb_; replace HB := HB.trans (hb_.mono HB.size); clear hb_ hd_; (try clear k0_); (try clear z0_); (try clear k1_); (try clear z1_); (try clear k2_); (try clear z2_); (try clear k3_); (try clear z3_); (try clear k4_); (try clear z4_); (try clear k5_); (try clear z5_); (try clear k6_); (try clear z6_); have k0_ : w9.cell? ⟨gm, 0, none⟩ = some (.int .u32 a0_0) := (blk_cell BK 0).trans rfl; have z0_ := blk_frozen BK 0; have k1_ : w9.cell? ⟨gm, 1, none⟩ = some (.int .u32 a0_1) := (blk_cell BK 1).trans rfl; have z1_ := blk_frozen BK 1; have k2_ : w9.cell? ⟨gm, 2, none⟩ = some (.int .u32 a0_2) := (blk_cell BK 2).trans rfl; have z2_ := blk_frozen BK 2; have k3_ : w9.cell? ⟨gm, 3, none⟩ = some (.int .u32 a0_3) := (blk_cell BK 3).trans rfl; have z3_ := blk_frozen BK 3; have k4_ : w9.cell? ⟨gm, 4, none⟩ = some (.int .u32 a0_4) := (blk_cell BK 4).trans rfl; have z4_ := blk_frozen BK 4; have k5_ : w9.cell? ⟨gm, 5, none⟩ = some (.int .u32 a0_5) := (blk_cell BK 5).trans rfl; have z5_ := blk_frozen BK 5; have k6_ : w9.cell? ⟨gm, 6, none⟩ = some (.int .u32 a0_6) := (blk_cell BK 6).trans rfl; have z6_ := blk_frozen BK 6))
      go_ret
      exact ⟨by rw [hno]; rfl, HB⟩
   ·
    have hI := msg.idx5 gm
    have hO := HO.out
    clear hi c HO
    obtain ⟨b, hb⟩ : ∃ b, b = msg.hasB a0_0 5 := ⟨_, rfl⟩
    have AP := Aside0.mk (show msg_part.f a0_0 5 = some b by unfold msg_part.f; rw [if_pos ⟨hk, by decide⟩, hb])
    cases b with
    | true =>
     have hok_ : msg.okB a0_0 ((5 : Nat) : Int) (([0, 0, a0_1, a0_2, a0_3, a0_4, a0_5, a0_6] : List Int).getD 5 0) = true := by unfold msg.okB; rw [show msg.hasB a0_0 ((5 : Nat) : Int) = true from hb.symm]; rfl
     clear hb
     go_wp2_with (first | (go_at_call 20; (with_reducible refine (msg_part.calls a0_0 5 true _ (hG.below HB) AP.out).mono ?_); rintro e w9 ⟨rfl, hd_⟩; have hb_ := hd_.below; replace BK := blk_below BK hb_; replace HB := HB.trans (hb_.mono HB.size); clear hb_ hd_; (try clear k0_); (try clear z0_); (try clear k1_); (try clear z1_); (try clear k2_); (try clear z2_); (try clear k3_); (try clear z3_); (try clear k4_); (try clear z4_); (try clear k5_); (try clear z5_); (try clear k6_); (try clear z6_); have k0_ : w9.cell? ⟨gm, 0, none⟩ = some (.int .u32 a0_0) := (blk_cell BK 0).trans rfl; have z0_ := blk_frozen BK 0; have k1_ : w9.cell? ⟨gm, 1, none⟩ = some (.int .u32 a0_1) := (blk_cell BK 1).trans rfl; have z1_ := blk_frozen BK 1; have k2_ : w9.cell? ⟨gm, 2, none⟩ = some (.int .u32 a0_2) := (blk_cell BK 2).trans rfl; have z2_ := blk_frozen BK 2; have k3_ : w9.cell? ⟨gm, 3, none⟩ = some (.int .u32 a0_3) := (blk_cell BK 3).trans rfl; have z3_ := blk_frozen BK 3; have k4_ : w9.cell? ⟨gm, 4, none⟩ = some (.int .u32 a0_4) := (blk_cell BK 4).trans rfl; have z4_ := blk_frozen BK 4; have k5_ : w9.cell? ⟨gm, 5, none⟩ = some (.int .u32 a0_5) := (blk_cell BK 5).trans rfl; have z5_ := blk_frozen BK 5; have k6_ : w9.cell? ⟨gm, 6, none⟩ = some (.int .u32 a0_6) := (blk_cell BK 6).trans rfl; have z6_ := blk_frozen BK 6))
     go_roundg k2
     case measure => exact Nat.lt_succ_self _
     case rel => exact ⟨6, (by first | rfl | (simp; done)), ⟨by omega⟩, ⟨by omega⟩, ⟨fun t_ h1 h2 => by rcases Nat.lt_or_ge t_ 5 with q | q; (exact hO t_ h1 q); (obtain rfl : t_ = 5 := by omega); exact hok_⟩, ⟨BK⟩, ⟨HB⟩⟩
    | false =>
     by_cases hz : a0_4 = 0
     ·
      have hok_ : msg.okB a0_0 ((5 : Nat) : Int) (([0, 0, a0_1, a0_2, a0_3, a0_4, a0_5, a0_6] : List Int).getD 5 0) = true := by unfold msg.okB; rw [show (([0, 0, a0_1, a0_2, a0_3, a0_4, a0_5, a0_6] : List Int).getD 5 0) = a0_4 from rfl, hz]; simp
      have e1 : (a0_4 != 0) = false := bne_eq_false_iff_eq.mpr hz
      have e2 : (a0_4 == 0) = true := beq_iff_eq.mpr hz
      clear hb hz
      go_wp2_with (first | (go_at_call 20; (with_reducible refine (msg_part.calls a0_0 5 false _ (hG.below HB) AP.out).mono ?_); rintro e w9 ⟨rfl, hd_⟩; have hb_ := hd_.below; replace BK := blk_below BK hb_; replace HB := HB.trans (hb_.mono HB.size); clear hb_ hd_; (try clear k0_); (try clear z0_); (try clear k1_); (try clear z1_); (try clear k2_); (try clear z2_); (try clear k3_); (try clear z3_); (try clear k4_); (try clear z4_); (try clear k5_); (try clear z5_); (try clear k6_); (try clear z6_); have k0_ : w9.cell? ⟨gm, 0, none⟩ = some (.int .u32 a0_0) := (blk_cell BK 0).trans rfl; have z0_ := blk_frozen BK 0; have k1_ : w9.cell? ⟨gm, 1, none⟩ = some (.int .u32 a0_1) := (blk_cell BK 1).trans rfl; have z1_ := blk_frozen BK 1; have k2_ : w9.cell? ⟨gm, 2, none⟩ = some (.int .u32 a0_2) := (blk_cell BK 2).trans rfl; have z2_ := blk_frozen BK 2; have k3_ : w9.cell? ⟨gm, 3, none⟩ = some (.int .u32 a0_3) := (blk_cell BK 3).trans rfl; have z3_ := blk_frozen BK 3; have k4_ : w9.cell? ⟨gm, 4, none⟩ = some (.int .u32 a0_4) := (blk_cell BK 4).trans rfl; have z4_ := blk_frozen BK 4; have k5_ : w9.cell? ⟨gm, 5, none⟩ = some (.int .u32 a0_5) := (blk_cell BK 5).trans rfl; have z5_ := blk_frozen BK 5; have k6_ : w9.cell? ⟨gm, 6, none⟩ = some (.int .u32 a0_6) := (blk_cell BK 6).trans rfl; have z6_ := blk_frozen BK 6))
      go_roundg k2
      case measure => exact Nat.lt_succ_self _
      case rel => exact ⟨6, (by first | rfl | (simp; done)), ⟨by omega⟩, ⟨by omega⟩, ⟨fun t_ h1 h2 => by rcases Nat.lt_or_ge t_ 5 with q | q; (exact hO t_ h1 q); (obtain rfl : t_ = 5 := by omega); exact hok_⟩, ⟨BK⟩, ⟨HB⟩⟩
     ·
      have hno : msg.mayB a0_0 a0_1 a0_2 a0_3 a0_4 a0_5 a0_6 = false := by
       have : msg.okB a0_0 5 a0_4 = false := by unfold msg.okB; rw [← hb]; simpa using hz
       unfold msg.mayB
       rw [this]
       simp
      have e1 : (a0_4 != 0) = true := bne_iff_ne.mpr hz
      have e2 : (a0_4 == 0) = false := beq_eq_false_iff_ne.mpr hz
      clear hb hz hO
      go_wp2_with (first | (go_at_call 20; (with_reducible refine (msg_part.calls a0_0 5 false _ (hG.below HB) AP.out).mono ?_); rintro e w9 ⟨rfl, hd_⟩; have hb_ := hd_.below; replace BK := blk_below BK hb_; replace HB := HB.trans (hb_.mono HB.size); clear hb_ hd_; (try clear k0_); (try clear z0_); (try clear k1_); (try clear z1_); (try clear k2_); (try clear z2_); (try clear k3_); (try clear z3_); (try clear k4_); (try clear z4_); (try clear k5_); (try clear z5_); (try clear k6_); (try clear z6_); have k0_ : w9.cell? ⟨gm, 0, none⟩ = some (.int .u32 a0_0) := (blk_cell BK 0).trans rfl; have z0_ := blk_frozen BK 0; have k1_ : w9.cell? ⟨gm, 1, none⟩ = some (.int .u32 a0_1) := (blk_cell BK 1).trans rfl; have z1_ := blk_frozen BK 1; have k2_ : w9.cell? ⟨gm, 2, none⟩ = some (.int .u32 a0_2) := (blk_cell BK 2).trans rfl; have z2_ := blk_frozen BK 2; have k3_ : w9.cell? ⟨gm, 3, none⟩ = some (.int .u32 a0_3) := (blk_cell BK 3).trans rfl; have z3_ := blk_frozen BK 3; have k4_ : w9.cell? ⟨gm, 4, none⟩ = some (.int .u32 a0_4) := (blk_cell BK 4).trans rfl; have z4_ := blk_frozen BK 4; have k5_ : w9.cell? ⟨gm, 5, none⟩ = some (.int .u32 a0_5) := (blk_cell BK 5).trans rfl; have z5_ := blk_frozen BK 5; have k6_ : w9.cell? ⟨gm, 6, none⟩ = some (.int .u32 a0_6) := (blk_cell BK 6).trans rfl; have z6_ := blk_frozen BK 6))
      go_ret
      exact ⟨by rw [hno]; rfl, HB⟩
   ·
    have hI := msg.idx6 gm
    have hO := HO.out
    clear hi c HO
    obtain ⟨b, hb⟩ : ∃ b, b = msg.hasB a0_0 6 := ⟨_, rfl⟩
    have AP := Aside0.mk (show msg_part.f a0_0 6 = some b by unfold msg_part.f; rw [if_pos ⟨hk, by decide⟩, hb])
    cases b with
    | true =>
     have hok_ : msg.okB a0_0 ((6 : Nat) : Int) (([0, 0, a0_1, a0_2, a0_3, a0_4, a0_5, a0_6] : List Int).getD 6 0) = true := by unfold msg.okB; rw [show msg.hasB a0_0 ((6 : Nat) : Int) = true from hb.symm]; rfl
     clear hb
     go_wp2_with (first | (go_at_call 20; (with_reducible refine (msg_part.calls a0_0 6 true _ (hG.below HB) AP.out).mono ?_); rintro e w9 ⟨rfl, hd_⟩; have hb_ := hd_.below; replace BK := blk_below BK hb_; replace HB := HB.trans (hb_.mono HB.size); clear hb_ hd_; (try clear k0_); (try clear z0_); (try clear k1_); (try clear z1_); (try clear k2_); (try clear z2_); (try clear k3_); (try clear z3_); (try clear k4_); (try clear z4_); (try clear k5_); (try clear z5_); (try clear k6_); (try clear z6_); have k0_ : w9.cell? ⟨gm, 0, none⟩ = some (.int .u32 a0_0) := (blk_cell BK 0).trans rfl; have z0_ := blk_frozen BK 0; have k1_ : w9.cell? ⟨gm, 1, none⟩ = some (.int .u32 a0_1) := (blk_cell BK 1).trans rfl; have z1_ := blk_frozen BK 1; have k2_ : w9.cell? ⟨gm, 2, none⟩ = some (.int .u32 a0_2) := (blk_cell BK 2).trans rfl; have z2_ := blk_frozen BK 2; have k3_ : w9.cell? ⟨gm, 3, none⟩ = some (.int .u32 a0_3) := (blk_cell BK 3).trans rfl; have z3_ := blk_frozen BK 3; have k4_ : w9.cell? ⟨gm, 4, none⟩ = some (.int .u32 a0_4) := (blk_cell BK 4).trans rfl; have z4_ := blk_frozen BK 4; have k5_ : w9.cell? ⟨gm, 5, none⟩ = some (.int .u32 a0_5) := (blk_cell BK 5).trans rfl; have z5_ := blk_frozen BK 5; have k6_ : w9.cell? ⟨gm, 6, none⟩ = some (.int .u32 a0_6) := (blk_cell BK 6).trans rfl; have z6_ := blk_frozen BK 6))
     go_roundg k2
     case measure => exact Nat.lt_succ_self _
     case rel => exact ⟨7, (by first | rfl | (simp; done)), ⟨by omega⟩, ⟨by omega⟩, ⟨fun t_ h1 h2 => by rcases Nat.lt_or_ge t_ 6 with q | q; (exact hO t_ h1 q); (obtain rfl : t_ = 6 := by omega); exact hok_⟩, ⟨BK⟩, ⟨HB⟩⟩
    | false =>
     by_cases hz : a0_5 = 0
     ·
      have hok_ : msg.okB a0_0 ((6 : Nat) : Int) (([0, 0, a0_1, a0_2, a0_3, a0_4, a0_5, a0_6] : List Int).getD 6 0) = true := by unfold msg.okB; rw [show (([0, 0, a0_1, a0_2, a0_3, a0_4, a0_5, a0_6] : List Int).getD 6 0) = a0_5 from rfl, hz]; simp
      have e1 : (a0_5 != 0) = false := bne_eq_false_iff_eq.mpr hz
      have e2 : (a0_5 == 0) = true := beq_iff_eq.mpr hz
      clear hb hz
      go_wp2_with (first | (go_at_call 20; (with_reducible refine (msg_part.calls a0_0 6 false _ (hG.below HB) AP.out).mono ?_); rintro e w9 ⟨rfl, hd_⟩; have hb_ := hd_.below; replace BK := blk_below BK hb_; replace HB := HB.trans (hb_.mono HB.size); clear hb_ hd_; (try clear k0_); (try clear z0_); (try clear k1_); (try clear z1_); (try clear k2_); (try clear z2_); (try clear k3_); (try clear z3_); (try clear k4_); (try clear z4_); (try clear k5_); (try clear z5_); (try clear k6_); (try clear z6_); have k0_ : w9.cell? ⟨gm, 0, none⟩ = some (.int .u32 a0_0) := (blk_cell BK 0).trans rfl; have z0_ := blk_frozen BK 0; have k1_ : w9.cell? ⟨gm, 1, none⟩ = some (.int .u32 a0_1) := (blk_cell BK 1).trans rfl; have z1_ := blk_frozen BK 1; have k2_ : w9.cell? ⟨gm, 2, none⟩ = some (.int .u32 a0_2) := (blk_cell BK 2).trans rfl; have z2_ := blk_frozen BK 2; have k3_ : w9.cell? ⟨gm, 3, none⟩ = some (.int .u32 a0_3) := (blk_cell BK 3).trans rfl; have z3_ := blk_frozen BK 3; have k4_ : w9.cell? ⟨gm, 4, none⟩ = some (.int .u32 a0_4) := (blk_cell BK 4).trans rfl; have z4_ := blk_frozen BK 4; have k5_ : w9.cell? ⟨gm, 5, none⟩ = some (.int .u32 a0_5) := (blk_cell BK 5).trans rfl; have z5_ := blk_frozen BK 5; have k6_ : w9.cell? ⟨gm, 6, none⟩ = some (.int .u32 a0_6) := (blk_cell BK 6).trans rfl; have z6_ := blk_frozen BK 6))
      go_roundg k2
      case measure => exact Nat.lt_succ_self _
      case rel => exact ⟨7, (by first | rfl | (simp; done)), ⟨by omega⟩, ⟨by omega⟩, ⟨fun t_ h1 h2 => by rcases Nat.lt_or_ge t_ 6 with q | q; (exact hO t_ h1 q); (obtain rfl : t_ = 6 := by omega); exact hok_⟩, ⟨BK⟩, ⟨HB⟩⟩
     ·
      have hno : msg.mayB a0_0 a0_1 a0_2 a0_3 a0_4 a0_5 a0_6 = false := by
       have : msg.okB a0_0 6 a0_5 = false := by unfold msg.okB; rw [← hb]; simpa using hz
       unfold msg.mayB
       rw [this]
       simp
      have e1 : (a0_5 != 0) = true := bne_iff_ne.mpr hz
      have e2 : (a0_5 == 0) = false := beq_eq_false_iff_ne.mpr hz
      clear hb hz hO
      go_wp2_with (first | (go_at_call 20; (with_reducible refine (msg_part.calls a0_0 6 false _ (hG.below HB) AP.out).mono ?_); rintro e w9 ⟨rfl, hd_⟩; have hb_ := hd_.below; replace BK := blk_below BK hb_; replace HB := HB.trans (hb_.mono HB.size); clear hb_ hd_; (try clear k0_); (try clear z0_); (try clear k1_); (try clear z1_); (try clear k2_); (try clear z2_); (try clear k3_); (try clear z3_); (try clear k4_); (try clear z4_); (try clear k5_); (try clear z5_); (try clear k6_); (try clear z6_); have k0_ : w9.cell? ⟨gm, 0, none⟩ = some (.int .u32 a0_0) := (blk_cell BK 0).trans rfl; have z0_ := blk_frozen BK 0; have k1_ : w9.cell? ⟨gm, 1, none⟩ = some (.int .u32 a0_1) := (blk_cell BK 1).trans rfl; have z1_ := blk_frozen BK 1; have k2_ : w9.cell? ⟨gm, 2, none⟩ = some (.int .u32 a0_2) := (blk_cell BK 2).trans rfl; have z2_ := blk_frozen BK 2; have k3_ : w9.cell? ⟨gm, 3, none⟩ = some (.int .u32 a0_3) := (blk_cell BK 3).trans rfl; have z3_ := blk_frozen BK 3; have k4_ : w9.cell? ⟨gm, 4, none⟩ = some (.int .u32 a0_4) := (blk_cell BK 4).trans rfl; have z4_ := blk_frozen BK 4; have k5_ : w9.cell? ⟨gm, 5, none⟩ = some (.int .u32 a0_5) := (blk_cell BK 5).trans rfl; have z5_ := blk_frozen BK 5; have k6_ : w9.cell? ⟨gm, 6, none⟩ = some (.int .u32 a0_6) := (blk_cell BK 6).trans rfl; have z6_ := blk_frozen BK 6))
      go_ret
      exact ⟨by rw [hno]; rfl, HB⟩
   ·
    have hI := msg.idx7 gm
    have hO := HO.out
    clear hi c HO
    obtain ⟨b, hb⟩ : ∃ b, b = msg.hasB a0_0 7 := ⟨_, rfl⟩
    have AP := Aside0.mk (show msg_part.f a0_0 7 = some b by unfold msg_part.f; rw [if_pos ⟨hk, by decide⟩, hb])
    cases b with
    | true =>
     have hok_ : msg.okB a0_0 ((7 : Nat) : Int) (([0, 0, a0_1, a0_2, a0_3, a0_4, a0_5, a0_6] : List Int).getD 7 0) = true := by unfold msg.okB; rw [show msg.hasB a0_0 ((7 : Nat) : Int) = true from hb.symm]; rfl
     clear hb
     go_wp2_with (first | (go_at_call 20; (with_reducible refine (msg_part.calls a0_0 7 true _ (hG.below HB) AP.out).mono ?_); rintro e w9 ⟨rfl, hd_⟩; have hb_ := hd_.below; replace BK := blk_below BK hb_; replace HB := HB.trans (hb_.mono HB.size); clear hb_ hd_; (try clear k0_); (try clear z0_); (try clear k1_); (try clear z1_); (try clear k2_); (try clear z2_); (try clear k3_); (try clear z3_); (try clear k4_); (try clear z4_); (try clear k5_); (try clear z5_); (try clear k6_); (try clear z6_); have k0_ : w9.cell? ⟨gm, 0, none⟩ = some (.int .u32 a0_0) := (blk_cell BK 0).trans rfl; have z0_ := blk_frozen BK 0; have k1_ : w9.cell? ⟨gm, 1, none⟩ = some (.int .u32 a0_1) := (blk_cell BK 1).trans rfl; have z1_ := blk_frozen BK 1; have k2_ : w9.cell? ⟨gm, 2, none⟩ = some (.int .u32 a0_2) := (blk_cell BK 2).trans rfl; have z2_ := blk_frozen BK 2; have k3_ : w9.cell? ⟨gm, 3, none⟩ = some (.int .u32 a0_3) := (blk_cell BK 3).trans rfl; have z3_ := blk_frozen BK 3; have k4_ : w9.cell? ⟨gm, 4, none⟩ = some (.int .u32 a0_4) := (blk_cell BK 4).trans rfl; have z4_ := blk_frozen BK 4; have k5_ : w9.cell? ⟨gm, 5, none⟩ = some (.int .u32 a0_5) := (blk_cell BK 5).trans rfl; have z5_ := blk_frozen BK 5; have k6_ : w9.cell? ⟨gm, 6, none⟩ = some (.int .u32 a0_6) := (blk_cell BK 6).trans rfl; have z6_ := blk_frozen BK 6))
     go_roundg k2
     case measure => exact Nat.lt_succ_self _
     case rel => exact ⟨8, (by first | rfl | (simp; done)), ⟨by omega⟩, ⟨by omega⟩, ⟨fun t_ h1 h2 => by rcases Nat.lt_or_ge t_ 7 with q | q; (exact hO t_ h1 q); (obtain rfl : t_ = 7 := by omega); exact hok_⟩, ⟨BK⟩, ⟨HB⟩⟩
    | false =>
     by_cases hz : a0_6 = 0
     ·
      have hok_ : msg.okB a0_0 ((7 : Nat) : Int) (([0, 0, a0_1, a0_2, a0_3, a0_4, a0_5, a0_6] : List Int).getD 7 0) = true := by unfold msg.okB; rw [show (([0, 0, a0_1, a0_2, a0_3, a0_4, a0_5, a0_6] : List Int).getD 7 0) = a0_6 from rfl, hz]; simp
      have e1 : (a0_6 != 0) = false := bne_eq_false_iff_eq.mpr hz
      have e2 : (a0_6 == 0) = true := beq_iff_eq.mpr hz
      clear hb hz
      go_wp2_with (first | (go_at_call 20; (with_reducible refine (msg_part.calls a0_0 7 false _ (hG.below HB) AP.out).mono ?_); rintro e w9 ⟨rfl, hd_⟩; have hb_ := hd_.below; replace BK := blk_below BK hb_; replace HB := HB.trans (hb_.mono HB.size); clear hb_ hd_; (try clear k0_); (try clear z0_); (try clear k1_); (try clear z1_); (try clear k2_); (try clear z2_); (try clear k3_); (try clear z3_); (try clear k4_); (try clear z4_); (try clear k5_); (try clear z5_); (try clear k6_); (try clear z6_); have k0_ : w9.cell? ⟨gm, 0, none⟩ = some (.int .u32 a0_0) := (blk_cell BK 0).trans rfl; have z0_ := blk_frozen BK 0; have k1_ : w9.cell? ⟨gm, 1, none⟩ = some (.int .u32 a0_1) := (blk_cell BK 1).trans rfl; have z1_ := blk_frozen BK 1; have k2_ : w9.cell? ⟨gm, 2, none⟩ = some (.int .u32 a0_2) := (blk_cell BK 2).trans rfl; have z2_ := blk_frozen BK 2; have k3_ : w9.cell? ⟨gm, 3, none⟩ = some (.int .u32 a0_3) := (blk_cell BK 3).trans rfl; have z3_ := blk_frozen BK 3; have k4_ : w9.cell? ⟨gm, 4, none⟩ = some (.int .u32 a0_4) := (blk_cell BK 4).trans rfl; have z4_ := blk_frozen BK 4; have k5_ : w9.cell? ⟨gm, 5, none⟩ = some (.int .u32 a0_5) := (blk_cell BK 5).trans rfl; have z5_ := blk_frozen BK 5; have k6_ : w9.cell? ⟨gm, 6, none⟩ = some (.int .u32 a0_6) := (blk_cell BK 6).trans rfl; have z6_ := blk_frozen BK 6))
      go_roundg k2
      case measure => exact Nat.lt_succ_self _
      case rel => exact ⟨8, (by first | rfl | (simp; done)), ⟨by omega⟩, ⟨by omega⟩, ⟨fun t_ h1 h2 => by rcases Nat.lt_or_ge t_ 7 with q | q; (exact hO t_ h1 q); (obtain rfl : t_ = 7 := by omega); exact hok_⟩, ⟨BK⟩, ⟨HB⟩⟩
     ·
      have hno : msg.mayB a0_0 a0_1 a0_2 a0_3 a0_4 a0_5 a0_6 = false := by
       have : msg.okB a0_0 7 a0_6 = false := by unfold msg.okB; rw [← hb]; simpa using hz
       unfold msg.mayB
       rw [this]
       simp
      have e1 : (a0_6 != 0) = true := bne_iff_ne.mpr hz
      have e2 : (a0_6 == 0) = false := beq_eq_false_iff_ne.mpr hz
      clear hb hz hO
      go_wp2_with (first | (go_at_call 20; (with_reducible refine (msg_part.calls a0_0 7 false _ (hG.below HB) AP.out).mono ?_); rintro e w9 ⟨rfl, hd_⟩; have hb_ := hd_.below; replace BK := blk_below BK hb_; replace HB := HB.trans (hb_.mono HB.size); clear hb_ hd_; (try clear k0_); (try clear z0_); (try clear k1_); (try clear z1_); (try clear k2_); (try clear z2_); (try clear k3_); (try clear z3_); (try clear k4_); (try clear z4_); (try clear k5_); (try clear z5_); (try clear k6_); (try clear z6_); have k0_ : w9.cell? ⟨gm, 0, none⟩ = some (.int .u32 a0_0) := (blk_cell BK 0).trans rfl; have z0_ := blk_frozen BK 0; have k1_ : w9.cell? ⟨gm, 1, none⟩ = some (.int .u32 a0_1) := (blk_cell BK 1).trans rfl; have z1_ := blk_frozen BK 1; have k2_ : w9.cell? ⟨gm, 2, none⟩ = some (.int .u32 a0_2) := (blk_cell BK 2).trans rfl; have z2_ := blk_frozen BK 2; have k3_ : w9.cell? ⟨gm, 3, none⟩ = some (.int .u32 a0_3) := (blk_cell BK 3).trans rfl; have z3_ := blk_frozen BK 3; have k4_ : w9.cell? ⟨gm, 4, none⟩ = some (.int .u32 a0_4) := (blk_cell BK 4).trans rfl; have z4_ := blk_frozen BK 4; have k5_ : w9.cell? ⟨gm, 5, none⟩ = some (.int .u32 a0_5) := (blk_cell BK 5).trans rfl; have z5_ := blk_frozen BK 5; have k6_ : w9.cell? ⟨gm, 6, none⟩ = some (.int .u32 a0_6) := (blk_cell BK 6).trans rfl; have z6_ := blk_frozen BK 6))
      go_ret
      exact ⟨by rw [hno]; rfl, HB⟩

/-! ### slices_Clone_uint32_uint32: function 26 -/
def slices_Clone_uint32_uint32.f (l0 : List Int) : Option (List Int) := (some (([] : List Int) : List Int)).bind fun y102 => (if y102.length + l0.length < 35184372088832 then (some (y102 ++ l0)) else (none))
set_option maxHeartbeats 8000000 in
set_option maxRecDepth 100000 in
theorem slices_Clone_uint32_uint32.calls (A0 : Option Addr) (c0 : Nat) (l0 : List Int) (r : List Int) (w : World) (hr0 : Kd.C (Kd.int .u32) w A0 l0.length l0) (hc0 : l0.length ≤ c0) (h : slices_Clone_uint32_uint32.f l0 = some r) :
  Calls Tryd.prog 26 #[.slice A0 l0.length c0] w fun e w' => ∃ v0_ : Value, e = .returned (v0_) ∧ Kd.R (Kd.int .u32) 22 w' w.heap.size (fun _ => True) v0_ r ∧ Below w.heap.size w w' := by
 rcases A0 with _ | x0
 ·
  have hl0 : l0 = [] := by
   rcases l0 with _ | ⟨y, ys⟩
   ·
    rfl
   ·
    obtain ⟨ad, had, _⟩ := hr0.2.2 (by simp)
    cases had
  subst hl0
  have hr : r = [] := by
   have h2 := h
   simp [slices_Clone_uint32_uint32.f] at h2
   exact h2
  subst hr
  clear h hr0 hc0
  have ke := fun (w : World) (a : Option Addr) (n c n' c' : Nat) => Lib.run_eql_slice_nil (P := Tryd.prog) w 26 22 a n c n' c' Tryd.underlying26
  go_enter Tryd.func26, Tryd.ntmps26
  go_wp2
  go_ret
  exact ⟨_, rfl, Kd.R_nil _ _ _ _ _, Below.refl _ _⟩
 have ke := fun (w : World) (n c n' c' : Nat) => Lib.run_eql_slice_nil (P := Tryd.prog) w 26 22 (some x0) n c n' c' Tryd.underlying26
 have HR0 := Aside0.mk hr0
 have HC0 := Aside0.mk hc0
 clear hr0 hc0
 have HB := Aside0.mk (Below.refl w.heap.size w)
 have H : ((some (([] : List Int) : List Int)).bind fun y102 => (if y102.length + l0.length < 35184372088832 then (some (y102 ++ l0)) else (none))) = some r := h
 clear h
 obtain ⟨y102, hy102⟩ : ∃ y_ : List Int, y_ = (([] : List Int)) := ⟨_, rfl⟩
 replace H : (if y102.length + l0.length < 35184372088832 then (some (y102 ++ l0)) else (none)) = some r := by first | (rw [hy102]; with_reducible exact H) | (have H2_ := (Option.bind_some _ _).symm.trans H; rw [hy102]; with_reducible exact H2_) | (have H2_ := (Option.bind_some _ _).symm.trans H; with_reducible exact H2_) | with_reducible exact H | (rw [hy102]; exact H) | exact H
 have Ny102 := Aside0.mk hy102
 clear hy102
 by_cases c2 : y102.length + l0.length < 35184372088832
 ·
  rw [if_pos c2] at H
  have LMc2 := Aside0.mk c2
  clear c2
  obtain ⟨y105, hy105⟩ : ∃ y_ : List Int, y_ = (y102 ++ l0) := ⟨_, rfl⟩
  replace H : (some y105) = some r := by first | (rw [hy105]; with_reducible exact H) | (have H2_ := (Option.bind_some _ _).symm.trans H; rw [hy105]; with_reducible exact H2_) | (have H2_ := (Option.bind_some _ _).symm.trans H; with_reducible exact H2_) | with_reducible exact H | (rw [hy105]; exact H) | exact H
  have Ny105 := Aside0.mk hy105
  clear hy105
  obtain rfl := Option.some.inj H
  go_enter Tryd.func26, Tryd.ntmps26
  go_wp2_with (first | ((with_reducible refine gate_dst (N := 5) rfl ?_); refine Kd.R_lit (Kd.int .u32) _ 22 ?hg (N := 5) ?hd (xs := ([] : List Int)) (inner := []) (ok := fun _ => True) (okp := fun _ => True) ?hr ?hp (fun _ hk => hk) trivial (Below.refl _ _) (Nat.le_refl _) (by simp) ?_; (case hd => rfl); (case hg => rfl); (case hr => first | (go_simp; done) | (go_simp; rfl)); (case hp => exact (Reps.none _ _)); intro v103 w3 ho4 hb hg_ hnew_; clear hg_ hnew_; (first | rw [← Ny102.out] at ho4 | (simp only [Int.reduceToNat] at ho4; rw [← Ny102.out] at ho4)); have n0_ := Aside0.mk (Kd.R_lower ho4 (below_size (by repeat (first | (with_reducible first | exact HB.out | apply below_alloc | apply pw_below_drewN | apply below_drew1) | exact HB.out)))); have n1_ := Aside0.mk (below_step (by repeat (first | (with_reducible first | exact HB.out | apply below_alloc | apply pw_below_drewN | apply below_drew1) | exact HB.out)) hb); clear HB; have HO104 := n0_; have HB := n1_; clear n0_ n1_; clear hb ho4) | ((with_reducible refine gate_builtin (b := .append) (xs := #[.tmp 5, .tmp 6]) rfl ?_); at_builtin; refine Kd.R_append_rows (Kd.int .u32) (w0 := w) w.heap.size rfl (.tmp 5) (.tmp 6) 26 22 (.int .u32 0) 4 rfl Tryd.underlying26 info22 rfl (by decide) (by omega) v103 y102 l0 _ _ _ (fun _ => True) (fun _ => False) rfl rfl ?aO ?aR (fun _ _ h => h) (fun _ h => h.elim) ?aF ?aB ?aS ?aL ?_; (case aR => repeat (first | exact (Kd.C_below HR0.out HB.out) | (with_reducible refine Kd.C_alloc ?_ _) | (with_reducible refine Kd.C_drewN ?_ _) | (with_reducible refine Kd.C_drew ?_))); (case aB => exact (by repeat (first | (with_reducible first | exact HB.out | apply below_alloc | apply pw_below_drewN | apply below_drew1) | exact HB.out))); (case aF => exact (fun _ _ => trivial)); (case aO => exact (by (with_reducible repeat (first | apply Kd.R_alloc | apply Kd.R_drewN | apply Kd.R_drew)); exact HO104.out)); (case aS => exact (below_size (by repeat (first | (with_reducible first | exact HB.out | apply below_alloc | apply pw_below_drewN | apply below_drew1) | exact HB.out)))); (case aL => have := LMc2.out; omega); intro v106 w5 ho hb hg hat; rw [← Ny105.out] at ho; have n0_ := Aside0.mk (hb); have n1_ := Aside0.mk (ho); clear HB; clear HO104; have HB := n0_; have HO107 := n1_; clear n0_ n1_; clear ho hb hg hat))
  go_ret
  exact ⟨_, by first | rfl | (simp [errW_none, errW_some] <;> rfl) | (simp [*, errW_none, errW_some] <;> rfl), by (with_reducible repeat (first | apply Kd.R_alloc | apply Kd.R_drewN | apply Kd.R_drew)); exact HO107.out, by repeat (first | (with_reducible first | exact HB.out | apply below_alloc | apply pw_below_drewN | apply below_drew1) | exact HB.out)⟩
 ·
  rw [if_neg c2] at H
  exact absurd H (by simp)

/-! ### wire_One: function 18 -/
def wire_One.f (a0 : Int) (l1 : List Int) : Option (Int × List Int) := (slices_Clone_uint32_uint32.f l1).bind fun t109 => (some (a0, t109))
set_option maxHeartbeats 8000000 in
set_option maxRecDepth 100000 in
theorem wire_One.calls (a0 : Int) (A1 : Option Addr) (c1 : Nat) (l1 : List Int) (r1 : Int) (r2 : List Int) (w : World) (hr1 : Kd.C (Kd.int .u32) w A1 l1.length l1) (hc1 : l1.length ≤ c1) (h : wire_One.f a0 l1 = some (r1, r2)) :
  Calls Tryd.prog 18 #[.int .u32 a0, .slice A1 l1.length c1] w fun e w' => ∃ v1_ : Value, e = .returned (.agg #[.int .u32 r1, v1_]) ∧ Kd.R (Kd.int .u32) 22 w' w.heap.size (fun _ => True) v1_ r2 ∧ Below w.heap.size w w' := by
 have hu45 := Tryd.underlying45
 have HR1 := Aside0.mk hr1
 have HC1 := Aside0.mk hc1
 clear hr1 hc1
 have HB := Aside0.mk (Below.refl w.heap.size w)
 have H : ((slices_Clone_uint32_uint32.f l1).bind fun t109 => (some (a0, t109))) = some (r1, r2) := h
 clear h
 replace H := Option.bind_eq_some_iff.mp H
 obtain ⟨t109, A30, H⟩ := H
 replace H : (some (a0, t109)) = some (r1, r2) := H
 have A3 := Aside0.mk A30
 clear A30
 simp only [Option.some.injEq, Prod.mk.injEq] at H
 obtain ⟨rfl, rfl⟩ := H
 go_enter Tryd.func18, Tryd.ntmps18
 go_wp2_with (first | ((with_reducible refine gate_dst (N := 4) rfl ?_); refine box_event ?hg (N := 4) ?hd (cs := #[.int .u32 0, .slice none 0 0]) (t := 45) ?hr ?_; (case hd => rfl); (case hg => rfl); (case hr => first | (go_simp; done) | (go_simp; rfl)); intro gb108 hg w4 hbox hb; have n0_ := Aside0.mk (below_step (by repeat (first | (with_reducible first | exact HB.out | apply below_alloc | apply pw_below_drewN | apply below_drew1) | exact HB.out)) hb); have n1_ := Aside0.mk (hbox); have n2_ := Aside0.mk ((by rw [hg]; exact (below_size (by repeat (first | (with_reducible first | exact HB.out | apply below_alloc | apply pw_below_drewN | apply below_drew1) | exact HB.out))) : w.heap.size ≤ gb108)); have n3_ := Aside0.mk ((by rw [hg]; exact (below_size (by repeat (first | (with_reducible first | exact HB.out | apply below_alloc | apply pw_below_drewN | apply below_drew1) | exact HB.out))) : w.heap.size ≤ gb108)); clear HB; have HB := n0_; have BK108 := n1_; have GW108 := n2_; have GE108 := n3_; clear n0_ n1_ n2_ n3_; clear hb hbox hg) | ((with_reducible refine gate_callee (f := 26) rfl ?_); refine goesL_ (some 7) rfl rfl Tryd.func26 (by kernel_rfl) rfl #[.slice A1 l1.length c1] rfl (by (try simp only [List.map_toArray, List.map_cons, List.map_nil]); first | done | rfl | (simp only [List.length_drop, List.length_take]; rfl)) ?_; (with_reducible refine (slices_Clone_uint32_uint32.calls _ _ l1 t109 _ ?side1 ?side2 A3.out).mono ?_); (case side1 => repeat (first | exact (Kd.C_below HR1.out HB.out) | (with_reducible refine Kd.C_alloc ?_ _) | (with_reducible refine Kd.C_drewN ?_ _) | (with_reducible refine Kd.C_drew ?_))); (case side2 => exact HC1.out); rintro e w5 ⟨v110, rfl, ho0, hb⟩; refine ⟨_, rfl, ?_⟩; have n0_ := Aside0.mk (Kd.R_lower ho0 (below_size (by repeat (first | (with_reducible first | exact HB.out | apply below_alloc | apply pw_below_drewN | apply below_drew1 | refine below_set ?_ GE108.out) | exact HB.out)))); have n1_ := Aside0.mk (blk_below (g := gb108) (o := .cells #[.int .u32 0, .slice none 0 0] 45 (0, 0)) (by (with_reducible repeat (first | refine blk_drewN ?_ _ | refine blk_drew ?_ | refine blk_alloc ?_ _)); exact BK108.out) hb); have n2_ := Aside0.mk (below_step (by repeat (first | (with_reducible first | exact HB.out | apply below_alloc | apply pw_below_drewN | apply below_drew1 | refine below_set ?_ GE108.out) | exact HB.out)) hb); clear BK108; clear HB; have HO111 := n0_; have BK108 := n1_; have HB := n2_; clear n0_ n1_ n2_; (try clear hb); (try clear hb2); (try clear hk); (try clear hi); (try clear ho0); obtain ⟨Ao6, co6, eo6⟩ := Kd.R_slice HO111.out; subst eo6; have hcz7_0 : w5.cell? ⟨gb108, 0, none⟩ = some (.int .u32 0) := (blk_cell BK108.out 0).trans rfl; have hcz7_1 : w5.cell? ⟨gb108, 1, none⟩ = some (.slice none 0 0) := (blk_cell BK108.out 1).trans rfl; have hfz7_0 := blk_frozen BK108.out 0; have hfz7_1 := blk_frozen BK108.out 1))
 refine bodyPost_ret (results_cell_row rfl _ _ gb108 45 #[.int .u32 a0, .slice Ao6 t109.length co6] (0, 0) _ rfl (by (with_reducible repeat (first | refine blk_drewN ?_ _ | refine blk_drew ?_ | refine blk_alloc ?_ _)); refine blk_put (cs := #[.int .u32 a0, .slice none 0 0]) ?_ 1 _ rfl; (with_reducible repeat (first | refine blk_drewN ?_ _ | refine blk_drew ?_ | refine blk_alloc ?_ _)); refine blk_put (cs := #[.int .u32 0, .slice none 0 0]) ?_ 0 _ rfl; (with_reducible repeat (first | refine blk_drewN ?_ _ | refine blk_drew ?_ | refine blk_alloc ?_ _)); exact BK108.out) Tryd.underlying45 rfl (by kernel_rfl)) rfl ?_
 exact ⟨_, by first | rfl | (simp [errW_none, errW_some] <;> rfl) | (simp [*, errW_none, errW_some] <;> rfl), by (with_reducible repeat (first | apply Kd.R_alloc | apply Kd.R_drewN | apply Kd.R_drew)); exact Kd.R_mono (Kd.R_far (p := ⟨gb108, 1, none⟩) (Kd.R_far (p := ⟨gb108, 0, none⟩) (Kd.R_types HO111.out BK108.out (by decide)) (fun _ hk => hk.2) (.int .u32 a0)) (fun _ hk => hk.2) (.slice Ao6 t109.length co6)) (fun _ hk => trivial), by repeat (first | (with_reducible first | exact HB.out | apply below_alloc | apply pw_below_drewN | apply below_drew1 | refine below_set ?_ GE108.out) | exact HB.out)⟩

/-! ### wire_May: function 27 -/
def wire_May.f (a0_0 : Int) (l0_1 : List Int) : Option (Bool) := if a0_0 ≥ 1 then (if a0_0 ≤ 255 then (some (decide ((l0_1.length : Int) ≤ 16))) else (some false)) else (some false)
set_option maxHeartbeats 8000000 in
set_option maxRecDepth 100000 in
theorem wire_May.calls (a0_0 : Int) (A0_1 : Option Addr) (c0_1 : Nat) (l0_1 : List Int) (r : Bool) (w : World) (hr0_1 : Kd.C (Kd.int .u32) w A0_1 l0_1.length l0_1) (hc0_1 : l0_1.length ≤ c0_1) (h : wire_May.f a0_0 l0_1 = some r) :
  Calls Tryd.prog 27 #[.agg #[.int .u32 a0_0, .slice A0_1 l0_1.length c0_1]] w fun e w' => e = .returned (.bool r) ∧ Below w.heap.size w w' := by
 have hu45 := Tryd.underlying45
 have HR0_1 := Aside0.mk hr0_1
 have HC0_1 := Aside0.mk hc0_1
 clear hr0_1 hc0_1
 have HB := Aside0.mk (Below.refl w.heap.size w)
 have H : (if a0_0 ≥ 1 then (if a0_0 ≤ 255 then (some (decide ((l0_1.length : Int) ≤ 16))) else (some false)) else (some false)) = some r := h
 clear h
 by_cases c2 : a0_0 ≥ 1
 ·
  rw [if_pos c2] at H
  have c2b0 : decide (1 ≤ a0_0) = true := decide_eq_true c2
  clear c2
  by_cases c3 : a0_0 ≤ 255
  ·
   rw [if_pos c3] at H
   have c3b0 : decide (a0_0 ≤ 255) = true := decide_eq_true c3
   clear c3
   obtain rfl := Option.some.inj H
   go_enter Tryd.func27, Tryd.ntmps27
   go_wp2_with (first | ((with_reducible refine gate_dst (N := 1) rfl ?_); (try (refine gate_guard (by rfl) ?_; dsimp only)); refine box_event ?hg (N := 1) ?hd (cs := #[.int .u32 a0_0, .slice A0_1 l0_1.length c0_1]) (t := 45) ?hr ?_; (case hd => rfl); (case hg => rfl); (case hr => first | (go_simp; done) | (go_simp; rfl)); intro gb112 hg w4 hbox hb; have n0_ := Aside0.mk (below_step (by repeat (first | (with_reducible first | exact HB.out | apply below_alloc | apply pw_below_drewN | apply below_drew1) | exact HB.out)) hb); have n1_ := Aside0.mk (hbox); have n2_ := Aside0.mk ((by rw [hg]; exact (below_size (by repeat (first | (with_reducible first | exact HB.out | apply below_alloc | apply pw_below_drewN | apply below_drew1) | exact HB.out))) : w.heap.size ≤ gb112)); have n3_ := Aside0.mk ((by rw [hg]; exact (below_size (by repeat (first | (with_reducible first | exact HB.out | apply below_alloc | apply pw_below_drewN | apply below_drew1) | exact HB.out))) : w.heap.size ≤ gb112)); clear HB; have HB := n0_; have BK112 := n1_; have GW112 := n2_; have GE112 := n3_; clear n0_ n1_ n2_ n3_; clear hb hbox hg; have hcz5_0 : w4.cell? ⟨gb112, 0, none⟩ = some (.int .u32 a0_0) := (blk_cell BK112.out 0).trans rfl; have hcz5_1 : w4.cell? ⟨gb112, 1, none⟩ = some (.slice A0_1 l0_1.length c0_1) := (blk_cell BK112.out 1).trans rfl; have hfz5_0 := blk_frozen BK112.out 0; have hfz5_1 := blk_frozen BK112.out 1))
   go_ret
   exact ⟨by first | rfl | (simp [errW_none, errW_some] <;> rfl) | (simp [*, errW_none, errW_some] <;> rfl), by repeat (first | (with_reducible first | exact HB.out | apply below_alloc | apply pw_below_drewN | apply below_drew1 | refine below_set ?_ GE112.out) | exact HB.out)⟩
  ·
   rw [if_neg c3] at H
   have c3b0 : decide (a0_0 ≤ 255) = false := decide_eq_false c3
   clear c3
   obtain rfl := Option.some.inj H
   go_enter Tryd.func27, Tryd.ntmps27
   go_wp2_with (first | ((with_reducible refine gate_dst (N := 1) rfl ?_); (try (refine gate_guard (by rfl) ?_; dsimp only)); refine box_event ?hg (N := 1) ?hd (cs := #[.int .u32 a0_0, .slice A0_1 l0_1.length c0_1]) (t := 45) ?hr ?_; (case hd => rfl); (case hg => rfl); (case hr => first | (go_simp; done) | (go_simp; rfl)); intro gb112 hg w6 hbox hb; have n0_ := Aside0.mk (below_step (by repeat (first | (with_reducible first | exact HB.out | apply below_alloc | apply pw_below_drewN | apply below_drew1) | exact HB.out)) hb); have n1_ := Aside0.mk (hbox); have n2_ := Aside0.mk ((by rw [hg]; exact (below_size (by repeat (first | (with_reducible first | exact HB.out | apply below_alloc | apply pw_below_drewN | apply below_drew1) | exact HB.out))) : w.heap.size ≤ gb112)); have n3_ := Aside0.mk ((by rw [hg]; exact (below_size (by repeat (first | (with_reducible first | exact HB.out | apply below_alloc | apply pw_below_drewN | apply below_drew1) | exact HB.out))) : w.heap.size ≤ gb112)); clear HB; have HB := n0_; have BK112 := n1_; have GW112 := n2_; have GE112 := n3_; clear n0_ n1_ n2_ n3_; clear hb hbox hg; have hcz7_0 : w6.cell? ⟨gb112, 0, none⟩ = some (.int .u32 a0_0) := (blk_cell BK112.out 0).trans rfl; have hcz7_1 : w6.cell? ⟨gb112, 1, none⟩ = some (.slice A0_1 l0_1.length c0_1) := (blk_cell BK112.out 1).trans rfl; have hfz7_0 := blk_frozen BK112.out 0; have hfz7_1 := blk_frozen BK112.out 1))
   go_ret
   exact ⟨by first | rfl | (simp [errW_none, errW_some] <;> rfl) | (simp [*, errW_none, errW_some] <;> rfl), by repeat (first | (with_reducible first | exact HB.out | apply below_alloc | apply pw_below_drewN | apply below_drew1 | refine below_set ?_ GE112.out) | exact HB.out)⟩
 ·
  rw [if_neg c2] at H
  have c2b0 : decide (1 ≤ a0_0) = false := decide_eq_false c2
  clear c2
  obtain rfl := Option.some.inj H
  go_enter Tryd.func27, Tryd.ntmps27
  go_wp2_with (first | ((with_reducible refine gate_dst (N := 1) rfl ?_); (try (refine gate_guard (by rfl) ?_; dsimp only)); refine box_event ?hg (N := 1) ?hd (cs := #[.int .u32 a0_0, .slice A0_1 l0_1.length c0_1]) (t := 45) ?hr ?_; (case hd => rfl); (case hg => rfl); (case hr => first | (go_simp; done) | (go_simp; rfl)); intro gb112 hg w8 hbox hb; have n0_ := Aside0.mk (below_step (by repeat (first | (with_reducible first | exact HB.out | apply below_alloc | apply pw_below_drewN | apply below_drew1) | exact HB.out)) hb); have n1_ := Aside0.mk (hbox); have n2_ := Aside0.mk ((by rw [hg]; exact (below_size (by repeat (first | (with_reducible first | exact HB.out | apply below_alloc | apply pw_below_drewN | apply below_drew1) | exact HB.out))) : w.heap.size ≤ gb112)); have n3_ := Aside0.mk ((by rw [hg]; exact (below_size (by repeat (first | (with_reducible first | exact HB.out | apply below_alloc | apply pw_below_drewN | apply below_drew1) | exact HB.out))) : w.heap.size ≤ gb112)); clear HB; have HB := n0_; have BK112 := n1_; have GW112 := n2_; have GE112 := n3_; clear n0_ n1_ n2_ n3_; clear hb hbox hg; have hcz9_0 : w8.cell? ⟨gb112, 0, none⟩ = some (.int .u32 a0_0) := (blk_cell BK112.out 0).trans rfl; have hcz9_1 : w8.cell? ⟨gb112, 1, none⟩ = some (.slice A0_1 l0_1.length c0_1) := (blk_cell BK112.out 1).trans rfl; have hfz9_0 := blk_frozen BK112.out 0; have hfz9_1 := blk_frozen BK112.out 1))
  go_ret
  exact ⟨by first | rfl | (simp [errW_none, errW_some] <;> rfl) | (simp [*, errW_none, errW_some] <;> rfl), by repeat (first | (with_reducible first | exact HB.out | apply below_alloc | apply pw_below_drewN | apply below_drew1 | refine below_set ?_ GE112.out) | exact HB.out)⟩

/-! ### wire_Put: function 21 -/
def wire_Put.l0 : Nat → List (S45) → List Int → List (S45) → Int → Int → Option (List Int × Int)
 | 0, _, _, _, _, _ => none
 | k + 1, x0, x4, x7, x8, x9 => if x9 < x8 then (if 0 ≤ x9 then (if x9 < (x7.length : Int) then ((wire_May.f ((rd_T45 x7 x9).f0) ((rd_T45 x7 x9).f1)).bind fun t115 => (if t115 = true then ((some (([(rd_T45 x7 x9).f0, ((((rd_T45 x7 x9).f1).length : Int)) % 4294967296] : List Int) : List Int)).bind fun y116 => (if x4.length + y116.length < 35184372088832 then ((some (x4 ++ y116 : List Int)).bind fun y119 => (if y119.length + ((rd_T45 x7 x9).f1).length < 35184372088832 then (wire_Put.l0 k x0 (y119 ++ ((rd_T45 x7 x9).f1)) x7 x8 (wrap64 (x9 + 1))) else (none))) else (none))) else (some (([] : List Int), 2)))) else (none)) else (none)) else (if (x0.length : Int) > 8 then (some (([] : List Int), 3)) else (if (x4.length : Int) > 64 then (some (([] : List Int), 3)) else (some (x4, 0))))
def wire_Put.f (k : Nat) (l0 : List (S45)) : Option (List Int × Int) := wire_Put.l0 k l0 ([] : List Int) l0 (l0.length : Int) 0
theorem wire_Put.mono_l : ∀ k, (∀ y0 y1 y2 y3 y4, LeO (wire_Put.l0 k y0 y1 y2 y3 y4) (wire_Put.l0 (k + 1) y0 y1 y2 y3 y4))
 | 0 => fun _ _ _ _ _ r h => by simp [wire_Put.l0] at h
 | k + 1 => by
  have ih0 := wire_Put.mono_l k
  ·
   intro y0 y1 y2 y3 y4
   unfold wire_Put.l0
   repeat' first
   | (with_reducible exact ih0 _ _ _ _ _)
   | (with_reducible exact LeO.refl _)
   | (with_reducible exact LeO.none _)
   | (with_reducible refine LeO.ite ?_ ?_)
   | (with_reducible refine LeO.bind ?_ (fun _ => ?_))
   | exact ih0 _ _ _ _ _
   | exact LeO.none _
   | refine LeO.ite ?_ ?_
   | refine LeO.bind ?_ (fun _ => ?_)
theorem wire_Put.mono : ∀ a0 k, LeO (wire_Put.f k a0) (wire_Put.f (k + 1) a0) := by
 intro a0 k
 have ih0 := wire_Put.mono_l k
 unfold wire_Put.f
 repeat' first
   | (with_reducible exact ih0 _ _ _ _ _)
   | (with_reducible exact LeO.refl _)
   | (with_reducible exact LeO.none _)
   | (with_reducible refine LeO.ite ?_ ?_)
   | (with_reducible refine LeO.bind ?_ (fun _ => ?_))
   | exact ih0 _ _ _ _ _
   | exact LeO.none _
   | refine LeO.ite ?_ ?_
   | refine LeO.bind ?_ (fun _ => ?_)
def wire_Put.T7 : Bool × List (List Nat × List Nat) := (true, [([], []), ([], []), ([1], [1]), ([], []), ([3], [3]), ([4], [4]), ([5], [5]), ([2, 6], [2, 6]), ([0, 7], [0, 7]), ([], []), ([9], [9]), ([8, 10, 8], [8, 10]), ([11, 11, 0, 1, 2, 3, 4, 5, 6, 7, 8, 9, 10, 11], [0, 11])])
def wire_Put.B7 : List Nat := [0, 0, 2, 0, 8, 24, 56, 126, 255, 0, 512, 2047, 4095]
theorem wire_Put.tab7 : rtab .any (opsOf Tryd.f21 7) = wire_Put.T7 := by kernel_rfl
theorem wire_Put.bits7 : waitsOk wire_Put.T7.2 wire_Put.B7 = true := by kernel_rfl
set_option maxHeartbeats 8000000 in
set_option maxRecDepth 100000 in
theorem wire_Put.calls (k : Nat) (A0 : Option Addr) (c0 : Nat) (l0 : List (S45)) (r1 : List Int) (r2 : Int) (w : World) (hr0 : Kd.C k45 w A0 l0.length l0) (hc0 : l0.length ≤ c0) (h : wire_Put.f k l0 = some (r1, r2)) :
  Calls Tryd.prog 21 #[.slice A0 l0.length c0] w fun e w' => ∃ v0_ : Value, e = .returned (.tuple #[v0_, .int .i64 r2]) ∧ Kd.R (Kd.int .u32) 22 w' w.heap.size (fun _ => True) v0_ r1 ∧ Below w.heap.size w w' := by
 have hu45 := Tryd.underlying45
 have HR0 := Aside0.mk hr0
 have HC0 := Aside0.mk hc0
 clear hr0 hc0
 have HB := Aside0.mk (Below.refl w.heap.size w)
 have H : (wire_Put.l0 k l0 ([] : List Int) l0 (l0.length : Int) 0) = some (r1, r2) := h
 clear h
 have H' := Aside0.mk H
 clear H
 go_enter Tryd.func21, Tryd.ntmps21
 go_wp2
 go_loopg [4, 9] k (fun kq v4 v9 w' => ∃ (x4_1 : List Int) (x9_1 : Int), v9 = .int .i64 x9_1 ∧ Aside0 (wire_Put.l0 kq l0 x4_1 l0 (l0.length : Int) x9_1 = some (r1, r2)) ∧ Aside0 (kq ≤ k) ∧ Aside0 (Kd.R (Kd.int .u32) 22 w' w.heap.size (fun _ => True) v4 x4_1) ∧ Aside0 (Below w.heap.size w w'))
 case atStart => exact ⟨(([] : List Int)), (0), (by first | rfl | (simp; done) | (simp [*]; done)), H', ⟨Nat.le_refl _⟩, ⟨by first | exact Kd.R_nil _ _ _ _ _ | exact Kd.N_nil _ _ _ _ _ | exact Kd.V_nil _ _ _ _ _ | exact Kd.Q_nil _ _ _ _ _ | exact Kd.S_nil _ _ _ _ _⟩, ⟨by repeat (first | (with_reducible first | exact HB.out | apply below_alloc | apply pw_below_drewN | apply below_drew1) | exact HB.out)⟩⟩
 case round =>
  clear H'
  obtain ⟨x4_1, x9_1, rfl, HA, HK1, HO_4, HB⟩ := hrel
  cases gk with
  | zero => exact absurd HA.out (by simp [wire_Put.l0])
  | succ k1 =>
   have H := HA.out
   clear HA
   simp only [wire_Put.l0] at H
   by_cases c2 : x9_1 < (l0.length : Int)
   ·
    rw [if_pos c2] at H
    have c2b0 : decide (x9_1 < (l0.length : Int)) = true := decide_eq_true c2
    clear c2
    by_cases c3 : 0 ≤ x9_1
    ·
     rw [if_pos c3] at H
     have c3b0 : decide (0 ≤ x9_1) = true := decide_eq_true c3
     clear c3
     by_cases c4 : x9_1 < (l0.length : Int)
     ·
      rw [if_pos c4] at H
      have c4b0 : decide (x9_1 < (l0.length : Int)) = true := decide_eq_true c4
      clear c4
      replace H := Option.bind_eq_some_iff.mp H
      obtain ⟨t115, A50, H⟩ := H
      replace H : (if t115 = true then ((some (([(rd_T45 l0 x9_1).f0, ((((rd_T45 l0 x9_1).f1).length : Int)) % 4294967296] : List Int) : List Int)).bind fun y116 => (if x4_1.length + y116.length < 35184372088832 then ((some (x4_1 ++ y116 : List Int)).bind fun y119 => (if y119.length + ((rd_T45 l0 x9_1).f1).length < 35184372088832 then (wire_Put.l0 k1 l0 (y119 ++ ((rd_T45 l0 x9_1).f1)) l0 (l0.length : Int) (wrap64 (x9_1 + 1))) else (none))) else (none))) else (some (([] : List Int), 2))) = some (r1, r2) := H
      have A5 := Aside0.mk A50
      clear A50
      by_cases c6 : t115 = true
      ·
       subst c6
       have H1 : ((some (([(rd_T45 l0 x9_1).f0, ((((rd_T45 l0 x9_1).f1).length : Int)) % 4294967296] : List Int) : List Int)).bind fun y116 => (if x4_1.length + y116.length < 35184372088832 then ((some (x4_1 ++ y116 : List Int)).bind fun y119 => (if y119.length + ((rd_T45 l0 x9_1).f1).length < 35184372088832 then (wire_Put.l0 k1 l0 (y119 ++ ((rd_T45 l0 x9_1).f1)) l0 (l0.length : Int) (wrap64 (x9_1 + 1))) else (none))) else (none))) = some (r1, r2) := by rw [if_pos rfl] at H; exact H
       clear H
       have H := H1
       clear H1
       obtain ⟨y116, hy116⟩ : ∃ y_ : List Int, y_ = (([(rd_T45 l0 x9_1).f0, ((((rd_T45 l0 x9_1).f1).length : Int)) % 4294967296] : List Int)) := ⟨_, rfl⟩
       replace H : (if x4_1.length + y116.length < 35184372088832 then ((some (x4_1 ++ y116 : List Int)).bind fun y119 => (if y119.length + ((rd_T45 l0 x9_1).f1).length < 35184372088832 then (wire_Put.l0 k1 l0 (y119 ++ ((rd_T45 l0 x9_1).f1)) l0 (l0.length : Int) (wrap64 (x9_1 + 1))) else (none))) else (none)) = some (r1, r2) := by first | (rw [hy116]; with_reducible exact H) | (have H2_ := (Option.bind_some _ _).symm.trans H; rw [hy116]; with_reducible exact H2_) | (have H2_ := (Option.bind_some _ _).symm.trans H; with_reducible exact H2_) | with_reducible exact H | (rw [hy116]; exact H) | exact H
       have Ny116 := Aside0.mk hy116
       clear hy116
       by_cases c7 : x4_1.length + y116.length < 35184372088832
       ·
        rw [if_pos c7] at H
        have LMc7 := Aside0.mk c7
        clear c7
        obtain ⟨y119, hy119⟩ : ∃ y_ : List Int, y_ = (x4_1 ++ y116) := ⟨_, rfl⟩
        replace H : (if y119.length + ((rd_T45 l0 x9_1).f1).length < 35184372088832 then (wire_Put.l0 k1 l0 (y119 ++ ((rd_T45 l0 x9_1).f1)) l0 (l0.length : Int) (wrap64 (x9_1 + 1))) else (none)) = some (r1, r2) := by first | (rw [hy119]; with_reducible exact H) | (have H2_ := (Option.bind_some _ _).symm.trans H; rw [hy119]; with_reducible exact H2_) | (have H2_ := (Option.bind_some _ _).symm.trans H; with_reducible exact H2_) | with_reducible exact H | (rw [hy119]; exact H) | exact H
        have Ny119 := Aside0.mk hy119
        clear hy119
        by_cases c8 : y119.length + ((rd_T45 l0 x9_1).f1).length < 35184372088832
        ·
         rw [if_pos c8] at H
         have LMc8 := Aside0.mk c8
         clear c8
         obtain ⟨y122, hy122⟩ : ∃ y_ : List Int, y_ = (y119 ++ ((rd_T45 l0 x9_1).f1)) := ⟨_, rfl⟩
         replace H : (wire_Put.l0 k1 l0 y122 l0 (l0.length : Int) (wrap64 (x9_1 + 1))) = some (r1, r2) := by first | (rw [hy122]; with_reducible exact H) | (have H2_ := (Option.bind_some _ _).symm.trans H; rw [hy122]; with_reducible exact H2_) | (have H2_ := (Option.bind_some _ _).symm.trans H; with_reducible exact H2_) | with_reducible exact H | (rw [hy122]; exact H) | exact H
         have Ny122 := Aside0.mk hy122
         clear hy122
         have H' := Aside0.mk H
         clear H
         have p113 : 0 ≤ (x9_1 : Int) := of_decide_eq_true (by first | (with_reducible assumption) | assumption)
         have q113 : x9_1 < (l0.length : Int) := of_decide_eq_true (by first | (with_reducible assumption) | assumption)
         obtain ⟨ad113, A113_1, c113_1, e113, hx113_0, hx113_1, hl113_1, hi113_1⟩ := at_T45 HR0.out x9_1 p113 q113
         cases e113
         replace hx113_0 := (HB.out.cell (World.block_lt_of_cell? w _ hx113_0)).trans hx113_0
         replace hx113_1 := (HB.out.cell (World.block_lt_of_cell? w _ hx113_1)).trans hx113_1
         have HR113_1 := Aside0.mk hi113_1
         have HC113_1 := Aside0.mk hl113_1
         clear hi113_1 hl113_1
         replace p113 := eq_true p113
         replace q113 := eq_true q113
         try go_wp2_with (first | ((with_reducible refine gate_dst (N := 6) rfl ?_); (try (refine gate_guard (by rfl) ?_; dsimp only)); refine box_event ?hg (N := 6) ?hd (cs := #[.int .u32 0, .slice none 0 0]) (t := 45) ?hr ?_; (case hd => rfl); (case hg => rfl); (case hr => first | (go_simp; done) | (go_simp; rfl)); intro gb114 hg w9 hbox hb; have n0_ := Aside0.mk (rb_ HO_4.out hb); have n1_ := Aside0.mk (bs_ hb); have n2_ := Aside0.mk (hbox); have n4_ := Aside0.mk ((ge_ hg : w.heap.size ≤ gb114)); clear HO_4 HB; have HO_4 := n0_; have HB := n1_; have BK114 := n2_; have GE114 := n4_; clear n0_ n1_ n2_ n4_; clear hb hbox hg; have ⟨hcz10_0, hcz10_1⟩ := cz2_ BK114.out; have ⟨hfz10_0, hfz10_1⟩ := fz2_ BK114.out) | ((with_reducible refine gate_callee (f := 27) rfl ?_); refine goesL_ (some 14) rfl rfl Tryd.func27 (by kernel_rfl) rfl #[.agg #[.int .u32 ((rd_T45 l0 x9_1).f0), .slice A113_1 ((rd_T45 l0 x9_1).f1).length c113_1]] rfl (by (try simp only [List.map_toArray, List.map_cons, List.map_nil]); first | done | rfl | (simp only [List.length_drop, List.length_take]; rfl)) ?_; (with_reducible refine (wire_May.calls ((rd_T45 l0 x9_1).f0) _ _ ((rd_T45 l0 x9_1).f1) true _ ?side1 ?side2 A5.out).mono ?_); (case side1 => exact Kd.C_below HR113_1.out (by repeat (first | (with_reducible first | exact HB.out | apply below_alloc | apply pw_below_drewN | apply below_drew1 | refine below_set ?_ GE114.out) | exact HB.out))); (case side2 => exact HC113_1.out); rintro e w11 ⟨rfl, hb⟩; refine ⟨_, rfl, ?_⟩; have n0_ := Aside0.mk (Kd.R_below (by (with_reducible repeat (first | apply Kd.R_alloc | apply Kd.R_drewN | apply Kd.R_drew)); exact (Kd.R_mono (r2_ (g := gb114) (Kd.R_types HO_4.out BK114.out (by decide))) (fun _ h_ => h_.1))) hb); have n1_ := Aside0.mk (blk_below (g := gb114) (o := .cells #[.int .u32 ((rd_T45 l0 x9_1).f0), .slice A113_1 ((rd_T45 l0 x9_1).f1).length c113_1] 45 (0, 0)) (bp2_ BK114.out) hb); have n2_ := Aside0.mk (bs_ hb); clear HO_4 BK114 HB; have HO_4 := n0_; have BK114 := n1_; have HB := n2_; clear n0_ n1_ n2_; (try clear hb); (try clear hb2); (try clear hk); (try clear hi)))
         have n0_ := Aside0.mk (Kd.R_drew HO_4.out)
         have n1_ := Aside0.mk (blk_drew BK114.out)
         have n2_ := Aside0.mk (below_drew1 HB.out)
         clear HO_4 BK114 HB
         have HO_4 := n0_
         have BK114 := n1_
         have HB := n2_
         clear n0_ n1_ n2_
         refine start_ (n := 13) (S := fun w' => w'.cell? ⟨gb114, 0, none⟩ = some (.int .u32 ((rd_T45 l0 x9_1).f0)) ∧ w'.cell? ⟨gb114, 1, none⟩ = some (.slice A113_1 ((rd_T45 l0 x9_1).f1).length c113_1)) (ds := []) #[Z,Z,Z,Z,Z,Z,Z,Z,Z,Z,Z,Z,Z] (by kernel_rfl) rfl rfl ⟨(blk_cell BK114.out 0).trans rfl, (blk_cell BK114.out 1).trans rfl⟩ (fun hHeld => ?_); refine with_tabW wire_Put.tab7 wire_Put.bits7 (fun HT_ HW_ => ?_)
         generalize w11.drew = w12 at HO_4 BK114 HB hHeld ⊢
         refine pure_ (i := 0) (N := some 16) (v := ?_) (a' := ?_) #[Y,Z,Z,Z,Z,Z,Z,Z,Z,Z,Z,Z,Z] rfl rfl (any_of HT_.out (by kernel_rfl)) (fun _ _ _ h => h) (Or.inl ⟨by rfl, ?_⟩) ?_ ?_
         rotate_left
         ·
          intro w'
          go_simp
          with_reducible rfl
         rotate_left
         ·
          simp only [Act.put, List.setIfInBounds_toArray, List.set_cons_zero, List.set_cons_succ, i64_w, i32_w]
          rfl
         refine pure_ (i := 1) (N := some 17) (v := ?_) (a' := ?_) #[Y,Y,Z,Z,Z,Z,Z,Z,Z,Z,Z,Z,Z] rfl rfl (any_of HT_.out (by kernel_rfl)) (fun _ _ _ h => h) (Or.inl ⟨by rfl, ?_⟩) ?_ ?_
         rotate_left
         ·
          intro w'
          go_simp
          with_reducible rfl
         rotate_left
         ·
          simp only [Act.put, List.setIfInBounds_toArray, List.set_cons_zero, List.set_cons_succ, i64_w, i32_w]
          rfl
         refine pure_ (i := 3) (N := some 19) (v := ?_) (a' := ?_) #[Y,Y,Z,Y,Z,Z,Z,Z,Z,Z,Z,Z,Z] rfl rfl (any_of HT_.out (by kernel_rfl)) (fun _ _ _ h => h) (Or.inl ⟨by rfl, ?_⟩) ?_ ?_
         rotate_left
         ·
          intro w'
          go_simp
          with_reducible rfl
         rotate_left
         ·
          simp only [Act.put, List.setIfInBounds_toArray, List.set_cons_zero, List.set_cons_succ, i64_w, i32_w]
          rfl
         refine pure_ (i := 9) (N := some 25) (v := ?_) (a' := ?_) #[Y,Y,Z,Y,Z,Z,Z,Z,Z,Y,Z,Z,Z] rfl rfl (any_of HT_.out (by kernel_rfl)) (fun _ _ _ h => h) (Or.inl ⟨by rfl, ?_⟩) ?_ ?_
         rotate_left
         ·
          intro w'
          go_simp
          with_reducible rfl
         rotate_left
         ·
          simp only [Act.put, List.setIfInBounds_toArray, List.set_cons_zero, List.set_cons_succ, i64_w, i32_w]
          rfl
         refine take_ (i := 2) (N := some 18) (v := ?_) (a' := ?_) #[Y,Y,Y,Y,Z,Z,Z,Z,Z,Y,Z,Z,Z] rfl rfl (take_ofW HT_.out HW_.out (by kernel_rfl)) (fun _ _ _ h => h) (Or.inl ⟨by rfl, ?_⟩) hHeld ?_ ?_
         rotate_left
         ·
          rintro w' ⟨s0, s1⟩
          go_simp
          with_reducible rfl
         rotate_left
         ·
          simp only [Act.put, List.setIfInBounds_toArray, List.set_cons_zero, List.set_cons_succ, i64_w, i32_w]
          rfl
         refine take_ (i := 4) (N := some 20) (v := ?_) (a' := ?_) #[Y,Y,Y,Y,Y,Z,Z,Z,Z,Y,Z,Z,Z] rfl rfl (take_ofW HT_.out HW_.out (by kernel_rfl)) (fun _ _ _ h => h) (Or.inl ⟨by rfl, ?_⟩) hHeld ?_ ?_
         rotate_left
         ·
          rintro w' ⟨s0, s1⟩
          go_simp
          with_reducible rfl
         rotate_left
         ·
          simp only [Act.put, List.setIfInBounds_toArray, List.set_cons_zero, List.set_cons_succ, i64_w, i32_w]
          rfl
         refine pure_ (i := 5) (N := some 21) (v := ?_) (a' := ?_) #[Y,Y,Y,Y,Y,Y,Z,Z,Z,Y,Z,Z,Z] rfl rfl (any_of HT_.out (by kernel_rfl)) (fun _ _ _ h => h) (Or.inl ⟨by rfl, ?_⟩) ?_ ?_
         rotate_left
         ·
          intro w'
          go_simp
          with_reducible rfl
         rotate_left
         ·
          simp only [Act.put, List.setIfInBounds_toArray, List.set_cons_zero, List.set_cons_succ, i64_w, i32_w]
          rfl
         refine pure_ (i := 6) (N := some 22) (v := ?_) (a' := ?_) #[Y,Y,Y,Y,Y,Y,Y,Z,Z,Y,Z,Z,Z] rfl rfl (any_of HT_.out (by kernel_rfl)) (fun _ _ _ h => h) (Or.inl ⟨by rfl, ?_⟩) ?_ ?_
         rotate_left
         ·
          intro w'
          go_simp
          with_reducible rfl
         rotate_left
         ·
          simp only [Act.put, List.setIfInBounds_toArray, List.set_cons_zero, List.set_cons_succ, i64_w, i32_w]
          rfl
         refine take_ (i := 10) (N := some 26) (v := ?_) (a' := ?_) #[Y,Y,Y,Y,Y,Y,Y,Z,Z,Y,Y,Z,Z] rfl rfl (take_ofW HT_.out HW_.out (by kernel_rfl)) (fun _ _ _ h => h) (Or.inl ⟨by rfl, ?_⟩) hHeld ?_ ?_
         rotate_left
         ·
          rintro w' ⟨s0, s1⟩
          go_simp
          with_reducible rfl
         rotate_left
         ·
          simp only [Act.put, List.setIfInBounds_toArray, List.set_cons_zero, List.set_cons_succ, i64_w, i32_w]
          rfl
         refine one_ (i := 7) (N := some 23) #[Y,Y,Y,Y,Y,Y,Y,Y,Z,Y,Y,Z,Z] rfl rfl (one_of HT_.out (by kernel_rfl)) (by decide) (fun K hK => ?_)
         refine Kd.R_lit_step (Kd.int .u32) _ 22 ?hg (N := 23) ?hd (xs := ([(rd_T45 l0 x9_1).f0, ((((rd_T45 l0 x9_1).f1).length : Int)) % 4294967296] : List Int)) (inner := [.int .u32 ((rd_T45 l0 x9_1).f0), .int .u32 (((((rd_T45 l0 x9_1).f1).length : Int)) % 4294967296)]) (ok := fun _ => True) (okp := fun _ => True) ?hr ?hp (fun _ hk => hk) trivial (Below.refl _ _) (Nat.le_refl _) (by simp) ?_; (case hd => rfl); (case hg => rfl); (case hr => first | (go_simp; done) | (go_simp; rfl)); (case hp => exact (Reps.one (show Kd.M (Kd.int .u32) _ _ _ ((rd_T45 l0 x9_1).f0) [.int .u32 ((rd_T45 l0 x9_1).f0)] from rfl) (Reps.one (show Kd.M (Kd.int .u32) _ _ _ (((((rd_T45 l0 x9_1).f1).length : Int)) % 4294967296) [.int .u32 (((((rd_T45 l0 x9_1).f1).length : Int)) % 4294967296)] from rfl) (Reps.none _ _))))
         intro v117 w13 ho14 hb hg_ hnew_
         clear hg_ hnew_
         (first | rw [← Ny116.out] at ho14 | (simp only [Int.reduceToNat] at ho14; rw [← Ny116.out] at ho14))
         have n0_ := Aside0.mk (rf_ HO_4.out (Kd.R_base ho14) hb)
         have n1_ := Aside0.mk (Kd.R_lower (Kd.R_new' ho14 (Kd.R_lt (by (with_reducible repeat (first | apply Kd.R_alloc | apply Kd.R_drewN | apply Kd.R_drew)); exact HO_4.out))) (below_size (by repeat (first | (with_reducible first | exact HB.out | apply below_alloc | apply pw_below_drewN | apply below_drew1 | refine below_set ?_ GE114.out) | exact HB.out))))
         have n2_ := Aside0.mk (bb_ BK114.out hb)
         have n3_ := Aside0.mk (bs_ hb)
         clear HO_4 BK114 HB
         have HO_4 := n0_
         have HO118 := n1_
         have BK114 := n2_
         have HB := n3_
         clear n0_ n1_ n2_ n3_
         clear hb ho14
         obtain ⟨Ao16, co16, eo16⟩ := Kd.R_slice HO118.out
         (first | subst eo16 | (injection eo16 with f1_ f2_ f3_; have f4_ := f1_.symm; have f5_ := f3_.symm; clear f1_ f2_ f3_; subst f4_; subst f5_))
         refine hK.out _ _ ⟨(blk_cell BK114.out 0).trans rfl, (blk_cell BK114.out 1).trans rfl⟩ (fun hHeld => ?_)
         clear hK K
         refine norm_ (a' := ?_) ?_ ?_
         rotate_left
         ·
          show Act.put _ (some 23) _ = _
          simp only [Act.put, List.setIfInBounds_toArray, List.set_cons_zero, List.set_cons_succ, i64_w, i32_w]
          rfl
         refine one_ (i := 8) (N := some 24) #[Y,Y,Y,Y,Y,Y,Y,Y,Y,Y,Y,Z,Z] rfl rfl (one_of HT_.out (by kernel_rfl)) (by decide) (fun K hK => ?_)
         refine Kd.R_append_rows_step (Kd.int .u32) (w0 := w) w.heap.size (by rfl) (.tmp 16) (.tmp 23) 26 22 (.int .u32 0) 4 rfl Tryd.underlying26 info22 rfl (by decide) (by omega) u4 x4_1 y116 _ _ _ (fun k_ => some k_ ≠ (.slice Ao16 y116.length co16 : Value).ownBlock) (fun _ => False) rfl rfl ?aO ?aR (fun _ _ h => h) (fun _ h => h.elim) ?aF ?aB ?aS ?aL ?_
         (case aR => repeat (first | exact (Kd.R_reads' HO118.out).2.2 | (with_reducible refine Kd.C_alloc ?_ _) | (with_reducible refine Kd.C_drewN ?_ _) | (with_reducible refine Kd.C_drew ?_)))
         (case aB => exact (by repeat (first | (with_reducible first | exact HB.out | apply below_alloc | apply pw_below_drewN | apply below_drew1 | refine below_set ?_ GE114.out) | exact HB.out)))
         (case aF => exact (fun k_ hk => Kd.fresh' (Kd.R_lt (by (with_reducible repeat (first | apply Kd.R_alloc | apply Kd.R_drewN | apply Kd.R_drew)); exact HO118.out)) k_ hk))
         (case aO => exact (by (with_reducible repeat (first | apply Kd.R_alloc | apply Kd.R_drewN | apply Kd.R_drew)); exact Kd.R_mono HO_4.out (fun _ hk => hk.2)))
         (case aS => exact (below_size (by repeat (first | (with_reducible first | exact HB.out | apply below_alloc | apply pw_below_drewN | apply below_drew1 | refine below_set ?_ GE114.out) | exact HB.out))))
         (case aL => have := LMc7.out; omega)
         intro v120 w15 ho hb hg hat
         rw [← Ny119.out] at ho
         have n0_ := Aside0.mk (blk_grown (g := gb114) (o := .cells #[.int .u32 ((rd_T45 l0 x9_1).f0), .slice A113_1 ((rd_T45 l0 x9_1).f1).length c113_1] 45 (0, 0)) (by (with_reducible repeat (first | refine blk_drewN ?_ _ | refine blk_drew ?_ | refine blk_alloc ?_ _)); exact BK114.out) hg (Kd.R_ne HO_4.out BK114.out (by decide)))
         have n1_ := Aside0.mk (Kd.R_after (ok := (fun _ => True)) (by (with_reducible repeat (first | apply Kd.R_alloc | apply Kd.R_drewN | apply Kd.R_drew)); exact HO118.out) hg hat)
         have n2_ := Aside0.mk (hb)
         have n3_ := Aside0.mk (ho)
         clear BK114 HO118 HB HO_4
         have BK114 := n0_
         have HO118 := n1_
         have HB := n2_
         have HO121 := n3_
         clear n0_ n1_ n2_ n3_
         clear ho hb hg hat
         refine hK.out _ _ ⟨(blk_cell BK114.out 0).trans rfl, (blk_cell BK114.out 1).trans rfl⟩ (fun hHeld => ?_)
         clear hK K
         refine norm_ (a' := ?_) ?_ ?_
         rotate_left
         ·
          show Act.put _ (some 24) _ = _
          simp only [Act.put, List.setIfInBounds_toArray, List.set_cons_zero, List.set_cons_succ, i64_w, i32_w]
          rfl
         refine one_ (i := 11) (N := some 27) #[Y,Y,Y,Y,Y,Y,Y,Y,Y,Y,Y,Y,Z] rfl rfl (one_of HT_.out (by kernel_rfl)) (by decide) (fun K hK => ?_)
         refine Kd.R_append_rows_step (Kd.int .u32) (w0 := w) w.heap.size (by rfl) (.tmp 24) (.tmp 26) 26 22 (.int .u32 0) 4 rfl Tryd.underlying26 info22 rfl (by decide) (by omega) v120 y119 ((rd_T45 l0 x9_1).f1) _ _ _ (fun k_ => some k_ ≠ (.slice Ao16 y116.length co16 : Value).ownBlock) (fun _ => False) rfl rfl ?aO ?aR (fun _ _ h => h) (fun _ h => h.elim) ?aF ?aB ?aS ?aL ?_
         (case aR => repeat (first | exact (Kd.C_below HR113_1.out HB.out) | (with_reducible refine Kd.C_alloc ?_ _) | (with_reducible refine Kd.C_drewN ?_ _) | (with_reducible refine Kd.C_drew ?_)))
         (case aB => exact (by repeat (first | (with_reducible first | exact HB.out | apply below_alloc | apply pw_below_drewN | apply below_drew1 | refine below_set ?_ GE114.out) | exact HB.out)))
         (case aF => exact (fun k_ hk => Kd.fresh' (Kd.R_lt (by (with_reducible repeat (first | apply Kd.R_alloc | apply Kd.R_drewN | apply Kd.R_drew)); exact HO118.out)) k_ hk))
         (case aO => exact (by (with_reducible repeat (first | apply Kd.R_alloc | apply Kd.R_drewN | apply Kd.R_drew)); exact HO121.out))
         (case aS => exact (below_size (by repeat (first | (with_reducible first | exact HB.out | apply below_alloc | apply pw_below_drewN | apply below_drew1 | refine below_set ?_ GE114.out) | exact HB.out))))
         (case aL => have := LMc8.out; omega)
         intro v123 w17 ho hb hg hat
         rw [← Ny122.out] at ho
         have n0_ := Aside0.mk (blk_grown (g := gb114) (o := .cells #[.int .u32 ((rd_T45 l0 x9_1).f0), .slice A113_1 ((rd_T45 l0 x9_1).f1).length c113_1] 45 (0, 0)) (by (with_reducible repeat (first | refine blk_drewN ?_ _ | refine blk_drew ?_ | refine blk_alloc ?_ _)); exact BK114.out) hg (Kd.R_ne HO121.out BK114.out (by decide)))
         have n2_ := Aside0.mk (hb)
         have n3_ := Aside0.mk (ho)
         clear BK114 HO118 HB HO121
         have BK114 := n0_
         have HB := n2_
         have HO124 := n3_
         clear n0_ n2_ n3_
         clear ho hb hg hat
         refine hK.out _ _ ⟨(blk_cell BK114.out 0).trans rfl, (blk_cell BK114.out 1).trans rfl⟩ (fun hHeld => ?_)
         clear hK K
         refine norm_ (a' := ?_) ?_ ?_
         rotate_left
         ·
          show Act.put _ (some 27) _ = _
          simp only [Act.put, List.setIfInBounds_toArray, List.set_cons_zero, List.set_cons_succ, i64_w, i32_w]
          rfl
         refine pure_ (i := 12) (N := some 4) (v := ?_) (a' := ?_) #[Y,Y,Y,Y,Y,Y,Y,Y,Y,Y,Y,Y,Y] rfl rfl (any_of HT_.out (by kernel_rfl)) (fun _ _ _ h => h) (Or.inl ⟨by rfl, ?_⟩) ?_ ?_
         rotate_left
         ·
          intro w'
          go_simp
          with_reducible rfl
         rotate_left
         ·
          simp only [Act.put, List.setIfInBounds_toArray, List.set_cons_zero, List.set_cons_succ, i64_w, i32_w]
          rfl
         refine done_ (done_of HT_.out (by kernel_rfl)) ?_
         try go_wp2
         go_roundg k1
         case measure => have := HK1.out; omega
         case rel => exact ⟨(y122), (wrap64 (x9_1 + 1)), (by first | rfl | (simp; done) | (simp [*]; done)), H', ⟨by have := HK1.out; omega⟩, ⟨by (with_reducible repeat (first | apply Kd.R_alloc | apply Kd.R_drewN | apply Kd.R_drew)); exact Kd.R_mono HO124.out (fun _ hk => trivial)⟩, ⟨by repeat (first | (with_reducible first | exact HB.out | apply below_alloc | apply pw_below_drewN | apply below_drew1 | refine below_set ?_ GE114.out) | exact HB.out)⟩⟩
        ·
         rw [if_neg c8] at H
         exact absurd H (by simp)
       ·
        rw [if_neg c7] at H
        exact absurd H (by simp)
      ·
       replace c6 := Bool.eq_false_iff.mpr c6
       subst c6
       have H1 : (some (([] : List Int), 2)) = some (r1, r2) := by rw [if_neg (show ¬ (false = true) by decide)] at H; exact H
       clear H
       have H := H1
       clear H1
       simp only [Option.some.injEq, Prod.mk.injEq] at H
       obtain ⟨rfl, rfl⟩ := H
       have p113 : 0 ≤ (x9_1 : Int) := of_decide_eq_true (by first | (with_reducible assumption) | assumption)
       have q113 : x9_1 < (l0.length : Int) := of_decide_eq_true (by first | (with_reducible assumption) | assumption)
       obtain ⟨ad113, A113_1, c113_1, e113, hx113_0, hx113_1, hl113_1, hi113_1⟩ := at_T45 HR0.out x9_1 p113 q113
       cases e113
       replace hx113_0 := (HB.out.cell (World.block_lt_of_cell? w _ hx113_0)).trans hx113_0
       replace hx113_1 := (HB.out.cell (World.block_lt_of_cell? w _ hx113_1)).trans hx113_1
       have HR113_1 := Aside0.mk hi113_1
       have HC113_1 := Aside0.mk hl113_1
       clear hi113_1 hl113_1
       replace p113 := eq_true p113
       replace q113 := eq_true q113
       go_wp2_with (first | ((with_reducible refine gate_dst (N := 6) rfl ?_); (try (refine gate_guard (by rfl) ?_; dsimp only)); refine box_event ?hg (N := 6) ?hd (cs := #[.int .u32 0, .slice none 0 0]) (t := 45) ?hr ?_; (case hd => rfl); (case hg => rfl); (case hr => first | (go_simp; done) | (go_simp; rfl)); intro gb114 hg w18 hbox hb; have n1_ := Aside0.mk (bs_ hb); have n2_ := Aside0.mk (hbox); have n4_ := Aside0.mk ((ge_ hg : w.heap.size ≤ gb114)); clear HO_4 HB; have HB := n1_; have BK114 := n2_; have GE114 := n4_; clear n1_ n2_ n4_; clear hb hbox hg; have ⟨hcz19_0, hcz19_1⟩ := cz2_ BK114.out; have ⟨hfz19_0, hfz19_1⟩ := fz2_ BK114.out) | ((with_reducible refine gate_callee (f := 27) rfl ?_); refine goesL_ (some 14) rfl rfl Tryd.func27 (by kernel_rfl) rfl #[.agg #[.int .u32 ((rd_T45 l0 x9_1).f0), .slice A113_1 ((rd_T45 l0 x9_1).f1).length c113_1]] rfl (by (try simp only [List.map_toArray, List.map_cons, List.map_nil]); first | done | rfl | (simp only [List.length_drop, List.length_take]; rfl)) ?_; (with_reducible refine (wire_May.calls ((rd_T45 l0 x9_1).f0) _ _ ((rd_T45 l0 x9_1).f1) false _ ?side1 ?side2 A5.out).mono ?_); (case side1 => exact Kd.C_below HR113_1.out (by repeat (first | (with_reducible first | exact HB.out | apply below_alloc | apply pw_below_drewN | apply below_drew1 | refine below_set ?_ GE114.out) | exact HB.out))); (case side2 => exact HC113_1.out); rintro e w20 ⟨rfl, hb⟩; refine ⟨_, rfl, ?_⟩; have n2_ := Aside0.mk (bs_ hb); clear BK114 HB; have HB := n2_; clear n2_; (try clear hb); (try clear hb2); (try clear hk); (try clear hi)))
       go_ret2
       exact ⟨_, by first | rfl | (simp [errW_none, errW_some] <;> rfl) | (simp [*, errW_none, errW_some] <;> rfl), by first | exact Kd.R_nil _ _ _ _ _ | exact Kd.N_nil _ _ _ _ _ | exact Kd.V_nil _ _ _ _ _ | exact Kd.Q_nil _ _ _ _ _ | exact Kd.S_nil _ _ _ _ _, by repeat (first | (with_reducible first | exact HB.out | apply below_alloc | apply pw_below_drewN | apply below_drew1 | refine below_set ?_ GE114.out) | exact HB.out)⟩
     ·
      rw [if_neg c4] at H
      exact absurd H (by simp)
    ·
     rw [if_neg c3] at H
     exact absurd H (by simp)
   ·
    rw [if_neg c2] at H
    have c2b0 : decide (x9_1 < (l0.length : Int)) = false := decide_eq_false c2
    clear c2
    by_cases c21 : (l0.length : Int) > 8
    ·
     rw [if_pos c21] at H
     have c21b0 : decide (8 < (l0.length : Int)) = true := decide_eq_true c21
     have c21b1 : decide (8 < l0.length) = true := decide_eq_true (by omega)
     clear c21
     simp only [Option.some.injEq, Prod.mk.injEq] at H
     obtain ⟨rfl, rfl⟩ := H
     go_wp2
     go_ret2
     exact ⟨_, by first | rfl | (simp [errW_none, errW_some] <;> rfl) | (simp [*, errW_none, errW_some] <;> rfl), by first | exact Kd.R_nil _ _ _ _ _ | exact Kd.N_nil _ _ _ _ _ | exact Kd.V_nil _ _ _ _ _ | exact Kd.Q_nil _ _ _ _ _ | exact Kd.S_nil _ _ _ _ _, by repeat (first | (with_reducible first | exact HB.out | apply below_alloc | apply pw_below_drewN | apply below_drew1) | exact HB.out)⟩
    ·
     rw [if_neg c21] at H
     have c21b0 : decide (8 < (l0.length : Int)) = false := decide_eq_false c21
     have c21b1 : decide (8 < l0.length) = false := decide_eq_false (by omega)
     clear c21
     by_cases c22 : (x4_1.length : Int) > 64
     ·
      rw [if_pos c22] at H
      have c22b0 : decide (64 < (x4_1.length : Int)) = true := decide_eq_true c22
      have c22b1 : decide (64 < x4_1.length) = true := decide_eq_true (by omega)
      clear c22
      simp only [Option.some.injEq, Prod.mk.injEq] at H
      obtain ⟨rfl, rfl⟩ := H
      obtain ⟨Ao23, co23, eo23⟩ := Kd.R_slice HO_4.out
      subst eo23
      go_wp2
      go_ret2
      exact ⟨_, by first | rfl | (simp [errW_none, errW_some] <;> rfl) | (simp [*, errW_none, errW_some] <;> rfl), by first | exact Kd.R_nil _ _ _ _ _ | exact Kd.N_nil _ _ _ _ _ | exact Kd.V_nil _ _ _ _ _ | exact Kd.Q_nil _ _ _ _ _ | exact Kd.S_nil _ _ _ _ _, by repeat (first | (with_reducible first | exact HB.out | apply below_alloc | apply pw_below_drewN | apply below_drew1) | exact HB.out)⟩
     ·
      rw [if_neg c22] at H
      have c22b0 : decide (64 < (x4_1.length : Int)) = false := decide_eq_false c22
      have c22b1 : decide (64 < x4_1.length) = false := decide_eq_false (by omega)
      clear c22
      simp only [Option.some.injEq, Prod.mk.injEq] at H
      obtain ⟨rfl, rfl⟩ := H
      obtain ⟨Ao24, co24, eo24⟩ := Kd.R_slice HO_4.out
      subst eo24
      go_wp2
      go_ret2
      exact ⟨_, by first | rfl | (simp [errW_none, errW_some] <;> rfl) | (simp [*, errW_none, errW_some] <;> rfl), by (with_reducible repeat (first | apply Kd.R_alloc | apply Kd.R_drewN | apply Kd.R_drew)); exact HO_4.out, by repeat (first | (with_reducible first | exact HB.out | apply below_alloc | apply pw_below_drewN | apply below_drew1) | exact HB.out)⟩

/-! ### msg_Put: function 9 -/
/-- The fields of a message's tags below a place. -/
def msg.fl (k : Int) (ws : List Int) : Nat → List S45
 | 0 => [⟨1, [k]⟩]
 | i + 1 => if 2 ≤ i then (if msg.hasB k (i : Int) then msg.fl k ws i ++ [⟨(i : Int), [ws.getD i 0]⟩] else msg.fl k ws i) else msg.fl k ws i
def msg_Put.f (a0_0 a0_1 a0_2 a0_3 a0_4 a0_5 a0_6 : Int) : Option (List Int × Int) := (msg_May.f a0_0 a0_1 a0_2 a0_3 a0_4 a0_5 a0_6).bind fun m => if m = true then wire_Put.f 100 (msg.fl a0_0 [0, a0_0, a0_1, a0_2, a0_3, a0_4, a0_5, a0_6] 8) else some ([], 1)
set_option maxHeartbeats 8000000 in
set_option maxRecDepth 100000 in
theorem msg_Put.calls (a0_0 : Int) (a0_1 : Int) (a0_2 : Int) (a0_3 : Int) (a0_4 : Int) (a0_5 : Int) (a0_6 : Int) (r1 : List Int) (r2 : Int) (w : World) (hG : GH w) (h : msg_Put.f a0_0 a0_1 a0_2 a0_3 a0_4 a0_5 a0_6 = some (r1, r2)) :
  Calls Tryd.prog 9 #[.agg #[.int .u32 a0_0, .int .u32 a0_1, .int .u32 a0_2, .int .u32 a0_3, .int .u32 a0_4, .int .u32 a0_5, .int .u32 a0_6]] w fun e w' => ∃ v0_ : Value, e = .returned (.tuple #[v0_, .int .i64 r2]) ∧ Kd.R (Kd.int .u32) 22 w' w.heap.size (fun _ => True) v0_ r1 ∧ Below w.heap.size w w' := by
 unfold msg_Put.f at h
 obtain ⟨m, hm, h⟩ := Option.bind_eq_some_iff.mp h
 have AM := Aside0.mk hm
 cases m with
 | false =>
  rw [if_neg (by decide)] at h
  simp only [Option.some.injEq, Prod.mk.injEq] at h
  obtain ⟨rfl, rfl⟩ := h
  clear hm
  go_enter Tryd.func9, Tryd.ntmps9
  go_wp2_with (first | ((with_reducible refine gate_dst (N := 1) rfl ?_); refine box_event ?hg (N := 1) ?hd (cs := #[.int .u32 a0_0, .int .u32 a0_1, .int .u32 a0_2, .int .u32 a0_3, .int .u32 a0_4, .int .u32 a0_5, .int .u32 a0_6]) (t := 24) ?hr ?_; (case hd => rfl); (case hg => rfl); (case hr => first | (go_simp; done) | (go_simp; rfl)); intro gm hgm W0 BK HB; clear hgm; have k0_ : W0.cell? ⟨gm, 0, none⟩ = some (.int .u32 a0_0) := (blk_cell BK 0).trans rfl; have z0_ := blk_frozen BK 0; have k1_ : W0.cell? ⟨gm, 1, none⟩ = some (.int .u32 a0_1) := (blk_cell BK 1).trans rfl; have z1_ := blk_frozen BK 1; have k2_ : W0.cell? ⟨gm, 2, none⟩ = some (.int .u32 a0_2) := (blk_cell BK 2).trans rfl; have z2_ := blk_frozen BK 2; have k3_ : W0.cell? ⟨gm, 3, none⟩ = some (.int .u32 a0_3) := (blk_cell BK 3).trans rfl; have z3_ := blk_frozen BK 3; have k4_ : W0.cell? ⟨gm, 4, none⟩ = some (.int .u32 a0_4) := (blk_cell BK 4).trans rfl; have z4_ := blk_frozen BK 4; have k5_ : W0.cell? ⟨gm, 5, none⟩ = some (.int .u32 a0_5) := (blk_cell BK 5).trans rfl; have z5_ := blk_frozen BK 5; have k6_ : W0.cell? ⟨gm, 6, none⟩ = some (.int .u32 a0_6) := (blk_cell BK 6).trans rfl; have z6_ := blk_frozen BK 6) | (go_at_call 11; (with_reducible refine (msg_May.calls a0_0 a0_1 a0_2 a0_3 a0_4 a0_5 a0_6 false _ (hG.below HB) AM.out).mono ?_); rintro e W1 ⟨rfl, hb_⟩; replace BK := blk_below BK hb_; replace HB := HB.trans (hb_.mono HB.size); clear hb_; (try clear k0_); (try clear z0_); (try clear k1_); (try clear z1_); (try clear k2_); (try clear z2_); (try clear k3_); (try clear z3_); (try clear k4_); (try clear z4_); (try clear k5_); (try clear z5_); (try clear k6_); (try clear z6_); have k0_ : W1.cell? ⟨gm, 0, none⟩ = some (.int .u32 a0_0) := (blk_cell BK 0).trans rfl; have z0_ := blk_frozen BK 0; have k1_ : W1.cell? ⟨gm, 1, none⟩ = some (.int .u32 a0_1) := (blk_cell BK 1).trans rfl; have z1_ := blk_frozen BK 1; have k2_ : W1.cell? ⟨gm, 2, none⟩ = some (.int .u32 a0_2) := (blk_cell BK 2).trans rfl; have z2_ := blk_frozen BK 2; have k3_ : W1.cell? ⟨gm, 3, none⟩ = some (.int .u32 a0_3) := (blk_cell BK 3).trans rfl; have z3_ := blk_frozen BK 3; have k4_ : W1.cell? ⟨gm, 4, none⟩ = some (.int .u32 a0_4) := (blk_cell BK 4).trans rfl; have z4_ := blk_frozen BK 4; have k5_ : W1.cell? ⟨gm, 5, none⟩ = some (.int .u32 a0_5) := (blk_cell BK 5).trans rfl; have z5_ := blk_frozen BK 5; have k6_ : W1.cell? ⟨gm, 6, none⟩ = some (.int .u32 a0_6) := (blk_cell BK 6).trans rfl; have z6_ := blk_frozen BK 6))
  go_ret2
  exact ⟨_, rfl, Kd.R_nil _ _ _ _ _, HB⟩
 | true =>
 rw [if_pos rfl] at h
 have hk : 0 ≤ a0_0 ∧ a0_0 ≤ 9 := by
  unfold msg_May.f at hm
  by_cases c1 : a0_0 < 1
  ·
   rw [if_pos c1] at hm; cases hm
  rw [if_neg c1] at hm
  by_cases c2 : 9 < a0_0
  ·
   rw [if_pos c2] at hm; cases hm
  omega
 clear hm
 have APut := Aside0.mk h
 clear h
 obtain ⟨xs, hxs⟩ : ∃ xs : List Int, xs = [a0_0] := ⟨_, rfl⟩
 have NX := Aside0.mk hxs
 have AO := Aside0.mk (show wire_One.f 1 xs = some (1, xs) by rw [hxs]; rfl)
 obtain ⟨ls, hls⟩ : ∃ ls : List S45, ls = msg.fl a0_0 [0, a0_0, a0_1, a0_2, a0_3, a0_4, a0_5, a0_6] 0 := ⟨_, rfl⟩
 have NF := Aside0.mk (show ls = [(⟨1, xs⟩ : S45)] by rw [hls, hxs]; rfl)
 clear hxs
 go_enter Tryd.func9, Tryd.ntmps9
 go_wp2_with (first | ((with_reducible refine gate_dst (N := 1) rfl ?_); refine box_event ?hg (N := 1) ?hd (cs := #[.int .u32 a0_0, .int .u32 a0_1, .int .u32 a0_2, .int .u32 a0_3, .int .u32 a0_4, .int .u32 a0_5, .int .u32 a0_6]) (t := 24) ?hr ?_; (case hd => rfl); (case hg => rfl); (case hr => first | (go_simp; done) | (go_simp; rfl)); intro gm hgm W0 BK HB; clear hgm; have k0_ : W0.cell? ⟨gm, 0, none⟩ = some (.int .u32 a0_0) := (blk_cell BK 0).trans rfl; have z0_ := blk_frozen BK 0; have k1_ : W0.cell? ⟨gm, 1, none⟩ = some (.int .u32 a0_1) := (blk_cell BK 1).trans rfl; have z1_ := blk_frozen BK 1; have k2_ : W0.cell? ⟨gm, 2, none⟩ = some (.int .u32 a0_2) := (blk_cell BK 2).trans rfl; have z2_ := blk_frozen BK 2; have k3_ : W0.cell? ⟨gm, 3, none⟩ = some (.int .u32 a0_3) := (blk_cell BK 3).trans rfl; have z3_ := blk_frozen BK 3; have k4_ : W0.cell? ⟨gm, 4, none⟩ = some (.int .u32 a0_4) := (blk_cell BK 4).trans rfl; have z4_ := blk_frozen BK 4; have k5_ : W0.cell? ⟨gm, 5, none⟩ = some (.int .u32 a0_5) := (blk_cell BK 5).trans rfl; have z5_ := blk_frozen BK 5; have k6_ : W0.cell? ⟨gm, 6, none⟩ = some (.int .u32 a0_6) := (blk_cell BK 6).trans rfl; have z6_ := blk_frozen BK 6) | (go_at_call 11; (with_reducible refine (msg_May.calls a0_0 a0_1 a0_2 a0_3 a0_4 a0_5 a0_6 true _ (hG.below HB) AM.out).mono ?_); rintro e W1 ⟨rfl, hb_⟩; replace BK := blk_below BK hb_; replace HB := HB.trans (hb_.mono HB.size); clear hb_; (try clear k0_); (try clear z0_); (try clear k1_); (try clear z1_); (try clear k2_); (try clear z2_); (try clear k3_); (try clear z3_); (try clear k4_); (try clear z4_); (try clear k5_); (try clear z5_); (try clear k6_); (try clear z6_); have k0_ : W1.cell? ⟨gm, 0, none⟩ = some (.int .u32 a0_0) := (blk_cell BK 0).trans rfl; have z0_ := blk_frozen BK 0; have k1_ : W1.cell? ⟨gm, 1, none⟩ = some (.int .u32 a0_1) := (blk_cell BK 1).trans rfl; have z1_ := blk_frozen BK 1; have k2_ : W1.cell? ⟨gm, 2, none⟩ = some (.int .u32 a0_2) := (blk_cell BK 2).trans rfl; have z2_ := blk_frozen BK 2; have k3_ : W1.cell? ⟨gm, 3, none⟩ = some (.int .u32 a0_3) := (blk_cell BK 3).trans rfl; have z3_ := blk_frozen BK 3; have k4_ : W1.cell? ⟨gm, 4, none⟩ = some (.int .u32 a0_4) := (blk_cell BK 4).trans rfl; have z4_ := blk_frozen BK 4; have k5_ : W1.cell? ⟨gm, 5, none⟩ = some (.int .u32 a0_5) := (blk_cell BK 5).trans rfl; have z5_ := blk_frozen BK 5; have k6_ : W1.cell? ⟨gm, 6, none⟩ = some (.int .u32 a0_6) := (blk_cell BK 6).trans rfl; have z6_ := blk_frozen BK 6) | ((with_reducible refine gate_dst (N := 12) rfl ?_); refine Kd.N_lit (Kd.int .u32) _ 22 ?hg (N' := 12) ?hd (xs := [a0_0]) (inner := [.int .u32 a0_0]) (ok := fun _ => True) (okp := fun _ => False) ?hr ?hp (fun _ hk => hk.elim) trivial (Below.refl _ _) (Nat.le_refl _) (by simp) ?_; (case hd => rfl); (case hg => rfl); (case hr => first | (go_simp; done) | (go_simp; rfl)); (case hp => exact (Reps.none _ _).snoc (fun _ _ => rfl) rfl); intro v12 W3 hW hb_ hg_ hnew_; clear hg_ hnew_; rw [← NX.out] at hW; obtain ⟨Aw, cw, ev⟩ := Kd.N_slice hW; subst ev; replace BK := blk_below BK hb_; replace HB := HB.trans (hb_.mono HB.size); clear hb_; (try clear k0_); (try clear z0_); (try clear k1_); (try clear z1_); (try clear k2_); (try clear z2_); (try clear k3_); (try clear z3_); (try clear k4_); (try clear z4_); (try clear k5_); (try clear z5_); (try clear k6_); (try clear z6_); have k0_ : W3.cell? ⟨gm, 0, none⟩ = some (.int .u32 a0_0) := (blk_cell BK 0).trans rfl; have z0_ := blk_frozen BK 0; have k1_ : W3.cell? ⟨gm, 1, none⟩ = some (.int .u32 a0_1) := (blk_cell BK 1).trans rfl; have z1_ := blk_frozen BK 1; have k2_ : W3.cell? ⟨gm, 2, none⟩ = some (.int .u32 a0_2) := (blk_cell BK 2).trans rfl; have z2_ := blk_frozen BK 2; have k3_ : W3.cell? ⟨gm, 3, none⟩ = some (.int .u32 a0_3) := (blk_cell BK 3).trans rfl; have z3_ := blk_frozen BK 3; have k4_ : W3.cell? ⟨gm, 4, none⟩ = some (.int .u32 a0_4) := (blk_cell BK 4).trans rfl; have z4_ := blk_frozen BK 4; have k5_ : W3.cell? ⟨gm, 5, none⟩ = some (.int .u32 a0_5) := (blk_cell BK 5).trans rfl; have z5_ := blk_frozen BK 5; have k6_ : W3.cell? ⟨gm, 6, none⟩ = some (.int .u32 a0_6) := (blk_cell BK 6).trans rfl; have z6_ := blk_frozen BK 6) | (go_at_call 18; (refine (wire_One.calls 1 _ cw xs 1 xs _ (Kd.N_reads' hW).2.2 (Kd.N_reads' hW).2.1 AO.out).mono ?_); rintro e W4 ⟨vd, rfl, hR, hb_⟩; have hD := Kd.R_V (base' := 0) (Kd.R_mono (ok' := fun _ => True) (Kd.R_bound hR) (fun k hk => trivial)); clear hR hW; obtain ⟨Ad, cd, ev⟩ := Kd.V_slice hD; subst ev; replace BK := blk_below BK hb_; replace HB := HB.trans (hb_.mono HB.size); clear hb_; (try clear k0_); (try clear z0_); (try clear k1_); (try clear z1_); (try clear k2_); (try clear z2_); (try clear k3_); (try clear z3_); (try clear k4_); (try clear z4_); (try clear k5_); (try clear z5_); (try clear k6_); (try clear z6_); have k0_ : W4.cell? ⟨gm, 0, none⟩ = some (.int .u32 a0_0) := (blk_cell BK 0).trans rfl; have z0_ := blk_frozen BK 0; have k1_ : W4.cell? ⟨gm, 1, none⟩ = some (.int .u32 a0_1) := (blk_cell BK 1).trans rfl; have z1_ := blk_frozen BK 1; have k2_ : W4.cell? ⟨gm, 2, none⟩ = some (.int .u32 a0_2) := (blk_cell BK 2).trans rfl; have z2_ := blk_frozen BK 2; have k3_ : W4.cell? ⟨gm, 3, none⟩ = some (.int .u32 a0_3) := (blk_cell BK 3).trans rfl; have z3_ := blk_frozen BK 3; have k4_ : W4.cell? ⟨gm, 4, none⟩ = some (.int .u32 a0_4) := (blk_cell BK 4).trans rfl; have z4_ := blk_frozen BK 4; have k5_ : W4.cell? ⟨gm, 5, none⟩ = some (.int .u32 a0_5) := (blk_cell BK 5).trans rfl; have z5_ := blk_frozen BK 5; have k6_ : W4.cell? ⟨gm, 6, none⟩ = some (.int .u32 a0_6) := (blk_cell BK 6).trans rfl; have z6_ := blk_frozen BK 6) | ((with_reducible refine gate_dst (N := 14) rfl ?_); refine Kd.N_lit k45 _ 45 ?hg (N' := 14) ?hd (xs := [(⟨1, xs⟩ : S45)]) (inner := [.int .u32 1, .slice Ad xs.length cd]) (ok := fun _ => True) (okp := fun _ => True) ?hr ?hp (fun _ hk => hk) trivial (Below.refl _ _) (Nat.le_refl _) (by simp) ?_; (case hd => rfl); (case hg => rfl); (case hr => first | (go_simp; done) | (go_simp; rfl)); (case hp => exact Reps.snoc (ps := []) (cs := []) (Reps.none _ _) (k45_mkF _ _ (⟨1, xs⟩ : S45) (Kd.V_reads' hD).2.1 (Kd.V_F hD)) rfl); intro v14 W5 hL hb_ hg_ hnew_; clear hg_ hnew_ hD; rw [← NF.out] at hL; have hF := Kd.N_lower hL HB.size; have hgm4 := Aside0.mk (show ∀ k, v14.ownBlock = some k → gm < k from fun k hk_ => Nat.lt_of_lt_of_le (blk_lt BK) (Kd.N_base hL k hk_)); clear hL; replace BK := blk_below BK hb_; replace HB := HB.trans (hb_.mono HB.size); clear hb_; (try clear k0_); (try clear z0_); (try clear k1_); (try clear z1_); (try clear k2_); (try clear z2_); (try clear k3_); (try clear z3_); (try clear k4_); (try clear z4_); (try clear k5_); (try clear z5_); (try clear k6_); (try clear z6_); have k0_ : W5.cell? ⟨gm, 0, none⟩ = some (.int .u32 a0_0) := (blk_cell BK 0).trans rfl; have z0_ := blk_frozen BK 0; have k1_ : W5.cell? ⟨gm, 1, none⟩ = some (.int .u32 a0_1) := (blk_cell BK 1).trans rfl; have z1_ := blk_frozen BK 1; have k2_ : W5.cell? ⟨gm, 2, none⟩ = some (.int .u32 a0_2) := (blk_cell BK 2).trans rfl; have z2_ := blk_frozen BK 2; have k3_ : W5.cell? ⟨gm, 3, none⟩ = some (.int .u32 a0_3) := (blk_cell BK 3).trans rfl; have z3_ := blk_frozen BK 3; have k4_ : W5.cell? ⟨gm, 4, none⟩ = some (.int .u32 a0_4) := (blk_cell BK 4).trans rfl; have z4_ := blk_frozen BK 4; have k5_ : W5.cell? ⟨gm, 5, none⟩ = some (.int .u32 a0_5) := (blk_cell BK 5).trans rfl; have z5_ := blk_frozen BK 5; have k6_ : W5.cell? ⟨gm, 6, none⟩ = some (.int .u32 a0_6) := (blk_cell BK 6).trans rfl; have z6_ := blk_frozen BK 6) | (go_at_call 19; (with_reducible refine (msg_words.calls gm _).mono ?_); rintro e W2 ⟨rfl, hb_⟩; replace BK := blk_below BK hb_; replace HB := HB.trans (hb_.mono HB.size); replace hF := Kd.N_below hF hb_; clear hb_; (try clear k0_); (try clear z0_); (try clear k1_); (try clear z1_); (try clear k2_); (try clear z2_); (try clear k3_); (try clear z3_); (try clear k4_); (try clear z4_); (try clear k5_); (try clear z5_); (try clear k6_); (try clear z6_); have k0_ : W2.cell? ⟨gm, 0, none⟩ = some (.int .u32 a0_0) := (blk_cell BK 0).trans rfl; have z0_ := blk_frozen BK 0; have k1_ : W2.cell? ⟨gm, 1, none⟩ = some (.int .u32 a0_1) := (blk_cell BK 1).trans rfl; have z1_ := blk_frozen BK 1; have k2_ : W2.cell? ⟨gm, 2, none⟩ = some (.int .u32 a0_2) := (blk_cell BK 2).trans rfl; have z2_ := blk_frozen BK 2; have k3_ : W2.cell? ⟨gm, 3, none⟩ = some (.int .u32 a0_3) := (blk_cell BK 3).trans rfl; have z3_ := blk_frozen BK 3; have k4_ : W2.cell? ⟨gm, 4, none⟩ = some (.int .u32 a0_4) := (blk_cell BK 4).trans rfl; have z4_ := blk_frozen BK 4; have k5_ : W2.cell? ⟨gm, 5, none⟩ = some (.int .u32 a0_5) := (blk_cell BK 5).trans rfl; have z5_ := blk_frozen BK 5; have k6_ : W2.cell? ⟨gm, 6, none⟩ = some (.int .u32 a0_6) := (blk_cell BK 6).trans rfl; have z6_ := blk_frozen BK 6))
 have hls4 : ls.length ≤ 8 := by rw [NF.out]; simp
 (try clear k0_); (try clear z0_); (try clear k1_); (try clear z1_); (try clear k2_); (try clear z2_); (try clear k3_); (try clear z3_); (try clear k4_); (try clear z4_); (try clear k5_); (try clear z5_); (try clear k6_); (try clear z6_)
 go_loopg [4, 16] 9 (fun kq v4 v16 w' => ∃ (i : Nat) (ls : List S45), v16 = .int .i64 (i : Int) ∧ Aside0 (i + kq = 9) ∧ Aside0 (i ≤ 8) ∧ Aside0 (ls = msg.fl a0_0 [0, a0_0, a0_1, a0_2, a0_3, a0_4, a0_5, a0_6] i) ∧ Aside0 (ls.length ≤ i + 1) ∧ Aside0 (Kd.N k45 45 w' w.heap.size (fun _ => True) v4 ls) ∧ Aside0 (∀ k, v4.ownBlock = some k → gm < k) ∧ Aside0 (w'.heap[gm]? = some (.cells #[.int .u32 a0_0, .int .u32 a0_1, .int .u32 a0_2, .int .u32 a0_3, .int .u32 a0_4, .int .u32 a0_5, .int .u32 a0_6] 24 (0, 0))) ∧ Aside0 (Below w.heap.size w w'))
 case atStart => exact ⟨0, ls, rfl, ⟨Nat.zero_add _⟩, ⟨Nat.zero_le _⟩, ⟨hls⟩, ⟨by rw [NF.out]; simp⟩, ⟨hF⟩, hgm4, ⟨BK⟩, ⟨HB⟩⟩
 case round =>
  clear BK HB hF hgm4 hls hls4 NF AO NX
  obtain ⟨i, ls, rfl, HA, HL, HLf, HLS, HF, hgm4, HBK, HHB⟩ := hrel
  have BK := HBK.out
  have HB := HHB.out
  have hF := HF.out
  clear HBK HHB HF
  cases gk with
  | zero => have := HA.out; have := HL.out; omega
  | succ k2 =>
   have hi := HL.out
   have A1 : i + 1 + k2 = 9 := by have := HA.out; omega
   have k0_ : wr.cell? ⟨gm, 0, none⟩ = some (.int .u32 a0_0) := (blk_cell BK 0).trans rfl; have z0_ := blk_frozen BK 0; have k1_ : wr.cell? ⟨gm, 1, none⟩ = some (.int .u32 a0_1) := (blk_cell BK 1).trans rfl; have z1_ := blk_frozen BK 1; have k2_ : wr.cell? ⟨gm, 2, none⟩ = some (.int .u32 a0_2) := (blk_cell BK 2).trans rfl; have z2_ := blk_frozen BK 2; have k3_ : wr.cell? ⟨gm, 3, none⟩ = some (.int .u32 a0_3) := (blk_cell BK 3).trans rfl; have z3_ := blk_frozen BK 3; have k4_ : wr.cell? ⟨gm, 4, none⟩ = some (.int .u32 a0_4) := (blk_cell BK 4).trans rfl; have z4_ := blk_frozen BK 4; have k5_ : wr.cell? ⟨gm, 5, none⟩ = some (.int .u32 a0_5) := (blk_cell BK 5).trans rfl; have z5_ := blk_frozen BK 5; have k6_ : wr.cell? ⟨gm, 6, none⟩ = some (.int .u32 a0_6) := (blk_cell BK 6).trans rfl; have z6_ := blk_frozen BK 6
   rcases Nat.lt_or_ge i 8 with c | c
   rotate_left
   ·
    obtain rfl : i = 8 := by omega
    have hput := APut.out
    rw [← HLf.out] at hput
    obtain ⟨AL, cL, evL⟩ := Kd.N_slice hF
    subst evL
    clear HA HL A1 hi c
    go_wp2_with fail
    refine (wire_Put.calls 100 _ _ ls r1 r2 _ (Kd.N_reads' hF).2.2 (Kd.N_reads' hF).2.1 hput).mono ?_
    rintro e w8 ⟨vr, rfl, hR, hb_⟩
    replace hR := Kd.R_lower hR HB.size
    replace HB := HB.trans (hb_.mono HB.size)
    clear hb_
    go_wp2
    go_ret2
    exact ⟨_, rfl, hR, HB⟩
   have hcase : i = 0 ∨ i = 1 ∨ i = 2 ∨ i = 3 ∨ i = 4 ∨ i = 5 ∨ i = 6 ∨ i = 7 := by omega
   rcases hcase with rfl | rfl | rfl | rfl | rfl | rfl | rfl | rfl
   ·
    have hI := msg.idx0 gm
    have hlf := HLf.out
    clear hi c
    go_wp2
    go_roundg k2
    case measure => exact Nat.lt_succ_self _
    case rel => exact ⟨1, ls, (by first | rfl | (simp; done)), ⟨by omega⟩, ⟨by omega⟩, ⟨by rw [hlf]; rfl⟩, ⟨by have := HLS.out; omega⟩, ⟨hF⟩, hgm4, ⟨BK⟩, ⟨HB⟩⟩
   ·
    have hI := msg.idx1 gm
    have hlf := HLf.out
    clear hi c
    go_wp2
    go_roundg k2
    case measure => exact Nat.lt_succ_self _
    case rel => exact ⟨2, ls, (by first | rfl | (simp; done)), ⟨by omega⟩, ⟨by omega⟩, ⟨by rw [hlf]; rfl⟩, ⟨by have := HLS.out; omega⟩, ⟨hF⟩, hgm4, ⟨BK⟩, ⟨HB⟩⟩
   ·
    have hI := msg.idx2 gm
    have hlf := HLf.out
    clear hi c
    obtain ⟨b, hb⟩ : ∃ b, b = msg.hasB a0_0 2 := ⟨_, rfl⟩
    have AP := Aside0.mk (show msg_part.f a0_0 2 = some b by unfold msg_part.f; rw [if_pos ⟨hk, by decide⟩, hb])
    have hfl : msg.fl a0_0 [0, a0_0, a0_1, a0_2, a0_3, a0_4, a0_5, a0_6] (2 + 1) = if msg.hasB a0_0 2 then msg.fl a0_0 [0, a0_0, a0_1, a0_2, a0_3, a0_4, a0_5, a0_6] 2 ++ [⟨2, [a0_1]⟩] else msg.fl a0_0 [0, a0_0, a0_1, a0_2, a0_3, a0_4, a0_5, a0_6] 2 := rfl
    rw [← hb, ← hlf] at hfl
    cases b with
    | false =>
     have HLn := Aside0.mk (show ls = msg.fl a0_0 [0, a0_0, a0_1, a0_2, a0_3, a0_4, a0_5, a0_6] (2 + 1) by rw [hfl]; rfl)
     clear hb hfl hlf
     go_wp2_with (first | (go_at_call 20; (with_reducible refine (msg_part.calls a0_0 2 false _ (hG.below HB) AP.out).mono ?_); rintro e w9 ⟨rfl, hd_⟩; have hb_ := hd_.below; clear hd_; replace BK := blk_below BK hb_; replace HB := HB.trans (hb_.mono HB.size); replace hF := Kd.N_below hF hb_; clear hb_; (try clear k0_); (try clear z0_); (try clear k1_); (try clear z1_); (try clear k2_); (try clear z2_); (try clear k3_); (try clear z3_); (try clear k4_); (try clear z4_); (try clear k5_); (try clear z5_); (try clear k6_); (try clear z6_); have k0_ : w9.cell? ⟨gm, 0, none⟩ = some (.int .u32 a0_0) := (blk_cell BK 0).trans rfl; have z0_ := blk_frozen BK 0; have k1_ : w9.cell? ⟨gm, 1, none⟩ = some (.int .u32 a0_1) := (blk_cell BK 1).trans rfl; have z1_ := blk_frozen BK 1; have k2_ : w9.cell? ⟨gm, 2, none⟩ = some (.int .u32 a0_2) := (blk_cell BK 2).trans rfl; have z2_ := blk_frozen BK 2; have k3_ : w9.cell? ⟨gm, 3, none⟩ = some (.int .u32 a0_3) := (blk_cell BK 3).trans rfl; have z3_ := blk_frozen BK 3; have k4_ : w9.cell? ⟨gm, 4, none⟩ = some (.int .u32 a0_4) := (blk_cell BK 4).trans rfl; have z4_ := blk_frozen BK 4; have k5_ : w9.cell? ⟨gm, 5, none⟩ = some (.int .u32 a0_5) := (blk_cell BK 5).trans rfl; have z5_ := blk_frozen BK 5; have k6_ : w9.cell? ⟨gm, 6, none⟩ = some (.int .u32 a0_6) := (blk_cell BK 6).trans rfl; have z6_ := blk_frozen BK 6))
     go_roundg k2
     case measure => exact Nat.lt_succ_self _
     case rel => exact ⟨3, ls, (by first | rfl | (simp; done)), ⟨by omega⟩, ⟨by omega⟩, ⟨HLn.out⟩, ⟨by have := HLS.out; omega⟩, ⟨hF⟩, hgm4, ⟨BK⟩, ⟨HB⟩⟩
    | true =>
     obtain ⟨xs, hxs⟩ : ∃ xs : List Int, xs = [a0_1] := ⟨_, rfl⟩
     have NX := Aside0.mk hxs
     have AO := Aside0.mk (show wire_One.f 2 xs = some (2, xs) by rw [hxs]; rfl)
     obtain ⟨l2, hl2⟩ : ∃ l2 : List S45, l2 = ls ++ [(⟨2, xs⟩ : S45)] := ⟨_, rfl⟩
     have NL := Aside0.mk hl2
     have HLn := Aside0.mk (show l2 = msg.fl a0_0 [0, a0_0, a0_1, a0_2, a0_3, a0_4, a0_5, a0_6] (2 + 1) by rw [hfl, hl2, hxs]; rfl)
     have HL2 := Aside0.mk (show l2.length ≤ 2 + 1 + 1 by have := HLS.out; rw [hl2]; simp; omega)
     clear hb hfl hlf hxs hl2
     go_wp2_with (first | (go_at_call 20; (with_reducible refine (msg_part.calls a0_0 2 true _ (hG.below HB) AP.out).mono ?_); rintro e w9 ⟨rfl, hd_⟩; have hb_ := hd_.below; clear hd_; replace BK := blk_below BK hb_; replace HB := HB.trans (hb_.mono HB.size); replace hF := Kd.N_below hF hb_; clear hb_; (try clear k0_); (try clear z0_); (try clear k1_); (try clear z1_); (try clear k2_); (try clear z2_); (try clear k3_); (try clear z3_); (try clear k4_); (try clear z4_); (try clear k5_); (try clear z5_); (try clear k6_); (try clear z6_); have k0_ : w9.cell? ⟨gm, 0, none⟩ = some (.int .u32 a0_0) := (blk_cell BK 0).trans rfl; have z0_ := blk_frozen BK 0; have k1_ : w9.cell? ⟨gm, 1, none⟩ = some (.int .u32 a0_1) := (blk_cell BK 1).trans rfl; have z1_ := blk_frozen BK 1; have k2_ : w9.cell? ⟨gm, 2, none⟩ = some (.int .u32 a0_2) := (blk_cell BK 2).trans rfl; have z2_ := blk_frozen BK 2; have k3_ : w9.cell? ⟨gm, 3, none⟩ = some (.int .u32 a0_3) := (blk_cell BK 3).trans rfl; have z3_ := blk_frozen BK 3; have k4_ : w9.cell? ⟨gm, 4, none⟩ = some (.int .u32 a0_4) := (blk_cell BK 4).trans rfl; have z4_ := blk_frozen BK 4; have k5_ : w9.cell? ⟨gm, 5, none⟩ = some (.int .u32 a0_5) := (blk_cell BK 5).trans rfl; have z5_ := blk_frozen BK 5; have k6_ : w9.cell? ⟨gm, 6, none⟩ = some (.int .u32 a0_6) := (blk_cell BK 6).trans rfl; have z6_ := blk_frozen BK 6) | ((with_reducible refine gate_dst (N := 34) rfl ?_); refine Kd.N_lit (Kd.int .u32) _ 22 ?hg (N' := 34) ?hd (xs := [a0_1]) (inner := [.int .u32 a0_1]) (ok := fun _ => True) (okp := fun _ => False) ?hr ?hp (fun _ hk => hk.elim) trivial (Below.refl _ _) (Nat.le_refl _) (by simp) ?_; (case hd => rfl); (case hg => rfl); (case hr => first | (go_simp; done) | (go_simp; rfl)); (case hp => exact (Reps.none _ _).snoc (fun _ _ => rfl) rfl); intro v34 w10 hW hb_ hg_ hnew_; clear hg_ hnew_; rw [← NX.out] at hW; obtain ⟨Aw, cw, ev⟩ := Kd.N_slice hW; subst ev; replace BK := blk_below BK hb_; replace HB := HB.trans (hb_.mono HB.size); replace hF := Kd.N_below hF hb_; clear hb_; (try clear k0_); (try clear z0_); (try clear k1_); (try clear z1_); (try clear k2_); (try clear z2_); (try clear k3_); (try clear z3_); (try clear k4_); (try clear z4_); (try clear k5_); (try clear z5_); (try clear k6_); (try clear z6_); have k0_ : w10.cell? ⟨gm, 0, none⟩ = some (.int .u32 a0_0) := (blk_cell BK 0).trans rfl; have z0_ := blk_frozen BK 0; have k1_ : w10.cell? ⟨gm, 1, none⟩ = some (.int .u32 a0_1) := (blk_cell BK 1).trans rfl; have z1_ := blk_frozen BK 1; have k2_ : w10.cell? ⟨gm, 2, none⟩ = some (.int .u32 a0_2) := (blk_cell BK 2).trans rfl; have z2_ := blk_frozen BK 2; have k3_ : w10.cell? ⟨gm, 3, none⟩ = some (.int .u32 a0_3) := (blk_cell BK 3).trans rfl; have z3_ := blk_frozen BK 3; have k4_ : w10.cell? ⟨gm, 4, none⟩ = some (.int .u32 a0_4) := (blk_cell BK 4).trans rfl; have z4_ := blk_frozen BK 4; have k5_ : w10.cell? ⟨gm, 5, none⟩ = some (.int .u32 a0_5) := (blk_cell BK 5).trans rfl; have z5_ := blk_frozen BK 5; have k6_ : w10.cell? ⟨gm, 6, none⟩ = some (.int .u32 a0_6) := (blk_cell BK 6).trans rfl; have z6_ := blk_frozen BK 6) | (go_at_call 18; (refine (wire_One.calls 2 _ cw xs 2 xs _ (Kd.N_reads' hW).2.2 (Kd.N_reads' hW).2.1 AO.out).mono ?_); rintro e w11 ⟨vd, rfl, hR, hb_⟩; have hD := Kd.R_V (base' := 0) (Kd.R_mono (ok' := fun k => some k ≠ u4.ownBlock) (Kd.R_bound hR) (fun k hk => fun e_ => by have := Kd.N_lt hF k e_.symm; have := hk.2.1; omega)); clear hR hW; obtain ⟨Ad, cd, ev⟩ := Kd.V_slice hD; subst ev; replace BK := blk_below BK hb_; replace HB := HB.trans (hb_.mono HB.size); replace hF := Kd.N_below hF hb_; clear hb_; (try clear k0_); (try clear z0_); (try clear k1_); (try clear z1_); (try clear k2_); (try clear z2_); (try clear k3_); (try clear z3_); (try clear k4_); (try clear z4_); (try clear k5_); (try clear z5_); (try clear k6_); (try clear z6_); have k0_ : w11.cell? ⟨gm, 0, none⟩ = some (.int .u32 a0_0) := (blk_cell BK 0).trans rfl; have z0_ := blk_frozen BK 0; have k1_ : w11.cell? ⟨gm, 1, none⟩ = some (.int .u32 a0_1) := (blk_cell BK 1).trans rfl; have z1_ := blk_frozen BK 1; have k2_ : w11.cell? ⟨gm, 2, none⟩ = some (.int .u32 a0_2) := (blk_cell BK 2).trans rfl; have z2_ := blk_frozen BK 2; have k3_ : w11.cell? ⟨gm, 3, none⟩ = some (.int .u32 a0_3) := (blk_cell BK 3).trans rfl; have z3_ := blk_frozen BK 3; have k4_ : w11.cell? ⟨gm, 4, none⟩ = some (.int .u32 a0_4) := (blk_cell BK 4).trans rfl; have z4_ := blk_frozen BK 4; have k5_ : w11.cell? ⟨gm, 5, none⟩ = some (.int .u32 a0_5) := (blk_cell BK 5).trans rfl; have z5_ := blk_frozen BK 5; have k6_ : w11.cell? ⟨gm, 6, none⟩ = some (.int .u32 a0_6) := (blk_cell BK 6).trans rfl; have z6_ := blk_frozen BK 6) | ((with_reducible refine gate_dst (N := 36) rfl ?_); refine Kd.N_lit k45 _ 45 ?hg (N' := 36) ?hd (xs := [(⟨2, xs⟩ : S45)]) (inner := [.int .u32 2, .slice Ad xs.length cd]) (ok := fun k => some k ≠ u4.ownBlock) (okp := fun k => some k ≠ u4.ownBlock) ?hr ?hp (fun _ hk => hk) (fun e_ => Nat.lt_irrefl _ (Kd.N_lt hF _ e_.symm)) (Below.refl _ _) (Nat.le_refl _) (by simp) ?_; (case hd => rfl); (case hg => rfl); (case hr => first | (go_simp; done) | (go_simp; rfl)); (case hp => exact Reps.snoc (ps := []) (cs := []) (Reps.none _ _) (k45_mkF _ _ (⟨2, xs⟩ : S45) (Kd.V_reads' hD).2.1 (Kd.V_F hD)) rfl); intro v36 w12 hL hb_ hg_ hnew_; clear hg_ hnew_ hD; replace BK := blk_below BK hb_; replace HB := HB.trans (hb_.mono HB.size); have hF0 := hF; replace hF := Kd.N_below hF0 hb_; clear hF0; clear hb_; (try clear k0_); (try clear z0_); (try clear k1_); (try clear z1_); (try clear k2_); (try clear z2_); (try clear k3_); (try clear z3_); (try clear k4_); (try clear z4_); (try clear k5_); (try clear z5_); (try clear k6_); (try clear z6_); have k0_ : w12.cell? ⟨gm, 0, none⟩ = some (.int .u32 a0_0) := (blk_cell BK 0).trans rfl; have z0_ := blk_frozen BK 0; have k1_ : w12.cell? ⟨gm, 1, none⟩ = some (.int .u32 a0_1) := (blk_cell BK 1).trans rfl; have z1_ := blk_frozen BK 1; have k2_ : w12.cell? ⟨gm, 2, none⟩ = some (.int .u32 a0_2) := (blk_cell BK 2).trans rfl; have z2_ := blk_frozen BK 2; have k3_ : w12.cell? ⟨gm, 3, none⟩ = some (.int .u32 a0_3) := (blk_cell BK 3).trans rfl; have z3_ := blk_frozen BK 3; have k4_ : w12.cell? ⟨gm, 4, none⟩ = some (.int .u32 a0_4) := (blk_cell BK 4).trans rfl; have z4_ := blk_frozen BK 4; have k5_ : w12.cell? ⟨gm, 5, none⟩ = some (.int .u32 a0_5) := (blk_cell BK 5).trans rfl; have z5_ := blk_frozen BK 5; have k6_ : w12.cell? ⟨gm, 6, none⟩ = some (.int .u32 a0_6) := (blk_cell BK 6).trans rfl; have z6_ := blk_frozen BK 6) | ((with_reducible refine gate_builtin (b := .append) (xs := #[.tmp 28, .tmp 36]) rfl ?_); at_builtin; obtain ⟨AL, cL, evL⟩ := Kd.N_slice hL; subst evL; refine Kd.N_append_rows k45 (w0 := w) w.heap.size rfl (.tmp 28) (.tmp 36) 47 45 (.agg #[(.int .u32 0), (.slice none 0 0)]) 32 rfl Tryd.underlying47 info45 rfl (by decide) (by omega) u4 ls [(⟨2, xs⟩ : S45)] _ _ _ (fun _ => True) (fun k => some k ≠ u4.ownBlock) rfl rfl hF (Kd.N_F hL) (fun k hk => ⟨trivial, hk⟩) (fun _ _ => trivial) HB HB.size (by have := HLS.out; simp; omega) ?_; intro v37 w13 hF2 HB2 hg2 hat2; rw [← NL.out] at hF2; have BK0 := BK; replace BK := (hg2.block gm (blk_lt BK0) (fun e_ => by have := hgm4.out gm e_.symm; omega)).trans BK0; have hgm5 := Aside0.mk (show ∀ k, v37.ownBlock = some k → gm < k from hat2.elim (fun e_ k hk => hgm4.out k (e_ ▸ hk)) (fun ⟨b, e_, hb⟩ k hk => by rw [e_] at hk; cases hk; have := blk_lt BK0; omega)); clear hF HB hL hg2 hat2 BK0; have hF := hF2; have HB := HB2; clear hF2 HB2; (try clear k0_); (try clear z0_); (try clear k1_); (try clear z1_); (try clear k2_); (try clear z2_); (try clear k3_); (try clear z3_); (try clear k4_); (try clear z4_); (try clear k5_); (try clear z5_); (try clear k6_); (try clear z6_); have k0_ : w13.cell? ⟨gm, 0, none⟩ = some (.int .u32 a0_0) := (blk_cell BK 0).trans rfl; have z0_ := blk_frozen BK 0; have k1_ : w13.cell? ⟨gm, 1, none⟩ = some (.int .u32 a0_1) := (blk_cell BK 1).trans rfl; have z1_ := blk_frozen BK 1; have k2_ : w13.cell? ⟨gm, 2, none⟩ = some (.int .u32 a0_2) := (blk_cell BK 2).trans rfl; have z2_ := blk_frozen BK 2; have k3_ : w13.cell? ⟨gm, 3, none⟩ = some (.int .u32 a0_3) := (blk_cell BK 3).trans rfl; have z3_ := blk_frozen BK 3; have k4_ : w13.cell? ⟨gm, 4, none⟩ = some (.int .u32 a0_4) := (blk_cell BK 4).trans rfl; have z4_ := blk_frozen BK 4; have k5_ : w13.cell? ⟨gm, 5, none⟩ = some (.int .u32 a0_5) := (blk_cell BK 5).trans rfl; have z5_ := blk_frozen BK 5; have k6_ : w13.cell? ⟨gm, 6, none⟩ = some (.int .u32 a0_6) := (blk_cell BK 6).trans rfl; have z6_ := blk_frozen BK 6))
     go_roundg k2
     case measure => exact Nat.lt_succ_self _
     case rel => exact ⟨3, l2, (by first | rfl | (simp; done)), ⟨by omega⟩, ⟨by omega⟩, ⟨HLn.out⟩, ⟨HL2.out⟩, ⟨hF⟩, hgm5, ⟨BK⟩, ⟨HB⟩⟩
   ·
    have hI := msg.idx3 gm
    have hlf := HLf.out
    clear hi c
    obtain ⟨b, hb⟩ : ∃ b, b = msg.hasB a0_0 3 := ⟨_, rfl⟩
    have AP := Aside0.mk (show msg_part.f a0_0 3 = some b by unfold msg_part.f; rw [if_pos ⟨hk, by decide⟩, hb])
    have hfl : msg.fl a0_0 [0, a0_0, a0_1, a0_2, a0_3, a0_4, a0_5, a0_6] (3 + 1) = if msg.hasB a0_0 3 then msg.fl a0_0 [0, a0_0, a0_1, a0_2, a0_3, a0_4, a0_5, a0_6] 3 ++ [⟨3, [a0_2]⟩] else msg.fl a0_0 [0, a0_0, a0_1, a0_2, a0_3, a0_4, a0_5, a0_6] 3 := rfl
    rw [← hb, ← hlf] at hfl
    cases b with
    | false =>
     have HLn := Aside0.mk (show ls = msg.fl a0_0 [0, a0_0, a0_1, a0_2, a0_3, a0_4, a0_5, a0_6] (3 + 1) by rw [hfl]; rfl)
     clear hb hfl hlf
     go_wp2_with (first | (go_at_call 20; (with_reducible refine (msg_part.calls a0_0 3 false _ (hG.below HB) AP.out).mono ?_); rintro e w9 ⟨rfl, hd_⟩; have hb_ := hd_.below; clear hd_; replace BK := blk_below BK hb_; replace HB := HB.trans (hb_.mono HB.size); replace hF := Kd.N_below hF hb_; clear hb_; (try clear k0_); (try clear z0_); (try clear k1_); (try clear z1_); (try clear k2_); (try clear z2_); (try clear k3_); (try clear z3_); (try clear k4_); (try clear z4_); (try clear k5_); (try clear z5_); (try clear k6_); (try clear z6_); have k0_ : w9.cell? ⟨gm, 0, none⟩ = some (.int .u32 a0_0) := (blk_cell BK 0).trans rfl; have z0_ := blk_frozen BK 0; have k1_ : w9.cell? ⟨gm, 1, none⟩ = some (.int .u32 a0_1) := (blk_cell BK 1).trans rfl; have z1_ := blk_frozen BK 1; have k2_ : w9.cell? ⟨gm, 2, none⟩ = some (.int .u32 a0_2) := (blk_cell BK 2).trans rfl; have z2_ := blk_frozen BK 2; have k3_ : w9.cell? ⟨gm, 3, none⟩ = some (.int .u32 a0_3) := (blk_cell BK 3).trans rfl; have z3_ := blk_frozen BK 3; have k4_ : w9.cell? ⟨gm, 4, none⟩ = some (.int .u32 a0_4) := (blk_cell BK 4).trans rfl; have z4_ := blk_frozen BK 4; have k5_ : w9.cell? ⟨gm, 5, none⟩ = some (.int .u32 a0_5) := (blk_cell BK 5).trans rfl; have z5_ := blk_frozen BK 5; have k6_ : w9.cell? ⟨gm, 6, none⟩ = some (.int .u32 a0_6) := (blk_cell BK 6).trans rfl; have z6_ := blk_frozen BK 6))
     go_roundg k2
     case measure => exact Nat.lt_succ_self _
     case rel => exact ⟨4, ls, (by first | rfl | (simp; done)), ⟨by omega⟩, ⟨by omega⟩, ⟨HLn.out⟩, ⟨by have := HLS.out; omega⟩, ⟨hF⟩, hgm4, ⟨BK⟩, ⟨HB⟩⟩
    | true =>
     obtain ⟨xs, hxs⟩ : ∃ xs : List Int, xs = [a0_2] := ⟨_, rfl⟩
     have NX := Aside0.mk hxs
     have AO := Aside0.mk (show wire_One.f 3 xs = some (3, xs) by rw [hxs]; rfl)
     obtain ⟨l2, hl2⟩ : ∃ l2 : List S45, l2 = ls ++ [(⟨3, xs⟩ : S45)] := ⟨_, rfl⟩
     have NL := Aside0.mk hl2
     have HLn := Aside0.mk (show l2 = msg.fl a0_0 [0, a0_0, a0_1, a0_2, a0_3, a0_4, a0_5, a0_6] (3 + 1) by rw [hfl, hl2, hxs]; rfl)
     have HL2 := Aside0.mk (show l2.length ≤ 3 + 1 + 1 by have := HLS.out; rw [hl2]; simp; omega)
     clear hb hfl hlf hxs hl2
     go_wp2_with (first | (go_at_call 20; (with_reducible refine (msg_part.calls a0_0 3 true _ (hG.below HB) AP.out).mono ?_); rintro e w9 ⟨rfl, hd_⟩; have hb_ := hd_.below; clear hd_; replace BK := blk_below BK hb_; replace HB := HB.trans (hb_.mono HB.size); replace hF := Kd.N_below hF hb_; clear hb_; (try clear k0_); (try clear z0_); (try clear k1_); (try clear z1_); (try clear k2_); (try clear z2_); (try clear k3_); (try clear z3_); (try clear k4_); (try clear z4_); (try clear k5_); (try clear z5_); (try clear k6_); (try clear z6_); have k0_ : w9.cell? ⟨gm, 0, none⟩ = some (.int .u32 a0_0) := (blk_cell BK 0).trans rfl; have z0_ := blk_frozen BK 0; have k1_ : w9.cell? ⟨gm, 1, none⟩ = some (.int .u32 a0_1) := (blk_cell BK 1).trans rfl; have z1_ := blk_frozen BK 1; have k2_ : w9.cell? ⟨gm, 2, none⟩ = some (.int .u32 a0_2) := (blk_cell BK 2).trans rfl; have z2_ := blk_frozen BK 2; have k3_ : w9.cell? ⟨gm, 3, none⟩ = some (.int .u32 a0_3) := (blk_cell BK 3).trans rfl; have z3_ := blk_frozen BK 3; have k4_ : w9.cell? ⟨gm, 4, none⟩ = some (.int .u32 a0_4) := (blk_cell BK 4).trans rfl; have z4_ := blk_frozen BK 4; have k5_ : w9.cell? ⟨gm, 5, none⟩ = some (.int .u32 a0_5) := (blk_cell BK 5).trans rfl; have z5_ := blk_frozen BK 5; have k6_ : w9.cell? ⟨gm, 6, none⟩ = some (.int .u32 a0_6) := (blk_cell BK 6).trans rfl; have z6_ := blk_frozen BK 6) | ((with_reducible refine gate_dst (N := 34) rfl ?_); refine Kd.N_lit (Kd.int .u32) _ 22 ?hg (N' := 34) ?hd (xs := [a0_2]) (inner := [.int .u32 a0_2]) (ok := fun _ => True) (okp := fun _ => False) ?hr ?hp (fun _ hk => hk.elim) trivial (Below.refl _ _) (Nat.le_refl _) (by simp) ?_; (case hd => rfl); (case hg => rfl); (case hr => first | (go_simp; done) | (go_simp; rfl)); (case hp => exact (Reps.none _ _).snoc (fun _ _ => rfl) rfl); intro v34 w10 hW hb_ hg_ hnew_; clear hg_ hnew_; rw [← NX.out] at hW; obtain ⟨Aw, cw, ev⟩ := Kd.N_slice hW; subst ev; replace BK := blk_below BK hb_; replace HB := HB.trans (hb_.mono HB.size); replace hF := Kd.N_below hF hb_; clear hb_; (try clear k0_); (try clear z0_); (try clear k1_); (try clear z1_); (try clear k2_); (try clear z2_); (try clear k3_); (try clear z3_); (try clear k4_); (try clear z4_); (try clear k5_); (try clear z5_); (try clear k6_); (try clear z6_); have k0_ : w10.cell? ⟨gm, 0, none⟩ = some (.int .u32 a0_0) := (blk_cell BK 0).trans rfl; have z0_ := blk_frozen BK 0; have k1_ : w10.cell? ⟨gm, 1, none⟩ = some (.int .u32 a0_1) := (blk_cell BK 1).trans rfl; have z1_ := blk_frozen BK 1; have k2_ : w10.cell? ⟨gm, 2, none⟩ = some (.int .u32 a0_2) := (blk_cell BK 2).trans rfl; have z2_ := blk_frozen BK 2; have k3_ : w10.cell? ⟨gm, 3, none⟩ = some (.int .u32 a0_3) := (blk_cell BK 3).trans rfl; have z3_ := blk_frozen BK 3; have k4_ : w10.cell? ⟨gm, 4, none⟩ = some (.int .u32 a0_4) := (blk_cell BK 4).trans rfl; have z4_ := blk_frozen BK 4; have k5_ : w10.cell? ⟨gm, 5, none⟩ = some (.int .u32 a0_5) := (blk_cell BK 5).trans rfl; have z5_ := blk_frozen BK 5; have k6_ : w10.cell? ⟨gm, 6, none⟩ = some (.int .u32 a0_6) := (blk_cell BK 6).trans rfl; have z6_ := blk_frozen BK 6) | (go_at_call 18; (refine (wire_One.calls 3 _ cw xs 3 xs _ (Kd.N_reads' hW).2.2 (Kd.N_reads' hW).2.1 AO.out).mono ?_); rintro e w11 ⟨vd, rfl, hR, hb_⟩; have hD := Kd.R_V (base' := 0) (Kd.R_mono (ok' := fun k => some k ≠ u4.ownBlock) (Kd.R_bound hR) (fun k hk => fun e_ => by have := Kd.N_lt hF k e_.symm; have := hk.2.1; omega)); clear hR hW; obtain ⟨Ad, cd, ev⟩ := Kd.V_slice hD; subst ev; replace BK := blk_below BK hb_; replace HB := HB.trans (hb_.mono HB.size); replace hF := Kd.N_below hF hb_; clear hb_; (try clear k0_); (try clear z0_); (try clear k1_); (try clear z1_); (try clear k2_); (try clear z2_); (try clear k3_); (try clear z3_); (try clear k4_); (try clear z4_); (try clear k5_); (try clear z5_); (try clear k6_); (try clear z6_); have k0_ : w11.cell? ⟨gm, 0, none⟩ = some (.int .u32 a0_0) := (blk_cell BK 0).trans rfl; have z0_ := blk_frozen BK 0; have k1_ : w11.cell? ⟨gm, 1, none⟩ = some (.int .u32 a0_1) := (blk_cell BK 1).trans rfl; have z1_ := blk_frozen BK 1; have k2_ : w11.cell? ⟨gm, 2, none⟩ = some (.int .u32 a0_2) := (blk_cell BK 2).trans rfl; have z2_ := blk_frozen BK 2; have k3_ : w11.cell? ⟨gm, 3, none⟩ = some (.int .u32 a0_3) := (blk_cell BK 3).trans rfl; have z3_ := blk_frozen BK 3; have k4_ : w11.cell? ⟨gm, 4, none⟩ = some (.int .u32 a0_4) := (blk_cell BK 4).trans rfl; have z4_ := blk_frozen BK 4; have k5_ : w11.cell? ⟨gm, 5, none⟩ = some (.int .u32 a0_5) := (blk_cell BK 5).trans rfl; have z5_ := blk_frozen BK 5; have k6_ : w11.cell? ⟨gm, 6, none⟩ = some (.int .u32 a0_6) := (blk_cell BK 6).trans rfl; have z6_ := blk_frozen BK 6) | ((with_reducible refine gate_dst (N := 36) rfl ?_); refine Kd.N_lit k45 _ 45 ?hg (N' := 36) ?hd (xs := [(⟨3, xs⟩ : S45)]) (inner := [.int .u32 3, .slice Ad xs.length cd]) (ok := fun k => some k ≠ u4.ownBlock) (okp := fun k => some k ≠ u4.ownBlock) ?hr ?hp (fun _ hk => hk) (fun e_ => Nat.lt_irrefl _ (Kd.N_lt hF _ e_.symm)) (Below.refl _ _) (Nat.le_refl _) (by simp) ?_; (case hd => rfl); (case hg => rfl); (case hr => first | (go_simp; done) | (go_simp; rfl)); (case hp => exact Reps.snoc (ps := []) (cs := []) (Reps.none _ _) (k45_mkF _ _ (⟨3, xs⟩ : S45) (Kd.V_reads' hD).2.1 (Kd.V_F hD)) rfl); intro v36 w12 hL hb_ hg_ hnew_; clear hg_ hnew_ hD; replace BK := blk_below BK hb_; replace HB := HB.trans (hb_.mono HB.size); have hF0 := hF; replace hF := Kd.N_below hF0 hb_; clear hF0; clear hb_; (try clear k0_); (try clear z0_); (try clear k1_); (try clear z1_); (try clear k2_); (try clear z2_); (try clear k3_); (try clear z3_); (try clear k4_); (try clear z4_); (try clear k5_); (try clear z5_); (try clear k6_); (try clear z6_); have k0_ : w12.cell? ⟨gm, 0, none⟩ = some (.int .u32 a0_0) := (blk_cell BK 0).trans rfl; have z0_ := blk_frozen BK 0; have k1_ : w12.cell? ⟨gm, 1, none⟩ = some (.int .u32 a0_1) := (blk_cell BK 1).trans rfl; have z1_ := blk_frozen BK 1; have k2_ : w12.cell? ⟨gm, 2, none⟩ = some (.int .u32 a0_2) := (blk_cell BK 2).trans rfl; have z2_ := blk_frozen BK 2; have k3_ : w12.cell? ⟨gm, 3, none⟩ = some (.int .u32 a0_3) := (blk_cell BK 3).trans rfl; have z3_ := blk_frozen BK 3; have k4_ : w12.cell? ⟨gm, 4, none⟩ = some (.int .u32 a0_4) := (blk_cell BK 4).trans rfl; have z4_ := blk_frozen BK 4; have k5_ : w12.cell? ⟨gm, 5, none⟩ = some (.int .u32 a0_5) := (blk_cell BK 5).trans rfl; have z5_ := blk_frozen BK 5; have k6_ : w12.cell? ⟨gm, 6, none⟩ = some (.int .u32 a0_6) := (blk_cell BK 6).trans rfl; have z6_ := blk_frozen BK 6) | ((with_reducible refine gate_builtin (b := .append) (xs := #[.tmp 28, .tmp 36]) rfl ?_); at_builtin; obtain ⟨AL, cL, evL⟩ := Kd.N_slice hL; subst evL; refine Kd.N_append_rows k45 (w0 := w) w.heap.size rfl (.tmp 28) (.tmp 36) 47 45 (.agg #[(.int .u32 0), (.slice none 0 0)]) 32 rfl Tryd.underlying47 info45 rfl (by decide) (by omega) u4 ls [(⟨3, xs⟩ : S45)] _ _ _ (fun _ => True) (fun k => some k ≠ u4.ownBlock) rfl rfl hF (Kd.N_F hL) (fun k hk => ⟨trivial, hk⟩) (fun _ _ => trivial) HB HB.size (by have := HLS.out; simp; omega) ?_; intro v37 w13 hF2 HB2 hg2 hat2; rw [← NL.out] at hF2; have BK0 := BK; replace BK := (hg2.block gm (blk_lt BK0) (fun e_ => by have := hgm4.out gm e_.symm; omega)).trans BK0; have hgm5 := Aside0.mk (show ∀ k, v37.ownBlock = some k → gm < k from hat2.elim (fun e_ k hk => hgm4.out k (e_ ▸ hk)) (fun ⟨b, e_, hb⟩ k hk => by rw [e_] at hk; cases hk; have := blk_lt BK0; omega)); clear hF HB hL hg2 hat2 BK0; have hF := hF2; have HB := HB2; clear hF2 HB2; (try clear k0_); (try clear z0_); (try clear k1_); (try clear z1_); (try clear k2_); (try clear z2_); (try clear k3_); (try clear z3_); (try clear k4_); (try clear z4_); (try clear k5_); (try clear z5_); (try clear k6_); (try clear z6_); have k0_ : w13.cell? ⟨gm, 0, none⟩ = some (.int .u32 a0_0) := (blk_cell BK 0).trans rfl; have z0_ := blk_frozen BK 0; have k1_ : w13.cell? ⟨gm, 1, none⟩ = some (.int .u32 a0_1) := (blk_cell BK 1).trans rfl; have z1_ := blk_frozen BK 1; have k2_ : w13.cell? ⟨gm, 2, none⟩ = some (.int .u32 a0_2) := (blk_cell BK 2).trans rfl; have z2_ := blk_frozen BK 2; have k3_ : w13.cell? ⟨gm, 3, none⟩ = some (.int .u32 a0_3) := (blk_cell BK 3).trans rfl; have z3_ := blk_frozen BK 3; have k4_ : w13.cell? ⟨gm, 4, none⟩ = some (.int .u32 a0_4) := (blk_cell BK 4).trans rfl; have z4_ := blk_frozen BK 4; have k5_ : w13.cell? ⟨gm, 5, none⟩ = some (.int .u32 a0_5) := (blk_cell BK 5).trans rfl; have z5_ := blk_frozen BK 5; have k6_ : w13.cell? ⟨gm, 6, none⟩ = some (.int .u32 a0_6) := (blk_cell BK 6).trans rfl; have z6_ := blk_frozen BK 6))
     go_roundg k2
     case measure => exact Nat.lt_succ_self _
     case rel => exact ⟨4, l2, (by first | rfl | (simp; done)), ⟨by omega⟩, ⟨by omega⟩, ⟨HLn.out⟩, ⟨HL2.out⟩, ⟨hF⟩, hgm5, ⟨BK⟩, ⟨HB⟩⟩
   ·
    have hI := msg.idx4 gm
    have hlf := HLf.out
    clear hi c
    obtain ⟨b, hb⟩ : ∃ b, b = msg.hasB a0_0 4 := ⟨_, rfl⟩
    have AP := Aside0.mk (show msg_part.f a0_0 4 = some b by unfold msg_part.f; rw [if_pos ⟨hk, by decide⟩, hb])
    have hfl : msg.fl a0_0 [0, a0_0, a0_1, a0_2, a0_3, a0_4, a0_5, a0_6] (4 + 1) = if msg.hasB a0_0 4 then msg.fl a0_0 [0, a0_0, a0_1, a0_2, a0_3, a0_4, a0_5, a0_6] 4 ++ [⟨4, [a0_3]⟩] else msg.fl a0_0 [0, a0_0, a0_1, a0_2, a0_3, a0_4, a0_5, a0_6] 4 := rfl
    rw [← hb, ← hlf] at hfl
    cases b with
    | false =>
     have HLn := Aside0.mk (show ls = msg.fl a0_0 [0, a0_0, a0_1, a0_2, a0_3, a0_4, a0_5, a0_6] (4 + 1) by rw [hfl]; rfl)
     clear hb hfl hlf
     go_wp2_with (first | (go_at_call 20; (with_reducible refine (msg_part.calls a0_0 4 false _ (hG.below HB) AP.out).mono ?_); rintro e w9 ⟨rfl, hd_⟩; have hb_ := hd_.below; clear hd_; replace BK := blk_below BK hb_; replace HB := HB.trans (hb_.mono HB.size); replace hF := Kd.N_below hF hb_; clear hb_; (try clear k0_); (try clear z0_); (try clear k1_); (try clear z1_); (try clear k2_); (try clear z2_); (try clear k3_); (try clear z3_); (try clear k4_); (try clear z4_); (try clear k5_); (try clear z5_); (try clear k6_); (try clear z6_); have k0_ : w9.cell? ⟨gm, 0, none⟩ = some (.int .u32 a0_0) := (blk_cell BK 0).trans rfl; have z0_ := blk_frozen BK 0; have k1_ : w9.cell? ⟨gm, 1, none⟩ = some (.int .u32 a0_1) := (blk_cell BK 1).trans rfl; have z1_ := blk_frozen BK 1; have k2_ : w9.cell? ⟨gm, 2, none⟩ = some (.int .u32 a0_2) := (blk_cell BK 2).trans rfl; have z2_ := blk_frozen BK 2; have k3_ : w9.cell? ⟨gm, 3, none⟩ = some (.int .u32 a0_3) := (blk_cell BK 3).trans rfl; have z3_ := blk_frozen BK 3; have k4_ : w9.cell? ⟨gm, 4, none⟩ = some (.int .u32 a0_4) := (blk_cell BK 4).trans rfl; have z4_ := blk_frozen BK 4; have k5_ : w9.cell? ⟨gm, 5, none⟩ = some (.int .u32 a0_5) := (blk_cell BK 5).trans rfl; have z5_ := blk_frozen BK 5; have k6_ : w9.cell? ⟨gm, 6, none⟩ = some (.int .u32 a0_6) := (blk_cell BK 6).trans rfl; have z6_ := blk_frozen BK 6))
     go_roundg k2
     case measure => exact Nat.lt_succ_self _
     case rel => exact ⟨5, ls, (by first | rfl | (simp; done)), ⟨by omega⟩, ⟨by omega⟩, ⟨HLn.out⟩, ⟨by have := HLS.out; omega⟩, ⟨hF⟩, hgm4, ⟨BK⟩, ⟨HB⟩⟩
    | true =>
     obtain ⟨xs, hxs⟩ : ∃ xs : List Int, xs = [a0_3] := ⟨_, rfl⟩
     have NX := Aside0.mk hxs
     have AO := Aside0.mk (show wire_One.f 4 xs = some (4, xs) by rw [hxs]; rfl)
     obtain ⟨l2, hl2⟩ : ∃ l2 : List S45, l2 = ls ++ [(⟨4, xs⟩ : S45)] := ⟨_, rfl⟩
     have NL := Aside0.mk hl2
     have HLn := Aside0.mk (show l2 = msg.fl a0_0 [0, a0_0, a0_1, a0_2, a0_3, a0_4, a0_5, a0_6] (4 + 1) by rw [hfl, hl2, hxs]; rfl)
     have HL2 := Aside0.mk (show l2.length ≤ 4 + 1 + 1 by have := HLS.out; rw [hl2]; simp; omega)
     clear hb hfl hlf hxs hl2
     go_wp2_with (first | (go_at_call 20; (with_reducible refine (msg_part.calls a0_0 4 true _ (hG.below HB) AP.out).mono ?_); rintro e w9 ⟨rfl, hd_⟩; have hb_ := hd_.below; clear hd_; replace BK := blk_below BK hb_; replace HB := HB.trans (hb_.mono HB.size); replace hF := Kd.N_below hF hb_; clear hb_; (try clear k0_); (try clear z0_); (try clear k1_); (try clear z1_); (try clear k2_); (try clear z2_); (try clear k3_); (try clear z3_); (try clear k4_); (try clear z4_); (try clear k5_); (try clear z5_); (try clear k6_); (try clear z6_); have k0_ : w9.cell? ⟨gm, 0, none⟩ = some (.int .u32 a0_0) := (blk_cell BK 0).trans rfl; have z0_ := blk_frozen BK 0; have k1_ : w9.cell? ⟨gm, 1, none⟩ = some (.int .u32 a0_1) := (blk_cell BK 1).trans rfl; have z1_ := blk_frozen BK 1; have k2_ : w9.cell? ⟨gm, 2, none⟩ = some (.int .u32 a0_2) := (blk_cell BK 2).trans rfl; have z2_ := blk_frozen BK 2; have k3_ : w9.cell? ⟨gm, 3, none⟩ = some (.int .u32 a0_3) := (blk_cell BK 3).trans rfl; have z3_ := blk_frozen BK 3; have k4_ : w9.cell? ⟨gm, 4, none⟩ = some (.int .u32 a0_4) := (blk_cell BK 4).trans rfl; have z4_ := blk_frozen BK 4; have k5_ : w9.cell? ⟨gm, 5, none⟩ = some (.int .u32 a0_5) := (blk_cell BK 5).trans rfl; have z5_ := blk_frozen BK 5; have k6_ : w9.cell? ⟨gm, 6, none⟩ = some (.int .u32 a0_6) := (blk_cell BK 6).trans rfl; have z6_ := blk_frozen BK 6) | ((with_reducible refine gate_dst (N := 34) rfl ?_); refine Kd.N_lit (Kd.int .u32) _ 22 ?hg (N' := 34) ?hd (xs := [a0_3]) (inner := [.int .u32 a0_3]) (ok := fun _ => True) (okp := fun _ => False) ?hr ?hp (fun _ hk => hk.elim) trivial (Below.refl _ _) (Nat.le_refl _) (by simp) ?_; (case hd => rfl); (case hg => rfl); (case hr => first | (go_simp; done) | (go_simp; rfl)); (case hp => exact (Reps.none _ _).snoc (fun _ _ => rfl) rfl); intro v34 w10 hW hb_ hg_ hnew_; clear hg_ hnew_; rw [← NX.out] at hW; obtain ⟨Aw, cw, ev⟩ := Kd.N_slice hW; subst ev; replace BK := blk_below BK hb_; replace HB := HB.trans (hb_.mono HB.size); replace hF := Kd.N_below hF hb_; clear hb_; (try clear k0_); (try clear z0_); (try clear k1_); (try clear z1_); (try clear k2_); (try clear z2_); (try clear k3_); (try clear z3_); (try clear k4_); (try clear z4_); (try clear k5_); (try clear z5_); (try clear k6_); (try clear z6_); have k0_ : w10.cell? ⟨gm, 0, none⟩ = some (.int .u32 a0_0) := (blk_cell BK 0).trans rfl; have z0_ := blk_frozen BK 0; have k1_ : w10.cell? ⟨gm, 1, none⟩ = some (.int .u32 a0_1) := (blk_cell BK 1).trans rfl; have z1_ := blk_frozen BK 1; have k2_ : w10.cell? ⟨gm, 2, none⟩ = some (.int .u32 a0_2) := (blk_cell BK 2).trans rfl; have z2_ := blk_frozen BK 2; have k3_ : w10.cell? ⟨gm, 3, none⟩ = some (.int .u32 a0_3) := (blk_cell BK 3).trans rfl; have z3_ := blk_frozen BK 3; have k4_ : w10.cell? ⟨gm, 4, none⟩ = some (.int .u32 a0_4) := (blk_cell BK 4).trans rfl; have z4_ := blk_frozen BK 4; have k5_ : w10.cell? ⟨gm, 5, none⟩ = some (.int .u32 a0_5) := (blk_cell BK 5).trans rfl; have z5_ := blk_frozen BK 5; have k6_ : w10.cell? ⟨gm, 6, none⟩ = some (.int .u32 a0_6) := (blk_cell BK 6).trans rfl; have z6_ := blk_frozen BK 6) | (go_at_call 18; (refine (wire_One.calls 4 _ cw xs 4 xs _ (Kd.N_reads' hW).2.2 (Kd.N_reads' hW).2.1 AO.out).mono ?_); rintro e w11 ⟨vd, rfl, hR, hb_⟩; have hD := Kd.R_V (base' := 0) (Kd.R_mono (ok' := fun k => some k ≠ u4.ownBlock) (Kd.R_bound hR) (fun k hk => fun e_ => by have := Kd.N_lt hF k e_.symm; have := hk.2.1; omega)); clear hR hW; obtain ⟨Ad, cd, ev⟩ := Kd.V_slice hD; subst ev; replace BK := blk_below BK hb_; replace HB := HB.trans (hb_.mono HB.size); replace hF := Kd.N_below hF hb_; clear hb_; (try clear k0_); (try clear z0_); (try clear k1_); (try clear z1_); (try clear k2_); (try clear z2_); (try clear k3_); (try clear z3_); (try clear k4_); (try clear z4_); (try clear k5_); (try clear z5_); (try clear k6_); (try clear z6_); have k0_ : w11.cell? ⟨gm, 0, none⟩ = some (.int .u32 a0_0) := (blk_cell BK 0).trans rfl; have z0_ := blk_frozen BK 0; have k1_ : w11.cell? ⟨gm, 1, none⟩ = some (.int .u32 a0_1) := (blk_cell BK 1).trans rfl; have z1_ := blk_frozen BK 1; have k2_ : w11.cell? ⟨gm, 2, none⟩ = some (.int .u32 a0_2) := (blk_cell BK 2).trans rfl; have z2_ := blk_frozen BK 2; have k3_ : w11.cell? ⟨gm, 3, none⟩ = some (.int .u32 a0_3) := (blk_cell BK 3).trans rfl; have z3_ := blk_frozen BK 3; have k4_ : w11.cell? ⟨gm, 4, none⟩ = some (.int .u32 a0_4) := (blk_cell BK 4).trans rfl; have z4_ := blk_frozen BK 4; have k5_ : w11.cell? ⟨gm, 5, none⟩ = some (.int .u32 a0_5) := (blk_cell BK 5).trans rfl; have z5_ := blk_frozen BK 5; have k6_ : w11.cell? ⟨gm, 6, none⟩ = some (.int .u32 a0_6) := (blk_cell BK 6).trans rfl; have z6_ := blk_frozen BK 6) | ((with_reducible refine gate_dst (N := 36) rfl ?_); refine Kd.N_lit k45 _ 45 ?hg (N' := 36) ?hd (xs := [(⟨4, xs⟩ : S45)]) (inner := [.int .u32 4, .slice Ad xs.length cd]) (ok := fun k => some k ≠ u4.ownBlock) (okp := fun k => some k ≠ u4.ownBlock) ?hr ?hp (fun _ hk => hk) (fun e_ => Nat.lt_irrefl _ (Kd.N_lt hF _ e_.symm)) (Below.refl _ _) (Nat.le_refl _) (by simp) ?_; (case hd => rfl); (case hg => rfl); (case hr => first | (go_simp; done) | (go_simp; rfl)); (case hp => exact Reps.snoc (ps := []) (cs := []) (Reps.none _ _) (k45_mkF _ _ (⟨4, xs⟩ : S45) (Kd.V_reads' hD).2.1 (Kd.V_F hD)) rfl); intro v36 w12 hL hb_ hg_ hnew_; clear hg_ hnew_ hD; replace BK := blk_below BK hb_; replace HB := HB.trans (hb_.mono HB.size); have hF0 := hF; replace hF := Kd.N_below hF0 hb_; clear hF0; clear hb_; (try clear k0_); (try clear z0_); (try clear k1_); (try clear z1_); (try clear k2_); (try clear z2_); (try clear k3_); (try clear z3_); (try clear k4_); (try clear z4_); (try clear k5_); (try clear z5_); (try clear k6_); (try clear z6_); have k0_ : w12.cell? ⟨gm, 0, none⟩ = some (.int .u32 a0_0) := (blk_cell BK 0).trans rfl; have z0_ := blk_frozen BK 0; have k1_ : w12.cell? ⟨gm, 1, none⟩ = some (.int .u32 a0_1) := (blk_cell BK 1).trans rfl; have z1_ := blk_frozen BK 1; have k2_ : w12.cell? ⟨gm, 2, none⟩ = some (.int .u32 a0_2) := (blk_cell BK 2).trans rfl; have z2_ := blk_frozen BK 2; have k3_ : w12.cell? ⟨gm, 3, none⟩ = some (.int .u32 a0_3) := (blk_cell BK 3).trans rfl; have z3_ := blk_frozen BK 3; have k4_ : w12.cell? ⟨gm, 4, none⟩ = some (.int .u32 a0_4) := (blk_cell BK 4).trans rfl; have z4_ := blk_frozen BK 4; have k5_ : w12.cell? ⟨gm, 5, none⟩ = some (.int .u32 a0_5) := (blk_cell BK 5).trans rfl; have z5_ := blk_frozen BK 5; have k6_ : w12.cell? ⟨gm, 6, none⟩ = some (.int .u32 a0_6) := (blk_cell BK 6).trans rfl; have z6_ := blk_frozen BK 6) | ((with_reducible refine gate_builtin (b := .append) (xs := #[.tmp 28, .tmp 36]) rfl ?_); at_builtin; obtain ⟨AL, cL, evL⟩ := Kd.N_slice hL; subst evL; refine Kd.N_append_rows k45 (w0 := w) w.heap.size rfl (.tmp 28) (.tmp 36) 47 45 (.agg #[(.int .u32 0), (.slice none 0 0)]) 32 rfl Tryd.underlying47 info45 rfl (by decide) (by omega) u4 ls [(⟨4, xs⟩ : S45)] _ _ _ (fun _ => True) (fun k => some k ≠ u4.ownBlock) rfl rfl hF (Kd.N_F hL) (fun k hk => ⟨trivial, hk⟩) (fun _ _ => trivial) HB HB.size (by have := HLS.out; simp; omega) ?_; intro v37 w13 hF2 HB2 hg2 hat2; rw [← NL.out] at hF2; have BK0 := BK; replace BK := (hg2.block gm (blk_lt BK0) (fun e_ => by have := hgm4.out gm e_.symm; omega)).trans BK0; have hgm5 := Aside0.mk (show ∀ k, v37.ownBlock = some k → gm < k from hat2.elim (fun e_ k hk => hgm4.out k (e_ ▸ hk)) (fun ⟨b, e_, hb⟩ k hk => by rw [e_] at hk; cases hk; have := blk_lt BK0; omega)); clear hF HB hL hg2 hat2 BK0; have hF := hF2; have HB := HB2; clear hF2 HB2; (try clear k0_); (try clear z0_); (try clear k1_); (try clear z1_); (try clear k2_); (try clear z2_); (try clear k3_); (try clear z3_); (try clear k4_); (try clear z4_); (try clear k5_); (try clear z5_); (try clear k6_); (try clear z6_); have k0_ : w13.cell? ⟨gm, 0, none⟩ = some (.int .u32 a0_0) := (blk_cell BK 0).trans rfl; have z0_ := blk_frozen BK 0; have k1_ : w13.cell? ⟨gm, 1, none⟩ = some (.int .u32 a0_1) := (blk_cell BK 1).trans rfl; have z1_ := blk_frozen BK 1; have k2_ : w13.cell? ⟨gm, 2, none⟩ = some (.int .u32 a0_2) := (blk_cell BK 2).trans rfl; have z2_ := blk_frozen BK 2; have k3_ : w13.cell? ⟨gm, 3, none⟩ = some (.int .u32 a0_3) := (blk_cell BK 3).trans rfl; have z3_ := blk_frozen BK 3; have k4_ : w13.cell? ⟨gm, 4, none⟩ = some (.int .u32 a0_4) := (blk_cell BK 4).trans rfl; have z4_ := blk_frozen BK 4; have k5_ : w13.cell? ⟨gm, 5, none⟩ = some (.int .u32 a0_5) := (blk_cell BK 5).trans rfl; have z5_ := blk_frozen BK 5; have k6_ : w13.cell? ⟨gm, 6, none⟩ = some (.int .u32 a0_6) := (blk_cell BK 6).trans rfl; have z6_ := blk_frozen BK 6))
     go_roundg k2
     case measure => exact Nat.lt_succ_self _
     case rel => exact ⟨5, l2, (by first | rfl | (simp; done)), ⟨by omega⟩, ⟨by omega⟩, ⟨HLn.out⟩, ⟨HL2.out⟩, ⟨hF⟩, hgm5, ⟨BK⟩, ⟨HB⟩⟩
   ·
    have hI := msg.idx5 gm
    have hlf := HLf.out
    clear hi c
    obtain ⟨b, hb⟩ : ∃ b, b = msg.hasB a0_0 5 := ⟨_, rfl⟩
    have AP := Aside0.mk (show msg_part.f a0_0 5 = some b by unfold msg_part.f; rw [if_pos ⟨hk, by decide⟩, hb])
    have hfl : msg.fl a0_0 [0, a0_0, a0_1, a0_2, a0_3, a0_4, a0_5, a0_6] (5 + 1) = if msg.hasB a0_0 5 then msg.fl a0_0 [0, a0_0, a0_1, a0_2, a0_3, a0_4, a0_5, a0_6] 5 ++ [⟨5, [a0_4]⟩] else msg.fl a0_0 [0, a0_0, a0_1, a0_2, a0_3, a0_4, a0_5, a0_6] 5 := rfl
    rw [← hb, ← hlf] at hfl
    cases b with
    | false =>
     have HLn := Aside0.mk (show ls = msg.fl a0_0 [0, a0_0, a0_1, a0_2, a0_3, a0_4, a0_5, a0_6] (5 + 1) by rw [hfl]; rfl)
     clear hb hfl hlf
     go_wp2_with (first | (go_at_call 20; (with_reducible refine (msg_part.calls a0_0 5 false _ (hG.below HB) AP.out).mono ?_); rintro e w9 ⟨rfl, hd_⟩; have hb_ := hd_.below; clear hd_; replace BK := blk_below BK hb_; replace HB := HB.trans (hb_.mono HB.size); replace hF := Kd.N_below hF hb_; clear hb_; (try clear k0_); (try clear z0_); (try clear k1_); (try clear z1_); (try clear k2_); (try clear z2_); (try clear k3_); (try clear z3_); (try clear k4_); (try clear z4_); (try clear k5_); (try clear z5_); (try clear k6_); (try clear z6_); have k0_ : w9.cell? ⟨gm, 0, none⟩ = some (.int .u32 a0_0) := (blk_cell BK 0).trans rfl; have z0_ := blk_frozen BK 0; have k1_ : w9.cell? ⟨gm, 1, none⟩ = some (.int .u32 a0_1) := (blk_cell BK 1).trans rfl; have z1_ := blk_frozen BK 1; have k2_ : w9.cell? ⟨gm, 2, none⟩ = some (.int .u32 a0_2) := (blk_cell BK 2).trans rfl; have z2_ := blk_frozen BK 2; have k3_ : w9.cell? ⟨gm, 3, none⟩ = some (.int .u32 a0_3) := (blk_cell BK 3).trans rfl; have z3_ := blk_frozen BK 3; have k4_ : w9.cell? ⟨gm, 4, none⟩ = some (.int .u32 a0_4) := (blk_cell BK 4).trans rfl; have z4_ := blk_frozen BK 4; have k5_ : w9.cell? ⟨gm, 5, none⟩ = some (.int .u32 a0_5) := (blk_cell BK 5).trans rfl; have z5_ := blk_frozen BK 5; have k6_ : w9.cell? ⟨gm, 6, none⟩ = some (.int .u32 a0_6) := (blk_cell BK 6).trans rfl; have z6_ := blk_frozen BK 6))
     go_roundg k2
     case measure => exact Nat.lt_succ_self _
     case rel => exact ⟨6, ls, (by first | rfl | (simp; done)), ⟨by omega⟩, ⟨by omega⟩, ⟨HLn.out⟩, ⟨by have := HLS.out; omega⟩, ⟨hF⟩, hgm4, ⟨BK⟩, ⟨HB⟩⟩
    | true =>
     obtain ⟨xs, hxs⟩ : ∃ xs : List Int, xs = [a0_4] := ⟨_, rfl⟩
     have NX := Aside0.mk hxs
     have AO := Aside0.mk (show wire_One.f 5 xs = some (5, xs) by rw [hxs]; rfl)
     obtain ⟨l2, hl2⟩ : ∃ l2 : List S45, l2 = ls ++ [(⟨5, xs⟩ : S45)] := ⟨_, rfl⟩
     have NL := Aside0.mk hl2
     have HLn := Aside0.mk (show l2 = msg.fl a0_0 [0, a0_0, a0_1, a0_2, a0_3, a0_4, a0_5, a0_6] (5 + 1) by rw [hfl, hl2, hxs]; rfl)
     have HL2 := Aside0.mk (show l2.length ≤ 5 + 1 + 1 by have := HLS.out; rw [hl2]; simp; omega)
     clear hb hfl hlf hxs hl2
     go_wp2_with (first | (go_at_call 20; (with_reducible refine (msg_part.calls a0_0 5 true _ (hG.below HB) AP.out).mono ?_); rintro e w9 ⟨rfl, hd_⟩; have hb_ := hd_.below; clear hd_; replace BK := blk_below BK hb_; replace HB := HB.trans (hb_.mono HB.size); replace hF := Kd.N_below hF hb_; clear hb_; (try clear k0_); (try clear z0_); (try clear k1_); (try clear z1_); (try clear k2_); (try clear z2_); (try clear k3_); (try clear z3_); (try clear k4_); (try clear z4_); (try clear k5_); (try clear z5_); (try clear k6_); (try clear z6_); have k0_ : w9.cell? ⟨gm, 0, none⟩ = some (.int .u32 a0_0) := (blk_cell BK 0).trans rfl; have z0_ := blk_frozen BK 0; have k1_ : w9.cell? ⟨gm, 1, none⟩ = some (.int .u32 a0_1) := (blk_cell BK 1).trans rfl; have z1_ := blk_frozen BK 1; have k2_ : w9.cell? ⟨gm, 2, none⟩ = some (.int .u32 a0_2) := (blk_cell BK 2).trans rfl; have z2_ := blk_frozen BK 2; have k3_ : w9.cell? ⟨gm, 3, none⟩ = some (.int .u32 a0_3) := (blk_cell BK 3).trans rfl; have z3_ := blk_frozen BK 3; have k4_ : w9.cell? ⟨gm, 4, none⟩ = some (.int .u32 a0_4) := (blk_cell BK 4).trans rfl; have z4_ := blk_frozen BK 4; have k5_ : w9.cell? ⟨gm, 5, none⟩ = some (.int .u32 a0_5) := (blk_cell BK 5).trans rfl; have z5_ := blk_frozen BK 5; have k6_ : w9.cell? ⟨gm, 6, none⟩ = some (.int .u32 a0_6) := (blk_cell BK 6).trans rfl; have z6_ := blk_frozen BK 6) | ((with_reducible refine gate_dst (N := 34) rfl ?_); refine Kd.N_lit (Kd.int .u32) _ 22 ?hg (N' := 34) ?hd (xs := [a0_4]) (inner := [.int .u32 a0_4]) (ok := fun _ => True) (okp := fun _ => False) ?hr ?hp (fun _ hk => hk.elim) trivial (Below.refl _ _) (Nat.le_refl _) (by simp) ?_; (case hd => rfl); (case hg => rfl); (case hr => first | (go_simp; done) | (go_simp; rfl)); (case hp => exact (Reps.none _ _).snoc (fun _ _ => rfl) rfl); intro v34 w10 hW hb_ hg_ hnew_; clear hg_ hnew_; rw [← NX.out] at hW; obtain ⟨Aw, cw, ev⟩ := Kd.N_slice hW; subst ev; replace BK := blk_below BK hb_; replace HB := HB.trans (hb_.mono HB.size); replace hF := Kd.N_below hF hb_; clear hb_; (try clear k0_); (try clear z0_); (try clear k1_); (try clear z1_); (try clear k2_); (try clear z2_); (try clear k3_); (try clear z3_); (try clear k4_); (try clear z4_); (try clear k5_); (try clear z5_); (try clear k6_); (try clear z6_); have k0_ : w10.cell? ⟨gm, 0, none⟩ = some (.int .u32 a0_0) := (blk_cell BK 0).trans rfl; have z0_ := blk_frozen BK 0; have k1_ : w10.cell? ⟨gm, 1, none⟩ = some (.int .u32 a0_1) := (blk_cell BK 1).trans rfl; have z1_ := blk_frozen BK 1; have k2_ : w10.cell? ⟨gm, 2, none⟩ = some (.int .u32 a0_2) := (blk_cell BK 2).trans rfl; have z2_ := blk_frozen BK 2; have k3_ : w10.cell? ⟨gm, 3, none⟩ = some (.int .u32 a0_3) := (blk_cell BK 3).trans rfl; have z3_ := blk_frozen BK 3; have k4_ : w10.cell? ⟨gm, 4, none⟩ = some (.int .u32 a0_4) := (blk_cell BK 4).trans rfl; have z4_ := blk_frozen BK 4; have k5_ : w10.cell? ⟨gm, 5, none⟩ = some (.int .u32 a0_5) := (blk_cell BK 5).trans rfl; have z5_ := blk_frozen BK 5; have k6_ : w10.cell? ⟨gm, 6, none⟩ = some (.int .u32 a0_6) := (blk_cell BK 6).trans rfl; have z6_ := blk_frozen BK 6) | (go_at_call 18; (refine (wire_One.calls 5 _ cw xs 5 xs _ (Kd.N_reads' hW).2.2 (Kd.N_reads' hW).2.1 AO.out).mono ?_); rintro e w11 ⟨vd, rfl, hR, hb_⟩; have hD := Kd.R_V (base' := 0) (Kd.R_mono (ok' := fun k => some k ≠ u4.ownBlock) (Kd.R_bound hR) (fun k hk => fun e_ => by have := Kd.N_lt hF k e_.symm; have := hk.2.1; omega)); clear hR hW; obtain ⟨Ad, cd, ev⟩ := Kd.V_slice hD; subst ev; replace BK := blk_below BK hb_; replace HB := HB.trans (hb_.mono HB.size); replace hF := Kd.N_below hF hb_; clear hb_; (try clear k0_); (try clear z0_); (try clear k1_); (try clear z1_); (try clear k2_); (try clear z2_); (try clear k3_); (try clear z3_); (try clear k4_); (try clear z4_); (try clear k5_); (try clear z5_); (try clear k6_); (try clear z6_); have k0_ : w11.cell? ⟨gm, 0, none⟩ = some (.int .u32 a0_0) := (blk_cell BK 0).trans rfl; have z0_ := blk_frozen BK 0; have k1_ : w11.cell? ⟨gm, 1, none⟩ = some (.int .u32 a0_1) := (blk_cell BK 1).trans rfl; have z1_ := blk_frozen BK 1; have k2_ : w11.cell? ⟨gm, 2, none⟩ = some (.int .u32 a0_2) := (blk_cell BK 2).trans rfl; have z2_ := blk_frozen BK 2; have k3_ : w11.cell? ⟨gm, 3, none⟩ = some (.int .u32 a0_3) := (blk_cell BK 3).trans rfl; have z3_ := blk_frozen BK 3; have k4_ : w11.cell? ⟨gm, 4, none⟩ = some (.int .u32 a0_4) := (blk_cell BK 4).trans rfl; have z4_ := blk_frozen BK 4; have k5_ : w11.cell? ⟨gm, 5, none⟩ = some (.int .u32 a0_5) := (blk_cell BK 5).trans rfl; have z5_ := blk_frozen BK 5; have k6_ : w11.cell? ⟨gm, 6, none⟩ = some (.int .u32 a0_6) := (blk_cell BK 6).trans rfl; have z6_ := blk_frozen BK 6) | ((with_reducible refine gate_dst (N := 36) rfl ?_); refine Kd.N_lit k45 _ 45 ?hg (N' := 36) ?hd (xs := [(⟨5, xs⟩ : S45)]) (inner := [.int .u32 5, .slice Ad xs.length cd]) (ok := fun k => some k ≠ u4.ownBlock) (okp := fun k => some k ≠ u4.ownBlock) ?hr ?hp (fun _ hk => hk) (fun e_ => Nat.lt_irrefl _ (Kd.N_lt hF _ e_.symm)) (Below.refl _ _) (Nat.le_refl _) (by simp) ?_; (case hd => rfl); (case hg => rfl); (case hr => first | (go_simp; done) | (go_simp; rfl)); (case hp => exact Reps.snoc (ps := []) (cs := []) (Reps.none _ _) (k45_mkF _ _ (⟨5, xs⟩ : S45) (Kd.V_reads' hD).2.1 (Kd.V_F hD)) rfl); intro v36 w12 hL hb_ hg_ hnew_; clear hg_ hnew_ hD; replace BK := blk_below BK hb_; replace HB := HB.trans (hb_.mono HB.size); have hF0 := hF; replace hF := Kd.N_below hF0 hb_; clear hF0; clear hb_; (try clear k0_); (try clear z0_); (try clear k1_); (try clear z1_); (try clear k2_); (try clear z2_); (try clear k3_); (try clear z3_); (try clear k4_); (try clear z4_); (try clear k5_); (try clear z5_); (try clear k6_); (try clear z6_); have k0_ : w12.cell? ⟨gm, 0, none⟩ = some (.int .u32 a0_0) := (blk_cell BK 0).trans rfl; have z0_ := blk_frozen BK 0; have k1_ : w12.cell? ⟨gm, 1, none⟩ = some (.int .u32 a0_1) := (blk_cell BK 1).trans rfl; have z1_ := blk_frozen BK 1; have k2_ : w12.cell? ⟨gm, 2, none⟩ = some (.int .u32 a0_2) := (blk_cell BK 2).trans rfl; have z2_ := blk_frozen BK 2; have k3_ : w12.cell? ⟨gm, 3, none⟩ = some (.int .u32 a0_3) := (blk_cell BK 3).trans rfl; have z3_ := blk_frozen BK 3; have k4_ : w12.cell? ⟨gm, 4, none⟩ = some (.int .u32 a0_4) := (blk_cell BK 4).trans rfl; have z4_ := blk_frozen BK 4; have k5_ : w12.cell? ⟨gm, 5, none⟩ = some (.int .u32 a0_5) := (blk_cell BK 5).trans rfl; have z5_ := blk_frozen BK 5; have k6_ : w12.cell? ⟨gm, 6, none⟩ = some (.int .u32 a0_6) := (blk_cell BK 6).trans rfl; have z6_ := blk_frozen BK 6) | ((with_reducible refine gate_builtin (b := .append) (xs := #[.tmp 28, .tmp 36]) rfl ?_); at_builtin; obtain ⟨AL, cL, evL⟩ := Kd.N_slice hL; subst evL; refine Kd.N_append_rows k45 (w0 := w) w.heap.size rfl (.tmp 28) (.tmp 36) 47 45 (.agg #[(.int .u32 0), (.slice none 0 0)]) 32 rfl Tryd.underlying47 info45 rfl (by decide) (by omega) u4 ls [(⟨5, xs⟩ : S45)] _ _ _ (fun _ => True) (fun k => some k ≠ u4.ownBlock) rfl rfl hF (Kd.N_F hL) (fun k hk => ⟨trivial, hk⟩) (fun _ _ => trivial) HB HB.size (by have := HLS.out; simp; omega) ?_; intro v37 w13 hF2 HB2 hg2 hat2; rw [← NL.out] at hF2; have BK0 := BK; replace BK := (hg2.block gm (blk_lt BK0) (fun e_ => by have := hgm4.out gm e_.symm; omega)).trans BK0; have hgm5 := Aside0.mk (show ∀ k, v37.ownBlock = some k → gm < k from hat2.elim (fun e_ k hk => hgm4.out k (e_ ▸ hk)) (fun ⟨b, e_, hb⟩ k hk => by rw [e_] at hk; cases hk; have := blk_lt BK0; omega)); clear hF HB hL hg2 hat2 BK0; have hF := hF2; have HB := HB2; clear hF2 HB2; (try clear k0_); (try clear z0_); (try clear k1_); (try clear z1_); (try clear k2_); (try clear z2_); (try clear k3_); (try clear z3_); (try clear k4_); (try clear z4_); (try clear k5_); (try clear z5_); (try clear k6_); (try clear z6_); have k0_ : w13.cell? ⟨gm, 0, none⟩ = some (.int .u32 a0_0) := (blk_cell BK 0).trans rfl; have z0_ := blk_frozen BK 0; have k1_ : w13.cell? ⟨gm, 1, none⟩ = some (.int .u32 a0_1) := (blk_cell BK 1).trans rfl; have z1_ := blk_frozen BK 1; have k2_ : w13.cell? ⟨gm, 2, none⟩ = some (.int .u32 a0_2) := (blk_cell BK 2).trans rfl; have z2_ := blk_frozen BK 2; have k3_ : w13.cell? ⟨gm, 3, none⟩ = some (.int .u32 a0_3) := (blk_cell BK 3).trans rfl; have z3_ := blk_frozen BK 3; have k4_ : w13.cell? ⟨gm, 4, none⟩ = some (.int .u32 a0_4) := (blk_cell BK 4).trans rfl; have z4_ := blk_frozen BK 4; have k5_ : w13.cell? ⟨gm, 5, none⟩ = some (.int .u32 a0_5) := (blk_cell BK 5).trans rfl; have z5_ := blk_frozen BK 5; have k6_ : w13.cell? ⟨gm, 6, none⟩ = some (.int .u32 a0_6) := (blk_cell BK 6).trans rfl; have z6_ := blk_frozen BK 6))
     go_roundg k2
     case measure => exact Nat.lt_succ_self _
     case rel => exact ⟨6, l2, (by first | rfl | (simp; done)), ⟨by omega⟩, ⟨by omega⟩, ⟨HLn.out⟩, ⟨HL2.out⟩, ⟨hF⟩, hgm5, ⟨BK⟩, ⟨HB⟩⟩
   ·
    have hI := msg.idx6 gm
    have hlf := HLf.out
    clear hi c
    obtain ⟨b, hb⟩ : ∃ b, b = msg.hasB a0_0 6 := ⟨_, rfl⟩
    have AP := Aside0.mk (show msg_part.f a0_0 6 = some b by unfold msg_part.f; rw [if_pos ⟨hk, by decide⟩, hb])
    have hfl : msg.fl a0_0 [0, a0_0, a0_1, a0_2, a0_3, a0_4, a0_5, a0_6] (6 + 1) = if msg.hasB a0_0 6 then msg.fl a0_0 [0, a0_0, a0_1, a0_2, a0_3, a0_4, a0_5, a0_6] 6 ++ [⟨6, [a0_5]⟩] else msg.fl a0_0 [0, a0_0, a0_1, a0_2, a0_3, a0_4, a0_5, a0_6] 6 := rfl
    rw [← hb, ← hlf] at hfl
    cases b with
    | false =>
     have HLn := Aside0.mk (show ls = msg.fl a0_0 [0, a0_0, a0_1, a0_2, a0_3, a0_4, a0_5, a0_6] (6 + 1) by rw [hfl]; rfl)
     clear hb hfl hlf
     go_wp2_with (first | (go_at_call 20; (with_reducible refine (msg_part.calls a0_0 6 false _ (hG.below HB) AP.out).mono ?_); rintro e w9 ⟨rfl, hd_⟩; have hb_ := hd_.below; clear hd_; replace BK := blk_below BK hb_; replace HB := HB.trans (hb_.mono HB.size); replace hF := Kd.N_below hF hb_; clear hb_; (try clear k0_); (try clear z0_); (try clear k1_); (try clear z1_); (try clear k2_); (try clear z2_); (try clear k3_); (try clear z3_); (try clear k4_); (try clear z4_); (try clear k5_); (try clear z5_); (try clear k6_); (try clear z6_); have k0_ : w9.cell? ⟨gm, 0, none⟩ = some (.int .u32 a0_0) := (blk_cell BK 0).trans rfl; have z0_ := blk_frozen BK 0; have k1_ : w9.cell? ⟨gm, 1, none⟩ = some (.int .u32 a0_1) := (blk_cell BK 1).trans rfl; have z1_ := blk_frozen BK 1; have k2_ : w9.cell? ⟨gm, 2, none⟩ = some (.int .u32 a0_2) := (blk_cell BK 2).trans rfl; have z2_ := blk_frozen BK 2; have k3_ : w9.cell? ⟨gm, 3, none⟩ = some (.int .u32 a0_3) := (blk_cell BK 3).trans rfl; have z3_ := blk_frozen BK 3; have k4_ : w9.cell? ⟨gm, 4, none⟩ = some (.int .u32 a0_4) := (blk_cell BK 4).trans rfl; have z4_ := blk_frozen BK 4; have k5_ : w9.cell? ⟨gm, 5, none⟩ = some (.int .u32 a0_5) := (blk_cell BK 5).trans rfl; have z5_ := blk_frozen BK 5; have k6_ : w9.cell? ⟨gm, 6, none⟩ = some (.int .u32 a0_6) := (blk_cell BK 6).trans rfl; have z6_ := blk_frozen BK 6))
     go_roundg k2
     case measure => exact Nat.lt_succ_self _
     case rel => exact ⟨7, ls, (by first | rfl | (simp; done)), ⟨by omega⟩, ⟨by omega⟩, ⟨HLn.out⟩, ⟨by have := HLS.out; omega⟩, ⟨hF⟩, hgm4, ⟨BK⟩, ⟨HB⟩⟩
    | true =>
     obtain ⟨xs, hxs⟩ : ∃ xs : List Int, xs = [a0_5] := ⟨_, rfl⟩
     have NX := Aside0.mk hxs
     have AO := Aside0.mk (show wire_One.f 6 xs = some (6, xs) by rw [hxs]; rfl)
     obtain ⟨l2, hl2⟩ : ∃ l2 : List S45, l2 = ls ++ [(⟨6, xs⟩ : S45)] := ⟨_, rfl⟩
     have NL := Aside0.mk hl2
     have HLn := Aside0.mk (show l2 = msg.fl a0_0 [0, a0_0, a0_1, a0_2, a0_3, a0_4, a0_5, a0_6] (6 + 1) by rw [hfl, hl2, hxs]; rfl)
     have HL2 := Aside0.mk (show l2.length ≤ 6 + 1 + 1 by have := HLS.out; rw [hl2]; simp; omega)
     clear hb hfl hlf hxs hl2
     go_wp2_with (first | (go_at_call 20; (with_reducible refine (msg_part.calls a0_0 6 true _ (hG.below HB) AP.out).mono ?_); rintro e w9 ⟨rfl, hd_⟩; have hb_ := hd_.below; clear hd_; replace BK := blk_below BK hb_; replace HB := HB.trans (hb_.mono HB.size); replace hF := Kd.N_below hF hb_; clear hb_; (try clear k0_); (try clear z0_); (try clear k1_); (try clear z1_); (try clear k2_); (try clear z2_); (try clear k3_); (try clear z3_); (try clear k4_); (try clear z4_); (try clear k5_); (try clear z5_); (try clear k6_); (try clear z6_); have k0_ : w9.cell? ⟨gm, 0, none⟩ = some (.int .u32 a0_0) := (blk_cell BK 0).trans rfl; have z0_ := blk_frozen BK 0; have k1_ : w9.cell? ⟨gm, 1, none⟩ = some (.int .u32 a0_1) := (blk_cell BK 1).trans rfl; have z1_ := blk_frozen BK 1; have k2_ : w9.cell? ⟨gm, 2, none⟩ = some (.int .u32 a0_2) := (blk_cell BK 2).trans rfl; have z2_ := blk_frozen BK 2; have k3_ : w9.cell? ⟨gm, 3, none⟩ = some (.int .u32 a0_3) := (blk_cell BK 3).trans rfl; have z3_ := blk_frozen BK 3; have k4_ : w9.cell? ⟨gm, 4, none⟩ = some (.int .u32 a0_4) := (blk_cell BK 4).trans rfl; have z4_ := blk_frozen BK 4; have k5_ : w9.cell? ⟨gm, 5, none⟩ = some (.int .u32 a0_5) := (blk_cell BK 5).trans rfl; have z5_ := blk_frozen BK 5; have k6_ : w9.cell? ⟨gm, 6, none⟩ = some (.int .u32 a0_6) := (blk_cell BK 6).trans rfl; have z6_ := blk_frozen BK 6) | ((with_reducible refine gate_dst (N := 34) rfl ?_); refine Kd.N_lit (Kd.int .u32) _ 22 ?hg (N' := 34) ?hd (xs := [a0_5]) (inner := [.int .u32 a0_5]) (ok := fun _ => True) (okp := fun _ => False) ?hr ?hp (fun _ hk => hk.elim) trivial (Below.refl _ _) (Nat.le_refl _) (by simp) ?_; (case hd => rfl); (case hg => rfl); (case hr => first | (go_simp; done) | (go_simp; rfl)); (case hp => exact (Reps.none _ _).snoc (fun _ _ => rfl) rfl); intro v34 w10 hW hb_ hg_ hnew_; clear hg_ hnew_; rw [← NX.out] at hW; obtain ⟨Aw, cw, ev⟩ := Kd.N_slice hW; subst ev; replace BK := blk_below BK hb_; replace HB := HB.trans (hb_.mono HB.size); replace hF := Kd.N_below hF hb_; clear hb_; (try clear k0_); (try clear z0_); (try clear k1_); (try clear z1_); (try clear k2_); (try clear z2_); (try clear k3_); (try clear z3_); (try clear k4_); (try clear z4_); (try clear k5_); (try clear z5_); (try clear k6_); (try clear z6_); have k0_ : w10.cell? ⟨gm, 0, none⟩ = some (.int .u32 a0_0) := (blk_cell BK 0).trans rfl; have z0_ := blk_frozen BK 0; have k1_ : w10.cell? ⟨gm, 1, none⟩ = some (.int .u32 a0_1) := (blk_cell BK 1).trans rfl; have z1_ := blk_frozen BK 1; have k2_ : w10.cell? ⟨gm, 2, none⟩ = some (.int .u32 a0_2) := (blk_cell BK 2).trans rfl; have z2_ := blk_frozen BK 2; have k3_ : w10.cell? ⟨gm, 3, none⟩ = some (.int .u32 a0_3) := (blk_cell BK 3).trans rfl; have z3_ := blk_frozen BK 3; have k4_ : w10.cell? ⟨gm, 4, none⟩ = some (.int .u32 a0_4) := (blk_cell BK 4).trans rfl; have z4_ := blk_frozen BK 4; have k5_ : w10.cell? ⟨gm, 5, none⟩ = some (.int .u32 a0_5) := (blk_cell BK 5).trans rfl; have z5_ := blk_frozen BK 5; have k6_ : w10.cell? ⟨gm, 6, none⟩ = some (.int .u32 a0_6) := (blk_cell BK 6).trans rfl; have z6_ := blk_frozen BK 6) | (go_at_call 18; (refine (wire_One.calls 6 _ cw xs 6 xs _ (Kd.N_reads' hW).2.2 (Kd.N_reads' hW).2.1 AO.out).mono ?_); rintro e w11 ⟨vd, rfl, hR, hb_⟩; have hD := Kd.R_V (base' := 0) (Kd.R_mono (ok' := fun k => some k ≠ u4.ownBlock) (Kd.R_bound hR) (fun k hk => fun e_ => by have := Kd.N_lt hF k e_.symm; have := hk.2.1; omega)); clear hR hW; obtain ⟨Ad, cd, ev⟩ := Kd.V_slice hD; subst ev; replace BK := blk_below BK hb_; replace HB := HB.trans (hb_.mono HB.size); replace hF := Kd.N_below hF hb_; clear hb_; (try clear k0_); (try clear z0_); (try clear k1_); (try clear z1_); (try clear k2_); (try clear z2_); (try clear k3_); (try clear z3_); (try clear k4_); (try clear z4_); (try clear k5_); (try clear z5_); (try clear k6_); (try clear z6_); have k0_ : w11.cell? ⟨gm, 0, none⟩ = some (.int .u32 a0_0) := (blk_cell BK 0).trans rfl; have z0_ := blk_frozen BK 0; have k1_ : w11.cell? ⟨gm, 1, none⟩ = some (.int .u32 a0_1) := (blk_cell BK 1).trans rfl; have z1_ := blk_frozen BK 1; have k2_ : w11.cell? ⟨gm, 2, none⟩ = some (.int .u32 a0_2) := (blk_cell BK 2).trans rfl; have z2_ := blk_frozen BK 2; have k3_ : w11.cell? ⟨gm, 3, none⟩ = some (.int .u32 a0_3) := (blk_cell BK 3).trans rfl; have z3_ := blk_frozen BK 3; have k4_ : w11.cell? ⟨gm, 4, none⟩ = some (.int .u32 a0_4) := (blk_cell BK 4).trans rfl; have z4_ := blk_frozen BK 4; have k5_ : w11.cell? ⟨gm, 5, none⟩ = some (.int .u32 a0_5) := (blk_cell BK 5).trans rfl; have z5_ := blk_frozen BK 5; have k6_ : w11.cell? ⟨gm, 6, none⟩ = some (.int .u32 a0_6) := (blk_cell BK 6).trans rfl; have z6_ := blk_frozen BK 6) | ((with_reducible refine gate_dst (N := 36) rfl ?_); refine Kd.N_lit k45 _ 45 ?hg (N' := 36) ?hd (xs := [(⟨6, xs⟩ : S45)]) (inner := [.int .u32 6, .slice Ad xs.length cd]) (ok := fun k => some k ≠ u4.ownBlock) (okp := fun k => some k ≠ u4.ownBlock) ?hr ?hp (fun _ hk => hk) (fun e_ => Nat.lt_irrefl _ (Kd.N_lt hF _ e_.symm)) (Below.refl _ _) (Nat.le_refl _) (by simp) ?_; (case hd => rfl); (case hg => rfl); (case hr => first | (go_simp; done) | (go_simp; rfl)); (case hp => exact Reps.snoc (ps := []) (cs := []) (Reps.none _ _) (k45_mkF _ _ (⟨6, xs⟩ : S45) (Kd.V_reads' hD).2.1 (Kd.V_F hD)) rfl); intro v36 w12 hL hb_ hg_ hnew_; clear hg_ hnew_ hD; replace BK := blk_below BK hb_; replace HB := HB.trans (hb_.mono HB.size); have hF0 := hF; replace hF := Kd.N_below hF0 hb_; clear hF0; clear hb_; (try clear k0_); (try clear z0_); (try clear k1_); (try clear z1_); (try clear k2_); (try clear z2_); (try clear k3_); (try clear z3_); (try clear k4_); (try clear z4_); (try clear k5_); (try clear z5_); (try clear k6_); (try clear z6_); have k0_ : w12.cell? ⟨gm, 0, none⟩ = some (.int .u32 a0_0) := (blk_cell BK 0).trans rfl; have z0_ := blk_frozen BK 0; have k1_ : w12.cell? ⟨gm, 1, none⟩ = some (.int .u32 a0_1) := (blk_cell BK 1).trans rfl; have z1_ := blk_frozen BK 1; have k2_ : w12.cell? ⟨gm, 2, none⟩ = some (.int .u32 a0_2) := (blk_cell BK 2).trans rfl; have z2_ := blk_frozen BK 2; have k3_ : w12.cell? ⟨gm, 3, none⟩ = some (.int .u32 a0_3) := (blk_cell BK 3).trans rfl; have z3_ := blk_frozen BK 3; have k4_ : w12.cell? ⟨gm, 4, none⟩ = some (.int .u32 a0_4) := (blk_cell BK 4).trans rfl; have z4_ := blk_frozen BK 4; have k5_ : w12.cell? ⟨gm, 5, none⟩ = some (.int .u32 a0_5) := (blk_cell BK 5).trans rfl; have z5_ := blk_frozen BK 5; have k6_ : w12.cell? ⟨gm, 6, none⟩ = some (.int .u32 a0_6) := (blk_cell BK 6).trans rfl; have z6_ := blk_frozen BK 6) | ((with_reducible refine gate_builtin (b := .append) (xs := #[.tmp 28, .tmp 36]) rfl ?_); at_builtin; obtain ⟨AL, cL, evL⟩ := Kd.N_slice hL; subst evL; refine Kd.N_append_rows k45 (w0 := w) w.heap.size rfl (.tmp 28) (.tmp 36) 47 45 (.agg #[(.int .u32 0), (.slice none 0 0)]) 32 rfl Tryd.underlying47 info45 rfl (by decide) (by omega) u4 ls [(⟨6, xs⟩ : S45)] _ _ _ (fun _ => True) (fun k => some k ≠ u4.ownBlock) rfl rfl hF (Kd.N_F hL) (fun k hk => ⟨trivial, hk⟩) (fun _ _ => trivial) HB HB.size (by have := HLS.out; simp; omega) ?_; intro v37 w13 hF2 HB2 hg2 hat2; rw [← NL.out] at hF2; have BK0 := BK; replace BK := (hg2.block gm (blk_lt BK0) (fun e_ => by have := hgm4.out gm e_.symm; omega)).trans BK0; have hgm5 := Aside0.mk (show ∀ k, v37.ownBlock = some k → gm < k from hat2.elim (fun e_ k hk => hgm4.out k (e_ ▸ hk)) (fun ⟨b, e_, hb⟩ k hk => by rw [e_] at hk; cases hk; have := blk_lt BK0; omega)); clear hF HB hL hg2 hat2 BK0; have hF := hF2; have HB := HB2; clear hF2 HB2; (try clear k0_); (try clear z0_); (try clear k1_); (try clear z1_); (try clear k2_); (try clear z2_); (try clear k3_); (try clear z3_); (try clear k4_); (try clear z4_); (try clear k5_); (try clear z5_); (try clear k6_); (try clear z6_); have k0_ : w13.cell? ⟨gm, 0, none⟩ = some (.int .u32 a0_0) := (blk_cell BK 0).trans rfl; have z0_ := blk_frozen BK 0; have k1_ : w13.cell? ⟨gm, 1, none⟩ = some (.int .u32 a0_1) := (blk_cell BK 1).trans rfl; have z1_ := blk_frozen BK 1; have k2_ : w13.cell? ⟨gm, 2, none⟩ = some (.int .u32 a0_2) := (blk_cell BK 2).trans rfl; have z2_ := blk_frozen BK 2; have k3_ : w13.cell? ⟨gm, 3, none⟩ = some (.int .u32 a0_3) := (blk_cell BK 3).trans rfl; have z3_ := blk_frozen BK 3; have k4_ : w13.cell? ⟨gm, 4, none⟩ = some (.int .u32 a0_4) := (blk_cell BK 4).trans rfl; have z4_ := blk_frozen BK 4; have k5_ : w13.cell? ⟨gm, 5, none⟩ = some (.int .u32 a0_5) := (blk_cell BK 5).trans rfl; have z5_ := blk_frozen BK 5; have k6_ : w13.cell? ⟨gm, 6, none⟩ = some (.int .u32 a0_6) := (blk_cell BK 6).trans rfl; have z6_ := blk_frozen BK 6))
     go_roundg k2
     case measure => exact Nat.lt_succ_self _
     case rel => exact ⟨7, l2, (by first | rfl | (simp; done)), ⟨by omega⟩, ⟨by omega⟩, ⟨HLn.out⟩, ⟨HL2.out⟩, ⟨hF⟩, hgm5, ⟨BK⟩, ⟨HB⟩⟩
   ·
    have hI := msg.idx7 gm
    have hlf := HLf.out
    clear hi c
    obtain ⟨b, hb⟩ : ∃ b, b = msg.hasB a0_0 7 := ⟨_, rfl⟩
    have AP := Aside0.mk (show msg_part.f a0_0 7 = some b by unfold msg_part.f; rw [if_pos ⟨hk, by decide⟩, hb])
    have hfl : msg.fl a0_0 [0, a0_0, a0_1, a0_2, a0_3, a0_4, a0_5, a0_6] (7 + 1) = if msg.hasB a0_0 7 then msg.fl a0_0 [0, a0_0, a0_1, a0_2, a0_3, a0_4, a0_5, a0_6] 7 ++ [⟨7, [a0_6]⟩] else msg.fl a0_0 [0, a0_0, a0_1, a0_2, a0_3, a0_4, a0_5, a0_6] 7 := rfl
    rw [← hb, ← hlf] at hfl
    cases b with
    | false =>
     have HLn := Aside0.mk (show ls = msg.fl a0_0 [0, a0_0, a0_1, a0_2, a0_3, a0_4, a0_5, a0_6] (7 + 1) by rw [hfl]; rfl)
     clear hb hfl hlf
     go_wp2_with (first | (go_at_call 20; (with_reducible refine (msg_part.calls a0_0 7 false _ (hG.below HB) AP.out).mono ?_); rintro e w9 ⟨rfl, hd_⟩; have hb_ := hd_.below; clear hd_; replace BK := blk_below BK hb_; replace HB := HB.trans (hb_.mono HB.size); replace hF := Kd.N_below hF hb_; clear hb_; (try clear k0_); (try clear z0_); (try clear k1_); (try clear z1_); (try clear k2_); (try clear z2_); (try clear k3_); (try clear z3_); (try clear k4_); (try clear z4_); (try clear k5_); (try clear z5_); (try clear k6_); (try clear z6_); have k0_ : w9.cell? ⟨gm, 0, none⟩ = some (.int .u32 a0_0) := (blk_cell BK 0).trans rfl; have z0_ := blk_frozen BK 0; have k1_ : w9.cell? ⟨gm, 1, none⟩ = some (.int .u32 a0_1) := (blk_cell BK 1).trans rfl; have z1_ := blk_frozen BK 1; have k2_ : w9.cell? ⟨gm, 2, none⟩ = some (.int .u32 a0_2) := (blk_cell BK 2).trans rfl; have z2_ := blk_frozen BK 2; have k3_ : w9.cell? ⟨gm, 3, none⟩ = some (.int .u32 a0_3) := (blk_cell BK 3).trans rfl; have z3_ := blk_frozen BK 3; have k4_ : w9.cell? ⟨gm, 4, none⟩ = some (.int .u32 a0_4) := (blk_cell BK 4).trans rfl; have z4_ := blk_frozen BK 4; have k5_ : w9.cell? ⟨gm, 5, none⟩ = some (.int .u32 a0_5) := (blk_cell BK 5).trans rfl; have z5_ := blk_frozen BK 5; have k6_ : w9.cell? ⟨gm, 6, none⟩ = some (.int .u32 a0_6) := (blk_cell BK 6).trans rfl; have z6_ := blk_frozen BK 6))
     go_roundg k2
     case measure => exact Nat.lt_succ_self _
     case rel => exact ⟨8, ls, (by first | rfl | (simp; done)), ⟨by omega⟩, ⟨by omega⟩, ⟨HLn.out⟩, ⟨by have := HLS.out; omega⟩, ⟨hF⟩, hgm4, ⟨BK⟩, ⟨HB⟩⟩
    | true =>
     obtain ⟨xs, hxs⟩ : ∃ xs : List Int, xs = [a0_6] := ⟨_, rfl⟩
     have NX := Aside0.mk hxs
     have AO := Aside0.mk (show wire_One.f 7 xs = some (7, xs) by rw [hxs]; rfl)
     obtain ⟨l2, hl2⟩ : ∃ l2 : List S45, l2 = ls ++ [(⟨7, xs⟩ : S45)] := ⟨_, rfl⟩
     have NL := Aside0.mk hl2
     have HLn := Aside0.mk (show l2 = msg.fl a0_0 [0, a0_0, a0_1, a0_2, a0_3, a0_4, a0_5, a0_6] (7 + 1) by rw [hfl, hl2, hxs]; rfl)
     have HL2 := Aside0.mk (show l2.length ≤ 7 + 1 + 1 by have := HLS.out; rw [hl2]; simp; omega)
     clear hb hfl hlf hxs hl2
     go_wp2_with (first | (go_at_call 20; (with_reducible refine (msg_part.calls a0_0 7 true _ (hG.below HB) AP.out).mono ?_); rintro e w9 ⟨rfl, hd_⟩; have hb_ := hd_.below; clear hd_; replace BK := blk_below BK hb_; replace HB := HB.trans (hb_.mono HB.size); replace hF := Kd.N_below hF hb_; clear hb_; (try clear k0_); (try clear z0_); (try clear k1_); (try clear z1_); (try clear k2_); (try clear z2_); (try clear k3_); (try clear z3_); (try clear k4_); (try clear z4_); (try clear k5_); (try clear z5_); (try clear k6_); (try clear z6_); have k0_ : w9.cell? ⟨gm, 0, none⟩ = some (.int .u32 a0_0) := (blk_cell BK 0).trans rfl; have z0_ := blk_frozen BK 0; have k1_ : w9.cell? ⟨gm, 1, none⟩ = some (.int .u32 a0_1) := (blk_cell BK 1).trans rfl; have z1_ := blk_frozen BK 1; have k2_ : w9.cell? ⟨gm, 2, none⟩ = some (.int .u32 a0_2) := (blk_cell BK 2).trans rfl; have z2_ := blk_frozen BK 2; have k3_ : w9.cell? ⟨gm, 3, none⟩ = some (.int .u32 a0_3) := (blk_cell BK 3).trans rfl; have z3_ := blk_frozen BK 3; have k4_ : w9.cell? ⟨gm, 4, none⟩ = some (.int .u32 a0_4) := (blk_cell BK 4).trans rfl; have z4_ := blk_frozen BK 4; have k5_ : w9.cell? ⟨gm, 5, none⟩ = some (.int .u32 a0_5) := (blk_cell BK 5).trans rfl; have z5_ := blk_frozen BK 5; have k6_ : w9.cell? ⟨gm, 6, none⟩ = some (.int .u32 a0_6) := (blk_cell BK 6).trans rfl; have z6_ := blk_frozen BK 6) | ((with_reducible refine gate_dst (N := 34) rfl ?_); refine Kd.N_lit (Kd.int .u32) _ 22 ?hg (N' := 34) ?hd (xs := [a0_6]) (inner := [.int .u32 a0_6]) (ok := fun _ => True) (okp := fun _ => False) ?hr ?hp (fun _ hk => hk.elim) trivial (Below.refl _ _) (Nat.le_refl _) (by simp) ?_; (case hd => rfl); (case hg => rfl); (case hr => first | (go_simp; done) | (go_simp; rfl)); (case hp => exact (Reps.none _ _).snoc (fun _ _ => rfl) rfl); intro v34 w10 hW hb_ hg_ hnew_; clear hg_ hnew_; rw [← NX.out] at hW; obtain ⟨Aw, cw, ev⟩ := Kd.N_slice hW; subst ev; replace BK := blk_below BK hb_; replace HB := HB.trans (hb_.mono HB.size); replace hF := Kd.N_below hF hb_; clear hb_; (try clear k0_); (try clear z0_); (try clear k1_); (try clear z1_); (try clear k2_); (try clear z2_); (try clear k3_); (try clear z3_); (try clear k4_); (try clear z4_); (try clear k5_); (try clear z5_); (try clear k6_); (try clear z6_); have k0_ : w10.cell? ⟨gm, 0, none⟩ = some (.int .u32 a0_0) := (blk_cell BK 0).trans rfl; have z0_ := blk_frozen BK 0; have k1_ : w10.cell? ⟨gm, 1, none⟩ = some (.int .u32 a0_1) := (blk_cell BK 1).trans rfl; have z1_ := blk_frozen BK 1; have k2_ : w10.cell? ⟨gm, 2, none⟩ = some (.int .u32 a0_2) := (blk_cell BK 2).trans rfl; have z2_ := blk_frozen BK 2; have k3_ : w10.cell? ⟨gm, 3, none⟩ = some (.int .u32 a0_3) := (blk_cell BK 3).trans rfl; have z3_ := blk_frozen BK 3; have k4_ : w10.cell? ⟨gm, 4, none⟩ = some (.int .u32 a0_4) := (blk_cell BK 4).trans rfl; have z4_ := blk_frozen BK 4; have k5_ : w10.cell? ⟨gm, 5, none⟩ = some (.int .u32 a0_5) := (blk_cell BK 5).trans rfl; have z5_ := blk_frozen BK 5; have k6_ : w10.cell? ⟨gm, 6, none⟩ = some (.int .u32 a0_6) := (blk_cell BK 6).trans rfl; have z6_ := blk_frozen BK 6) | (go_at_call 18; (refine (wire_One.calls 7 _ cw xs 7 xs _ (Kd.N_reads' hW).2.2 (Kd.N_reads' hW).2.1 AO.out).mono ?_); rintro e w11 ⟨vd, rfl, hR, hb_⟩; have hD := Kd.R_V (base' := 0) (Kd.R_mono (ok' := fun k => some k ≠ u4.ownBlock) (Kd.R_bound hR) (fun k hk => fun e_ => by have := Kd.N_lt hF k e_.symm; have := hk.2.1; omega)); clear hR hW; obtain ⟨Ad, cd, ev⟩ := Kd.V_slice hD; subst ev; replace BK := blk_below BK hb_; replace HB := HB.trans (hb_.mono HB.size); replace hF := Kd.N_below hF hb_; clear hb_; (try clear k0_); (try clear z0_); (try clear k1_); (try clear z1_); (try clear k2_); (try clear z2_); (try clear k3_); (try clear z3_); (try clear k4_); (try clear z4_); (try clear k5_); (try clear z5_); (try clear k6_); (try clear z6_); have k0_ : w11.cell? ⟨gm, 0, none⟩ = some (.int .u32 a0_0) := (blk_cell BK 0).trans rfl; have z0_ := blk_frozen BK 0; have k1_ : w11.cell? ⟨gm, 1, none⟩ = some (.int .u32 a0_1) := (blk_cell BK 1).trans rfl; have z1_ := blk_frozen BK 1; have k2_ : w11.cell? ⟨gm, 2, none⟩ = some (.int .u32 a0_2) := (blk_cell BK 2).trans rfl; have z2_ := blk_frozen BK 2; have k3_ : w11.cell? ⟨gm, 3, none⟩ = some (.int .u32 a0_3) := (blk_cell BK 3).trans rfl; have z3_ := blk_frozen BK 3; have k4_ : w11.cell? ⟨gm, 4, none⟩ = some (.int .u32 a0_4) := (blk_cell BK 4).trans rfl; have z4_ := blk_frozen BK 4; have k5_ : w11.cell? ⟨gm, 5, none⟩ = some (.int .u32 a0_5) := (blk_cell BK 5).trans rfl; have z5_ := blk_frozen BK 5; have k6_ : w11.cell? ⟨gm, 6, none⟩ = some (.int .u32 a0_6) := (blk_cell BK 6).trans rfl; have z6_ := blk_frozen BK 6) | ((with_reducible refine gate_dst (N := 36) rfl ?_); refine Kd.N_lit k45 _ 45 ?hg (N' := 36) ?hd (xs := [(⟨7, xs⟩ : S45)]) (inner := [.int .u32 7, .slice Ad xs.length cd]) (ok := fun k => some k ≠ u4.ownBlock) (okp := fun k => some k ≠ u4.ownBlock) ?hr ?hp (fun _ hk => hk) (fun e_ => Nat.lt_irrefl _ (Kd.N_lt hF _ e_.symm)) (Below.refl _ _) (Nat.le_refl _) (by simp) ?_; (case hd => rfl); (case hg => rfl); (case hr => first | (go_simp; done) | (go_simp; rfl)); (case hp => exact Reps.snoc (ps := []) (cs := []) (Reps.none _ _) (k45_mkF _ _ (⟨7, xs⟩ : S45) (Kd.V_reads' hD).2.1 (Kd.V_F hD)) rfl); intro v36 w12 hL hb_ hg_ hnew_; clear hg_ hnew_ hD; replace BK := blk_below BK hb_; replace HB := HB.trans (hb_.mono HB.size); have hF0 := hF; replace hF := Kd.N_below hF0 hb_; clear hF0; clear hb_; (try clear k0_); (try clear z0_); (try clear k1_); (try clear z1_); (try clear k2_); (try clear z2_); (try clear k3_); (try clear z3_); (try clear k4_); (try clear z4_); (try clear k5_); (try clear z5_); (try clear k6_); (try clear z6_); have k0_ : w12.cell? ⟨gm, 0, none⟩ = some (.int .u32 a0_0) := (blk_cell BK 0).trans rfl; have z0_ := blk_frozen BK 0; have k1_ : w12.cell? ⟨gm, 1, none⟩ = some (.int .u32 a0_1) := (blk_cell BK 1).trans rfl; have z1_ := blk_frozen BK 1; have k2_ : w12.cell? ⟨gm, 2, none⟩ = some (.int .u32 a0_2) := (blk_cell BK 2).trans rfl; have z2_ := blk_frozen BK 2; have k3_ : w12.cell? ⟨gm, 3, none⟩ = some (.int .u32 a0_3) := (blk_cell BK 3).trans rfl; have z3_ := blk_frozen BK 3; have k4_ : w12.cell? ⟨gm, 4, none⟩ = some (.int .u32 a0_4) := (blk_cell BK 4).trans rfl; have z4_ := blk_frozen BK 4; have k5_ : w12.cell? ⟨gm, 5, none⟩ = some (.int .u32 a0_5) := (blk_cell BK 5).trans rfl; have z5_ := blk_frozen BK 5; have k6_ : w12.cell? ⟨gm, 6, none⟩ = some (.int .u32 a0_6) := (blk_cell BK 6).trans rfl; have z6_ := blk_frozen BK 6) | ((with_reducible refine gate_builtin (b := .append) (xs := #[.tmp 28, .tmp 36]) rfl ?_); at_builtin; obtain ⟨AL, cL, evL⟩ := Kd.N_slice hL; subst evL; refine Kd.N_append_rows k45 (w0 := w) w.heap.size rfl (.tmp 28) (.tmp 36) 47 45 (.agg #[(.int .u32 0), (.slice none 0 0)]) 32 rfl Tryd.underlying47 info45 rfl (by decide) (by omega) u4 ls [(⟨7, xs⟩ : S45)] _ _ _ (fun _ => True) (fun k => some k ≠ u4.ownBlock) rfl rfl hF (Kd.N_F hL) (fun k hk => ⟨trivial, hk⟩) (fun _ _ => trivial) HB HB.size (by have := HLS.out; simp; omega) ?_; intro v37 w13 hF2 HB2 hg2 hat2; rw [← NL.out] at hF2; have BK0 := BK; replace BK := (hg2.block gm (blk_lt BK0) (fun e_ => by have := hgm4.out gm e_.symm; omega)).trans BK0; have hgm5 := Aside0.mk (show ∀ k, v37.ownBlock = some k → gm < k from hat2.elim (fun e_ k hk => hgm4.out k (e_ ▸ hk)) (fun ⟨b, e_, hb⟩ k hk => by rw [e_] at hk; cases hk; have := blk_lt BK0; omega)); clear hF HB hL hg2 hat2 BK0; have hF := hF2; have HB := HB2; clear hF2 HB2; (try clear k0_); (try clear z0_); (try clear k1_); (try clear z1_); (try clear k2_); (try clear z2_); (try clear k3_); (try clear z3_); (try clear k4_); (try clear z4_); (try clear k5_); (try clear z5_); (try clear k6_); (try clear z6_); have k0_ : w13.cell? ⟨gm, 0, none⟩ = some (.int .u32 a0_0) := (blk_cell BK 0).trans rfl; have z0_ := blk_frozen BK 0; have k1_ : w13.cell? ⟨gm, 1, none⟩ = some (.int .u32 a0_1) := (blk_cell BK 1).trans rfl; have z1_ := blk_frozen BK 1; have k2_ : w13.cell? ⟨gm, 2, none⟩ = some (.int .u32 a0_2) := (blk_cell BK 2).trans rfl; have z2_ := blk_frozen BK 2; have k3_ : w13.cell? ⟨gm, 3, none⟩ = some (.int .u32 a0_3) := (blk_cell BK 3).trans rfl; have z3_ := blk_frozen BK 3; have k4_ : w13.cell? ⟨gm, 4, none⟩ = some (.int .u32 a0_4) := (blk_cell BK 4).trans rfl; have z4_ := blk_frozen BK 4; have k5_ : w13.cell? ⟨gm, 5, none⟩ = some (.int .u32 a0_5) := (blk_cell BK 5).trans rfl; have z5_ := blk_frozen BK 5; have k6_ : w13.cell? ⟨gm, 6, none⟩ = some (.int .u32 a0_6) := (blk_cell BK 6).trans rfl; have z6_ := blk_frozen BK 6))
     go_roundg k2
     case measure => exact Nat.lt_succ_self _
     case rel => exact ⟨8, l2, (by first | rfl | (simp; done)), ⟨by omega⟩, ⟨by omega⟩, ⟨HLn.out⟩, ⟨HL2.out⟩, ⟨hF⟩, hgm5, ⟨BK⟩, ⟨HB⟩⟩

end Go.Proofs.YtkmgfleoondblaaDoor.PMsgSpoilt
