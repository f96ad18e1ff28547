-- Written for this claim by wip/tools/myprint.py (print.py's forms; proofs of the faked functions by hand).
import Derived.Test.YtmmpiblmggkghaaPLogLessx0
import Derived.Test.YtmmpiblmggkghaaPLogLessx1
namespace Go.Proofs.Ytmmpiblmggkghaa.PLogLess
open Go.RowKit Go.Proofs.YtmmpiblmggkghaaW.PrintWords Go.Proofs.YtmmpiblmggkghaaW.PrintLast Go.Proofs.YtmmpiblmggkghaaW.PrintMore
attribute [local go_sem] max2_int min2_int max_two min_two max_three min_three max_four min_four   -- for this text's walks alone
set_option linter.unusedVariables false
set_option linter.unusedSimpArgs false

attribute [local go_sem high] eqA25
/-! ### log_bare: function 17 -/
/-- A bit of a mask. -/
def lbit (m : Int) (i : Nat) : Bool := m / 2 ^ i % 2 == 1
/-- What a mask leaves of a field. -/
def lval (m : Int) (j : Nat) (x : Int) : Int := if lbit m j then x else 0
/-- What the first n bits leave of a field. -/
def lpart (m : Int) (n j : Nat) (x : Int) : Int := if decide (j < n) && lbit m j then x else 0
def log_bare.f (a0_0 : Int) (a0_1 : Int) (a0_2 : Int) (a0_3 : Int) (a0_4 : Int) (a0_5 : Int) (a0_6 : Int) (a0_7 : Int) (a0_8 : Int) (_a0_9 : Int) (a1 : Int) : Option (Int × Int × Int × Int × Int × Int × Int × Int × Int × Int) := if 0 ≤ a1 ∧ a1 < 512 then some (lval a1 0 a0_0, lval a1 1 a0_1, lval a1 2 a0_2, lval a1 3 a0_3, lval a1 4 a0_4, lval a1 5 a0_5, lval a1 6 a0_6, lval a1 7 a0_7, lval a1 8 a0_8, 0) else none
theorem lbare.c0 (be bo : Nat) (x0 x1 x2 x3 x4 x5 x6 x7 x8 x9 : Int) (ds : Array Value) (hd : ds.size = 10) (w : World) (he : w.heap[be]? = some (.cells #[.int .i64 x0, .int .i64 x1, .int .i64 x2, .int .u32 x3, .int .u32 x4, .int .u32 x5, .int .u32 x6, .int .u32 x7, .int .u32 x8, .int .u32 x9] 25 (0, 0))) (ho : w.heap[bo]? = some (.cells ds 25 (0, 0))) :
    Calls Try.prog 18 #[.pointer (some ⟨be, 0, none⟩), .pointer (some ⟨bo, 0, none⟩)] w fun e w' => e = .returned (.tuple #[]) ∧ w' = w.setCell ⟨bo, 0, none⟩ (.int .i64 x0) := by
  have z : w.cell? ⟨be, 0, none⟩ = some (.int .i64 x0) := (blk_cell he 0).trans rfl
  have y : w.cell? ⟨bo, 0, none⟩ = some (ds[0]'(by omega)) := by rw [blk_cell ho 0]; exact Array.getElem?_eq_getElem (by omega)
  have f := blk_frozen ho 0
  go_enter Try.func18, Try.ntmps18
  go_wp2
  go_end0
  exact ⟨rfl, rfl⟩
theorem lbare.c1 (be bo : Nat) (x0 x1 x2 x3 x4 x5 x6 x7 x8 x9 : Int) (ds : Array Value) (hd : ds.size = 10) (w : World) (he : w.heap[be]? = some (.cells #[.int .i64 x0, .int .i64 x1, .int .i64 x2, .int .u32 x3, .int .u32 x4, .int .u32 x5, .int .u32 x6, .int .u32 x7, .int .u32 x8, .int .u32 x9] 25 (0, 0))) (ho : w.heap[bo]? = some (.cells ds 25 (0, 0))) :
    Calls Try.prog 19 #[.pointer (some ⟨be, 0, none⟩), .pointer (some ⟨bo, 0, none⟩)] w fun e w' => e = .returned (.tuple #[]) ∧ w' = w.setCell ⟨bo, 1, none⟩ (.int .i64 x1) := by
  have z : w.cell? ⟨be, 1, none⟩ = some (.int .i64 x1) := (blk_cell he 1).trans rfl
  have y : w.cell? ⟨bo, 1, none⟩ = some (ds[1]'(by omega)) := by rw [blk_cell ho 1]; exact Array.getElem?_eq_getElem (by omega)
  have f := blk_frozen ho 1
  go_enter Try.func19, Try.ntmps19
  go_wp2
  go_end0
  exact ⟨rfl, rfl⟩
theorem lbare.c2 (be bo : Nat) (x0 x1 x2 x3 x4 x5 x6 x7 x8 x9 : Int) (ds : Array Value) (hd : ds.size = 10) (w : World) (he : w.heap[be]? = some (.cells #[.int .i64 x0, .int .i64 x1, .int .i64 x2, .int .u32 x3, .int .u32 x4, .int .u32 x5, .int .u32 x6, .int .u32 x7, .int .u32 x8, .int .u32 x9] 25 (0, 0))) (ho : w.heap[bo]? = some (.cells ds 25 (0, 0))) :
    Calls Try.prog 20 #[.pointer (some ⟨be, 0, none⟩), .pointer (some ⟨bo, 0, none⟩)] w fun e w' => e = .returned (.tuple #[]) ∧ w' = w.setCell ⟨bo, 2, none⟩ (.int .i64 x2) := by
  have z : w.cell? ⟨be, 2, none⟩ = some (.int .i64 x2) := (blk_cell he 2).trans rfl
  have y : w.cell? ⟨bo, 2, none⟩ = some (ds[2]'(by omega)) := by rw [blk_cell ho 2]; exact Array.getElem?_eq_getElem (by omega)
  have f := blk_frozen ho 2
  go_enter Try.func20, Try.ntmps20
  go_wp2
  go_end0
  exact ⟨rfl, rfl⟩
theorem lbare.c3 (be bo : Nat) (x0 x1 x2 x3 x4 x5 x6 x7 x8 x9 : Int) (ds : Array Value) (hd : ds.size = 10) (w : World) (he : w.heap[be]? = some (.cells #[.int .i64 x0, .int .i64 x1, .int .i64 x2, .int .u32 x3, .int .u32 x4, .int .u32 x5, .int .u32 x6, .int .u32 x7, .int .u32 x8, .int .u32 x9] 25 (0, 0))) (ho : w.heap[bo]? = some (.cells ds 25 (0, 0))) :
    Calls Try.prog 21 #[.pointer (some ⟨be, 0, none⟩), .pointer (some ⟨bo, 0, none⟩)] w fun e w' => e = .returned (.tuple #[]) ∧ w' = w.setCell ⟨bo, 3, none⟩ (.int .u32 x3) := by
  have z : w.cell? ⟨be, 3, none⟩ = some (.int .u32 x3) := (blk_cell he 3).trans rfl
  have y : w.cell? ⟨bo, 3, none⟩ = some (ds[3]'(by omega)) := by rw [blk_cell ho 3]; exact Array.getElem?_eq_getElem (by omega)
  have f := blk_frozen ho 3
  go_enter Try.func21, Try.ntmps21
  go_wp2
  go_end0
  exact ⟨rfl, rfl⟩
theorem lbare.c4 (be bo : Nat) (x0 x1 x2 x3 x4 x5 x6 x7 x8 x9 : Int) (ds : Array Value) (hd : ds.size = 10) (w : World) (he : w.heap[be]? = some (.cells #[.int .i64 x0, .int .i64 x1, .int .i64 x2, .int .u32 x3, .int .u32 x4, .int .u32 x5, .int .u32 x6, .int .u32 x7, .int .u32 x8, .int .u32 x9] 25 (0, 0))) (ho : w.heap[bo]? = some (.cells ds 25 (0, 0))) :
    Calls Try.prog 22 #[.pointer (some ⟨be, 0, none⟩), .pointer (some ⟨bo, 0, none⟩)] w fun e w' => e = .returned (.tuple #[]) ∧ w' = w.setCell ⟨bo, 4, none⟩ (.int .u32 x4) := by
  have z : w.cell? ⟨be, 4, none⟩ = some (.int .u32 x4) := (blk_cell he 4).trans rfl
  have y : w.cell? ⟨bo, 4, none⟩ = some (ds[4]'(by omega)) := by rw [blk_cell ho 4]; exact Array.getElem?_eq_getElem (by omega)
  have f := blk_frozen ho 4
  go_enter Try.func22, Try.ntmps22
  go_wp2
  go_end0
  exact ⟨rfl, rfl⟩
theorem lbare.c5 (be bo : Nat) (x0 x1 x2 x3 x4 x5 x6 x7 x8 x9 : Int) (ds : Array Value) (hd : ds.size = 10) (w : World) (he : w.heap[be]? = some (.cells #[.int .i64 x0, .int .i64 x1, .int .i64 x2, .int .u32 x3, .int .u32 x4, .int .u32 x5, .int .u32 x6, .int .u32 x7, .int .u32 x8, .int .u32 x9] 25 (0, 0))) (ho : w.heap[bo]? = some (.cells ds 25 (0, 0))) :
    Calls Try.prog 23 #[.pointer (some ⟨be, 0, none⟩), .pointer (some ⟨bo, 0, none⟩)] w fun e w' => e = .returned (.tuple #[]) ∧ w' = w.setCell ⟨bo, 5, none⟩ (.int .u32 x5) := by
  have z : w.cell? ⟨be, 5, none⟩ = some (.int .u32 x5) := (blk_cell he 5).trans rfl
  have y : w.cell? ⟨bo, 5, none⟩ = some (ds[5]'(by omega)) := by rw [blk_cell ho 5]; exact Array.getElem?_eq_getElem (by omega)
  have f := blk_frozen ho 5
  go_enter Try.func23, Try.ntmps23
  go_wp2
  go_end0
  exact ⟨rfl, rfl⟩
theorem lbare.c6 (be bo : Nat) (x0 x1 x2 x3 x4 x5 x6 x7 x8 x9 : Int) (ds : Array Value) (hd : ds.size = 10) (w : World) (he : w.heap[be]? = some (.cells #[.int .i64 x0, .int .i64 x1, .int .i64 x2, .int .u32 x3, .int .u32 x4, .int .u32 x5, .int .u32 x6, .int .u32 x7, .int .u32 x8, .int .u32 x9] 25 (0, 0))) (ho : w.heap[bo]? = some (.cells ds 25 (0, 0))) :
    Calls Try.prog 24 #[.pointer (some ⟨be, 0, none⟩), .pointer (some ⟨bo, 0, none⟩)] w fun e w' => e = .returned (.tuple #[]) ∧ w' = w.setCell ⟨bo, 6, none⟩ (.int .u32 x6) := by
  have z : w.cell? ⟨be, 6, none⟩ = some (.int .u32 x6) := (blk_cell he 6).trans rfl
  have y : w.cell? ⟨bo, 6, none⟩ = some (ds[6]'(by omega)) := by rw [blk_cell ho 6]; exact Array.getElem?_eq_getElem (by omega)
  have f := blk_frozen ho 6
  go_enter Try.func24, Try.ntmps24
  go_wp2
  go_end0
  exact ⟨rfl, rfl⟩
theorem lbare.c7 (be bo : Nat) (x0 x1 x2 x3 x4 x5 x6 x7 x8 x9 : Int) (ds : Array Value) (hd : ds.size = 10) (w : World) (he : w.heap[be]? = some (.cells #[.int .i64 x0, .int .i64 x1, .int .i64 x2, .int .u32 x3, .int .u32 x4, .int .u32 x5, .int .u32 x6, .int .u32 x7, .int .u32 x8, .int .u32 x9] 25 (0, 0))) (ho : w.heap[bo]? = some (.cells ds 25 (0, 0))) :
    Calls Try.prog 25 #[.pointer (some ⟨be, 0, none⟩), .pointer (some ⟨bo, 0, none⟩)] w fun e w' => e = .returned (.tuple #[]) ∧ w' = w.setCell ⟨bo, 7, none⟩ (.int .u32 x7) := by
  have z : w.cell? ⟨be, 7, none⟩ = some (.int .u32 x7) := (blk_cell he 7).trans rfl
  have y : w.cell? ⟨bo, 7, none⟩ = some (ds[7]'(by omega)) := by rw [blk_cell ho 7]; exact Array.getElem?_eq_getElem (by omega)
  have f := blk_frozen ho 7
  go_enter Try.func25, Try.ntmps25
  go_wp2
  go_end0
  exact ⟨rfl, rfl⟩
theorem lbare.c8 (be bo : Nat) (x0 x1 x2 x3 x4 x5 x6 x7 x8 x9 : Int) (ds : Array Value) (hd : ds.size = 10) (w : World) (he : w.heap[be]? = some (.cells #[.int .i64 x0, .int .i64 x1, .int .i64 x2, .int .u32 x3, .int .u32 x4, .int .u32 x5, .int .u32 x6, .int .u32 x7, .int .u32 x8, .int .u32 x9] 25 (0, 0))) (ho : w.heap[bo]? = some (.cells ds 25 (0, 0))) :
    Calls Try.prog 26 #[.pointer (some ⟨be, 0, none⟩), .pointer (some ⟨bo, 0, none⟩)] w fun e w' => e = .returned (.tuple #[]) ∧ w' = w.setCell ⟨bo, 8, none⟩ (.int .u32 x8) := by
  have z : w.cell? ⟨be, 8, none⟩ = some (.int .u32 x8) := (blk_cell he 8).trans rfl
  have y : w.cell? ⟨bo, 8, none⟩ = some (ds[8]'(by omega)) := by rw [blk_cell ho 8]; exact Array.getElem?_eq_getElem (by omega)
  have f := blk_frozen ho 8
  go_enter Try.func26, Try.ntmps26
  go_wp2
  go_end0
  exact ⟨rfl, rfl⟩
theorem lbare.bit_all : ∀ m : Fin 512, ∀ i : Fin 9, (Go.bits .and .i64 (m.1 : Int) (2 ^ i.1) == 0) = !lbit (m.1 : Int) i.1 := by decide +kernel
theorem lbare.bit (m : Int) (h0 : 0 ≤ m) (h1 : m < 512) (i : Nat) (hi : i < 9) : (Go.bits .and .i64 m (2 ^ i) == 0) = !lbit m i := by
  have := lbare.bit_all ⟨m.toNat, by omega⟩ ⟨i, hi⟩
  simpa [Int.toNat_of_nonneg h0] using this
theorem lbare.one (x0 x1 x2 x3 x4 x5 x6 x7 x8 x9 : Int) : ∀ q ∈ (#[.int .i64 x0, .int .i64 x1, .int .i64 x2, .int .u32 x3, .int .u32 x4, .int .u32 x5, .int .u32 x6, .int .u32 x7, .int .u32 x8, .int .u32 x9] : Array Value).toList, q.oneCell' = true := by
  intro q hq
  simp only [List.mem_cons, List.not_mem_nil, or_false] at hq
  rcases hq with rfl | rfl | rfl | rfl | rfl | rfl | rfl | rfl | rfl | rfl <;> rfl
theorem lbare.res {P : Program} {fn : Func} {p : Tmp} {ty : TypeId} (h : fn.results = #[.cell p ty]) (tmps : Array Value) (w : World) (g : Nat) (t : TypeId) (cs : Array Value) (fr : Nat × Nat) (d : TypeDesc)
    (hp : tmps.getD p undef = .pointer (some ⟨g, 0, none⟩)) (hg : w.heap[g]? = some (.cells cs t fr))
    (hu : P.underlying ty = some d) (hd : (match d with | .struct _ | .array _ _ => true | _ => false) = true) (hi : (P.info? ty).map (·.size) = some cs.size) :
    (results fn tmps).run P w = .ok (.agg cs) w := by
  have hp' : tmps[p]?.getD undef = .pointer (some ⟨g, 0, none⟩) := by simpa using hp
  simp [results, h, hp', asAddr, run_loadVar_row w g t ty cs fr d hg hu hd hi]
theorem lbare.put {P : Program} {ops : Array Oper} {rest : List Oper} {o : Oper} {a : Act} {Q : Exit → Act → World → Prop} {W : World} (hgd : o.guard = none) (t : TypeId) (p x : Operand) (ho : o.op = .store t p x) (hN : o.dst = none) (g : Nat) (cur : Array Value) (e : TypeId)
    (hp : a.eval p = .pointer (some ⟨g, 0, none⟩)) (cs : Array Value) (hx : a.eval x = .agg cs) (hh : W.heap[g]? = some (.cells cur e (0, 0))) (hsz : cs.size = cur.size) (ht : (P.info? t).map (·.size) = some cs.size) (h1 : ∀ q ∈ cs.toList, q.oneCell' = true)
    (h : ∀ w', w'.heap[g]? = some (.cells cs e (0, 0)) → W.grownBy w' (some g) → wpList P ops Q rest a w') : wpList P ops Q (o :: rest) a W := by
  refine wpList_plain hgd fun K hK => ?_
  have hrun := run_store_run (P := P) (w := W) (g := g) (o := 0) (e := e) (cur := cur) t (.agg cs) cs.toList hh rfl (by rw [ht]; simp) (by simp; omega) h1
  obtain ⟨cur', h3, h4, h5⟩ := setCells_row cs.toList 0 W cur hh (by simp; omega)
  obtain ⟨s1, s2, s3, s4⟩ := setCells_same g cs.toList 0 W
  have hc : cur' = cs := by
    apply Array.toList_inj.mp
    rw [h5]
    simp only [List.take_zero, List.nil_append, Nat.zero_add, Array.length_toList]
    rw [List.drop_eq_nil_of_le (by simp; omega), List.append_nil]
  subst hc
  have hk := hK (a.put o.dst undef) (W.setCells g 0 cur'.toList) (by rw [hN]; exact h _ h3 ⟨s1, s2, s3, by rw [s4]; exact Nat.le_refl _, fun k _ hk => setCells_far _ _ k (fun he => hk (by rw [he]))⟩)
  unfold Oper.wp
  simp [execOp, ho, hp, hx, hrun, Result.andThen]
  exact hk
theorem lbare.new {w : World} {cs : Array Value} {t n : Nat} (h : w.heap.size = n) : (w.alloc (.cells cs t)).heap[n]? = some (.cells cs t (0, 0)) := by subst h; exact (MapKept.heap_alloc _ _).1
theorem lbare.part9 (m : Int) (j : Nat) (hj : j < 9) (x : Int) : lpart m 9 j x = lval m j x := by unfold lpart lval; rw [decide_eq_true hj, Bool.true_and]
theorem lbare.part0 (m : Int) (j : Nat) (x : Int) : lpart m 0 j x = 0 := by simp [lpart]
set_option maxHeartbeats 8000000 in
set_option maxRecDepth 100000 in
theorem log_bare.calls (a0_0 : Int) (a0_1 : Int) (a0_2 : Int) (a0_3 : Int) (a0_4 : Int) (a0_5 : Int) (a0_6 : Int) (a0_7 : Int) (a0_8 : Int) (a0_9 : Int) (a1 : Int) (r1 : Int) (r2 : Int) (r3 : Int) (r4 : Int) (r5 : Int) (r6 : Int) (r7 : Int) (r8 : Int) (r9 : Int) (r10 : Int) (w : World) (h : log_bare.f a0_0 a0_1 a0_2 a0_3 a0_4 a0_5 a0_6 a0_7 a0_8 a0_9 a1 = some (r1, r2, r3, r4, r5, r6, r7, r8, r9, r10)) :
    Calls Try.prog 17 #[.agg #[.int .i64 a0_0, .int .i64 a0_1, .int .i64 a0_2, .int .u32 a0_3, .int .u32 a0_4, .int .u32 a0_5, .int .u32 a0_6, .int .u32 a0_7, .int .u32 a0_8, .int .u32 a0_9], .int .i64 a1] w fun e w' => e = .returned (.agg #[.int .i64 r1, .int .i64 r2, .int .i64 r3, .int .u32 r4, .int .u32 r5, .int .u32 r6, .int .u32 r7, .int .u32 r8, .int .u32 r9, .int .u32 r10]) ∧ Below w.heap.size w w' := by
  unfold log_bare.f at h
  by_cases hm : 0 ≤ a1 ∧ a1 < 512
  rotate_left
  · rw [if_neg hm] at h; cases h
  rw [if_pos hm] at h
  obtain ⟨h0, h1⟩ := hm
  simp only [Option.some.injEq, Prod.mk.injEq] at h
  obtain ⟨rfl, rfl, rfl, rfl, rfl, rfl, rfl, rfl, rfl, rfl⟩ := h
  have hmf : ∀ (fn : Fn) (first cap : Array Value) (w : World), (Instr.makeFunc fn first cap).run Try.prog w = .ok (.func fn first cap) w := fun _ _ _ _ => rfl
  go_enter Try.func17, Try.ntmps17
  go_wp2
  go_loopw [19] (fun i wr => ∃ n : Nat, n ≤ 9 ∧ i = .int .i64 n ∧ Aside0 (wr.heap[w.heap.size]? = some (.cells #[.int .i64 a0_0, .int .i64 a0_1, .int .i64 a0_2, .int .u32 a0_3, .int .u32 a0_4, .int .u32 a0_5, .int .u32 a0_6, .int .u32 a0_7, .int .u32 a0_8, .int .u32 a0_9] 25 (0, 0))) ∧ Aside0 (wr.heap[w.heap.size + 1]? = some (.cells #[.int .i64 0, .int .i64 0, .int .i64 0, .int .u32 0, .int .u32 0, .int .u32 0, .int .u32 0, .int .u32 0, .int .u32 0, .int .u32 0] 25 (0, 0))) ∧ Aside0 (wr.heap[w.heap.size + 1 + 1]? = some (.cells #[.int .i64 (lpart a1 n 0 a0_0), .int .i64 (lpart a1 n 1 a0_1), .int .i64 (lpart a1 n 2 a0_2), .int .u32 (lpart a1 n 3 a0_3), .int .u32 (lpart a1 n 4 a0_4), .int .u32 (lpart a1 n 5 a0_5), .int .u32 (lpart a1 n 6 a0_6), .int .u32 (lpart a1 n 7 a0_7), .int .u32 (lpart a1 n 8 a0_8), .int .u32 0] 25 (0, 0))) ∧ Aside0 (wr.heap[w.heap.size + 1 + 1 + 1]? = some (.cells #[.func (.func 18) #[] #[.pointer (some ⟨w.heap.size, 0, none⟩), .pointer (some ⟨w.heap.size + 1 + 1, 0, none⟩)], .func (.func 19) #[] #[.pointer (some ⟨w.heap.size, 0, none⟩), .pointer (some ⟨w.heap.size + 1 + 1, 0, none⟩)], .func (.func 20) #[] #[.pointer (some ⟨w.heap.size, 0, none⟩), .pointer (some ⟨w.heap.size + 1 + 1, 0, none⟩)], .func (.func 21) #[] #[.pointer (some ⟨w.heap.size, 0, none⟩), .pointer (some ⟨w.heap.size + 1 + 1, 0, none⟩)], .func (.func 22) #[] #[.pointer (some ⟨w.heap.size, 0, none⟩), .pointer (some ⟨w.heap.size + 1 + 1, 0, none⟩)], .func (.func 23) #[] #[.pointer (some ⟨w.heap.size, 0, none⟩), .pointer (some ⟨w.heap.size + 1 + 1, 0, none⟩)], .func (.func 24) #[] #[.pointer (some ⟨w.heap.size, 0, none⟩), .pointer (some ⟨w.heap.size + 1 + 1, 0, none⟩)], .func (.func 25) #[] #[.pointer (some ⟨w.heap.size, 0, none⟩), .pointer (some ⟨w.heap.size + 1 + 1, 0, none⟩)], .func (.func 26) #[] #[.pointer (some ⟨w.heap.size, 0, none⟩), .pointer (some ⟨w.heap.size + 1 + 1, 0, none⟩)]] 1 (0, 0))) ∧ Aside0 (Below w.heap.size w wr))
    (fun i _ => 9 - (intOf i).toNat)
  case atStart =>
    exact ⟨0, Nat.zero_le _, rfl, ⟨blk_alloc (blk_alloc (blk_alloc (lbare.new rfl) _) _) _⟩, ⟨blk_alloc (blk_alloc (lbare.new (by simp)) _) _⟩, ⟨by simp only [lbare.part0]; exact blk_alloc (lbare.new (by simp)) _⟩, ⟨lbare.new (by simp)⟩, ⟨below_alloc (below_alloc (below_alloc (below_alloc (Below.refl _ _) _) _) _) _⟩⟩
  case round =>
    obtain ⟨n, hn, rfl, HE, HO, HP, HF, HB⟩ := hrel
    by_cases h9 : n = 9
    · subst h9
      clear hn h0 h1
      have e0 : wr.cell? ⟨w.heap.size + 1 + 1, 0, none⟩ = some (.int .i64 (lpart a1 9 0 a0_0)) := (blk_cell HP.out 0).trans rfl
      have e1 : wr.cell? ⟨w.heap.size + 1 + 1, 1, none⟩ = some (.int .i64 (lpart a1 9 1 a0_1)) := (blk_cell HP.out 1).trans rfl
      have e2 : wr.cell? ⟨w.heap.size + 1 + 1, 2, none⟩ = some (.int .i64 (lpart a1 9 2 a0_2)) := (blk_cell HP.out 2).trans rfl
      have e3 : wr.cell? ⟨w.heap.size + 1 + 1, 3, none⟩ = some (.int .u32 (lpart a1 9 3 a0_3)) := (blk_cell HP.out 3).trans rfl
      have e4 : wr.cell? ⟨w.heap.size + 1 + 1, 4, none⟩ = some (.int .u32 (lpart a1 9 4 a0_4)) := (blk_cell HP.out 4).trans rfl
      have e5 : wr.cell? ⟨w.heap.size + 1 + 1, 5, none⟩ = some (.int .u32 (lpart a1 9 5 a0_5)) := (blk_cell HP.out 5).trans rfl
      have e6 : wr.cell? ⟨w.heap.size + 1 + 1, 6, none⟩ = some (.int .u32 (lpart a1 9 6 a0_6)) := (blk_cell HP.out 6).trans rfl
      have e7 : wr.cell? ⟨w.heap.size + 1 + 1, 7, none⟩ = some (.int .u32 (lpart a1 9 7 a0_7)) := (blk_cell HP.out 7).trans rfl
      have e8 : wr.cell? ⟨w.heap.size + 1 + 1, 8, none⟩ = some (.int .u32 (lpart a1 9 8 a0_8)) := (blk_cell HP.out 8).trans rfl
      have e9 : wr.cell? ⟨w.heap.size + 1 + 1, 9, none⟩ = some (.int .u32 0) := (blk_cell HP.out 9).trans rfl
      go_wp2_with ((with_reducible refine gate_store (t := 25) (p := 4) (v := .tmp 32) rfl ?_); refine lbare.put rfl 25 _ _ rfl rfl (w.heap.size + 1) _ 25 rfl _ rfl HO.out rfl (by kernel_rfl) (lbare.one _ _ _ _ _ _ _ _ _ _) ?_; intro w1 hw1 hg1; clear e0 e1 e2 e3 e4 e5 e6 e7 e8 e9)
      refine bodyPost_ret (lbare.res rfl _ _ (w.heap.size + 1) 25 _ (0, 0) _ rfl hw1 Try.underlying25 rfl (by kernel_rfl)) rfl ?_
      exact ⟨by rw [lbare.part9 _ 0 (by omega), lbare.part9 _ 1 (by omega), lbare.part9 _ 2 (by omega), lbare.part9 _ 3 (by omega), lbare.part9 _ 4 (by omega), lbare.part9 _ 5 (by omega), lbare.part9 _ 6 (by omega), lbare.part9 _ 7 (by omega), lbare.part9 _ 8 (by omega)], HB.out.grown hg1 HB.out.size (fun k hk => by cases hk; omega)⟩
    have hcase : n = 0 ∨ n = 1 ∨ n = 2 ∨ n = 3 ∨ n = 4 ∨ n = 5 ∨ n = 6 ∨ n = 7 ∨ n = 8 := by omega
    rcases hcase with rfl | rfl | rfl | rfl | rfl | rfl | rfl | rfl | rfl
    · have fc : wr.cell? ⟨w.heap.size + 1 + 1 + 1, 0, none⟩ = some (.func (.func 18) #[] #[.pointer (some ⟨w.heap.size, 0, none⟩), .pointer (some ⟨w.heap.size + 1 + 1, 0, none⟩)]) := (blk_cell HF.out 0).trans rfl
      by_cases hq : lbit a1 0 = true
      · have hb : (Go.bits .and .i64 a1 1 == 0) = false := (lbare.bit a1 h0 h1 0 (by omega)).trans (by rw [hq]; rfl)
        have hb2 : (Go.bits .and .i64 a1 1 != 0) = true := by unfold bne; rw [hb]; rfl
        have HQ := Aside0.mk hq
        clear hq
        go_wp2_with (go_at_call 18; refine (lbare.c0 _ _ a0_0 a0_1 a0_2 a0_3 a0_4 a0_5 a0_6 a0_7 a0_8 a0_9 _ rfl _ HE.out HP.out).mono ?_; rintro e w1 ⟨rfl, rfl⟩)
        go_roundw
        case rel => exact ⟨1, by omega, rfl, ⟨blk_far (p := ⟨w.heap.size + 1 + 1, 0, none⟩) HE.out (Nat.ne_of_lt (by show w.heap.size < w.heap.size + 1 + 1; omega)) _⟩, ⟨blk_far (p := ⟨w.heap.size + 1 + 1, 0, none⟩) HO.out (Nat.ne_of_lt (by show w.heap.size + 1 < w.heap.size + 1 + 1; omega)) _⟩, ⟨blk_put HP.out 0 _ (by have hq := HQ.out; simp [lpart, hq])⟩, ⟨blk_far (p := ⟨w.heap.size + 1 + 1, 0, none⟩) HF.out (Nat.ne_of_gt (by show w.heap.size + 1 + 1 < w.heap.size + 1 + 1 + 1; omega)) _⟩, ⟨below_set HB.out (by omega)⟩⟩
        case measure => simp [intOf]
      · have hb : (Go.bits .and .i64 a1 1 == 0) = true := (lbare.bit a1 h0 h1 0 (by omega)).trans (by simp [hq])
        have hb2 : (Go.bits .and .i64 a1 1 != 0) = false := by unfold bne; rw [hb]; rfl
        have HQ := Aside0.mk hq
        clear hq
        go_wp2
        go_roundw
        case rel => exact ⟨1, by omega, rfl, HE, HO, ⟨by have hq := HQ.out; have e : (#[.int .i64 (lpart a1 0 0 a0_0), .int .i64 (lpart a1 0 1 a0_1), .int .i64 (lpart a1 0 2 a0_2), .int .u32 (lpart a1 0 3 a0_3), .int .u32 (lpart a1 0 4 a0_4), .int .u32 (lpart a1 0 5 a0_5), .int .u32 (lpart a1 0 6 a0_6), .int .u32 (lpart a1 0 7 a0_7), .int .u32 (lpart a1 0 8 a0_8), .int .u32 0] : Array Value) = #[.int .i64 (lpart a1 1 0 a0_0), .int .i64 (lpart a1 1 1 a0_1), .int .i64 (lpart a1 1 2 a0_2), .int .u32 (lpart a1 1 3 a0_3), .int .u32 (lpart a1 1 4 a0_4), .int .u32 (lpart a1 1 5 a0_5), .int .u32 (lpart a1 1 6 a0_6), .int .u32 (lpart a1 1 7 a0_7), .int .u32 (lpart a1 1 8 a0_8), .int .u32 0] := (by simp [lpart, hq]); exact e ▸ HP.out⟩, HF, HB⟩
        case measure => simp [intOf]
    · have fc : wr.cell? ⟨w.heap.size + 1 + 1 + 1, 1, none⟩ = some (.func (.func 19) #[] #[.pointer (some ⟨w.heap.size, 0, none⟩), .pointer (some ⟨w.heap.size + 1 + 1, 0, none⟩)]) := (blk_cell HF.out 1).trans rfl
      by_cases hq : lbit a1 1 = true
      · have hb : (Go.bits .and .i64 a1 2 == 0) = false := (lbare.bit a1 h0 h1 1 (by omega)).trans (by rw [hq]; rfl)
        have hb2 : (Go.bits .and .i64 a1 2 != 0) = true := by unfold bne; rw [hb]; rfl
        have HQ := Aside0.mk hq
        clear hq
        go_wp2_with (go_at_call 19; refine (lbare.c1 _ _ a0_0 a0_1 a0_2 a0_3 a0_4 a0_5 a0_6 a0_7 a0_8 a0_9 _ rfl _ HE.out HP.out).mono ?_; rintro e w1 ⟨rfl, rfl⟩)
        go_roundw
        case rel => exact ⟨2, by omega, rfl, ⟨blk_far (p := ⟨w.heap.size + 1 + 1, 1, none⟩) HE.out (Nat.ne_of_lt (by show w.heap.size < w.heap.size + 1 + 1; omega)) _⟩, ⟨blk_far (p := ⟨w.heap.size + 1 + 1, 1, none⟩) HO.out (Nat.ne_of_lt (by show w.heap.size + 1 < w.heap.size + 1 + 1; omega)) _⟩, ⟨blk_put HP.out 1 _ (by have hq := HQ.out; simp [lpart, hq])⟩, ⟨blk_far (p := ⟨w.heap.size + 1 + 1, 1, none⟩) HF.out (Nat.ne_of_gt (by show w.heap.size + 1 + 1 < w.heap.size + 1 + 1 + 1; omega)) _⟩, ⟨below_set HB.out (by omega)⟩⟩
        case measure => simp [intOf]
      · have hb : (Go.bits .and .i64 a1 2 == 0) = true := (lbare.bit a1 h0 h1 1 (by omega)).trans (by simp [hq])
        have hb2 : (Go.bits .and .i64 a1 2 != 0) = false := by unfold bne; rw [hb]; rfl
        have HQ := Aside0.mk hq
        clear hq
        go_wp2
        go_roundw
        case rel => exact ⟨2, by omega, rfl, HE, HO, ⟨by have hq := HQ.out; have e : (#[.int .i64 (lpart a1 1 0 a0_0), .int .i64 (lpart a1 1 1 a0_1), .int .i64 (lpart a1 1 2 a0_2), .int .u32 (lpart a1 1 3 a0_3), .int .u32 (lpart a1 1 4 a0_4), .int .u32 (lpart a1 1 5 a0_5), .int .u32 (lpart a1 1 6 a0_6), .int .u32 (lpart a1 1 7 a0_7), .int .u32 (lpart a1 1 8 a0_8), .int .u32 0] : Array Value) = #[.int .i64 (lpart a1 2 0 a0_0), .int .i64 (lpart a1 2 1 a0_1), .int .i64 (lpart a1 2 2 a0_2), .int .u32 (lpart a1 2 3 a0_3), .int .u32 (lpart a1 2 4 a0_4), .int .u32 (lpart a1 2 5 a0_5), .int .u32 (lpart a1 2 6 a0_6), .int .u32 (lpart a1 2 7 a0_7), .int .u32 (lpart a1 2 8 a0_8), .int .u32 0] := (by simp [lpart, hq]); exact e ▸ HP.out⟩, HF, HB⟩
        case measure => simp [intOf]
    · have fc : wr.cell? ⟨w.heap.size + 1 + 1 + 1, 2, none⟩ = some (.func (.func 20) #[] #[.pointer (some ⟨w.heap.size, 0, none⟩), .pointer (some ⟨w.heap.size + 1 + 1, 0, none⟩)]) := (blk_cell HF.out 2).trans rfl
      by_cases hq : lbit a1 2 = true
      · have hb : (Go.bits .and .i64 a1 4 == 0) = false := (lbare.bit a1 h0 h1 2 (by omega)).trans (by rw [hq]; rfl)
        have hb2 : (Go.bits .and .i64 a1 4 != 0) = true := by unfold bne; rw [hb]; rfl
        have HQ := Aside0.mk hq
        clear hq
        go_wp2_with (go_at_call 20; refine (lbare.c2 _ _ a0_0 a0_1 a0_2 a0_3 a0_4 a0_5 a0_6 a0_7 a0_8 a0_9 _ rfl _ HE.out HP.out).mono ?_; rintro e w1 ⟨rfl, rfl⟩)
        go_roundw
        case rel => exact ⟨3, by omega, rfl, ⟨blk_far (p := ⟨w.heap.size + 1 + 1, 2, none⟩) HE.out (Nat.ne_of_lt (by show w.heap.size < w.heap.size + 1 + 1; omega)) _⟩, ⟨blk_far (p := ⟨w.heap.size + 1 + 1, 2, none⟩) HO.out (Nat.ne_of_lt (by show w.heap.size + 1 < w.heap.size + 1 + 1; omega)) _⟩, ⟨blk_put HP.out 2 _ (by have hq := HQ.out; simp [lpart, hq])⟩, ⟨blk_far (p := ⟨w.heap.size + 1 + 1, 2, none⟩) HF.out (Nat.ne_of_gt (by show w.heap.size + 1 + 1 < w.heap.size + 1 + 1 + 1; omega)) _⟩, ⟨below_set HB.out (by omega)⟩⟩
        case measure => simp [intOf]
      · have hb : (Go.bits .and .i64 a1 4 == 0) = true := (lbare.bit a1 h0 h1 2 (by omega)).trans (by simp [hq])
        have hb2 : (Go.bits .and .i64 a1 4 != 0) = false := by unfold bne; rw [hb]; rfl
        have HQ := Aside0.mk hq
        clear hq
        go_wp2
        go_roundw
        case rel => exact ⟨3, by omega, rfl, HE, HO, ⟨by have hq := HQ.out; have e : (#[.int .i64 (lpart a1 2 0 a0_0), .int .i64 (lpart a1 2 1 a0_1), .int .i64 (lpart a1 2 2 a0_2), .int .u32 (lpart a1 2 3 a0_3), .int .u32 (lpart a1 2 4 a0_4), .int .u32 (lpart a1 2 5 a0_5), .int .u32 (lpart a1 2 6 a0_6), .int .u32 (lpart a1 2 7 a0_7), .int .u32 (lpart a1 2 8 a0_8), .int .u32 0] : Array Value) = #[.int .i64 (lpart a1 3 0 a0_0), .int .i64 (lpart a1 3 1 a0_1), .int .i64 (lpart a1 3 2 a0_2), .int .u32 (lpart a1 3 3 a0_3), .int .u32 (lpart a1 3 4 a0_4), .int .u32 (lpart a1 3 5 a0_5), .int .u32 (lpart a1 3 6 a0_6), .int .u32 (lpart a1 3 7 a0_7), .int .u32 (lpart a1 3 8 a0_8), .int .u32 0] := (by simp [lpart, hq]); exact e ▸ HP.out⟩, HF, HB⟩
        case measure => simp [intOf]
    · have fc : wr.cell? ⟨w.heap.size + 1 + 1 + 1, 3, none⟩ = some (.func (.func 21) #[] #[.pointer (some ⟨w.heap.size, 0, none⟩), .pointer (some ⟨w.heap.size + 1 + 1, 0, none⟩)]) := (blk_cell HF.out 3).trans rfl
      by_cases hq : lbit a1 3 = true
      · have hb : (Go.bits .and .i64 a1 8 == 0) = false := (lbare.bit a1 h0 h1 3 (by omega)).trans (by rw [hq]; rfl)
        have hb2 : (Go.bits .and .i64 a1 8 != 0) = true := by unfold bne; rw [hb]; rfl
        have HQ := Aside0.mk hq
        clear hq
        go_wp2_with (go_at_call 21; refine (lbare.c3 _ _ a0_0 a0_1 a0_2 a0_3 a0_4 a0_5 a0_6 a0_7 a0_8 a0_9 _ rfl _ HE.out HP.out).mono ?_; rintro e w1 ⟨rfl, rfl⟩)
        go_roundw
        case rel => exact ⟨4, by omega, rfl, ⟨blk_far (p := ⟨w.heap.size + 1 + 1, 3, none⟩) HE.out (Nat.ne_of_lt (by show w.heap.size < w.heap.size + 1 + 1; omega)) _⟩, ⟨blk_far (p := ⟨w.heap.size + 1 + 1, 3, none⟩) HO.out (Nat.ne_of_lt (by show w.heap.size + 1 < w.heap.size + 1 + 1; omega)) _⟩, ⟨blk_put HP.out 3 _ (by have hq := HQ.out; simp [lpart, hq])⟩, ⟨blk_far (p := ⟨w.heap.size + 1 + 1, 3, none⟩) HF.out (Nat.ne_of_gt (by show w.heap.size + 1 + 1 < w.heap.size + 1 + 1 + 1; omega)) _⟩, ⟨below_set HB.out (by omega)⟩⟩
        case measure => simp [intOf]
      · have hb : (Go.bits .and .i64 a1 8 == 0) = true := (lbare.bit a1 h0 h1 3 (by omega)).trans (by simp [hq])
        have hb2 : (Go.bits .and .i64 a1 8 != 0) = false := by unfold bne; rw [hb]; rfl
        have HQ := Aside0.mk hq
        clear hq
        go_wp2
        go_roundw
        case rel => exact ⟨4, by omega, rfl, HE, HO, ⟨by have hq := HQ.out; have e : (#[.int .i64 (lpart a1 3 0 a0_0), .int .i64 (lpart a1 3 1 a0_1), .int .i64 (lpart a1 3 2 a0_2), .int .u32 (lpart a1 3 3 a0_3), .int .u32 (lpart a1 3 4 a0_4), .int .u32 (lpart a1 3 5 a0_5), .int .u32 (lpart a1 3 6 a0_6), .int .u32 (lpart a1 3 7 a0_7), .int .u32 (lpart a1 3 8 a0_8), .int .u32 0] : Array Value) = #[.int .i64 (lpart a1 4 0 a0_0), .int .i64 (lpart a1 4 1 a0_1), .int .i64 (lpart a1 4 2 a0_2), .int .u32 (lpart a1 4 3 a0_3), .int .u32 (lpart a1 4 4 a0_4), .int .u32 (lpart a1 4 5 a0_5), .int .u32 (lpart a1 4 6 a0_6), .int .u32 (lpart a1 4 7 a0_7), .int .u32 (lpart a1 4 8 a0_8), .int .u32 0] := (by simp [lpart, hq]); exact e ▸ HP.out⟩, HF, HB⟩
        case measure => simp [intOf]
    · have fc : wr.cell? ⟨w.heap.size + 1 + 1 + 1, 4, none⟩ = some (.func (.func 22) #[] #[.pointer (some ⟨w.heap.size, 0, none⟩), .pointer (some ⟨w.heap.size + 1 + 1, 0, none⟩)]) := (blk_cell HF.out 4).trans rfl
      by_cases hq : lbit a1 4 = true
      · have hb : (Go.bits .and .i64 a1 16 == 0) = false := (lbare.bit a1 h0 h1 4 (by omega)).trans (by rw [hq]; rfl)
        have hb2 : (Go.bits .and .i64 a1 16 != 0) = true := by unfold bne; rw [hb]; rfl
        have HQ := Aside0.mk hq
        clear hq
        go_wp2_with (go_at_call 22; refine (lbare.c4 _ _ a0_0 a0_1 a0_2 a0_3 a0_4 a0_5 a0_6 a0_7 a0_8 a0_9 _ rfl _ HE.out HP.out).mono ?_; rintro e w1 ⟨rfl, rfl⟩)
        go_roundw
        case rel => exact ⟨5, by omega, rfl, ⟨blk_far (p := ⟨w.heap.size + 1 + 1, 4, none⟩) HE.out (Nat.ne_of_lt (by show w.heap.size < w.heap.size + 1 + 1; omega)) _⟩, ⟨blk_far (p := ⟨w.heap.size + 1 + 1, 4, none⟩) HO.out (Nat.ne_of_lt (by show w.heap.size + 1 < w.heap.size + 1 + 1; omega)) _⟩, ⟨blk_put HP.out 4 _ (by have hq := HQ.out; simp [lpart, hq])⟩, ⟨blk_far (p := ⟨w.heap.size + 1 + 1, 4, none⟩) HF.out (Nat.ne_of_gt (by show w.heap.size + 1 + 1 < w.heap.size + 1 + 1 + 1; omega)) _⟩, ⟨below_set HB.out (by omega)⟩⟩
        case measure => simp [intOf]
      · have hb : (Go.bits .and .i64 a1 16 == 0) = true := (lbare.bit a1 h0 h1 4 (by omega)).trans (by simp [hq])
        have hb2 : (Go.bits .and .i64 a1 16 != 0) = false := by unfold bne; rw [hb]; rfl
        have HQ := Aside0.mk hq
        clear hq
        go_wp2
        go_roundw
        case rel => exact ⟨5, by omega, rfl, HE, HO, ⟨by have hq := HQ.out; have e : (#[.int .i64 (lpart a1 4 0 a0_0), .int .i64 (lpart a1 4 1 a0_1), .int .i64 (lpart a1 4 2 a0_2), .int .u32 (lpart a1 4 3 a0_3), .int .u32 (lpart a1 4 4 a0_4), .int .u32 (lpart a1 4 5 a0_5), .int .u32 (lpart a1 4 6 a0_6), .int .u32 (lpart a1 4 7 a0_7), .int .u32 (lpart a1 4 8 a0_8), .int .u32 0] : Array Value) = #[.int .i64 (lpart a1 5 0 a0_0), .int .i64 (lpart a1 5 1 a0_1), .int .i64 (lpart a1 5 2 a0_2), .int .u32 (lpart a1 5 3 a0_3), .int .u32 (lpart a1 5 4 a0_4), .int .u32 (lpart a1 5 5 a0_5), .int .u32 (lpart a1 5 6 a0_6), .int .u32 (lpart a1 5 7 a0_7), .int .u32 (lpart a1 5 8 a0_8), .int .u32 0] := (by simp [lpart, hq]); exact e ▸ HP.out⟩, HF, HB⟩
        case measure => simp [intOf]
    · have fc : wr.cell? ⟨w.heap.size + 1 + 1 + 1, 5, none⟩ = some (.func (.func 23) #[] #[.pointer (some ⟨w.heap.size, 0, none⟩), .pointer (some ⟨w.heap.size + 1 + 1, 0, none⟩)]) := (blk_cell HF.out 5).trans rfl
      by_cases hq : lbit a1 5 = true
      · have hb : (Go.bits .and .i64 a1 32 == 0) = false := (lbare.bit a1 h0 h1 5 (by omega)).trans (by rw [hq]; rfl)
        have hb2 : (Go.bits .and .i64 a1 32 != 0) = true := by unfold bne; rw [hb]; rfl
        have HQ := Aside0.mk hq
        clear hq
        go_wp2_with (go_at_call 23; refine (lbare.c5 _ _ a0_0 a0_1 a0_2 a0_3 a0_4 a0_5 a0_6 a0_7 a0_8 a0_9 _ rfl _ HE.out HP.out).mono ?_; rintro e w1 ⟨rfl, rfl⟩)
        go_roundw
        case rel => exact ⟨6, by omega, rfl, ⟨blk_far (p := ⟨w.heap.size + 1 + 1, 5, none⟩) HE.out (Nat.ne_of_lt (by show w.heap.size < w.heap.size + 1 + 1; omega)) _⟩, ⟨blk_far (p := ⟨w.heap.size + 1 + 1, 5, none⟩) HO.out (Nat.ne_of_lt (by show w.heap.size + 1 < w.heap.size + 1 + 1; omega)) _⟩, ⟨blk_put HP.out 5 _ (by have hq := HQ.out; simp [lpart, hq])⟩, ⟨blk_far (p := ⟨w.heap.size + 1 + 1, 5, none⟩) HF.out (Nat.ne_of_gt (by show w.heap.size + 1 + 1 < w.heap.size + 1 + 1 + 1; omega)) _⟩, ⟨below_set HB.out (by omega)⟩⟩
        case measure => simp [intOf]
      · have hb : (Go.bits .and .i64 a1 32 == 0) = true := (lbare.bit a1 h0 h1 5 (by omega)).trans (by simp [hq])
        have hb2 : (Go.bits .and .i64 a1 32 != 0) = false := by unfold bne; rw [hb]; rfl
        have HQ := Aside0.mk hq
        clear hq
        go_wp2
        go_roundw
        case rel => exact ⟨6, by omega, rfl, HE, HO, ⟨by have hq := HQ.out; have e : (#[.int .i64 (lpart a1 5 0 a0_0), .int .i64 (lpart a1 5 1 a0_1), .int .i64 (lpart a1 5 2 a0_2), .int .u32 (lpart a1 5 3 a0_3), .int .u32 (lpart a1 5 4 a0_4), .int .u32 (lpart a1 5 5 a0_5), .int .u32 (lpart a1 5 6 a0_6), .int .u32 (lpart a1 5 7 a0_7), .int .u32 (lpart a1 5 8 a0_8), .int .u32 0] : Array Value) = #[.int .i64 (lpart a1 6 0 a0_0), .int .i64 (lpart a1 6 1 a0_1), .int .i64 (lpart a1 6 2 a0_2), .int .u32 (lpart a1 6 3 a0_3), .int .u32 (lpart a1 6 4 a0_4), .int .u32 (lpart a1 6 5 a0_5), .int .u32 (lpart a1 6 6 a0_6), .int .u32 (lpart a1 6 7 a0_7), .int .u32 (lpart a1 6 8 a0_8), .int .u32 0] := (by simp [lpart, hq]); exact e ▸ HP.out⟩, HF, HB⟩
        case measure => simp [intOf]
    · have fc : wr.cell? ⟨w.heap.size + 1 + 1 + 1, 6, none⟩ = some (.func (.func 24) #[] #[.pointer (some ⟨w.heap.size, 0, none⟩), .pointer (some ⟨w.heap.size + 1 + 1, 0, none⟩)]) := (blk_cell HF.out 6).trans rfl
      by_cases hq : lbit a1 6 = true
      · have hb : (Go.bits .and .i64 a1 64 == 0) = false := (lbare.bit a1 h0 h1 6 (by omega)).trans (by rw [hq]; rfl)
        have hb2 : (Go.bits .and .i64 a1 64 != 0) = true := by unfold bne; rw [hb]; rfl
        have HQ := Aside0.mk hq
        clear hq
        go_wp2_with (go_at_call 24; refine (lbare.c6 _ _ a0_0 a0_1 a0_2 a0_3 a0_4 a0_5 a0_6 a0_7 a0_8 a0_9 _ rfl _ HE.out HP.out).mono ?_; rintro e w1 ⟨rfl, rfl⟩)
        go_roundw
        case rel => exact ⟨7, by omega, rfl, ⟨blk_far (p := ⟨w.heap.size + 1 + 1, 6, none⟩) HE.out (Nat.ne_of_lt (by show w.heap.size < w.heap.size + 1 + 1; omega)) _⟩, ⟨blk_far (p := ⟨w.heap.size + 1 + 1, 6, none⟩) HO.out (Nat.ne_of_lt (by show w.heap.size + 1 < w.heap.size + 1 + 1; omega)) _⟩, ⟨blk_put HP.out 6 _ (by have hq := HQ.out; simp [lpart, hq])⟩, ⟨blk_far (p := ⟨w.heap.size + 1 + 1, 6, none⟩) HF.out (Nat.ne_of_gt (by show w.heap.size + 1 + 1 < w.heap.size + 1 + 1 + 1; omega)) _⟩, ⟨below_set HB.out (by omega)⟩⟩
        case measure => simp [intOf]
      · have hb : (Go.bits .and .i64 a1 64 == 0) = true := (lbare.bit a1 h0 h1 6 (by omega)).trans (by simp [hq])
        have hb2 : (Go.bits .and .i64 a1 64 != 0) = false := by unfold bne; rw [hb]; rfl
        have HQ := Aside0.mk hq
        clear hq
        go_wp2
        go_roundw
        case rel => exact ⟨7, by omega, rfl, HE, HO, ⟨by have hq := HQ.out; have e : (#[.int .i64 (lpart a1 6 0 a0_0), .int .i64 (lpart a1 6 1 a0_1), .int .i64 (lpart a1 6 2 a0_2), .int .u32 (lpart a1 6 3 a0_3), .int .u32 (lpart a1 6 4 a0_4), .int .u32 (lpart a1 6 5 a0_5), .int .u32 (lpart a1 6 6 a0_6), .int .u32 (lpart a1 6 7 a0_7), .int .u32 (lpart a1 6 8 a0_8), .int .u32 0] : Array Value) = #[.int .i64 (lpart a1 7 0 a0_0), .int .i64 (lpart a1 7 1 a0_1), .int .i64 (lpart a1 7 2 a0_2), .int .u32 (lpart a1 7 3 a0_3), .int .u32 (lpart a1 7 4 a0_4), .int .u32 (lpart a1 7 5 a0_5), .int .u32 (lpart a1 7 6 a0_6), .int .u32 (lpart a1 7 7 a0_7), .int .u32 (lpart a1 7 8 a0_8), .int .u32 0] := (by simp [lpart, hq]); exact e ▸ HP.out⟩, HF, HB⟩
        case measure => simp [intOf]
    · have fc : wr.cell? ⟨w.heap.size + 1 + 1 + 1, 7, none⟩ = some (.func (.func 25) #[] #[.pointer (some ⟨w.heap.size, 0, none⟩), .pointer (some ⟨w.heap.size + 1 + 1, 0, none⟩)]) := (blk_cell HF.out 7).trans rfl
      by_cases hq : lbit a1 7 = true
      · have hb : (Go.bits .and .i64 a1 128 == 0) = false := (lbare.bit a1 h0 h1 7 (by omega)).trans (by rw [hq]; rfl)
        have hb2 : (Go.bits .and .i64 a1 128 != 0) = true := by unfold bne; rw [hb]; rfl
        have HQ := Aside0.mk hq
        clear hq
        go_wp2_with (go_at_call 25; refine (lbare.c7 _ _ a0_0 a0_1 a0_2 a0_3 a0_4 a0_5 a0_6 a0_7 a0_8 a0_9 _ rfl _ HE.out HP.out).mono ?_; rintro e w1 ⟨rfl, rfl⟩)
        go_roundw
        case rel => exact ⟨8, by omega, rfl, ⟨blk_far (p := ⟨w.heap.size + 1 + 1, 7, none⟩) HE.out (Nat.ne_of_lt (by show w.heap.size < w.heap.size + 1 + 1; omega)) _⟩, ⟨blk_far (p := ⟨w.heap.size + 1 + 1, 7, none⟩) HO.out (Nat.ne_of_lt (by show w.heap.size + 1 < w.heap.size + 1 + 1; omega)) _⟩, ⟨blk_put HP.out 7 _ (by have hq := HQ.out; simp [lpart, hq])⟩, ⟨blk_far (p := ⟨w.heap.size + 1 + 1, 7, none⟩) HF.out (Nat.ne_of_gt (by show w.heap.size + 1 + 1 < w.heap.size + 1 + 1 + 1; omega)) _⟩, ⟨below_set HB.out (by omega)⟩⟩
        case measure => simp [intOf]
      · have hb : (Go.bits .and .i64 a1 128 == 0) = true := (lbare.bit a1 h0 h1 7 (by omega)).trans (by simp [hq])
        have hb2 : (Go.bits .and .i64 a1 128 != 0) = false := by unfold bne; rw [hb]; rfl
        have HQ := Aside0.mk hq
        clear hq
        go_wp2
        go_roundw
        case rel => exact ⟨8, by omega, rfl, HE, HO, ⟨by have hq := HQ.out; have e : (#[.int .i64 (lpart a1 7 0 a0_0), .int .i64 (lpart a1 7 1 a0_1), .int .i64 (lpart a1 7 2 a0_2), .int .u32 (lpart a1 7 3 a0_3), .int .u32 (lpart a1 7 4 a0_4), .int .u32 (lpart a1 7 5 a0_5), .int .u32 (lpart a1 7 6 a0_6), .int .u32 (lpart a1 7 7 a0_7), .int .u32 (lpart a1 7 8 a0_8), .int .u32 0] : Array Value) = #[.int .i64 (lpart a1 8 0 a0_0), .int .i64 (lpart a1 8 1 a0_1), .int .i64 (lpart a1 8 2 a0_2), .int .u32 (lpart a1 8 3 a0_3), .int .u32 (lpart a1 8 4 a0_4), .int .u32 (lpart a1 8 5 a0_5), .int .u32 (lpart a1 8 6 a0_6), .int .u32 (lpart a1 8 7 a0_7), .int .u32 (lpart a1 8 8 a0_8), .int .u32 0] := (by simp [lpart, hq]); exact e ▸ HP.out⟩, HF, HB⟩
        case measure => simp [intOf]
    · have fc : wr.cell? ⟨w.heap.size + 1 + 1 + 1, 8, none⟩ = some (.func (.func 26) #[] #[.pointer (some ⟨w.heap.size, 0, none⟩), .pointer (some ⟨w.heap.size + 1 + 1, 0, none⟩)]) := (blk_cell HF.out 8).trans rfl
      by_cases hq : lbit a1 8 = true
      · have hb : (Go.bits .and .i64 a1 256 == 0) = false := (lbare.bit a1 h0 h1 8 (by omega)).trans (by rw [hq]; rfl)
        have hb2 : (Go.bits .and .i64 a1 256 != 0) = true := by unfold bne; rw [hb]; rfl
        have HQ := Aside0.mk hq
        clear hq
        go_wp2_with (go_at_call 26; refine (lbare.c8 _ _ a0_0 a0_1 a0_2 a0_3 a0_4 a0_5 a0_6 a0_7 a0_8 a0_9 _ rfl _ HE.out HP.out).mono ?_; rintro e w1 ⟨rfl, rfl⟩)
        go_roundw
        case rel => exact ⟨9, by omega, rfl, ⟨blk_far (p := ⟨w.heap.size + 1 + 1, 8, none⟩) HE.out (Nat.ne_of_lt (by show w.heap.size < w.heap.size + 1 + 1; omega)) _⟩, ⟨blk_far (p := ⟨w.heap.size + 1 + 1, 8, none⟩) HO.out (Nat.ne_of_lt (by show w.heap.size + 1 < w.heap.size + 1 + 1; omega)) _⟩, ⟨blk_put HP.out 8 _ (by have hq := HQ.out; simp [lpart, hq])⟩, ⟨blk_far (p := ⟨w.heap.size + 1 + 1, 8, none⟩) HF.out (Nat.ne_of_gt (by show w.heap.size + 1 + 1 < w.heap.size + 1 + 1 + 1; omega)) _⟩, ⟨below_set HB.out (by omega)⟩⟩
        case measure => simp [intOf]
      · have hb : (Go.bits .and .i64 a1 256 == 0) = true := (lbare.bit a1 h0 h1 8 (by omega)).trans (by simp [hq])
        have hb2 : (Go.bits .and .i64 a1 256 != 0) = false := by unfold bne; rw [hb]; rfl
        have HQ := Aside0.mk hq
        clear hq
        go_wp2
        go_roundw
        case rel => exact ⟨9, by omega, rfl, HE, HO, ⟨by have hq := HQ.out; have e : (#[.int .i64 (lpart a1 8 0 a0_0), .int .i64 (lpart a1 8 1 a0_1), .int .i64 (lpart a1 8 2 a0_2), .int .u32 (lpart a1 8 3 a0_3), .int .u32 (lpart a1 8 4 a0_4), .int .u32 (lpart a1 8 5 a0_5), .int .u32 (lpart a1 8 6 a0_6), .int .u32 (lpart a1 8 7 a0_7), .int .u32 (lpart a1 8 8 a0_8), .int .u32 0] : Array Value) = #[.int .i64 (lpart a1 9 0 a0_0), .int .i64 (lpart a1 9 1 a0_1), .int .i64 (lpart a1 9 2 a0_2), .int .u32 (lpart a1 9 3 a0_3), .int .u32 (lpart a1 9 4 a0_4), .int .u32 (lpart a1 9 5 a0_5), .int .u32 (lpart a1 9 6 a0_6), .int .u32 (lpart a1 9 7 a0_7), .int .u32 (lpart a1 9 8 a0_8), .int .u32 0] := (by simp [lpart, hq]); exact e ▸ HP.out⟩, HF, HB⟩
        case measure => simp [intOf]

/-! ### log_Fits: function 10 -/
def log_Fits.f (a0_0 : Int) (a0_1 : Int) (a0_2 : Int) (a0_3 : Int) (a0_4 : Int) (a0_5 : Int) (a0_6 : Int) (a0_7 : Int) (a0_8 : Int) (a0_9 : Int) (a1_0 : Int) (a1_1 : Int) (a1_2 : Int) (a1_3 : Int) (a1_4 : Int) (a1_5 : Int) (a1_6 : Int) (a1_7 : Int) (a1_8 : Int) (a1_9 : Int) (a2 : Int) : Option (Bool) := (log_bare.f a0_0 a0_1 a0_2 a0_3 a0_4 a0_5 a0_6 a0_7 a0_8 a0_9 a2).bind fun bt105 => ((log_bare.f a1_0 a1_1 a1_2 a1_3 a1_4 a1_5 a1_6 a1_7 a1_8 a1_9 a2).bind fun bt115 => (some (bt105.1 == bt115.1 && (bt105.2.1 == bt115.2.1 && (bt105.2.2.1 == bt115.2.2.1 && (bt105.2.2.2.1 == bt115.2.2.2.1 && (bt105.2.2.2.2.1 == bt115.2.2.2.2.1 && (bt105.2.2.2.2.2.1 == bt115.2.2.2.2.2.1 && (bt105.2.2.2.2.2.2.1 == bt115.2.2.2.2.2.2.1 && (bt105.2.2.2.2.2.2.2.1 == bt115.2.2.2.2.2.2.2.1 && (bt105.2.2.2.2.2.2.2.2.1 == bt115.2.2.2.2.2.2.2.2.1 && (bt105.2.2.2.2.2.2.2.2.2 == bt115.2.2.2.2.2.2.2.2.2))))))))))))
def log_Fits.T1 : Bool × List (List Nat × List Nat) := (true, [([], []), ([], []), ([0, 1], [0, 1]), ([], []), ([], []), ([3, 4, 2], [3, 4]), ([2, 5], [2, 5]), ([6, 5, 0, 1, 2, 3, 4, 5, 6], [6])])
def log_Fits.B1 : List Nat := [0, 0, 3, 0, 0, 31, 63, 127]
theorem log_Fits.tab1 : rtab .any (opsOf Try.f10 1) = log_Fits.T1 := by kernel_rfl
theorem log_Fits.bits1 : waitsOk log_Fits.T1.2 log_Fits.B1 = true := by kernel_rfl
set_option maxHeartbeats 8000000 in
set_option maxRecDepth 100000 in
theorem log_Fits.calls (a0_0 : Int) (a0_1 : Int) (a0_2 : Int) (a0_3 : Int) (a0_4 : Int) (a0_5 : Int) (a0_6 : Int) (a0_7 : Int) (a0_8 : Int) (a0_9 : Int) (a1_0 : Int) (a1_1 : Int) (a1_2 : Int) (a1_3 : Int) (a1_4 : Int) (a1_5 : Int) (a1_6 : Int) (a1_7 : Int) (a1_8 : Int) (a1_9 : Int) (a2 : Int) (r : Bool) (w : World) (h : log_Fits.f a0_0 a0_1 a0_2 a0_3 a0_4 a0_5 a0_6 a0_7 a0_8 a0_9 a1_0 a1_1 a1_2 a1_3 a1_4 a1_5 a1_6 a1_7 a1_8 a1_9 a2 = some r) :
    Calls Try.prog 10 #[.agg #[.int .i64 a0_0, .int .i64 a0_1, .int .i64 a0_2, .int .u32 a0_3, .int .u32 a0_4, .int .u32 a0_5, .int .u32 a0_6, .int .u32 a0_7, .int .u32 a0_8, .int .u32 a0_9], .agg #[.int .i64 a1_0, .int .i64 a1_1, .int .i64 a1_2, .int .u32 a1_3, .int .u32 a1_4, .int .u32 a1_5, .int .u32 a1_6, .int .u32 a1_7, .int .u32 a1_8, .int .u32 a1_9], .int .i64 a2] w fun e w' => e = .returned (.bool r) ∧ Below w.heap.size w w' := by
  have hu25 := Try.underlying25
  have HB := Aside0.mk (Below.refl w.heap.size w)
  have H : ((log_bare.f a0_0 a0_1 a0_2 a0_3 a0_4 a0_5 a0_6 a0_7 a0_8 a0_9 a2).bind fun bt105 => ((log_bare.f a1_0 a1_1 a1_2 a1_3 a1_4 a1_5 a1_6 a1_7 a1_8 a1_9 a2).bind fun bt115 => (some (bt105.1 == bt115.1 && (bt105.2.1 == bt115.2.1 && (bt105.2.2.1 == bt115.2.2.1 && (bt105.2.2.2.1 == bt115.2.2.2.1 && (bt105.2.2.2.2.1 == bt115.2.2.2.2.1 && (bt105.2.2.2.2.2.1 == bt115.2.2.2.2.2.1 && (bt105.2.2.2.2.2.2.1 == bt115.2.2.2.2.2.2.1 && (bt105.2.2.2.2.2.2.2.1 == bt115.2.2.2.2.2.2.2.1 && (bt105.2.2.2.2.2.2.2.2.1 == bt115.2.2.2.2.2.2.2.2.1 && (bt105.2.2.2.2.2.2.2.2.2 == bt115.2.2.2.2.2.2.2.2.2))))))))))))) = some r := h
  clear h
  replace H := Option.bind_eq_some_iff.mp H
  obtain ⟨⟨t105, t106, t107, t108, t109, t110, t111, t112, t113, t114⟩, A40, H⟩ := H
  replace H : ((log_bare.f a1_0 a1_1 a1_2 a1_3 a1_4 a1_5 a1_6 a1_7 a1_8 a1_9 a2).bind fun bt115 => (some (t105 == bt115.1 && (t106 == bt115.2.1 && (t107 == bt115.2.2.1 && (t108 == bt115.2.2.2.1 && (t109 == bt115.2.2.2.2.1 && (t110 == bt115.2.2.2.2.2.1 && (t111 == bt115.2.2.2.2.2.2.1 && (t112 == bt115.2.2.2.2.2.2.2.1 && (t113 == bt115.2.2.2.2.2.2.2.2.1 && (t114 == bt115.2.2.2.2.2.2.2.2.2)))))))))))) = some r := H
  have A4 := Aside0.mk A40
  clear A40
  replace H := Option.bind_eq_some_iff.mp H
  obtain ⟨⟨t115, t116, t117, t118, t119, t120, t121, t122, t123, t124⟩, A50, H⟩ := H
  replace H : (some (t105 == t115 && (t106 == t116 && (t107 == t117 && (t108 == t118 && (t109 == t119 && (t110 == t120 && (t111 == t121 && (t112 == t122 && (t113 == t123 && (t114 == t124))))))))))) = some r := H
  have A5 := Aside0.mk A50
  clear A50
  obtain rfl := Option.some.inj H
  go_enter Try.func10, Try.ntmps10
  try go_wp2_with (first | ((with_reducible refine gate_dst (N := 3) rfl ?_); refine box_event ?hg (N := 3) ?hd (cs := #[.int .i64 a0_0, .int .i64 a0_1, .int .i64 a0_2, .int .u32 a0_3, .int .u32 a0_4, .int .u32 a0_5, .int .u32 a0_6, .int .u32 a0_7, .int .u32 a0_8, .int .u32 a0_9]) (t := 25) ?hr ?_; (case hd => rfl); (case hg => rfl); (case hr => first | (go_simp; done) | (go_simp; rfl)); intro gb103 hg w6 hbox hb; have n0_ := Aside0.mk (below_step (by repeat (first | (with_reducible first | exact HB.out | apply below_alloc | apply pw_below_drewN | apply below_drew1) | exact HB.out)) hb); have n1_ := Aside0.mk (hbox); have n2_ := Aside0.mk ((by rw [hg]; exact (below_size (by repeat (first | (with_reducible first | exact HB.out | apply below_alloc | apply pw_below_drewN | apply below_drew1) | exact HB.out))) : w.heap.size ≤ gb103)); have n3_ := Aside0.mk ((by rw [hg]; exact (below_size (by repeat (first | (with_reducible first | exact HB.out | apply below_alloc | apply pw_below_drewN | apply below_drew1) | exact HB.out))) : w.heap.size ≤ gb103)); clear HB; have HB := n0_; have BK103 := n1_; have GW103 := n2_; have GE103 := n3_; clear n0_ n1_ n2_ n3_; clear hb hbox hg) | ((with_reducible refine gate_dst (N := 4) rfl ?_); refine box_event ?hg (N := 4) ?hd (cs := #[.int .i64 a1_0, .int .i64 a1_1, .int .i64 a1_2, .int .u32 a1_3, .int .u32 a1_4, .int .u32 a1_5, .int .u32 a1_6, .int .u32 a1_7, .int .u32 a1_8, .int .u32 a1_9]) (t := 25) ?hr ?_; (case hd => rfl); (case hg => rfl); (case hr => first | (go_simp; done) | (go_simp; rfl)); intro gb104 hg w7 hbox hb; have n0_ := Aside0.mk (blk_below (g := gb103) (o := .cells #[.int .i64 a0_0, .int .i64 a0_1, .int .i64 a0_2, .int .u32 a0_3, .int .u32 a0_4, .int .u32 a0_5, .int .u32 a0_6, .int .u32 a0_7, .int .u32 a0_8, .int .u32 a0_9] 25 (0, 0)) (by (with_reducible repeat (first | refine blk_drewN ?_ _ | refine blk_drew ?_ | refine blk_alloc ?_ _)); exact BK103.out) hb); have n1_ := Aside0.mk (below_step (by repeat (first | (with_reducible first | exact HB.out | apply below_alloc | apply pw_below_drewN | apply below_drew1 | refine below_set ?_ GE103.out) | exact HB.out)) hb); have n2_ := Aside0.mk (hbox); have n3_ := Aside0.mk ((by rw [hg]; exact (below_size (by repeat (first | (with_reducible first | exact HB.out | apply below_alloc | apply pw_below_drewN | apply below_drew1 | refine below_set ?_ GE103.out) | exact HB.out))) : w.heap.size ≤ gb104)); have n4_ := Aside0.mk ((by rw [hg]; exact (below_size (by repeat (first | (with_reducible first | exact HB.out | apply below_alloc | apply pw_below_drewN | apply below_drew1 | refine below_set ?_ GE103.out) | exact HB.out))) : w.heap.size ≤ gb104)); have n5_ := Aside0.mk ((by rw [hg]; exact Nat.ne_of_lt (blk_lt (g := gb103) (o := .cells #[.int .i64 a0_0, .int .i64 a0_1, .int .i64 a0_2, .int .u32 a0_3, .int .u32 a0_4, .int .u32 a0_5, .int .u32 a0_6, .int .u32 a0_7, .int .u32 a0_8, .int .u32 a0_9] 25 (0, 0)) (by (with_reducible repeat (first | refine blk_drewN ?_ _ | refine blk_drew ?_ | refine blk_alloc ?_ _)); exact BK103.out)) : gb103 ≠ gb104)); have n6_ := Aside0.mk ((by rw [hg]; exact Nat.ne_of_gt (blk_lt (g := gb103) (o := .cells #[.int .i64 a0_0, .int .i64 a0_1, .int .i64 a0_2, .int .u32 a0_3, .int .u32 a0_4, .int .u32 a0_5, .int .u32 a0_6, .int .u32 a0_7, .int .u32 a0_8, .int .u32 a0_9] 25 (0, 0)) (by (with_reducible repeat (first | refine blk_drewN ?_ _ | refine blk_drew ?_ | refine blk_alloc ?_ _)); exact BK103.out)) : gb104 ≠ gb103)); clear BK103; clear HB; have BK103 := n0_; have HB := n1_; have BK104 := n2_; have GW104 := n3_; have GE104 := n4_; have NB103_104 := n5_; have NB104_103 := n6_; clear n0_ n1_ n2_ n3_ n4_ n5_ n6_; clear hb hbox hg))
  have n0_ := Aside0.mk (blk_drew BK103.out)
  have n1_ := Aside0.mk (blk_drew BK104.out)
  have n2_ := Aside0.mk (below_drew1 HB.out)
  clear BK103
  clear BK104
  clear HB
  have BK103 := n0_
  have BK104 := n1_
  have HB := n2_
  clear n0_ n1_ n2_
  refine start_ (n := 8) (S := fun w' => w'.cell? ⟨gb103, 0, none⟩ = some (.int .i64 a0_0) ∧ w'.cell? ⟨gb103, 1, none⟩ = some (.int .i64 a0_1) ∧ w'.cell? ⟨gb103, 2, none⟩ = some (.int .i64 a0_2) ∧ w'.cell? ⟨gb103, 3, none⟩ = some (.int .u32 a0_3) ∧ w'.cell? ⟨gb103, 4, none⟩ = some (.int .u32 a0_4) ∧ w'.cell? ⟨gb103, 5, none⟩ = some (.int .u32 a0_5) ∧ w'.cell? ⟨gb103, 6, none⟩ = some (.int .u32 a0_6) ∧ w'.cell? ⟨gb103, 7, none⟩ = some (.int .u32 a0_7) ∧ w'.cell? ⟨gb103, 8, none⟩ = some (.int .u32 a0_8) ∧ w'.cell? ⟨gb103, 9, none⟩ = some (.int .u32 a0_9) ∧ w'.cell? ⟨gb104, 0, none⟩ = some (.int .i64 a1_0) ∧ w'.cell? ⟨gb104, 1, none⟩ = some (.int .i64 a1_1) ∧ w'.cell? ⟨gb104, 2, none⟩ = some (.int .i64 a1_2) ∧ w'.cell? ⟨gb104, 3, none⟩ = some (.int .u32 a1_3) ∧ w'.cell? ⟨gb104, 4, none⟩ = some (.int .u32 a1_4) ∧ w'.cell? ⟨gb104, 5, none⟩ = some (.int .u32 a1_5) ∧ w'.cell? ⟨gb104, 6, none⟩ = some (.int .u32 a1_6) ∧ w'.cell? ⟨gb104, 7, none⟩ = some (.int .u32 a1_7) ∧ w'.cell? ⟨gb104, 8, none⟩ = some (.int .u32 a1_8) ∧ w'.cell? ⟨gb104, 9, none⟩ = some (.int .u32 a1_9)) (ds := []) #[false, false, false, false, false, false, false, false] (by kernel_rfl) rfl rfl ⟨(blk_cell BK103.out 0).trans rfl, (blk_cell BK103.out 1).trans rfl, (blk_cell BK103.out 2).trans rfl, (blk_cell BK103.out 3).trans rfl, (blk_cell BK103.out 4).trans rfl, (blk_cell BK103.out 5).trans rfl, (blk_cell BK103.out 6).trans rfl, (blk_cell BK103.out 7).trans rfl, (blk_cell BK103.out 8).trans rfl, (blk_cell BK103.out 9).trans rfl, (blk_cell BK104.out 0).trans rfl, (blk_cell BK104.out 1).trans rfl, (blk_cell BK104.out 2).trans rfl, (blk_cell BK104.out 3).trans rfl, (blk_cell BK104.out 4).trans rfl, (blk_cell BK104.out 5).trans rfl, (blk_cell BK104.out 6).trans rfl, (blk_cell BK104.out 7).trans rfl, (blk_cell BK104.out 8).trans rfl, (blk_cell BK104.out 9).trans rfl⟩ (fun hHeld => ?_); refine with_tabW log_Fits.tab1 log_Fits.bits1 (fun HT_ HW_ => ?_)
  generalize w7.drew = w8 at BK103 BK104 HB hHeld ⊢
  refine pure_ (i := 1) (N := some 8) (v := ?_) (a' := ?_) #[false, true, false, false, false, false, false, false] rfl rfl (any_of HT_.out (by kernel_rfl)) (fun _ _ _ h => h) (Or.inl ⟨by rfl, ?_⟩) ?_ ?_
  rotate_left
  · intro w'
    go_simp
    with_reducible rfl
  rotate_left
  · simp only [Act.put, List.setIfInBounds_toArray, List.set_cons_zero, List.set_cons_succ, i64_w, i32_w]
    rfl
  refine pure_ (i := 4) (N := some 11) (v := ?_) (a' := ?_) #[false, true, false, false, true, false, false, false] rfl rfl (any_of HT_.out (by kernel_rfl)) (fun _ _ _ h => h) (Or.inl ⟨by rfl, ?_⟩) ?_ ?_
  rotate_left
  · intro w'
    go_simp
    with_reducible rfl
  rotate_left
  · simp only [Act.put, List.setIfInBounds_toArray, List.set_cons_zero, List.set_cons_succ, i64_w, i32_w]
    rfl
  refine take_ (i := 0) (N := some 7) (v := ?_) (a' := ?_) #[true, true, false, false, true, false, false, false] rfl rfl (take_ofW HT_.out HW_.out (by kernel_rfl)) (fun _ _ _ h => h) (Or.inl ⟨by rfl, ?_⟩) hHeld ?_ ?_
  rotate_left
  · rintro w' ⟨s0, s1, s2, s3, s4, s5, s6, s7, s8, s9, s10, s11, s12, s13, s14, s15, s16, s17, s18, s19⟩
    go_simp
    with_reducible rfl
  rotate_left
  · simp only [Act.put, List.setIfInBounds_toArray, List.set_cons_zero, List.set_cons_succ, i64_w, i32_w]
    rfl
  refine take_ (i := 3) (N := some 10) (v := ?_) (a' := ?_) #[true, true, false, true, true, false, false, false] rfl rfl (take_ofW HT_.out HW_.out (by kernel_rfl)) (fun _ _ _ h => h) (Or.inl ⟨by rfl, ?_⟩) hHeld ?_ ?_
  rotate_left
  · rintro w' ⟨s0, s1, s2, s3, s4, s5, s6, s7, s8, s9, s10, s11, s12, s13, s14, s15, s16, s17, s18, s19⟩
    go_simp
    with_reducible rfl
  rotate_left
  · simp only [Act.put, List.setIfInBounds_toArray, List.set_cons_zero, List.set_cons_succ, i64_w, i32_w]
    rfl
  refine one_ (i := 2) (N := some 9) #[true, true, true, true, true, false, false, false] rfl rfl (one_of HT_.out (by kernel_rfl)) (by decide) (fun K hK => ?_)
  refine goes_ Try.func17 (by kernel_rfl) rfl #[.agg #[.int .i64 a0_0, .int .i64 a0_1, .int .i64 a0_2, .int .u32 a0_3, .int .u32 a0_4, .int .u32 a0_5, .int .u32 a0_6, .int .u32 a0_7, .int .u32 a0_8, .int .u32 a0_9], .int .i64 a2] (by rfl) rfl rfl (by (try simp only [List.map_toArray, List.map_cons, List.map_nil]); first | done | rfl | (simp only [List.length_drop, List.length_take]; rfl)) ?_
  with_reducible refine (log_bare.calls a0_0 a0_1 a0_2 a0_3 a0_4 a0_5 a0_6 a0_7 a0_8 a0_9 a2 t105 t106 t107 t108 t109 t110 t111 t112 t113 t114 _ A4.out).mono ?_
  rintro e w9 ⟨rfl, hb⟩
  refine ⟨_, rfl, ?_⟩
  have n0_ := Aside0.mk (blk_below (g := gb103) (o := .cells #[.int .i64 a0_0, .int .i64 a0_1, .int .i64 a0_2, .int .u32 a0_3, .int .u32 a0_4, .int .u32 a0_5, .int .u32 a0_6, .int .u32 a0_7, .int .u32 a0_8, .int .u32 a0_9] 25 (0, 0)) (by (with_reducible repeat (first | refine blk_drewN ?_ _ | refine blk_drew ?_ | refine blk_alloc ?_ _)); exact BK103.out) hb)
  have n1_ := Aside0.mk (blk_below (g := gb104) (o := .cells #[.int .i64 a1_0, .int .i64 a1_1, .int .i64 a1_2, .int .u32 a1_3, .int .u32 a1_4, .int .u32 a1_5, .int .u32 a1_6, .int .u32 a1_7, .int .u32 a1_8, .int .u32 a1_9] 25 (0, 0)) (by (with_reducible repeat (first | refine blk_drewN ?_ _ | refine blk_drew ?_ | refine blk_alloc ?_ _)); exact BK104.out) hb)
  have n2_ := Aside0.mk (below_step (by repeat (first | (with_reducible first | exact HB.out | apply below_alloc | apply pw_below_drewN | apply below_drew1 | refine below_set ?_ GE103.out | refine below_set ?_ GE104.out) | exact HB.out)) hb)
  clear BK103
  clear BK104
  clear HB
  have BK103 := n0_
  have BK104 := n1_
  have HB := n2_
  clear n0_ n1_ n2_
  (try clear hb)
  (try clear hb2)
  (try clear hk)
  (try clear hi)
  refine hK.out _ _ ⟨(blk_cell BK103.out 0).trans rfl, (blk_cell BK103.out 1).trans rfl, (blk_cell BK103.out 2).trans rfl, (blk_cell BK103.out 3).trans rfl, (blk_cell BK103.out 4).trans rfl, (blk_cell BK103.out 5).trans rfl, (blk_cell BK103.out 6).trans rfl, (blk_cell BK103.out 7).trans rfl, (blk_cell BK103.out 8).trans rfl, (blk_cell BK103.out 9).trans rfl, (blk_cell BK104.out 0).trans rfl, (blk_cell BK104.out 1).trans rfl, (blk_cell BK104.out 2).trans rfl, (blk_cell BK104.out 3).trans rfl, (blk_cell BK104.out 4).trans rfl, (blk_cell BK104.out 5).trans rfl, (blk_cell BK104.out 6).trans rfl, (blk_cell BK104.out 7).trans rfl, (blk_cell BK104.out 8).trans rfl, (blk_cell BK104.out 9).trans rfl⟩ (fun hHeld => ?_)
  clear hK K
  refine norm_ (a' := ?_) ?_ ?_
  rotate_left
  · show Act.put _ (some 9) _ = _
    simp only [Act.put, List.setIfInBounds_toArray, List.set_cons_zero, List.set_cons_succ, i64_w, i32_w]
    rfl
  refine one_ (i := 5) (N := some 12) #[true, true, true, true, true, true, false, false] rfl rfl (one_of HT_.out (by kernel_rfl)) (by decide) (fun K hK => ?_)
  refine goes_ Try.func17 (by kernel_rfl) rfl #[.agg #[.int .i64 a1_0, .int .i64 a1_1, .int .i64 a1_2, .int .u32 a1_3, .int .u32 a1_4, .int .u32 a1_5, .int .u32 a1_6, .int .u32 a1_7, .int .u32 a1_8, .int .u32 a1_9], .int .i64 a2] (by rfl) rfl rfl (by (try simp only [List.map_toArray, List.map_cons, List.map_nil]); first | done | rfl | (simp only [List.length_drop, List.length_take]; rfl)) ?_
  with_reducible refine (log_bare.calls a1_0 a1_1 a1_2 a1_3 a1_4 a1_5 a1_6 a1_7 a1_8 a1_9 a2 t115 t116 t117 t118 t119 t120 t121 t122 t123 t124 _ A5.out).mono ?_
  rintro e w10 ⟨rfl, hb⟩
  refine ⟨_, rfl, ?_⟩
  have n0_ := Aside0.mk (blk_below (g := gb103) (o := .cells #[.int .i64 a0_0, .int .i64 a0_1, .int .i64 a0_2, .int .u32 a0_3, .int .u32 a0_4, .int .u32 a0_5, .int .u32 a0_6, .int .u32 a0_7, .int .u32 a0_8, .int .u32 a0_9] 25 (0, 0)) (by (with_reducible repeat (first | refine blk_drewN ?_ _ | refine blk_drew ?_ | refine blk_alloc ?_ _)); exact BK103.out) hb)
  have n1_ := Aside0.mk (blk_below (g := gb104) (o := .cells #[.int .i64 a1_0, .int .i64 a1_1, .int .i64 a1_2, .int .u32 a1_3, .int .u32 a1_4, .int .u32 a1_5, .int .u32 a1_6, .int .u32 a1_7, .int .u32 a1_8, .int .u32 a1_9] 25 (0, 0)) (by (with_reducible repeat (first | refine blk_drewN ?_ _ | refine blk_drew ?_ | refine blk_alloc ?_ _)); exact BK104.out) hb)
  have n2_ := Aside0.mk (below_step (by repeat (first | (with_reducible first | exact HB.out | apply below_alloc | apply pw_below_drewN | apply below_drew1 | refine below_set ?_ GE103.out | refine below_set ?_ GE104.out) | exact HB.out)) hb)
  clear BK103
  clear BK104
  clear HB
  have BK103 := n0_
  have BK104 := n1_
  have HB := n2_
  clear n0_ n1_ n2_
  (try clear hb)
  (try clear hb2)
  (try clear hk)
  (try clear hi)
  refine hK.out _ _ ⟨(blk_cell BK103.out 0).trans rfl, (blk_cell BK103.out 1).trans rfl, (blk_cell BK103.out 2).trans rfl, (blk_cell BK103.out 3).trans rfl, (blk_cell BK103.out 4).trans rfl, (blk_cell BK103.out 5).trans rfl, (blk_cell BK103.out 6).trans rfl, (blk_cell BK103.out 7).trans rfl, (blk_cell BK103.out 8).trans rfl, (blk_cell BK103.out 9).trans rfl, (blk_cell BK104.out 0).trans rfl, (blk_cell BK104.out 1).trans rfl, (blk_cell BK104.out 2).trans rfl, (blk_cell BK104.out 3).trans rfl, (blk_cell BK104.out 4).trans rfl, (blk_cell BK104.out 5).trans rfl, (blk_cell BK104.out 6).trans rfl, (blk_cell BK104.out 7).trans rfl, (blk_cell BK104.out 8).trans rfl, (blk_cell BK104.out 9).trans rfl⟩ (fun hHeld => ?_)
  clear hK K
  refine norm_ (a' := ?_) ?_ ?_
  rotate_left
  · show Act.put _ (some 12) _ = _
    simp only [Act.put, List.setIfInBounds_toArray, List.set_cons_zero, List.set_cons_succ, i64_w, i32_w]
    rfl
  refine pure_ (i := 6) (N := some 13) (v := ?_) (a' := ?_) #[true, true, true, true, true, true, true, false] rfl rfl (any_of HT_.out (by kernel_rfl)) (fun _ _ _ h => h) (Or.inl ⟨by rfl, ?_⟩) ?_ ?_
  rotate_left
  · intro w'
    go_simp
    with_reducible rfl
  rotate_left
  · simp only [Act.put, List.setIfInBounds_toArray, List.set_cons_zero, List.set_cons_succ, i64_w, i32_w]
    rfl
  refine pure_ (i := 7) (N := some 6) (v := ?_) (a' := ?_) #[true, true, true, true, true, true, true, true] rfl rfl (any_of HT_.out (by kernel_rfl)) (fun _ _ _ h => h) (Or.inl ⟨by rfl, ?_⟩) ?_ ?_
  rotate_left
  · intro w'
    go_simp
    with_reducible rfl
  rotate_left
  · simp only [Act.put, List.setIfInBounds_toArray, List.set_cons_zero, List.set_cons_succ, i64_w, i32_w]
    rfl
  refine done_ (done_of HT_.out (by kernel_rfl)) ?_
  try go_wp2
  go_ret
  exact ⟨by first | rfl | (simp [errW_none, errW_some] <;> rfl) | (simp [*, errW_none, errW_some] <;> rfl), by repeat (first | (with_reducible first | exact HB.out | apply below_alloc | apply pw_below_drewN | apply below_drew1 | refine below_set ?_ GE103.out | refine below_set ?_ GE104.out) | exact HB.out)⟩

/-! ### chamberlainref12_Events: function 12 -/
def chamberlainref12_Events.l0 : Nat → List (S25) → List (S25) → Int → Option (Bool)
  | 0, _, _, _ => none
  | k + 1, x0, x1, x5 => if x5 < (x0.length : Int) then (if 0 ≤ x5 then (if x5 < (x1.length : Int) then (if (!(((rd_T25 x0 x5).f0) == ((rd_T25 x1 x5).f0)) || (!(((rd_T25 x0 x5).f1) == ((rd_T25 x1 x5).f1)) || (!(((rd_T25 x0 x5).f2) == ((rd_T25 x1 x5).f2)) || (!(((rd_T25 x0 x5).f3) == ((rd_T25 x1 x5).f3)) || (!(((rd_T25 x0 x5).f4) == ((rd_T25 x1 x5).f4)) || (!(((rd_T25 x0 x5).f5) == ((rd_T25 x1 x5).f5)) || (!(((rd_T25 x0 x5).f6) == ((rd_T25 x1 x5).f6)) || (!(((rd_T25 x0 x5).f7) == ((rd_T25 x1 x5).f7)) || (!(((rd_T25 x0 x5).f8) == ((rd_T25 x1 x5).f8)) || (!(((rd_T25 x0 x5).f9) == ((rd_T25 x1 x5).f9)))))))))))) = true then (some false) else (chamberlainref12_Events.l0 k x0 x1 (wrap64 (x5 + 1)))) else (none)) else (none)) else (some true)
def chamberlainref12_Events.f (k : Nat) (l0 : List (S25)) (l1 : List (S25)) : Option (Bool) := if (l0.length : Int) = (l1.length : Int) then (chamberlainref12_Events.l0 k l0 l1 0) else (some false)
theorem chamberlainref12_Events.mono_l : ∀ k, (∀ y0 y1 y2, LeO (chamberlainref12_Events.l0 k y0 y1 y2) (chamberlainref12_Events.l0 (k + 1) y0 y1 y2))
  | 0 => fun _ _ _ r h => by simp [chamberlainref12_Events.l0] at h
  | k + 1 => by
    have ih0 := chamberlainref12_Events.mono_l k
    · intro y0 y1 y2
      unfold chamberlainref12_Events.l0
      repeat' first
      | (with_reducible exact ih0 _ _ _)
      | (with_reducible exact LeO.refl _)
      | (with_reducible exact LeO.none _)
      | (with_reducible refine LeO.ite ?_ ?_)
      | (with_reducible refine LeO.bind ?_ (fun _ => ?_))
      | exact ih0 _ _ _
      | exact LeO.none _
      | refine LeO.ite ?_ ?_
      | refine LeO.bind ?_ (fun _ => ?_)
theorem chamberlainref12_Events.mono : ∀ a0 a1 k, LeO (chamberlainref12_Events.f k a0 a1) (chamberlainref12_Events.f (k + 1) a0 a1) := by
  intro a0 a1 k
  have ih0 := chamberlainref12_Events.mono_l k
  unfold chamberlainref12_Events.f
  repeat' first
      | (with_reducible exact ih0 _ _ _)
      | (with_reducible exact LeO.refl _)
      | (with_reducible exact LeO.none _)
      | (with_reducible refine LeO.ite ?_ ?_)
      | (with_reducible refine LeO.bind ?_ (fun _ => ?_))
      | exact ih0 _ _ _
      | exact LeO.none _
      | refine LeO.ite ?_ ?_
      | refine LeO.bind ?_ (fun _ => ?_)
set_option maxHeartbeats 8000000 in
set_option maxRecDepth 100000 in
theorem chamberlainref12_Events.calls (k : Nat) (A0 : Option Addr) (c0 : Nat) (l0 : List (S25)) (A1 : Option Addr) (c1 : Nat) (l1 : List (S25)) (r : Bool) (w : World) (hr0 : Kd.C k25 w A0 l0.length l0) (hc0 : l0.length ≤ c0) (hr1 : Kd.C k25 w A1 l1.length l1) (hc1 : l1.length ≤ c1) (h : chamberlainref12_Events.f k l0 l1 = some r) :
    Calls Try.prog 12 #[.slice A0 l0.length c0, .slice A1 l1.length c1] w fun e w' => e = .returned (.bool r) ∧ Drawn0 w w' := by
  have hu25 := Try.underlying25
  have HR0 := Aside0.mk hr0
  have HC0 := Aside0.mk hc0
  clear hr0 hc0
  have HR1 := Aside0.mk hr1
  have HC1 := Aside0.mk hc1
  clear hr1 hc1
  have H : (if (l0.length : Int) = (l1.length : Int) then (chamberlainref12_Events.l0 k l0 l1 0) else (some false)) = some r := h
  clear h
  by_cases c3 : (l0.length : Int) = (l1.length : Int)
  · rw [if_pos c3] at H
    have c3b0 : ((l0.length : Int) == (l1.length : Int)) = true := beq_iff_eq.mpr c3
    have c3b1 : ((l0.length : Int) != (l1.length : Int)) = false := bne_eq_false_iff_eq.mpr c3
    have c3b2 : (l0.length == l1.length) = true := by first | simpa using c3 | (simp at c3 ⊢; omega)
    clear c3
    have H' := Aside0.mk H
    clear H
    go_enter Try.func12, Try.ntmps12
    go_wp2
    repeat (go_quiet (fail); try go_wp2)
    go_loopg [5] k (fun kq v5 w' => ∃ (x5_1 : Int), v5 = .int .i64 x5_1 ∧ Aside0 (chamberlainref12_Events.l0 kq l0 l1 x5_1 = some r) ∧ Aside0 (kq ≤ k) ∧ Drawn0 w w')
    case atStart => exact ⟨(0), (by first | rfl | (simp; done) | (simp [*]; done)), H', ⟨Nat.le_refl _⟩, by repeat (first | exact Drawn0.refl _ | apply Drawn0.step)⟩
    case round =>
      clear H'
      try clear c1
      try clear p2
      try clear c3
      try clear c3b0
      try clear c3b1
      try clear c3b2
      obtain ⟨x5_1, rfl, HA, HK1, ⟨m1, rfl⟩⟩ := hrel
      cases gk with
      | zero => exact absurd HA.out (by simp [chamberlainref12_Events.l0])
      | succ k1 =>
        have H := HA.out
        clear HA
        simp only [chamberlainref12_Events.l0] at H
        by_cases c4 : x5_1 < (l0.length : Int)
        · rw [if_pos c4] at H
          have c4b0 : decide (x5_1 < (l0.length : Int)) = true := decide_eq_true c4
          clear c4
          by_cases c5 : 0 ≤ x5_1
          · rw [if_pos c5] at H
            have c5b0 : decide (0 ≤ x5_1) = true := decide_eq_true c5
            clear c5
            by_cases c6 : x5_1 < (l1.length : Int)
            · rw [if_pos c6] at H
              have c6b0 : decide (x5_1 < (l1.length : Int)) = true := decide_eq_true c6
              clear c6
              by_cases c7 : (!(((rd_T25 l0 x5_1).f0) == ((rd_T25 l1 x5_1).f0)) || (!(((rd_T25 l0 x5_1).f1) == ((rd_T25 l1 x5_1).f1)) || (!(((rd_T25 l0 x5_1).f2) == ((rd_T25 l1 x5_1).f2)) || (!(((rd_T25 l0 x5_1).f3) == ((rd_T25 l1 x5_1).f3)) || (!(((rd_T25 l0 x5_1).f4) == ((rd_T25 l1 x5_1).f4)) || (!(((rd_T25 l0 x5_1).f5) == ((rd_T25 l1 x5_1).f5)) || (!(((rd_T25 l0 x5_1).f6) == ((rd_T25 l1 x5_1).f6)) || (!(((rd_T25 l0 x5_1).f7) == ((rd_T25 l1 x5_1).f7)) || (!(((rd_T25 l0 x5_1).f8) == ((rd_T25 l1 x5_1).f8)) || (!(((rd_T25 l0 x5_1).f9) == ((rd_T25 l1 x5_1).f9)))))))))))) = true
              · rw [if_pos c7] at H
                have c7b0 : (!(((rd_T25 l0 x5_1).f0) == ((rd_T25 l1 x5_1).f0)) || (!(((rd_T25 l0 x5_1).f1) == ((rd_T25 l1 x5_1).f1)) || (!(((rd_T25 l0 x5_1).f2) == ((rd_T25 l1 x5_1).f2)) || (!(((rd_T25 l0 x5_1).f3) == ((rd_T25 l1 x5_1).f3)) || (!(((rd_T25 l0 x5_1).f4) == ((rd_T25 l1 x5_1).f4)) || (!(((rd_T25 l0 x5_1).f5) == ((rd_T25 l1 x5_1).f5)) || (!(((rd_T25 l0 x5_1).f6) == ((rd_T25 l1 x5_1).f6)) || (!(((rd_T25 l0 x5_1).f7) == ((rd_T25 l1 x5_1).f7)) || (!(((rd_T25 l0 x5_1).f8) == ((rd_T25 l1 x5_1).f8)) || (!(((rd_T25 l0 x5_1).f9) == ((rd_T25 l1 x5_1).f9)))))))))))) = true := c7
                clear c7
                obtain rfl := Option.some.inj H
                have p125 : 0 ≤ (x5_1 : Int) := of_decide_eq_true (by first | (with_reducible assumption) | assumption)
                have q125 : x5_1 < (l0.length : Int) := of_decide_eq_true (by first | (with_reducible assumption) | assumption)
                obtain ⟨ad125, e125, hx125_0, hx125_1, hx125_2, hx125_3, hx125_4, hx125_5, hx125_6, hx125_7, hx125_8, hx125_9⟩ := at_T25 HR0.out x5_1 p125 q125
                cases e125
                replace p125 := eq_true p125
                replace q125 := eq_true q125
                have p126 : 0 ≤ (x5_1 : Int) := of_decide_eq_true (by first | (with_reducible assumption) | assumption)
                have q126 : x5_1 < (l1.length : Int) := of_decide_eq_true (by first | (with_reducible assumption) | assumption)
                obtain ⟨ad126, e126, hx126_0, hx126_1, hx126_2, hx126_3, hx126_4, hx126_5, hx126_6, hx126_7, hx126_8, hx126_9⟩ := at_T25 HR1.out x5_1 p126 q126
                cases e126
                replace p126 := eq_true p126
                replace q126 := eq_true q126
                go_wp2
                repeat (go_quiet (fail); try go_wp2)
                go_ret
                exact ⟨by first | rfl | (simp; done) | (simp [*]; done), by repeat (first | exact Drawn0.refl _ | apply Drawn0.step)⟩
              · rw [if_neg c7] at H
                have c7b0 : (!(((rd_T25 l0 x5_1).f0) == ((rd_T25 l1 x5_1).f0)) || (!(((rd_T25 l0 x5_1).f1) == ((rd_T25 l1 x5_1).f1)) || (!(((rd_T25 l0 x5_1).f2) == ((rd_T25 l1 x5_1).f2)) || (!(((rd_T25 l0 x5_1).f3) == ((rd_T25 l1 x5_1).f3)) || (!(((rd_T25 l0 x5_1).f4) == ((rd_T25 l1 x5_1).f4)) || (!(((rd_T25 l0 x5_1).f5) == ((rd_T25 l1 x5_1).f5)) || (!(((rd_T25 l0 x5_1).f6) == ((rd_T25 l1 x5_1).f6)) || (!(((rd_T25 l0 x5_1).f7) == ((rd_T25 l1 x5_1).f7)) || (!(((rd_T25 l0 x5_1).f8) == ((rd_T25 l1 x5_1).f8)) || (!(((rd_T25 l0 x5_1).f9) == ((rd_T25 l1 x5_1).f9)))))))))))) = false := by simpa using c7
                clear c7
                have H' := Aside0.mk H
                clear H
                have p125 : 0 ≤ (x5_1 : Int) := of_decide_eq_true (by first | (with_reducible assumption) | assumption)
                have q125 : x5_1 < (l0.length : Int) := of_decide_eq_true (by first | (with_reducible assumption) | assumption)
                obtain ⟨ad125, e125, hx125_0, hx125_1, hx125_2, hx125_3, hx125_4, hx125_5, hx125_6, hx125_7, hx125_8, hx125_9⟩ := at_T25 HR0.out x5_1 p125 q125
                cases e125
                replace p125 := eq_true p125
                replace q125 := eq_true q125
                have p126 : 0 ≤ (x5_1 : Int) := of_decide_eq_true (by first | (with_reducible assumption) | assumption)
                have q126 : x5_1 < (l1.length : Int) := of_decide_eq_true (by first | (with_reducible assumption) | assumption)
                obtain ⟨ad126, e126, hx126_0, hx126_1, hx126_2, hx126_3, hx126_4, hx126_5, hx126_6, hx126_7, hx126_8, hx126_9⟩ := at_T25 HR1.out x5_1 p126 q126
                cases e126
                replace p126 := eq_true p126
                replace q126 := eq_true q126
                go_wp2
                repeat (go_quiet (fail); try go_wp2)
                go_roundg k1
                case measure => have := HK1.out; omega
                case rel => exact ⟨(wrap64 (x5_1 + 1)), (by first | rfl | (simp; done) | (simp [*]; done)), H', ⟨by have := HK1.out; omega⟩, by repeat (first | exact Drawn0.refl _ | apply Drawn0.step)⟩
            · rw [if_neg c6] at H
              exact absurd H (by simp)
          · rw [if_neg c5] at H
            exact absurd H (by simp)
        · rw [if_neg c4] at H
          have c4b0 : decide (x5_1 < (l0.length : Int)) = false := decide_eq_false c4
          clear c4
          obtain rfl := Option.some.inj H
          go_wp2
          repeat (go_quiet (fail); try go_wp2)
          go_ret
          exact ⟨by first | rfl | (simp; done) | (simp [*]; done), by repeat (first | exact Drawn0.refl _ | apply Drawn0.step)⟩
  · rw [if_neg c3] at H
    have c3b0 : ((l0.length : Int) == (l1.length : Int)) = false := beq_eq_false_iff_ne.mpr c3
    have c3b1 : ((l0.length : Int) != (l1.length : Int)) = true := bne_iff_ne.mpr c3
    have c3b2 : (l0.length == l1.length) = false := by first | simpa using c3 | (simp at c3 ⊢; omega)
    obtain rfl := Option.some.inj H
    go_enter Try.func12, Try.ntmps12
    go_wp2
    repeat (go_quiet (fail); try go_wp2)
    go_ret
    exact ⟨by first | rfl | (simp; done) | (simp [*]; done), by repeat (first | exact Drawn0.refl _ | apply Drawn0.step)⟩

/-! ### log_Select: function 13 -/
def log_Select.l0 : Nat → Int → List (S25) → List (S25) → Int → Int → Int → Int → Int → Int → Int → Int → Int → Int → Int → Int → Option ((List (S25)))
  | 0, _, _, _, _, _, _, _, _, _, _, _, _, _, _, _ => none
  | k + 1, x2, x7, x10, x11, x12, x128000, x128001, x128002, x128003, x128004, x128005, x128006, x128007, x128008, x128009 => if x12 < x11 then (if 0 ≤ x12 then (if x12 < (x10.length : Int) then ((log_Fits.f ((rd_T25 x10 x12).f0) ((rd_T25 x10 x12).f1) ((rd_T25 x10 x12).f2) ((rd_T25 x10 x12).f3) ((rd_T25 x10 x12).f4) ((rd_T25 x10 x12).f5) ((rd_T25 x10 x12).f6) ((rd_T25 x10 x12).f7) ((rd_T25 x10 x12).f8) ((rd_T25 x10 x12).f9) x128000 x128001 x128002 x128003 x128004 x128005 x128006 x128007 x128008 x128009 x2).bind fun t130 => (if t130 = true then (if x7.length < 2513169434916 then (log_Select.l0 k x2 (x7 ++ [(⟨(rd_T25 x10 x12).f0, (rd_T25 x10 x12).f1, (rd_T25 x10 x12).f2, (rd_T25 x10 x12).f3, (rd_T25 x10 x12).f4, (rd_T25 x10 x12).f5, (rd_T25 x10 x12).f6, (rd_T25 x10 x12).f7, (rd_T25 x10 x12).f8, (rd_T25 x10 x12).f9⟩ : S25)]) x10 x11 (wrap64 (x12 + 1)) x128000 x128001 x128002 x128003 x128004 x128005 x128006 x128007 x128008 x128009) else (none)) else (log_Select.l0 k x2 x7 x10 x11 (wrap64 (x12 + 1)) x128000 x128001 x128002 x128003 x128004 x128005 x128006 x128007 x128008 x128009))) else (none)) else (none)) else (some x7)
def log_Select.f (k : Nat) (l0 : List (S25)) (a1_0 : Int) (a1_1 : Int) (a1_2 : Int) (a1_3 : Int) (a1_4 : Int) (a1_5 : Int) (a1_6 : Int) (a1_7 : Int) (a1_8 : Int) (a1_9 : Int) (a2 : Int) : Option ((List (S25))) := log_Select.l0 k a2 ([] : List (S25)) l0 (l0.length : Int) 0 a1_0 a1_1 a1_2 a1_3 a1_4 a1_5 a1_6 a1_7 a1_8 a1_9
theorem log_Select.mono_l : ∀ k, (∀ y0 y1 y2 y3 y4 y5 y6 y7 y8 y9 y10 y11 y12 y13 y14, LeO (log_Select.l0 k y0 y1 y2 y3 y4 y5 y6 y7 y8 y9 y10 y11 y12 y13 y14) (log_Select.l0 (k + 1) y0 y1 y2 y3 y4 y5 y6 y7 y8 y9 y10 y11 y12 y13 y14))
  | 0 => fun _ _ _ _ _ _ _ _ _ _ _ _ _ _ _ r h => by simp [log_Select.l0] at h
  | k + 1 => by
    have ih0 := log_Select.mono_l k
    · intro y0 y1 y2 y3 y4 y5 y6 y7 y8 y9 y10 y11 y12 y13 y14
      unfold log_Select.l0
      repeat' first
      | (with_reducible exact ih0 _ _ _ _ _ _ _ _ _ _ _ _ _ _ _)
      | (with_reducible exact LeO.refl _)
      | (with_reducible exact LeO.none _)
      | (with_reducible refine LeO.ite ?_ ?_)
      | (with_reducible refine LeO.bind ?_ (fun _ => ?_))
      | exact ih0 _ _ _ _ _ _ _ _ _ _ _ _ _ _ _
      | exact LeO.none _
      | refine LeO.ite ?_ ?_
      | refine LeO.bind ?_ (fun _ => ?_)
theorem log_Select.mono : ∀ a0 a1 a2 a3 a4 a5 a6 a7 a8 a9 a10 a11 k, LeO (log_Select.f k a0 a1 a2 a3 a4 a5 a6 a7 a8 a9 a10 a11) (log_Select.f (k + 1) a0 a1 a2 a3 a4 a5 a6 a7 a8 a9 a10 a11) := by
  intro a0 a1 a2 a3 a4 a5 a6 a7 a8 a9 a10 a11 k
  have ih0 := log_Select.mono_l k
  unfold log_Select.f
  repeat' first
      | (with_reducible exact ih0 _ _ _ _ _ _ _ _ _ _ _ _ _ _ _)
      | (with_reducible exact LeO.refl _)
      | (with_reducible exact LeO.none _)
      | (with_reducible refine LeO.ite ?_ ?_)
      | (with_reducible refine LeO.bind ?_ (fun _ => ?_))
      | exact ih0 _ _ _ _ _ _ _ _ _ _ _ _ _ _ _
      | exact LeO.none _
      | refine LeO.ite ?_ ?_
      | refine LeO.bind ?_ (fun _ => ?_)
set_option maxHeartbeats 8000000 in
set_option maxRecDepth 100000 in
theorem log_Select.calls (k : Nat) (A0 : Option Addr) (c0 : Nat) (l0 : List (S25)) (a1_0 : Int) (a1_1 : Int) (a1_2 : Int) (a1_3 : Int) (a1_4 : Int) (a1_5 : Int) (a1_6 : Int) (a1_7 : Int) (a1_8 : Int) (a1_9 : Int) (a2 : Int) (r : List (S25)) (w : World) (hr0 : Kd.C k25 w A0 l0.length l0) (hc0 : l0.length ≤ c0) (h : log_Select.f k l0 a1_0 a1_1 a1_2 a1_3 a1_4 a1_5 a1_6 a1_7 a1_8 a1_9 a2 = some r) :
    Calls Try.prog 13 #[.slice A0 l0.length c0, .agg #[.int .i64 a1_0, .int .i64 a1_1, .int .i64 a1_2, .int .u32 a1_3, .int .u32 a1_4, .int .u32 a1_5, .int .u32 a1_6, .int .u32 a1_7, .int .u32 a1_8, .int .u32 a1_9], .int .i64 a2] w fun e w' => ∃ v0_ : Value, e = .returned (v0_) ∧ Kd.R k25 25 w' w.heap.size (fun _ => True) v0_ r ∧ Below w.heap.size w w' := by
  have hu25 := Try.underlying25
  have HR0 := Aside0.mk hr0
  have HC0 := Aside0.mk hc0
  clear hr0 hc0
  have HB := Aside0.mk (Below.refl w.heap.size w)
  have H : (log_Select.l0 k a2 ([] : List (S25)) l0 (l0.length : Int) 0 a1_0 a1_1 a1_2 a1_3 a1_4 a1_5 a1_6 a1_7 a1_8 a1_9) = some r := h
  clear h
  have H' := Aside0.mk H
  clear H
  go_enter Try.func13, Try.ntmps13
  go_wp2_with (first | ((with_reducible refine gate_dst (N := 4) rfl ?_); refine box_event ?hg (N := 4) ?hd (cs := #[.int .i64 a1_0, .int .i64 a1_1, .int .i64 a1_2, .int .u32 a1_3, .int .u32 a1_4, .int .u32 a1_5, .int .u32 a1_6, .int .u32 a1_7, .int .u32 a1_8, .int .u32 a1_9]) (t := 25) ?hr ?_; (case hd => rfl); (case hg => rfl); (case hr => first | (go_simp; done) | (go_simp; rfl)); intro gb127 hg w4 hbox hb; have n0_ := Aside0.mk (below_step (by repeat (first | (with_reducible first | exact HB.out | apply below_alloc | apply pw_below_drewN | apply below_drew1) | exact HB.out)) hb); have n1_ := Aside0.mk (hbox); have n2_ := Aside0.mk ((by rw [hg]; exact (below_size (by repeat (first | (with_reducible first | exact HB.out | apply below_alloc | apply pw_below_drewN | apply below_drew1) | exact HB.out))) : w.heap.size ≤ gb127)); have n3_ := Aside0.mk ((by rw [hg]; exact (below_size (by repeat (first | (with_reducible first | exact HB.out | apply below_alloc | apply pw_below_drewN | apply below_drew1) | exact HB.out))) : w.heap.size ≤ gb127)); clear HB; have HB := n0_; have BK127 := n1_; have GW127 := n2_; have GE127 := n3_; clear n0_ n1_ n2_ n3_; clear hb hbox hg))
  go_loopg [7, 12] k (fun kq v7 v12 w' => ∃ (x7_1 : List (S25)) (x12_1 : Int), v12 = .int .i64 x12_1 ∧ Aside0 (log_Select.l0 kq a2 x7_1 l0 (l0.length : Int) x12_1 a1_0 a1_1 a1_2 a1_3 a1_4 a1_5 a1_6 a1_7 a1_8 a1_9 = some r) ∧ Aside0 (kq ≤ k) ∧ Aside0 (Kd.R k25 25 w' w.heap.size (fun k_ => k_ ≠ gb127) v7 x7_1) ∧ Aside0 (w'.heap[gb127]? = some (.cells #[.int .i64 a1_0, .int .i64 a1_1, .int .i64 a1_2, .int .u32 a1_3, .int .u32 a1_4, .int .u32 a1_5, .int .u32 a1_6, .int .u32 a1_7, .int .u32 a1_8, .int .u32 a1_9] 25 (0, 0))) ∧ Aside0 (Below w.heap.size w w'))
  case atStart => exact ⟨(([] : List (S25))), (0), (by first | rfl | (simp; done) | (simp [*]; done)), H', ⟨Nat.le_refl _⟩, ⟨by first | exact Kd.R_nil _ _ _ _ _ | exact Kd.N_nil _ _ _ _ _ | exact Kd.V_nil _ _ _ _ _ | exact Kd.Q_nil _ _ _ _ _ | exact Kd.S_nil _ _ _ _ _⟩, ⟨by (with_reducible repeat (first | refine blk_drewN ?_ _ | refine blk_drew ?_ | refine blk_alloc ?_ _)); exact BK127.out⟩, ⟨by repeat (first | (with_reducible first | exact HB.out | apply below_alloc | apply pw_below_drewN | apply below_drew1 | refine below_set ?_ GE127.out) | exact HB.out)⟩⟩
  case round =>
    clear H'
    try clear c1
    try clear p2
    obtain ⟨x7_1, x12_1, rfl, HA, HK1, HO_7, BK127, HB⟩ := hrel
    cases gk with
    | zero => exact absurd HA.out (by simp [log_Select.l0])
    | succ k1 =>
      have H := HA.out
      clear HA
      simp only [log_Select.l0] at H
      by_cases c5 : x12_1 < (l0.length : Int)
      · rw [if_pos c5] at H
        have c5b0 : decide (x12_1 < (l0.length : Int)) = true := decide_eq_true c5
        clear c5
        by_cases c6 : 0 ≤ x12_1
        · rw [if_pos c6] at H
          have c6b0 : decide (0 ≤ x12_1) = true := decide_eq_true c6
          clear c6
          by_cases c7 : x12_1 < (l0.length : Int)
          · rw [if_pos c7] at H
            have c7b0 : decide (x12_1 < (l0.length : Int)) = true := decide_eq_true c7
            clear c7
            replace H := Option.bind_eq_some_iff.mp H
            obtain ⟨t130, A80, H⟩ := H
            replace H : (if t130 = true then (if x7_1.length < 2513169434916 then (log_Select.l0 k1 a2 (x7_1 ++ [(⟨(rd_T25 l0 x12_1).f0, (rd_T25 l0 x12_1).f1, (rd_T25 l0 x12_1).f2, (rd_T25 l0 x12_1).f3, (rd_T25 l0 x12_1).f4, (rd_T25 l0 x12_1).f5, (rd_T25 l0 x12_1).f6, (rd_T25 l0 x12_1).f7, (rd_T25 l0 x12_1).f8, (rd_T25 l0 x12_1).f9⟩ : S25)]) l0 (l0.length : Int) (wrap64 (x12_1 + 1)) a1_0 a1_1 a1_2 a1_3 a1_4 a1_5 a1_6 a1_7 a1_8 a1_9) else (none)) else (log_Select.l0 k1 a2 x7_1 l0 (l0.length : Int) (wrap64 (x12_1 + 1)) a1_0 a1_1 a1_2 a1_3 a1_4 a1_5 a1_6 a1_7 a1_8 a1_9)) = some r := H
            have A8 := Aside0.mk A80
            clear A80
            by_cases c9 : t130 = true
            · subst c9
              have H1 : (if x7_1.length < 2513169434916 then (log_Select.l0 k1 a2 (x7_1 ++ [(⟨(rd_T25 l0 x12_1).f0, (rd_T25 l0 x12_1).f1, (rd_T25 l0 x12_1).f2, (rd_T25 l0 x12_1).f3, (rd_T25 l0 x12_1).f4, (rd_T25 l0 x12_1).f5, (rd_T25 l0 x12_1).f6, (rd_T25 l0 x12_1).f7, (rd_T25 l0 x12_1).f8, (rd_T25 l0 x12_1).f9⟩ : S25)]) l0 (l0.length : Int) (wrap64 (x12_1 + 1)) a1_0 a1_1 a1_2 a1_3 a1_4 a1_5 a1_6 a1_7 a1_8 a1_9) else (none)) = some r := by rw [if_pos rfl] at H; exact H
              clear H
              have H := H1
              clear H1
              by_cases c10 : x7_1.length < 2513169434916
              · rw [if_pos c10] at H
                have LMc10 := Aside0.mk c10
                clear c10
                obtain ⟨y131, hy131⟩ : ∃ y_ : List (S25), y_ = (x7_1 ++ [(⟨(rd_T25 l0 x12_1).f0, (rd_T25 l0 x12_1).f1, (rd_T25 l0 x12_1).f2, (rd_T25 l0 x12_1).f3, (rd_T25 l0 x12_1).f4, (rd_T25 l0 x12_1).f5, (rd_T25 l0 x12_1).f6, (rd_T25 l0 x12_1).f7, (rd_T25 l0 x12_1).f8, (rd_T25 l0 x12_1).f9⟩ : S25)]) := ⟨_, rfl⟩
                replace H : (log_Select.l0 k1 a2 y131 l0 (l0.length : Int) (wrap64 (x12_1 + 1)) a1_0 a1_1 a1_2 a1_3 a1_4 a1_5 a1_6 a1_7 a1_8 a1_9) = some r := by first | (rw [hy131]; with_reducible exact H) | (have H2_ := (Option.bind_some _ _).symm.trans H; rw [hy131]; with_reducible exact H2_) | (have H2_ := (Option.bind_some _ _).symm.trans H; with_reducible exact H2_) | with_reducible exact H | (rw [hy131]; exact H) | exact H
                have Ny131 := Aside0.mk hy131
                clear hy131
                have H' := Aside0.mk H
                clear H
                have p128 : 0 ≤ (x12_1 : Int) := of_decide_eq_true (by first | (with_reducible assumption) | assumption)
                have q128 : x12_1 < (l0.length : Int) := of_decide_eq_true (by first | (with_reducible assumption) | assumption)
                obtain ⟨ad128, e128, hx128_0, hx128_1, hx128_2, hx128_3, hx128_4, hx128_5, hx128_6, hx128_7, hx128_8, hx128_9⟩ := at_T25 HR0.out x12_1 p128 q128
                cases e128
                replace hx128_0 := (HB.out.cell (World.block_lt_of_cell? w _ hx128_0)).trans hx128_0
                replace hx128_1 := (HB.out.cell (World.block_lt_of_cell? w _ hx128_1)).trans hx128_1
                replace hx128_2 := (HB.out.cell (World.block_lt_of_cell? w _ hx128_2)).trans hx128_2
                replace hx128_3 := (HB.out.cell (World.block_lt_of_cell? w _ hx128_3)).trans hx128_3
                replace hx128_4 := (HB.out.cell (World.block_lt_of_cell? w _ hx128_4)).trans hx128_4
                replace hx128_5 := (HB.out.cell (World.block_lt_of_cell? w _ hx128_5)).trans hx128_5
                replace hx128_6 := (HB.out.cell (World.block_lt_of_cell? w _ hx128_6)).trans hx128_6
                replace hx128_7 := (HB.out.cell (World.block_lt_of_cell? w _ hx128_7)).trans hx128_7
                replace hx128_8 := (HB.out.cell (World.block_lt_of_cell? w _ hx128_8)).trans hx128_8
                replace hx128_9 := (HB.out.cell (World.block_lt_of_cell? w _ hx128_9)).trans hx128_9
                replace p128 := eq_true p128
                replace q128 := eq_true q128
                go_wp2_with (first | ((with_reducible refine gate_dst (N := 9) rfl ?_); refine box_event ?hg (N := 9) ?hd (cs := #[.int .i64 0, .int .i64 0, .int .i64 0, .int .u32 0, .int .u32 0, .int .u32 0, .int .u32 0, .int .u32 0, .int .u32 0, .int .u32 0]) (t := 25) ?hr ?_; (case hd => rfl); (case hg => rfl); (case hr => first | (go_simp; done) | (go_simp; rfl)); intro gb129 hg w11 hbox hb; have n0_ := Aside0.mk (Kd.R_below (Kd.R_elderB (by (with_reducible repeat (first | apply Kd.R_alloc | apply Kd.R_drewN | apply Kd.R_drew)); exact HO_7.out) gb129 (Nat.le_of_eq hg.symm)) hb); have n1_ := Aside0.mk (blk_below (g := gb127) (o := .cells #[.int .i64 a1_0, .int .i64 a1_1, .int .i64 a1_2, .int .u32 a1_3, .int .u32 a1_4, .int .u32 a1_5, .int .u32 a1_6, .int .u32 a1_7, .int .u32 a1_8, .int .u32 a1_9] 25 (0, 0)) (by (with_reducible repeat (first | refine blk_drewN ?_ _ | refine blk_drew ?_ | refine blk_alloc ?_ _)); exact BK127.out) hb); have n2_ := Aside0.mk (below_step (by repeat (first | (with_reducible first | exact HB.out | apply below_alloc | apply pw_below_drewN | apply below_drew1 | refine below_set ?_ GE127.out) | exact HB.out)) hb); have n3_ := Aside0.mk (hbox); have n4_ := Aside0.mk ((by rw [hg]; exact (below_size (by repeat (first | (with_reducible first | exact HB.out | apply below_alloc | apply pw_below_drewN | apply below_drew1 | refine below_set ?_ GE127.out) | exact HB.out))) : w.heap.size ≤ gb129)); have n5_ := Aside0.mk ((by rw [hg]; exact (below_size (by repeat (first | (with_reducible first | exact HB.out | apply below_alloc | apply pw_below_drewN | apply below_drew1 | refine below_set ?_ GE127.out) | exact HB.out))) : w.heap.size ≤ gb129)); have n6_ := Aside0.mk ((by rw [hg]; exact Nat.ne_of_lt (blk_lt (g := gb127) (o := .cells #[.int .i64 a1_0, .int .i64 a1_1, .int .i64 a1_2, .int .u32 a1_3, .int .u32 a1_4, .int .u32 a1_5, .int .u32 a1_6, .int .u32 a1_7, .int .u32 a1_8, .int .u32 a1_9] 25 (0, 0)) (by (with_reducible repeat (first | refine blk_drewN ?_ _ | refine blk_drew ?_ | refine blk_alloc ?_ _)); exact BK127.out)) : gb127 ≠ gb129)); have n7_ := Aside0.mk ((by rw [hg]; exact Nat.ne_of_gt (blk_lt (g := gb127) (o := .cells #[.int .i64 a1_0, .int .i64 a1_1, .int .i64 a1_2, .int .u32 a1_3, .int .u32 a1_4, .int .u32 a1_5, .int .u32 a1_6, .int .u32 a1_7, .int .u32 a1_8, .int .u32 a1_9] 25 (0, 0)) (by (with_reducible repeat (first | refine blk_drewN ?_ _ | refine blk_drew ?_ | refine blk_alloc ?_ _)); exact BK127.out)) : gb129 ≠ gb127)); clear HO_7; clear BK127; clear HB; have HO_7 := n0_; have BK127 := n1_; have HB := n2_; have BK129 := n3_; have GW129 := n4_; have GE129 := n5_; have NB127_129 := n6_; have NB129_127 := n7_; clear n0_ n1_ n2_ n3_ n4_ n5_ n6_ n7_; clear hb hbox hg; have hnb12 := NB129_127.out; have hnc12 := NB127_129.out; have hcz13_0 : w11.cell? ⟨gb129, 0, none⟩ = some (.int .i64 0) := (blk_cell BK129.out 0).trans rfl; have hcz13_1 : w11.cell? ⟨gb129, 1, none⟩ = some (.int .i64 0) := (blk_cell BK129.out 1).trans rfl; have hcz13_2 : w11.cell? ⟨gb129, 2, none⟩ = some (.int .i64 0) := (blk_cell BK129.out 2).trans rfl; have hcz13_3 : w11.cell? ⟨gb129, 3, none⟩ = some (.int .u32 0) := (blk_cell BK129.out 3).trans rfl; have hcz13_4 : w11.cell? ⟨gb129, 4, none⟩ = some (.int .u32 0) := (blk_cell BK129.out 4).trans rfl; have hcz13_5 : w11.cell? ⟨gb129, 5, none⟩ = some (.int .u32 0) := (blk_cell BK129.out 5).trans rfl; have hcz13_6 : w11.cell? ⟨gb129, 6, none⟩ = some (.int .u32 0) := (blk_cell BK129.out 6).trans rfl; have hcz13_7 : w11.cell? ⟨gb129, 7, none⟩ = some (.int .u32 0) := (blk_cell BK129.out 7).trans rfl; have hcz13_8 : w11.cell? ⟨gb129, 8, none⟩ = some (.int .u32 0) := (blk_cell BK129.out 8).trans rfl; have hcz13_9 : w11.cell? ⟨gb129, 9, none⟩ = some (.int .u32 0) := (blk_cell BK129.out 9).trans rfl; have hfz13_0 := blk_frozen BK129.out 0; have hfz13_1 := blk_frozen BK129.out 1; have hfz13_2 := blk_frozen BK129.out 2; have hfz13_3 := blk_frozen BK129.out 3; have hfz13_4 := blk_frozen BK129.out 4; have hfz13_5 := blk_frozen BK129.out 5; have hfz13_6 := blk_frozen BK129.out 6; have hfz13_7 := blk_frozen BK129.out 7; have hfz13_8 := blk_frozen BK129.out 8; have hfz13_9 := blk_frozen BK129.out 9; have hcz14_0 : w11.cell? ⟨gb127, 0, none⟩ = some (.int .i64 a1_0) := (blk_cell BK127.out 0).trans rfl; have hcz14_1 : w11.cell? ⟨gb127, 1, none⟩ = some (.int .i64 a1_1) := (blk_cell BK127.out 1).trans rfl; have hcz14_2 : w11.cell? ⟨gb127, 2, none⟩ = some (.int .i64 a1_2) := (blk_cell BK127.out 2).trans rfl; have hcz14_3 : w11.cell? ⟨gb127, 3, none⟩ = some (.int .u32 a1_3) := (blk_cell BK127.out 3).trans rfl; have hcz14_4 : w11.cell? ⟨gb127, 4, none⟩ = some (.int .u32 a1_4) := (blk_cell BK127.out 4).trans rfl; have hcz14_5 : w11.cell? ⟨gb127, 5, none⟩ = some (.int .u32 a1_5) := (blk_cell BK127.out 5).trans rfl; have hcz14_6 : w11.cell? ⟨gb127, 6, none⟩ = some (.int .u32 a1_6) := (blk_cell BK127.out 6).trans rfl; have hcz14_7 : w11.cell? ⟨gb127, 7, none⟩ = some (.int .u32 a1_7) := (blk_cell BK127.out 7).trans rfl; have hcz14_8 : w11.cell? ⟨gb127, 8, none⟩ = some (.int .u32 a1_8) := (blk_cell BK127.out 8).trans rfl; have hcz14_9 : w11.cell? ⟨gb127, 9, none⟩ = some (.int .u32 a1_9) := (blk_cell BK127.out 9).trans rfl; have hfz14_0 := blk_frozen BK127.out 0; have hfz14_1 := blk_frozen BK127.out 1; have hfz14_2 := blk_frozen BK127.out 2; have hfz14_3 := blk_frozen BK127.out 3; have hfz14_4 := blk_frozen BK127.out 4; have hfz14_5 := blk_frozen BK127.out 5; have hfz14_6 := blk_frozen BK127.out 6; have hfz14_7 := blk_frozen BK127.out 7; have hfz14_8 := blk_frozen BK127.out 8; have hfz14_9 := blk_frozen BK127.out 9) | ((with_reducible refine gate_callee (f := 10) rfl ?_); refine goesL_ (some 19) rfl rfl Try.func10 (by kernel_rfl) rfl #[.agg #[.int .i64 ((rd_T25 l0 x12_1).f0), .int .i64 ((rd_T25 l0 x12_1).f1), .int .i64 ((rd_T25 l0 x12_1).f2), .int .u32 ((rd_T25 l0 x12_1).f3), .int .u32 ((rd_T25 l0 x12_1).f4), .int .u32 ((rd_T25 l0 x12_1).f5), .int .u32 ((rd_T25 l0 x12_1).f6), .int .u32 ((rd_T25 l0 x12_1).f7), .int .u32 ((rd_T25 l0 x12_1).f8), .int .u32 ((rd_T25 l0 x12_1).f9)], .agg #[.int .i64 a1_0, .int .i64 a1_1, .int .i64 a1_2, .int .u32 a1_3, .int .u32 a1_4, .int .u32 a1_5, .int .u32 a1_6, .int .u32 a1_7, .int .u32 a1_8, .int .u32 a1_9], .int .i64 a2] rfl (by (try simp only [List.map_toArray, List.map_cons, List.map_nil]); first | done | rfl | (simp only [List.length_drop, List.length_take]; rfl)) ?_; (with_reducible refine (log_Fits.calls ((rd_T25 l0 x12_1).f0) ((rd_T25 l0 x12_1).f1) ((rd_T25 l0 x12_1).f2) ((rd_T25 l0 x12_1).f3) ((rd_T25 l0 x12_1).f4) ((rd_T25 l0 x12_1).f5) ((rd_T25 l0 x12_1).f6) ((rd_T25 l0 x12_1).f7) ((rd_T25 l0 x12_1).f8) ((rd_T25 l0 x12_1).f9) a1_0 a1_1 a1_2 a1_3 a1_4 a1_5 a1_6 a1_7 a1_8 a1_9 a2 true _ A8.out).mono ?_); rintro e w15 ⟨rfl, hb⟩; refine ⟨_, rfl, ?_⟩; have n0_ := Aside0.mk (Kd.R_below (by (with_reducible repeat (first | apply Kd.R_alloc | apply Kd.R_drewN | apply Kd.R_drew)); exact (Kd.R_mono (Kd.R_far (p := ⟨gb129, 9, none⟩) (Kd.R_far (p := ⟨gb129, 8, none⟩) (Kd.R_far (p := ⟨gb129, 7, none⟩) (Kd.R_far (p := ⟨gb129, 6, none⟩) (Kd.R_far (p := ⟨gb129, 5, none⟩) (Kd.R_far (p := ⟨gb129, 4, none⟩) (Kd.R_far (p := ⟨gb129, 3, none⟩) (Kd.R_far (p := ⟨gb129, 2, none⟩) (Kd.R_far (p := ⟨gb129, 1, none⟩) (Kd.R_far (p := ⟨gb129, 0, none⟩) (Kd.R_mono HO_7.out (fun k_ hk => (⟨hk, hk.2⟩ : _ ∧ k_ ≠ gb129))) (fun _ hk => hk.2) (.int .i64 ((rd_T25 l0 x12_1).f0))) (fun _ hk => hk.2) (.int .i64 ((rd_T25 l0 x12_1).f1))) (fun _ hk => hk.2) (.int .i64 ((rd_T25 l0 x12_1).f2))) (fun _ hk => hk.2) (.int .u32 ((rd_T25 l0 x12_1).f3))) (fun _ hk => hk.2) (.int .u32 ((rd_T25 l0 x12_1).f4))) (fun _ hk => hk.2) (.int .u32 ((rd_T25 l0 x12_1).f5))) (fun _ hk => hk.2) (.int .u32 ((rd_T25 l0 x12_1).f6))) (fun _ hk => hk.2) (.int .u32 ((rd_T25 l0 x12_1).f7))) (fun _ hk => hk.2) (.int .u32 ((rd_T25 l0 x12_1).f8))) (fun _ hk => hk.2) (.int .u32 ((rd_T25 l0 x12_1).f9))) (fun _ h_ => h_.1))) hb); have n1_ := Aside0.mk (blk_below (g := gb127) (o := .cells #[.int .i64 a1_0, .int .i64 a1_1, .int .i64 a1_2, .int .u32 a1_3, .int .u32 a1_4, .int .u32 a1_5, .int .u32 a1_6, .int .u32 a1_7, .int .u32 a1_8, .int .u32 a1_9] 25 (0, 0)) (by (with_reducible repeat (first | refine blk_drewN ?_ _ | refine blk_drew ?_ | refine blk_alloc ?_ _)); refine blk_far ?_ NB127_129.out _; (with_reducible repeat (first | refine blk_drewN ?_ _ | refine blk_drew ?_ | refine blk_alloc ?_ _)); refine blk_far ?_ NB127_129.out _; (with_reducible repeat (first | refine blk_drewN ?_ _ | refine blk_drew ?_ | refine blk_alloc ?_ _)); refine blk_far ?_ NB127_129.out _; (with_reducible repeat (first | refine blk_drewN ?_ _ | refine blk_drew ?_ | refine blk_alloc ?_ _)); refine blk_far ?_ NB127_129.out _; (with_reducible repeat (first | refine blk_drewN ?_ _ | refine blk_drew ?_ | refine blk_alloc ?_ _)); refine blk_far ?_ NB127_129.out _; (with_reducible repeat (first | refine blk_drewN ?_ _ | refine blk_drew ?_ | refine blk_alloc ?_ _)); refine blk_far ?_ NB127_129.out _; (with_reducible repeat (first | refine blk_drewN ?_ _ | refine blk_drew ?_ | refine blk_alloc ?_ _)); refine blk_far ?_ NB127_129.out _; (with_reducible repeat (first | refine blk_drewN ?_ _ | refine blk_drew ?_ | refine blk_alloc ?_ _)); refine blk_far ?_ NB127_129.out _; (with_reducible repeat (first | refine blk_drewN ?_ _ | refine blk_drew ?_ | refine blk_alloc ?_ _)); refine blk_far ?_ NB127_129.out _; (with_reducible repeat (first | refine blk_drewN ?_ _ | refine blk_drew ?_ | refine blk_alloc ?_ _)); refine blk_far ?_ NB127_129.out _; (with_reducible repeat (first | refine blk_drewN ?_ _ | refine blk_drew ?_ | refine blk_alloc ?_ _)); exact BK127.out) hb); have n2_ := Aside0.mk (blk_below (g := gb129) (o := .cells #[.int .i64 ((rd_T25 l0 x12_1).f0), .int .i64 ((rd_T25 l0 x12_1).f1), .int .i64 ((rd_T25 l0 x12_1).f2), .int .u32 ((rd_T25 l0 x12_1).f3), .int .u32 ((rd_T25 l0 x12_1).f4), .int .u32 ((rd_T25 l0 x12_1).f5), .int .u32 ((rd_T25 l0 x12_1).f6), .int .u32 ((rd_T25 l0 x12_1).f7), .int .u32 ((rd_T25 l0 x12_1).f8), .int .u32 ((rd_T25 l0 x12_1).f9)] 25 (0, 0)) (by (with_reducible repeat (first | refine blk_drewN ?_ _ | refine blk_drew ?_ | refine blk_alloc ?_ _)); refine blk_put (cs := #[.int .i64 ((rd_T25 l0 x12_1).f0), .int .i64 ((rd_T25 l0 x12_1).f1), .int .i64 ((rd_T25 l0 x12_1).f2), .int .u32 ((rd_T25 l0 x12_1).f3), .int .u32 ((rd_T25 l0 x12_1).f4), .int .u32 ((rd_T25 l0 x12_1).f5), .int .u32 ((rd_T25 l0 x12_1).f6), .int .u32 ((rd_T25 l0 x12_1).f7), .int .u32 ((rd_T25 l0 x12_1).f8), .int .u32 0]) ?_ 9 _ rfl; (with_reducible repeat (first | refine blk_drewN ?_ _ | refine blk_drew ?_ | refine blk_alloc ?_ _)); refine blk_put (cs := #[.int .i64 ((rd_T25 l0 x12_1).f0), .int .i64 ((rd_T25 l0 x12_1).f1), .int .i64 ((rd_T25 l0 x12_1).f2), .int .u32 ((rd_T25 l0 x12_1).f3), .int .u32 ((rd_T25 l0 x12_1).f4), .int .u32 ((rd_T25 l0 x12_1).f5), .int .u32 ((rd_T25 l0 x12_1).f6), .int .u32 ((rd_T25 l0 x12_1).f7), .int .u32 0, .int .u32 0]) ?_ 8 _ rfl; (with_reducible repeat (first | refine blk_drewN ?_ _ | refine blk_drew ?_ | refine blk_alloc ?_ _)); refine blk_put (cs := #[.int .i64 ((rd_T25 l0 x12_1).f0), .int .i64 ((rd_T25 l0 x12_1).f1), .int .i64 ((rd_T25 l0 x12_1).f2), .int .u32 ((rd_T25 l0 x12_1).f3), .int .u32 ((rd_T25 l0 x12_1).f4), .int .u32 ((rd_T25 l0 x12_1).f5), .int .u32 ((rd_T25 l0 x12_1).f6), .int .u32 0, .int .u32 0, .int .u32 0]) ?_ 7 _ rfl; (with_reducible repeat (first | refine blk_drewN ?_ _ | refine blk_drew ?_ | refine blk_alloc ?_ _)); refine blk_put (cs := #[.int .i64 ((rd_T25 l0 x12_1).f0), .int .i64 ((rd_T25 l0 x12_1).f1), .int .i64 ((rd_T25 l0 x12_1).f2), .int .u32 ((rd_T25 l0 x12_1).f3), .int .u32 ((rd_T25 l0 x12_1).f4), .int .u32 ((rd_T25 l0 x12_1).f5), .int .u32 0, .int .u32 0, .int .u32 0, .int .u32 0]) ?_ 6 _ rfl; (with_reducible repeat (first | refine blk_drewN ?_ _ | refine blk_drew ?_ | refine blk_alloc ?_ _)); refine blk_put (cs := #[.int .i64 ((rd_T25 l0 x12_1).f0), .int .i64 ((rd_T25 l0 x12_1).f1), .int .i64 ((rd_T25 l0 x12_1).f2), .int .u32 ((rd_T25 l0 x12_1).f3), .int .u32 ((rd_T25 l0 x12_1).f4), .int .u32 0, .int .u32 0, .int .u32 0, .int .u32 0, .int .u32 0]) ?_ 5 _ rfl; (with_reducible repeat (first | refine blk_drewN ?_ _ | refine blk_drew ?_ | refine blk_alloc ?_ _)); refine blk_put (cs := #[.int .i64 ((rd_T25 l0 x12_1).f0), .int .i64 ((rd_T25 l0 x12_1).f1), .int .i64 ((rd_T25 l0 x12_1).f2), .int .u32 ((rd_T25 l0 x12_1).f3), .int .u32 0, .int .u32 0, .int .u32 0, .int .u32 0, .int .u32 0, .int .u32 0]) ?_ 4 _ rfl; (with_reducible repeat (first | refine blk_drewN ?_ _ | refine blk_drew ?_ | refine blk_alloc ?_ _)); refine blk_put (cs := #[.int .i64 ((rd_T25 l0 x12_1).f0), .int .i64 ((rd_T25 l0 x12_1).f1), .int .i64 ((rd_T25 l0 x12_1).f2), .int .u32 0, .int .u32 0, .int .u32 0, .int .u32 0, .int .u32 0, .int .u32 0, .int .u32 0]) ?_ 3 _ rfl; (with_reducible repeat (first | refine blk_drewN ?_ _ | refine blk_drew ?_ | refine blk_alloc ?_ _)); refine blk_put (cs := #[.int .i64 ((rd_T25 l0 x12_1).f0), .int .i64 ((rd_T25 l0 x12_1).f1), .int .i64 0, .int .u32 0, .int .u32 0, .int .u32 0, .int .u32 0, .int .u32 0, .int .u32 0, .int .u32 0]) ?_ 2 _ rfl; (with_reducible repeat (first | refine blk_drewN ?_ _ | refine blk_drew ?_ | refine blk_alloc ?_ _)); refine blk_put (cs := #[.int .i64 ((rd_T25 l0 x12_1).f0), .int .i64 0, .int .i64 0, .int .u32 0, .int .u32 0, .int .u32 0, .int .u32 0, .int .u32 0, .int .u32 0, .int .u32 0]) ?_ 1 _ rfl; (with_reducible repeat (first | refine blk_drewN ?_ _ | refine blk_drew ?_ | refine blk_alloc ?_ _)); refine blk_put (cs := #[.int .i64 0, .int .i64 0, .int .i64 0, .int .u32 0, .int .u32 0, .int .u32 0, .int .u32 0, .int .u32 0, .int .u32 0, .int .u32 0]) ?_ 0 _ rfl; (with_reducible repeat (first | refine blk_drewN ?_ _ | refine blk_drew ?_ | refine blk_alloc ?_ _)); exact BK129.out) hb); have n3_ := Aside0.mk (below_step (by repeat (first | (with_reducible first | exact HB.out | apply below_alloc | apply pw_below_drewN | apply below_drew1 | refine below_set ?_ GE127.out | refine below_set ?_ GE129.out) | exact HB.out)) hb); clear HO_7; clear BK127; clear BK129; clear HB; have HO_7 := n0_; have BK127 := n1_; have BK129 := n2_; have HB := n3_; clear n0_ n1_ n2_ n3_; (try clear hb); (try clear hb2); (try clear hk); (try clear hi); have hcz16_0 : w15.cell? ⟨gb129, 0, none⟩ = some (.int .i64 ((rd_T25 l0 x12_1).f0)) := (blk_cell BK129.out 0).trans rfl; have hcz16_1 : w15.cell? ⟨gb129, 1, none⟩ = some (.int .i64 ((rd_T25 l0 x12_1).f1)) := (blk_cell BK129.out 1).trans rfl; have hcz16_2 : w15.cell? ⟨gb129, 2, none⟩ = some (.int .i64 ((rd_T25 l0 x12_1).f2)) := (blk_cell BK129.out 2).trans rfl; have hcz16_3 : w15.cell? ⟨gb129, 3, none⟩ = some (.int .u32 ((rd_T25 l0 x12_1).f3)) := (blk_cell BK129.out 3).trans rfl; have hcz16_4 : w15.cell? ⟨gb129, 4, none⟩ = some (.int .u32 ((rd_T25 l0 x12_1).f4)) := (blk_cell BK129.out 4).trans rfl; have hcz16_5 : w15.cell? ⟨gb129, 5, none⟩ = some (.int .u32 ((rd_T25 l0 x12_1).f5)) := (blk_cell BK129.out 5).trans rfl; have hcz16_6 : w15.cell? ⟨gb129, 6, none⟩ = some (.int .u32 ((rd_T25 l0 x12_1).f6)) := (blk_cell BK129.out 6).trans rfl; have hcz16_7 : w15.cell? ⟨gb129, 7, none⟩ = some (.int .u32 ((rd_T25 l0 x12_1).f7)) := (blk_cell BK129.out 7).trans rfl; have hcz16_8 : w15.cell? ⟨gb129, 8, none⟩ = some (.int .u32 ((rd_T25 l0 x12_1).f8)) := (blk_cell BK129.out 8).trans rfl; have hcz16_9 : w15.cell? ⟨gb129, 9, none⟩ = some (.int .u32 ((rd_T25 l0 x12_1).f9)) := (blk_cell BK129.out 9).trans rfl; have hfz16_0 := blk_frozen BK129.out 0; have hfz16_1 := blk_frozen BK129.out 1; have hfz16_2 := blk_frozen BK129.out 2; have hfz16_3 := blk_frozen BK129.out 3; have hfz16_4 := blk_frozen BK129.out 4; have hfz16_5 := blk_frozen BK129.out 5; have hfz16_6 := blk_frozen BK129.out 6; have hfz16_7 := blk_frozen BK129.out 7; have hfz16_8 := blk_frozen BK129.out 8; have hfz16_9 := blk_frozen BK129.out 9) | ((with_reducible refine gate_builtin (b := .append) (xs := #[.tmp 20, .tmp 22]) rfl ?_); at_builtin; refine Kd.R_append k25 (w0 := w) w.heap.size rfl (.tmp 20) (.tmp 22) 22 25 (.agg #[(.int .i64 0), (.int .i64 0), (.int .i64 0), (.int .u32 0), (.int .u32 0), (.int .u32 0), (.int .u32 0), (.int .u32 0), (.int .u32 0), (.int .u32 0)]) 56 rfl Try.underlying22 info25 rfl (by decide) (by omega) u7 x7_1 (⟨(rd_T25 l0 x12_1).f0, (rd_T25 l0 x12_1).f1, (rd_T25 l0 x12_1).f2, (rd_T25 l0 x12_1).f3, (rd_T25 l0 x12_1).f4, (rd_T25 l0 x12_1).f5, (rd_T25 l0 x12_1).f6, (rd_T25 l0 x12_1).f7, (rd_T25 l0 x12_1).f8, (rd_T25 l0 x12_1).f9⟩ : S25) [.int .i64 ((rd_T25 l0 x12_1).f0), .int .i64 ((rd_T25 l0 x12_1).f1), .int .i64 ((rd_T25 l0 x12_1).f2), .int .u32 ((rd_T25 l0 x12_1).f3), .int .u32 ((rd_T25 l0 x12_1).f4), .int .u32 ((rd_T25 l0 x12_1).f5), .int .u32 ((rd_T25 l0 x12_1).f6), .int .u32 ((rd_T25 l0 x12_1).f7), .int .u32 ((rd_T25 l0 x12_1).f8), .int .u32 ((rd_T25 l0 x12_1).f9)] (fun k_ => k_ ≠ gb127 ∧ k_ ≠ gb129) (fun _ => False) rfl rfl ?aP (fun _ hk => hk.elim) ?aF ?aO ?aB ?aS ?aL ?_; (case aP => exact k25_mkM _ _ _ (⟨(rd_T25 l0 x12_1).f0, (rd_T25 l0 x12_1).f1, (rd_T25 l0 x12_1).f2, (rd_T25 l0 x12_1).f3, (rd_T25 l0 x12_1).f4, (rd_T25 l0 x12_1).f5, (rd_T25 l0 x12_1).f6, (rd_T25 l0 x12_1).f7, (rd_T25 l0 x12_1).f8, (rd_T25 l0 x12_1).f9⟩ : S25)); (case aB => exact (by repeat (first | (with_reducible first | exact HB.out | apply below_alloc | apply pw_below_drewN | apply below_drew1 | refine below_set ?_ GE127.out | refine below_set ?_ GE129.out) | exact HB.out))); (case aF => exact (fun k_ hk => ⟨Kd.freshB (g := gb127) (o := .cells #[.int .i64 a1_0, .int .i64 a1_1, .int .i64 a1_2, .int .u32 a1_3, .int .u32 a1_4, .int .u32 a1_5, .int .u32 a1_6, .int .u32 a1_7, .int .u32 a1_8, .int .u32 a1_9] 25 (0, 0)) (by (with_reducible repeat (first | refine blk_drewN ?_ _ | refine blk_drew ?_ | refine blk_alloc ?_ _)); exact BK127.out) k_ hk, Kd.freshB (g := gb129) (o := .cells #[.int .i64 ((rd_T25 l0 x12_1).f0), .int .i64 ((rd_T25 l0 x12_1).f1), .int .i64 ((rd_T25 l0 x12_1).f2), .int .u32 ((rd_T25 l0 x12_1).f3), .int .u32 ((rd_T25 l0 x12_1).f4), .int .u32 ((rd_T25 l0 x12_1).f5), .int .u32 ((rd_T25 l0 x12_1).f6), .int .u32 ((rd_T25 l0 x12_1).f7), .int .u32 ((rd_T25 l0 x12_1).f8), .int .u32 ((rd_T25 l0 x12_1).f9)] 25 (0, 0)) (by (with_reducible repeat (first | refine blk_drewN ?_ _ | refine blk_drew ?_ | refine blk_alloc ?_ _)); exact BK129.out) k_ hk⟩)); (case aO => exact (by (with_reducible repeat (first | apply Kd.R_alloc | apply Kd.R_drewN | apply Kd.R_drew)); exact HO_7.out)); (case aS => exact (below_size (by repeat (first | (with_reducible first | exact HB.out | apply below_alloc | apply pw_below_drewN | apply below_drew1 | refine below_set ?_ GE127.out | refine below_set ?_ GE129.out) | exact HB.out)))); (case aL => have := LMc10.out; omega); intro v132 w17 ho hb hg hat; rw [← Ny131.out] at ho; have n0_ := Aside0.mk (blk_grown (g := gb127) (o := .cells #[.int .i64 a1_0, .int .i64 a1_1, .int .i64 a1_2, .int .u32 a1_3, .int .u32 a1_4, .int .u32 a1_5, .int .u32 a1_6, .int .u32 a1_7, .int .u32 a1_8, .int .u32 a1_9] 25 (0, 0)) (by (with_reducible repeat (first | refine blk_drewN ?_ _ | refine blk_drew ?_ | refine blk_alloc ?_ _)); exact BK127.out) hg (Kd.R_away HO_7.out (fun _ hk => hk.1))); have n1_ := Aside0.mk (blk_grown (g := gb129) (o := .cells #[.int .i64 ((rd_T25 l0 x12_1).f0), .int .i64 ((rd_T25 l0 x12_1).f1), .int .i64 ((rd_T25 l0 x12_1).f2), .int .u32 ((rd_T25 l0 x12_1).f3), .int .u32 ((rd_T25 l0 x12_1).f4), .int .u32 ((rd_T25 l0 x12_1).f5), .int .u32 ((rd_T25 l0 x12_1).f6), .int .u32 ((rd_T25 l0 x12_1).f7), .int .u32 ((rd_T25 l0 x12_1).f8), .int .u32 ((rd_T25 l0 x12_1).f9)] 25 (0, 0)) (by (with_reducible repeat (first | refine blk_drewN ?_ _ | refine blk_drew ?_ | refine blk_alloc ?_ _)); exact BK129.out) hg (Kd.R_away HO_7.out (fun _ hk => hk.2))); have n2_ := Aside0.mk (hb); have n3_ := Aside0.mk (ho); clear BK127; clear BK129; clear HB; clear HO_7; have BK127 := n0_; have BK129 := n1_; have HB := n2_; have HO133 := n3_; clear n0_ n1_ n2_ n3_; clear ho hb hg hat))
                go_roundg k1
                case measure => have := HK1.out; omega
                case rel => exact ⟨(y131), (wrap64 (x12_1 + 1)), (by first | rfl | (simp; done) | (simp [*]; done)), H', ⟨by have := HK1.out; omega⟩, ⟨by (with_reducible repeat (first | apply Kd.R_alloc | apply Kd.R_drewN | apply Kd.R_drew)); exact Kd.R_mono HO133.out (fun _ hk => hk.1)⟩, ⟨by (with_reducible repeat (first | refine blk_drewN ?_ _ | refine blk_drew ?_ | refine blk_alloc ?_ _)); exact BK127.out⟩, ⟨by repeat (first | (with_reducible first | exact HB.out | apply below_alloc | apply pw_below_drewN | apply below_drew1 | refine below_set ?_ GE127.out | refine below_set ?_ GE129.out) | exact HB.out)⟩⟩
              · rw [if_neg c10] at H
                exact absurd H (by simp)
            · replace c9 := Bool.eq_false_iff.mpr c9
              subst c9
              have H1 : (log_Select.l0 k1 a2 x7_1 l0 (l0.length : Int) (wrap64 (x12_1 + 1)) a1_0 a1_1 a1_2 a1_3 a1_4 a1_5 a1_6 a1_7 a1_8 a1_9) = some r := by rw [if_neg (show ¬ (false = true) by decide)] at H; exact H
              clear H
              have H := H1
              clear H1
              have H' := Aside0.mk H
              clear H
              have p128 : 0 ≤ (x12_1 : Int) := of_decide_eq_true (by first | (with_reducible assumption) | assumption)
              have q128 : x12_1 < (l0.length : Int) := of_decide_eq_true (by first | (with_reducible assumption) | assumption)
              obtain ⟨ad128, e128, hx128_0, hx128_1, hx128_2, hx128_3, hx128_4, hx128_5, hx128_6, hx128_7, hx128_8, hx128_9⟩ := at_T25 HR0.out x12_1 p128 q128
              cases e128
              replace hx128_0 := (HB.out.cell (World.block_lt_of_cell? w _ hx128_0)).trans hx128_0
              replace hx128_1 := (HB.out.cell (World.block_lt_of_cell? w _ hx128_1)).trans hx128_1
              replace hx128_2 := (HB.out.cell (World.block_lt_of_cell? w _ hx128_2)).trans hx128_2
              replace hx128_3 := (HB.out.cell (World.block_lt_of_cell? w _ hx128_3)).trans hx128_3
              replace hx128_4 := (HB.out.cell (World.block_lt_of_cell? w _ hx128_4)).trans hx128_4
              replace hx128_5 := (HB.out.cell (World.block_lt_of_cell? w _ hx128_5)).trans hx128_5
              replace hx128_6 := (HB.out.cell (World.block_lt_of_cell? w _ hx128_6)).trans hx128_6
              replace hx128_7 := (HB.out.cell (World.block_lt_of_cell? w _ hx128_7)).trans hx128_7
              replace hx128_8 := (HB.out.cell (World.block_lt_of_cell? w _ hx128_8)).trans hx128_8
              replace hx128_9 := (HB.out.cell (World.block_lt_of_cell? w _ hx128_9)).trans hx128_9
              replace p128 := eq_true p128
              replace q128 := eq_true q128
              go_wp2_with (first | ((with_reducible refine gate_dst (N := 9) rfl ?_); refine box_event ?hg (N := 9) ?hd (cs := #[.int .i64 0, .int .i64 0, .int .i64 0, .int .u32 0, .int .u32 0, .int .u32 0, .int .u32 0, .int .u32 0, .int .u32 0, .int .u32 0]) (t := 25) ?hr ?_; (case hd => rfl); (case hg => rfl); (case hr => first | (go_simp; done) | (go_simp; rfl)); intro gb129 hg w18 hbox hb; have n0_ := Aside0.mk (Kd.R_below (Kd.R_elderB (by (with_reducible repeat (first | apply Kd.R_alloc | apply Kd.R_drewN | apply Kd.R_drew)); exact HO_7.out) gb129 (Nat.le_of_eq hg.symm)) hb); have n1_ := Aside0.mk (blk_below (g := gb127) (o := .cells #[.int .i64 a1_0, .int .i64 a1_1, .int .i64 a1_2, .int .u32 a1_3, .int .u32 a1_4, .int .u32 a1_5, .int .u32 a1_6, .int .u32 a1_7, .int .u32 a1_8, .int .u32 a1_9] 25 (0, 0)) (by (with_reducible repeat (first | refine blk_drewN ?_ _ | refine blk_drew ?_ | refine blk_alloc ?_ _)); exact BK127.out) hb); have n2_ := Aside0.mk (below_step (by repeat (first | (with_reducible first | exact HB.out | apply below_alloc | apply pw_below_drewN | apply below_drew1 | refine below_set ?_ GE127.out) | exact HB.out)) hb); have n3_ := Aside0.mk (hbox); have n4_ := Aside0.mk ((by rw [hg]; exact (below_size (by repeat (first | (with_reducible first | exact HB.out | apply below_alloc | apply pw_below_drewN | apply below_drew1 | refine below_set ?_ GE127.out) | exact HB.out))) : w.heap.size ≤ gb129)); have n5_ := Aside0.mk ((by rw [hg]; exact (below_size (by repeat (first | (with_reducible first | exact HB.out | apply below_alloc | apply pw_below_drewN | apply below_drew1 | refine below_set ?_ GE127.out) | exact HB.out))) : w.heap.size ≤ gb129)); have n6_ := Aside0.mk ((by rw [hg]; exact Nat.ne_of_lt (blk_lt (g := gb127) (o := .cells #[.int .i64 a1_0, .int .i64 a1_1, .int .i64 a1_2, .int .u32 a1_3, .int .u32 a1_4, .int .u32 a1_5, .int .u32 a1_6, .int .u32 a1_7, .int .u32 a1_8, .int .u32 a1_9] 25 (0, 0)) (by (with_reducible repeat (first | refine blk_drewN ?_ _ | refine blk_drew ?_ | refine blk_alloc ?_ _)); exact BK127.out)) : gb127 ≠ gb129)); have n7_ := Aside0.mk ((by rw [hg]; exact Nat.ne_of_gt (blk_lt (g := gb127) (o := .cells #[.int .i64 a1_0, .int .i64 a1_1, .int .i64 a1_2, .int .u32 a1_3, .int .u32 a1_4, .int .u32 a1_5, .int .u32 a1_6, .int .u32 a1_7, .int .u32 a1_8, .int .u32 a1_9] 25 (0, 0)) (by (with_reducible repeat (first | refine blk_drewN ?_ _ | refine blk_drew ?_ | refine blk_alloc ?_ _)); exact BK127.out)) : gb129 ≠ gb127)); clear HO_7; clear BK127; clear HB; have HO_7 := n0_; have BK127 := n1_; have HB := n2_; have BK129 := n3_; have GW129 := n4_; have GE129 := n5_; have NB127_129 := n6_; have NB129_127 := n7_; clear n0_ n1_ n2_ n3_ n4_ n5_ n6_ n7_; clear hb hbox hg; have hnb19 := NB129_127.out; have hnc19 := NB127_129.out; have hcz20_0 : w18.cell? ⟨gb129, 0, none⟩ = some (.int .i64 0) := (blk_cell BK129.out 0).trans rfl; have hcz20_1 : w18.cell? ⟨gb129, 1, none⟩ = some (.int .i64 0) := (blk_cell BK129.out 1).trans rfl; have hcz20_2 : w18.cell? ⟨gb129, 2, none⟩ = some (.int .i64 0) := (blk_cell BK129.out 2).trans rfl; have hcz20_3 : w18.cell? ⟨gb129, 3, none⟩ = some (.int .u32 0) := (blk_cell BK129.out 3).trans rfl; have hcz20_4 : w18.cell? ⟨gb129, 4, none⟩ = some (.int .u32 0) := (blk_cell BK129.out 4).trans rfl; have hcz20_5 : w18.cell? ⟨gb129, 5, none⟩ = some (.int .u32 0) := (blk_cell BK129.out 5).trans rfl; have hcz20_6 : w18.cell? ⟨gb129, 6, none⟩ = some (.int .u32 0) := (blk_cell BK129.out 6).trans rfl; have hcz20_7 : w18.cell? ⟨gb129, 7, none⟩ = some (.int .u32 0) := (blk_cell BK129.out 7).trans rfl; have hcz20_8 : w18.cell? ⟨gb129, 8, none⟩ = some (.int .u32 0) := (blk_cell BK129.out 8).trans rfl; have hcz20_9 : w18.cell? ⟨gb129, 9, none⟩ = some (.int .u32 0) := (blk_cell BK129.out 9).trans rfl; have hfz20_0 := blk_frozen BK129.out 0; have hfz20_1 := blk_frozen BK129.out 1; have hfz20_2 := blk_frozen BK129.out 2; have hfz20_3 := blk_frozen BK129.out 3; have hfz20_4 := blk_frozen BK129.out 4; have hfz20_5 := blk_frozen BK129.out 5; have hfz20_6 := blk_frozen BK129.out 6; have hfz20_7 := blk_frozen BK129.out 7; have hfz20_8 := blk_frozen BK129.out 8; have hfz20_9 := blk_frozen BK129.out 9; have hcz21_0 : w18.cell? ⟨gb127, 0, none⟩ = some (.int .i64 a1_0) := (blk_cell BK127.out 0).trans rfl; have hcz21_1 : w18.cell? ⟨gb127, 1, none⟩ = some (.int .i64 a1_1) := (blk_cell BK127.out 1).trans rfl; have hcz21_2 : w18.cell? ⟨gb127, 2, none⟩ = some (.int .i64 a1_2) := (blk_cell BK127.out 2).trans rfl; have hcz21_3 : w18.cell? ⟨gb127, 3, none⟩ = some (.int .u32 a1_3) := (blk_cell BK127.out 3).trans rfl; have hcz21_4 : w18.cell? ⟨gb127, 4, none⟩ = some (.int .u32 a1_4) := (blk_cell BK127.out 4).trans rfl; have hcz21_5 : w18.cell? ⟨gb127, 5, none⟩ = some (.int .u32 a1_5) := (blk_cell BK127.out 5).trans rfl; have hcz21_6 : w18.cell? ⟨gb127, 6, none⟩ = some (.int .u32 a1_6) := (blk_cell BK127.out 6).trans rfl; have hcz21_7 : w18.cell? ⟨gb127, 7, none⟩ = some (.int .u32 a1_7) := (blk_cell BK127.out 7).trans rfl; have hcz21_8 : w18.cell? ⟨gb127, 8, none⟩ = some (.int .u32 a1_8) := (blk_cell BK127.out 8).trans rfl; have hcz21_9 : w18.cell? ⟨gb127, 9, none⟩ = some (.int .u32 a1_9) := (blk_cell BK127.out 9).trans rfl; have hfz21_0 := blk_frozen BK127.out 0; have hfz21_1 := blk_frozen BK127.out 1; have hfz21_2 := blk_frozen BK127.out 2; have hfz21_3 := blk_frozen BK127.out 3; have hfz21_4 := blk_frozen BK127.out 4; have hfz21_5 := blk_frozen BK127.out 5; have hfz21_6 := blk_frozen BK127.out 6; have hfz21_7 := blk_frozen BK127.out 7; have hfz21_8 := blk_frozen BK127.out 8; have hfz21_9 := blk_frozen BK127.out 9) | ((with_reducible refine gate_callee (f := 10) rfl ?_); refine goesL_ (some 19) rfl rfl Try.func10 (by kernel_rfl) rfl #[.agg #[.int .i64 ((rd_T25 l0 x12_1).f0), .int .i64 ((rd_T25 l0 x12_1).f1), .int .i64 ((rd_T25 l0 x12_1).f2), .int .u32 ((rd_T25 l0 x12_1).f3), .int .u32 ((rd_T25 l0 x12_1).f4), .int .u32 ((rd_T25 l0 x12_1).f5), .int .u32 ((rd_T25 l0 x12_1).f6), .int .u32 ((rd_T25 l0 x12_1).f7), .int .u32 ((rd_T25 l0 x12_1).f8), .int .u32 ((rd_T25 l0 x12_1).f9)], .agg #[.int .i64 a1_0, .int .i64 a1_1, .int .i64 a1_2, .int .u32 a1_3, .int .u32 a1_4, .int .u32 a1_5, .int .u32 a1_6, .int .u32 a1_7, .int .u32 a1_8, .int .u32 a1_9], .int .i64 a2] rfl (by (try simp only [List.map_toArray, List.map_cons, List.map_nil]); first | done | rfl | (simp only [List.length_drop, List.length_take]; rfl)) ?_; (with_reducible refine (log_Fits.calls ((rd_T25 l0 x12_1).f0) ((rd_T25 l0 x12_1).f1) ((rd_T25 l0 x12_1).f2) ((rd_T25 l0 x12_1).f3) ((rd_T25 l0 x12_1).f4) ((rd_T25 l0 x12_1).f5) ((rd_T25 l0 x12_1).f6) ((rd_T25 l0 x12_1).f7) ((rd_T25 l0 x12_1).f8) ((rd_T25 l0 x12_1).f9) a1_0 a1_1 a1_2 a1_3 a1_4 a1_5 a1_6 a1_7 a1_8 a1_9 a2 false _ A8.out).mono ?_); rintro e w22 ⟨rfl, hb⟩; refine ⟨_, rfl, ?_⟩; have n0_ := Aside0.mk (Kd.R_below (by (with_reducible repeat (first | apply Kd.R_alloc | apply Kd.R_drewN | apply Kd.R_drew)); exact (Kd.R_mono (Kd.R_far (p := ⟨gb129, 9, none⟩) (Kd.R_far (p := ⟨gb129, 8, none⟩) (Kd.R_far (p := ⟨gb129, 7, none⟩) (Kd.R_far (p := ⟨gb129, 6, none⟩) (Kd.R_far (p := ⟨gb129, 5, none⟩) (Kd.R_far (p := ⟨gb129, 4, none⟩) (Kd.R_far (p := ⟨gb129, 3, none⟩) (Kd.R_far (p := ⟨gb129, 2, none⟩) (Kd.R_far (p := ⟨gb129, 1, none⟩) (Kd.R_far (p := ⟨gb129, 0, none⟩) (Kd.R_mono HO_7.out (fun k_ hk => (⟨hk, hk.2⟩ : _ ∧ k_ ≠ gb129))) (fun _ hk => hk.2) (.int .i64 ((rd_T25 l0 x12_1).f0))) (fun _ hk => hk.2) (.int .i64 ((rd_T25 l0 x12_1).f1))) (fun _ hk => hk.2) (.int .i64 ((rd_T25 l0 x12_1).f2))) (fun _ hk => hk.2) (.int .u32 ((rd_T25 l0 x12_1).f3))) (fun _ hk => hk.2) (.int .u32 ((rd_T25 l0 x12_1).f4))) (fun _ hk => hk.2) (.int .u32 ((rd_T25 l0 x12_1).f5))) (fun _ hk => hk.2) (.int .u32 ((rd_T25 l0 x12_1).f6))) (fun _ hk => hk.2) (.int .u32 ((rd_T25 l0 x12_1).f7))) (fun _ hk => hk.2) (.int .u32 ((rd_T25 l0 x12_1).f8))) (fun _ hk => hk.2) (.int .u32 ((rd_T25 l0 x12_1).f9))) (fun _ h_ => h_.1))) hb); have n1_ := Aside0.mk (blk_below (g := gb127) (o := .cells #[.int .i64 a1_0, .int .i64 a1_1, .int .i64 a1_2, .int .u32 a1_3, .int .u32 a1_4, .int .u32 a1_5, .int .u32 a1_6, .int .u32 a1_7, .int .u32 a1_8, .int .u32 a1_9] 25 (0, 0)) (by (with_reducible repeat (first | refine blk_drewN ?_ _ | refine blk_drew ?_ | refine blk_alloc ?_ _)); refine blk_far ?_ NB127_129.out _; (with_reducible repeat (first | refine blk_drewN ?_ _ | refine blk_drew ?_ | refine blk_alloc ?_ _)); refine blk_far ?_ NB127_129.out _; (with_reducible repeat (first | refine blk_drewN ?_ _ | refine blk_drew ?_ | refine blk_alloc ?_ _)); refine blk_far ?_ NB127_129.out _; (with_reducible repeat (first | refine blk_drewN ?_ _ | refine blk_drew ?_ | refine blk_alloc ?_ _)); refine blk_far ?_ NB127_129.out _; (with_reducible repeat (first | refine blk_drewN ?_ _ | refine blk_drew ?_ | refine blk_alloc ?_ _)); refine blk_far ?_ NB127_129.out _; (with_reducible repeat (first | refine blk_drewN ?_ _ | refine blk_drew ?_ | refine blk_alloc ?_ _)); refine blk_far ?_ NB127_129.out _; (with_reducible repeat (first | refine blk_drewN ?_ _ | refine blk_drew ?_ | refine blk_alloc ?_ _)); refine blk_far ?_ NB127_129.out _; (with_reducible repeat (first | refine blk_drewN ?_ _ | refine blk_drew ?_ | refine blk_alloc ?_ _)); refine blk_far ?_ NB127_129.out _; (with_reducible repeat (first | refine blk_drewN ?_ _ | refine blk_drew ?_ | refine blk_alloc ?_ _)); refine blk_far ?_ NB127_129.out _; (with_reducible repeat (first | refine blk_drewN ?_ _ | refine blk_drew ?_ | refine blk_alloc ?_ _)); refine blk_far ?_ NB127_129.out _; (with_reducible repeat (first | refine blk_drewN ?_ _ | refine blk_drew ?_ | refine blk_alloc ?_ _)); exact BK127.out) hb); have n2_ := Aside0.mk (blk_below (g := gb129) (o := .cells #[.int .i64 ((rd_T25 l0 x12_1).f0), .int .i64 ((rd_T25 l0 x12_1).f1), .int .i64 ((rd_T25 l0 x12_1).f2), .int .u32 ((rd_T25 l0 x12_1).f3), .int .u32 ((rd_T25 l0 x12_1).f4), .int .u32 ((rd_T25 l0 x12_1).f5), .int .u32 ((rd_T25 l0 x12_1).f6), .int .u32 ((rd_T25 l0 x12_1).f7), .int .u32 ((rd_T25 l0 x12_1).f8), .int .u32 ((rd_T25 l0 x12_1).f9)] 25 (0, 0)) (by (with_reducible repeat (first | refine blk_drewN ?_ _ | refine blk_drew ?_ | refine blk_alloc ?_ _)); refine blk_put (cs := #[.int .i64 ((rd_T25 l0 x12_1).f0), .int .i64 ((rd_T25 l0 x12_1).f1), .int .i64 ((rd_T25 l0 x12_1).f2), .int .u32 ((rd_T25 l0 x12_1).f3), .int .u32 ((rd_T25 l0 x12_1).f4), .int .u32 ((rd_T25 l0 x12_1).f5), .int .u32 ((rd_T25 l0 x12_1).f6), .int .u32 ((rd_T25 l0 x12_1).f7), .int .u32 ((rd_T25 l0 x12_1).f8), .int .u32 0]) ?_ 9 _ rfl; (with_reducible repeat (first | refine blk_drewN ?_ _ | refine blk_drew ?_ | refine blk_alloc ?_ _)); refine blk_put (cs := #[.int .i64 ((rd_T25 l0 x12_1).f0), .int .i64 ((rd_T25 l0 x12_1).f1), .int .i64 ((rd_T25 l0 x12_1).f2), .int .u32 ((rd_T25 l0 x12_1).f3), .int .u32 ((rd_T25 l0 x12_1).f4), .int .u32 ((rd_T25 l0 x12_1).f5), .int .u32 ((rd_T25 l0 x12_1).f6), .int .u32 ((rd_T25 l0 x12_1).f7), .int .u32 0, .int .u32 0]) ?_ 8 _ rfl; (with_reducible repeat (first | refine blk_drewN ?_ _ | refine blk_drew ?_ | refine blk_alloc ?_ _)); refine blk_put (cs := #[.int .i64 ((rd_T25 l0 x12_1).f0), .int .i64 ((rd_T25 l0 x12_1).f1), .int .i64 ((rd_T25 l0 x12_1).f2), .int .u32 ((rd_T25 l0 x12_1).f3), .int .u32 ((rd_T25 l0 x12_1).f4), .int .u32 ((rd_T25 l0 x12_1).f5), .int .u32 ((rd_T25 l0 x12_1).f6), .int .u32 0, .int .u32 0, .int .u32 0]) ?_ 7 _ rfl; (with_reducible repeat (first | refine blk_drewN ?_ _ | refine blk_drew ?_ | refine blk_alloc ?_ _)); refine blk_put (cs := #[.int .i64 ((rd_T25 l0 x12_1).f0), .int .i64 ((rd_T25 l0 x12_1).f1), .int .i64 ((rd_T25 l0 x12_1).f2), .int .u32 ((rd_T25 l0 x12_1).f3), .int .u32 ((rd_T25 l0 x12_1).f4), .int .u32 ((rd_T25 l0 x12_1).f5), .int .u32 0, .int .u32 0, .int .u32 0, .int .u32 0]) ?_ 6 _ rfl; (with_reducible repeat (first | refine blk_drewN ?_ _ | refine blk_drew ?_ | refine blk_alloc ?_ _)); refine blk_put (cs := #[.int .i64 ((rd_T25 l0 x12_1).f0), .int .i64 ((rd_T25 l0 x12_1).f1), .int .i64 ((rd_T25 l0 x12_1).f2), .int .u32 ((rd_T25 l0 x12_1).f3), .int .u32 ((rd_T25 l0 x12_1).f4), .int .u32 0, .int .u32 0, .int .u32 0, .int .u32 0, .int .u32 0]) ?_ 5 _ rfl; (with_reducible repeat (first | refine blk_drewN ?_ _ | refine blk_drew ?_ | refine blk_alloc ?_ _)); refine blk_put (cs := #[.int .i64 ((rd_T25 l0 x12_1).f0), .int .i64 ((rd_T25 l0 x12_1).f1), .int .i64 ((rd_T25 l0 x12_1).f2), .int .u32 ((rd_T25 l0 x12_1).f3), .int .u32 0, .int .u32 0, .int .u32 0, .int .u32 0, .int .u32 0, .int .u32 0]) ?_ 4 _ rfl; (with_reducible repeat (first | refine blk_drewN ?_ _ | refine blk_drew ?_ | refine blk_alloc ?_ _)); refine blk_put (cs := #[.int .i64 ((rd_T25 l0 x12_1).f0), .int .i64 ((rd_T25 l0 x12_1).f1), .int .i64 ((rd_T25 l0 x12_1).f2), .int .u32 0, .int .u32 0, .int .u32 0, .int .u32 0, .int .u32 0, .int .u32 0, .int .u32 0]) ?_ 3 _ rfl; (with_reducible repeat (first | refine blk_drewN ?_ _ | refine blk_drew ?_ | refine blk_alloc ?_ _)); refine blk_put (cs := #[.int .i64 ((rd_T25 l0 x12_1).f0), .int .i64 ((rd_T25 l0 x12_1).f1), .int .i64 0, .int .u32 0, .int .u32 0, .int .u32 0, .int .u32 0, .int .u32 0, .int .u32 0, .int .u32 0]) ?_ 2 _ rfl; (with_reducible repeat (first | refine blk_drewN ?_ _ | refine blk_drew ?_ | refine blk_alloc ?_ _)); refine blk_put (cs := #[.int .i64 ((rd_T25 l0 x12_1).f0), .int .i64 0, .int .i64 0, .int .u32 0, .int .u32 0, .int .u32 0, .int .u32 0, .int .u32 0, .int .u32 0, .int .u32 0]) ?_ 1 _ rfl; (with_reducible repeat (first | refine blk_drewN ?_ _ | refine blk_drew ?_ | refine blk_alloc ?_ _)); refine blk_put (cs := #[.int .i64 0, .int .i64 0, .int .i64 0, .int .u32 0, .int .u32 0, .int .u32 0, .int .u32 0, .int .u32 0, .int .u32 0, .int .u32 0]) ?_ 0 _ rfl; (with_reducible repeat (first | refine blk_drewN ?_ _ | refine blk_drew ?_ | refine blk_alloc ?_ _)); exact BK129.out) hb); have n3_ := Aside0.mk (below_step (by repeat (first | (with_reducible first | exact HB.out | apply below_alloc | apply pw_below_drewN | apply below_drew1 | refine below_set ?_ GE127.out | refine below_set ?_ GE129.out) | exact HB.out)) hb); clear HO_7; clear BK127; clear BK129; clear HB; have HO_7 := n0_; have BK127 := n1_; have BK129 := n2_; have HB := n3_; clear n0_ n1_ n2_ n3_; (try clear hb); (try clear hb2); (try clear hk); (try clear hi)))
              go_roundg k1
              case measure => have := HK1.out; omega
              case rel => exact ⟨(x7_1), (wrap64 (x12_1 + 1)), (by first | rfl | (simp; done) | (simp [*]; done)), H', ⟨by have := HK1.out; omega⟩, ⟨by (with_reducible repeat (first | apply Kd.R_alloc | apply Kd.R_drewN | apply Kd.R_drew)); exact Kd.R_mono HO_7.out (fun _ hk => hk.1)⟩, ⟨by (with_reducible repeat (first | refine blk_drewN ?_ _ | refine blk_drew ?_ | refine blk_alloc ?_ _)); exact BK127.out⟩, ⟨by repeat (first | (with_reducible first | exact HB.out | apply below_alloc | apply pw_below_drewN | apply below_drew1 | refine below_set ?_ GE127.out | refine below_set ?_ GE129.out) | exact HB.out)⟩⟩
          · rw [if_neg c7] at H
            exact absurd H (by simp)
        · rw [if_neg c6] at H
          exact absurd H (by simp)
      · rw [if_neg c5] at H
        have c5b0 : decide (x12_1 < (l0.length : Int)) = false := decide_eq_false c5
        clear c5
        obtain rfl := Option.some.inj H
        go_wp2
        go_ret
        exact ⟨_, by first | rfl | (simp [errW_none, errW_some] <;> rfl) | (simp [*, errW_none, errW_some] <;> rfl), by (with_reducible repeat (first | apply Kd.R_alloc | apply Kd.R_drewN | apply Kd.R_drew)); exact Kd.R_mono HO_7.out (fun _ hk => trivial), by repeat (first | (with_reducible first | exact HB.out | apply below_alloc | apply pw_below_drewN | apply below_drew1 | refine below_set ?_ GE127.out) | exact HB.out)⟩

end Go.Proofs.Ytmmpiblmggkghaa.PLogLess
