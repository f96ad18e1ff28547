-- Written for this claim by wip/tools/myprint.py (print.py's forms; proofs of the faked functions by hand).
import Derived.Test.YtlgbahgddpggfaaPPeopleNewsx0
import Derived.Test.YtlgbahgddpggfaaPPeopleNewsx2
import Derived.Test.YtlgbahgddpggfaaPPeopleNewsx3
import Derived.Test.YtlgbahgddpggfaaPPeopleNewsx4
namespace Go.Proofs.Ytlgbahgddpggfaa.PPeopleNews
open Go.RowKit Go.Proofs.YtlgbahgddpggfaaW.PrintWords Go.Proofs.YtlgbahgddpggfaaW.PrintLast Go.Proofs.YtlgbahgddpggfaaW.PrintMore
attribute [local go_sem] max2_int min2_int max_two min_two max_three min_three max_four min_four   -- for this text's walks alone
set_option linter.unusedVariables false
set_option linter.unusedSimpArgs false

/-! ### chamberlainref10_Same: function 15 -/
def chamberlainref10_Same.l0 : Nat → List (S39) → List (S39) → Int → Option (Bool)
  | 0, _, _, _ => none
  | k + 1, x0, x1, x5 => if x5 < (x0.length : Int) then (if 0 ≤ x5 then (if x5 < (x1.length : Int) then ((chamberlainref10_One.f k ((rd_T39 x0 x5).f0) ((rd_T39 x0 x5).f1) ((rd_T39 x0 x5).f2) ((rd_T39 x0 x5).f3) ((rd_T39 x0 x5).f4) ((rd_T39 x0 x5).f5) ((rd_T39 x1 x5).f0) ((rd_T39 x1 x5).f1) ((rd_T39 x1 x5).f2) ((rd_T39 x1 x5).f3) ((rd_T39 x1 x5).f4) ((rd_T39 x1 x5).f5)).bind fun t253 => (if t253 = true then (chamberlainref10_Same.l0 k x0 x1 (wrap64 (x5 + 1))) else (some false))) else (none)) else (none)) else (some true)
def chamberlainref10_Same.f (k : Nat) (l0 : List (S39)) (l1 : List (S39)) : Option (Bool) := if (l0.length : Int) = (l1.length : Int) then (chamberlainref10_Same.l0 k l0 l1 0) else (some false)
theorem chamberlainref10_Same.mono_l : ∀ k, (∀ y0 y1 y2, LeO (chamberlainref10_Same.l0 k y0 y1 y2) (chamberlainref10_Same.l0 (k + 1) y0 y1 y2))
  | 0 => fun _ _ _ r h => by simp [chamberlainref10_Same.l0] at h
  | k + 1 => by
    have ih0 := chamberlainref10_Same.mono_l k
    · intro y0 y1 y2
      unfold chamberlainref10_Same.l0
      repeat' first
      | (with_reducible exact ih0 _ _ _)
      | (with_reducible exact chamberlainref10_One.mono _ _ _ _ _ _ _ _ _ _ _ _ _)
      | (with_reducible exact LeO.refl _)
      | (with_reducible exact LeO.none _)
      | (with_reducible refine LeO.ite ?_ ?_)
      | (with_reducible refine LeO.bind ?_ (fun _ => ?_))
      | exact ih0 _ _ _
      | exact chamberlainref10_One.mono _ _ _ _ _ _ _ _ _ _ _ _ _
      | exact LeO.none _
      | refine LeO.ite ?_ ?_
      | refine LeO.bind ?_ (fun _ => ?_)
theorem chamberlainref10_Same.mono : ∀ a0 a1 k, LeO (chamberlainref10_Same.f k a0 a1) (chamberlainref10_Same.f (k + 1) a0 a1) := by
  intro a0 a1 k
  have ih0 := chamberlainref10_Same.mono_l k
  unfold chamberlainref10_Same.f
  repeat' first
      | (with_reducible exact ih0 _ _ _)
      | (with_reducible exact chamberlainref10_One.mono _ _ _ _ _ _ _ _ _ _ _ _ _)
      | (with_reducible exact LeO.refl _)
      | (with_reducible exact LeO.none _)
      | (with_reducible refine LeO.ite ?_ ?_)
      | (with_reducible refine LeO.bind ?_ (fun _ => ?_))
      | exact ih0 _ _ _
      | exact chamberlainref10_One.mono _ _ _ _ _ _ _ _ _ _ _ _ _
      | exact LeO.none _
      | refine LeO.ite ?_ ?_
      | refine LeO.bind ?_ (fun _ => ?_)
def chamberlainref10_Same.T6 : Bool × List (List Nat × List Nat) := (true, [([], []), ([], []), ([0, 1], [0, 1]), ([2], [2]), ([], []), ([], []), ([4, 5], [4, 5]), ([6], [6]), ([3, 7], [3, 7]), ([8], [8])])
def chamberlainref10_Same.B6 : List Nat := [0, 0, 3, 7, 0, 0, 48, 112, 255, 511]
theorem chamberlainref10_Same.tab6 : rtab .any (opsOf Try.f15 6) = chamberlainref10_Same.T6 := by kernel_rfl
theorem chamberlainref10_Same.bits6 : waitsOk chamberlainref10_Same.T6.2 chamberlainref10_Same.B6 = true := by kernel_rfl
set_option maxHeartbeats 8000000 in
set_option maxRecDepth 100000 in
theorem chamberlainref10_Same.calls (k : Nat) (A0 : Option Addr) (c0 : Nat) (l0 : List (S39)) (A1 : Option Addr) (c1 : Nat) (l1 : List (S39)) (r : Bool) (w : World) (hr0 : Kd.C k39 w A0 l0.length l0) (hc0 : l0.length ≤ c0) (hr1 : Kd.C k39 w A1 l1.length l1) (hc1 : l1.length ≤ c1) (h : chamberlainref10_Same.f k l0 l1 = some r) :
    Calls Try.prog 15 #[.slice A0 l0.length c0, .slice A1 l1.length c1] w fun e w' => e = .returned (.bool r) ∧ Below w.heap.size w w' := by
  have hu39 := Try.underlying39
  have HR0 := Aside0.mk hr0
  have HC0 := Aside0.mk hc0
  clear hr0 hc0
  have HR1 := Aside0.mk hr1
  have HC1 := Aside0.mk hc1
  clear hr1 hc1
  have HB := Aside0.mk (Below.refl w.heap.size w)
  have H : (if (l0.length : Int) = (l1.length : Int) then (chamberlainref10_Same.l0 k l0 l1 0) else (some false)) = some r := h
  clear h
  by_cases c3 : (l0.length : Int) = (l1.length : Int)
  · rw [if_pos c3] at H
    have c3b0 : ((l0.length : Int) == (l1.length : Int)) = true := beq_iff_eq.mpr c3
    have c3b1 : ((l0.length : Int) != (l1.length : Int)) = false := bne_eq_false_iff_eq.mpr c3
    have c3b2 : (l0.length == l1.length) = true := by first | simpa using c3 | (simp at c3 ⊢; omega)
    clear c3
    have H' := Aside0.mk H
    clear H
    go_enter Try.func15, Try.ntmps15
    go_wp2
    go_loopg [5] k (fun kq v5 w' => ∃ (x5_1 : Int), v5 = .int .i64 x5_1 ∧ Aside0 (chamberlainref10_Same.l0 kq l0 l1 x5_1 = some r) ∧ Aside0 (kq ≤ k) ∧ Aside0 (Below w.heap.size w w'))
    case atStart => exact ⟨(0), (by first | rfl | (simp; done) | (simp [*]; done)), H', ⟨Nat.le_refl _⟩, ⟨by repeat (first | (with_reducible first | exact HB.out | apply below_alloc | apply pw_below_drewN | apply below_drew1) | exact HB.out)⟩⟩
    case round =>
      clear H'
      try clear c1
      try clear p2
      try clear c3
      try clear c3b0
      try clear c3b1
      try clear c3b2
      obtain ⟨x5_1, rfl, HA, HK1, HB⟩ := hrel
      cases gk with
      | zero => exact absurd HA.out (by simp [chamberlainref10_Same.l0])
      | succ k1 =>
        have H := HA.out
        clear HA
        simp only [chamberlainref10_Same.l0] at H
        by_cases c4 : x5_1 < (l0.length : Int)
        · rw [if_pos c4] at H
          have c4b0 : decide (x5_1 < (l0.length : Int)) = true := decide_eq_true c4
          clear c4
          by_cases c5 : 0 ≤ x5_1
          · rw [if_pos c5] at H
            have c5b0 : decide (0 ≤ x5_1) = true := decide_eq_true c5
            clear c5
            by_cases c6 : x5_1 < (l1.length : Int)
            · rw [if_pos c6] at H
              have c6b0 : decide (x5_1 < (l1.length : Int)) = true := decide_eq_true c6
              clear c6
              replace H := Option.bind_eq_some_iff.mp H
              obtain ⟨t253, A70, H⟩ := H
              replace H : (if t253 = true then (chamberlainref10_Same.l0 k1 l0 l1 (wrap64 (x5_1 + 1))) else (some false)) = some r := H
              have A7 := Aside0.mk A70
              clear A70
              by_cases c8 : t253 = true
              · subst c8
                have H1 : (chamberlainref10_Same.l0 k1 l0 l1 (wrap64 (x5_1 + 1))) = some r := by rw [if_pos rfl] at H; exact H
                clear H
                have H := H1
                clear H1
                have H' := Aside0.mk H
                clear H
                try go_wp2
                have n0_ := Aside0.mk (below_drew1 HB.out)
                clear HB
                have HB := n0_
                clear n0_
                have p251 : 0 ≤ (x5_1 : Int) := of_decide_eq_true (by first | (with_reducible assumption) | assumption)
                have q251 : x5_1 < (l0.length : Int) := of_decide_eq_true (by first | (with_reducible assumption) | assumption)
                obtain ⟨ad251, A251_3, c251_3, A251_4, c251_4, e251, hx251_0, hx251_1, hx251_2, hx251_3, hx251_4, hx251_5, hl251_3, hi251_3, hl251_4, hi251_4⟩ := at_T39 HR0.out x5_1 p251 q251
                have hw251_5 := hx251_5
                have hw251_4 := hx251_4
                have hw251_3 := hx251_3
                have hw251_2 := hx251_2
                have hw251_1 := hx251_1
                have hw251_0 := hx251_0
                cases e251
                replace hx251_0 := (HB.out.cell (World.block_lt_of_cell? w _ hx251_0)).trans hx251_0
                replace hx251_1 := (HB.out.cell (World.block_lt_of_cell? w _ hx251_1)).trans hx251_1
                replace hx251_2 := (HB.out.cell (World.block_lt_of_cell? w _ hx251_2)).trans hx251_2
                replace hx251_3 := (HB.out.cell (World.block_lt_of_cell? w _ hx251_3)).trans hx251_3
                replace hx251_4 := (HB.out.cell (World.block_lt_of_cell? w _ hx251_4)).trans hx251_4
                replace hx251_5 := (HB.out.cell (World.block_lt_of_cell? w _ hx251_5)).trans hx251_5
                have HR251_3 := Aside0.mk hi251_3
                have HC251_3 := Aside0.mk hl251_3
                clear hi251_3 hl251_3
                have HR251_4 := Aside0.mk hi251_4
                have HC251_4 := Aside0.mk hl251_4
                clear hi251_4 hl251_4
                replace p251 := eq_true p251
                replace q251 := eq_true q251
                have p252 : 0 ≤ (x5_1 : Int) := of_decide_eq_true (by first | (with_reducible assumption) | assumption)
                have q252 : x5_1 < (l1.length : Int) := of_decide_eq_true (by first | (with_reducible assumption) | assumption)
                obtain ⟨ad252, A252_3, c252_3, A252_4, c252_4, e252, hx252_0, hx252_1, hx252_2, hx252_3, hx252_4, hx252_5, hl252_3, hi252_3, hl252_4, hi252_4⟩ := at_T39 HR1.out x5_1 p252 q252
                have hw252_5 := hx252_5
                have hw252_4 := hx252_4
                have hw252_3 := hx252_3
                have hw252_2 := hx252_2
                have hw252_1 := hx252_1
                have hw252_0 := hx252_0
                cases e252
                replace hx252_0 := (HB.out.cell (World.block_lt_of_cell? w _ hx252_0)).trans hx252_0
                replace hx252_1 := (HB.out.cell (World.block_lt_of_cell? w _ hx252_1)).trans hx252_1
                replace hx252_2 := (HB.out.cell (World.block_lt_of_cell? w _ hx252_2)).trans hx252_2
                replace hx252_3 := (HB.out.cell (World.block_lt_of_cell? w _ hx252_3)).trans hx252_3
                replace hx252_4 := (HB.out.cell (World.block_lt_of_cell? w _ hx252_4)).trans hx252_4
                replace hx252_5 := (HB.out.cell (World.block_lt_of_cell? w _ hx252_5)).trans hx252_5
                have HR252_3 := Aside0.mk hi252_3
                have HC252_3 := Aside0.mk hl252_3
                clear hi252_3 hl252_3
                have HR252_4 := Aside0.mk hi252_4
                have HC252_4 := Aside0.mk hl252_4
                clear hi252_4 hl252_4
                replace p252 := eq_true p252
                replace q252 := eq_true q252
                refine start_ (n := 10) (S := fun w' => w'.cell? (ad251.add ((x5_1).toNat * 6)) = some (.int .u32 ((rd_T39 l0 x5_1).f0)) ∧ w'.cell? ⟨(ad251.add ((x5_1).toNat * 6)).block, (ad251.add ((x5_1).toNat * 6)).off + 1, none⟩ = some (.int .u32 ((rd_T39 l0 x5_1).f1)) ∧ w'.cell? ⟨(ad251.add ((x5_1).toNat * 6)).block, (ad251.add ((x5_1).toNat * 6)).off + 2, none⟩ = some (.int .u32 ((rd_T39 l0 x5_1).f2)) ∧ w'.cell? ⟨(ad251.add ((x5_1).toNat * 6)).block, (ad251.add ((x5_1).toNat * 6)).off + 3, none⟩ = some (.slice A251_3 ((rd_T39 l0 x5_1).f3).length c251_3) ∧ w'.cell? ⟨(ad251.add ((x5_1).toNat * 6)).block, (ad251.add ((x5_1).toNat * 6)).off + 4, none⟩ = some (.slice A251_4 ((rd_T39 l0 x5_1).f4).length c251_4) ∧ w'.cell? ⟨(ad251.add ((x5_1).toNat * 6)).block, (ad251.add ((x5_1).toNat * 6)).off + 5, none⟩ = some (.bool ((rd_T39 l0 x5_1).f5)) ∧ w'.cell? (ad252.add ((x5_1).toNat * 6)) = some (.int .u32 ((rd_T39 l1 x5_1).f0)) ∧ w'.cell? ⟨(ad252.add ((x5_1).toNat * 6)).block, (ad252.add ((x5_1).toNat * 6)).off + 1, none⟩ = some (.int .u32 ((rd_T39 l1 x5_1).f1)) ∧ w'.cell? ⟨(ad252.add ((x5_1).toNat * 6)).block, (ad252.add ((x5_1).toNat * 6)).off + 2, none⟩ = some (.int .u32 ((rd_T39 l1 x5_1).f2)) ∧ w'.cell? ⟨(ad252.add ((x5_1).toNat * 6)).block, (ad252.add ((x5_1).toNat * 6)).off + 3, none⟩ = some (.slice A252_3 ((rd_T39 l1 x5_1).f3).length c252_3) ∧ w'.cell? ⟨(ad252.add ((x5_1).toNat * 6)).block, (ad252.add ((x5_1).toNat * 6)).off + 4, none⟩ = some (.slice A252_4 ((rd_T39 l1 x5_1).f4).length c252_4) ∧ w'.cell? ⟨(ad252.add ((x5_1).toNat * 6)).block, (ad252.add ((x5_1).toNat * 6)).off + 5, none⟩ = some (.bool ((rd_T39 l1 x5_1).f5))) (ds := []) #[false, false, false, false, false, false, false, false, false, false] (by kernel_rfl) rfl rfl ⟨((HB.out.cell (World.block_lt_of_cell? w _ hw251_0)).trans hw251_0), ((HB.out.cell (World.block_lt_of_cell? w _ hw251_1)).trans hw251_1), ((HB.out.cell (World.block_lt_of_cell? w _ hw251_2)).trans hw251_2), ((HB.out.cell (World.block_lt_of_cell? w _ hw251_3)).trans hw251_3), ((HB.out.cell (World.block_lt_of_cell? w _ hw251_4)).trans hw251_4), ((HB.out.cell (World.block_lt_of_cell? w _ hw251_5)).trans hw251_5), ((HB.out.cell (World.block_lt_of_cell? w _ hw252_0)).trans hw252_0), ((HB.out.cell (World.block_lt_of_cell? w _ hw252_1)).trans hw252_1), ((HB.out.cell (World.block_lt_of_cell? w _ hw252_2)).trans hw252_2), ((HB.out.cell (World.block_lt_of_cell? w _ hw252_3)).trans hw252_3), ((HB.out.cell (World.block_lt_of_cell? w _ hw252_4)).trans hw252_4), ((HB.out.cell (World.block_lt_of_cell? w _ hw252_5)).trans hw252_5)⟩ (fun hHeld => ?_); refine with_tabW chamberlainref10_Same.tab6 chamberlainref10_Same.bits6 (fun HT_ HW_ => ?_)
                generalize wr.drew = w9 at HB HR251_3 HR251_4 HR252_3 HR252_4 hx251_0 hx251_1 hx251_2 hx251_3 hx251_4 hx251_5 hx252_0 hx252_1 hx252_2 hx252_3 hx252_4 hx252_5 hHeld ⊢
                refine pure_ (i := 0) (N := some 17) (v := ?_) (a' := ?_) #[true, false, false, false, false, false, false, false, false, false] rfl rfl (any_of HT_.out (by kernel_rfl)) (fun _ _ _ h => h) (Or.inl ⟨by rfl, ?_⟩) ?_ ?_
                rotate_left
                · intro w'
                  go_simp
                  with_reducible rfl
                rotate_left
                · simp only [Act.put, List.setIfInBounds_toArray, List.set_cons_zero, List.set_cons_succ, i64_w, i32_w]
                  rfl
                refine pure_ (i := 1) (N := some 18) (v := ?_) (a' := ?_) #[true, true, false, false, false, false, false, false, false, false] rfl rfl (any_of HT_.out (by kernel_rfl)) (fun _ _ _ h => h) (Or.inl ⟨by rfl, ?_⟩) ?_ ?_
                rotate_left
                · intro w'
                  go_simp
                  with_reducible rfl
                rotate_left
                · simp only [Act.put, List.setIfInBounds_toArray, List.set_cons_zero, List.set_cons_succ, i64_w, i32_w]
                  rfl
                refine pure_ (i := 2) (N := some 19) (v := ?_) (a' := ?_) #[true, true, true, false, false, false, false, false, false, false] rfl rfl (any_of HT_.out (by kernel_rfl)) (fun _ _ _ h => h) (Or.inl ⟨by rfl, ?_⟩) ?_ ?_
                rotate_left
                · intro w'
                  go_simp
                  with_reducible rfl
                rotate_left
                · simp only [Act.put, List.setIfInBounds_toArray, List.set_cons_zero, List.set_cons_succ, i64_w, i32_w]
                  rfl
                refine pure_ (i := 4) (N := some 21) (v := ?_) (a' := ?_) #[true, true, true, false, true, false, false, false, false, false] rfl rfl (any_of HT_.out (by kernel_rfl)) (fun _ _ _ h => h) (Or.inl ⟨by rfl, ?_⟩) ?_ ?_
                rotate_left
                · intro w'
                  go_simp
                  with_reducible rfl
                rotate_left
                · simp only [Act.put, List.setIfInBounds_toArray, List.set_cons_zero, List.set_cons_succ, i64_w, i32_w]
                  rfl
                refine pure_ (i := 5) (N := some 22) (v := ?_) (a' := ?_) #[true, true, true, false, true, true, false, false, false, false] rfl rfl (any_of HT_.out (by kernel_rfl)) (fun _ _ _ h => h) (Or.inl ⟨by rfl, ?_⟩) ?_ ?_
                rotate_left
                · intro w'
                  go_simp
                  with_reducible rfl
                rotate_left
                · simp only [Act.put, List.setIfInBounds_toArray, List.set_cons_zero, List.set_cons_succ, i64_w, i32_w]
                  rfl
                refine pure_ (i := 6) (N := some 23) (v := ?_) (a' := ?_) #[true, true, true, false, true, true, true, false, false, false] rfl rfl (any_of HT_.out (by kernel_rfl)) (fun _ _ _ h => h) (Or.inl ⟨by rfl, ?_⟩) ?_ ?_
                rotate_left
                · intro w'
                  go_simp
                  with_reducible rfl
                rotate_left
                · simp only [Act.put, List.setIfInBounds_toArray, List.set_cons_zero, List.set_cons_succ, i64_w, i32_w]
                  rfl
                refine take_ (i := 3) (N := some 20) (v := ?_) (a' := ?_) #[true, true, true, true, true, true, true, false, false, false] rfl rfl (take_ofW HT_.out HW_.out (by kernel_rfl)) (fun _ _ _ h => h) (Or.inl ⟨by rfl, ?_⟩) hHeld ?_ ?_
                rotate_left
                · rintro w' ⟨s0, s1, s2, s3, s4, s5, s6, s7, s8, s9, s10, s11⟩
                  go_simp
                  with_reducible rfl
                rotate_left
                · simp only [Act.put, List.setIfInBounds_toArray, List.set_cons_zero, List.set_cons_succ, i64_w, i32_w]
                  rfl
                refine take_ (i := 7) (N := some 24) (v := ?_) (a' := ?_) #[true, true, true, true, true, true, true, true, false, false] rfl rfl (take_ofW HT_.out HW_.out (by kernel_rfl)) (fun _ _ _ h => h) (Or.inl ⟨by rfl, ?_⟩) hHeld ?_ ?_
                rotate_left
                · rintro w' ⟨s0, s1, s2, s3, s4, s5, s6, s7, s8, s9, s10, s11⟩
                  go_simp
                  with_reducible rfl
                rotate_left
                · simp only [Act.put, List.setIfInBounds_toArray, List.set_cons_zero, List.set_cons_succ, i64_w, i32_w]
                  rfl
                refine one_ (i := 8) (N := some 25) #[true, true, true, true, true, true, true, true, true, false] rfl rfl (one_of HT_.out (by kernel_rfl)) (by decide) (fun K hK => ?_)
                refine goes_ Try.func20 (by kernel_rfl) rfl #[.agg #[.int .u32 ((rd_T39 l0 x5_1).f0), .int .u32 ((rd_T39 l0 x5_1).f1), .int .u32 ((rd_T39 l0 x5_1).f2), .slice A251_3 ((rd_T39 l0 x5_1).f3).length c251_3, .slice A251_4 ((rd_T39 l0 x5_1).f4).length c251_4, .bool ((rd_T39 l0 x5_1).f5)], .agg #[.int .u32 ((rd_T39 l1 x5_1).f0), .int .u32 ((rd_T39 l1 x5_1).f1), .int .u32 ((rd_T39 l1 x5_1).f2), .slice A252_3 ((rd_T39 l1 x5_1).f3).length c252_3, .slice A252_4 ((rd_T39 l1 x5_1).f4).length c252_4, .bool ((rd_T39 l1 x5_1).f5)]] (by rfl) rfl rfl (by (try simp only [List.map_toArray, List.map_cons, List.map_nil]); first | done | rfl | (simp only [List.length_drop, List.length_take]; rfl)) ?_
                with_reducible refine (chamberlainref10_One.calls k1 ((rd_T39 l0 x5_1).f0) ((rd_T39 l0 x5_1).f1) ((rd_T39 l0 x5_1).f2) _ _ ((rd_T39 l0 x5_1).f3) _ _ ((rd_T39 l0 x5_1).f4) ((rd_T39 l0 x5_1).f5) ((rd_T39 l1 x5_1).f0) ((rd_T39 l1 x5_1).f1) ((rd_T39 l1 x5_1).f2) _ _ ((rd_T39 l1 x5_1).f3) _ _ ((rd_T39 l1 x5_1).f4) ((rd_T39 l1 x5_1).f5) true _ ?side1 ?side2 ?side3 ?side4 ?side5 ?side6 ?side7 ?side8 A7.out).mono ?_
                (case side1 => repeat (first | exact (Kd.C_below HR251_3.out HB.out) | (with_reducible refine Kd.C_alloc ?_ _) | (with_reducible refine Kd.C_drewN ?_ _) | (with_reducible refine Kd.C_drew ?_)))
                (case side2 => exact HC251_3.out)
                (case side3 => repeat (first | exact (Kd.C_below HR251_4.out HB.out) | (with_reducible refine Kd.C_alloc ?_ _) | (with_reducible refine Kd.C_drewN ?_ _) | (with_reducible refine Kd.C_drew ?_)))
                (case side4 => exact HC251_4.out)
                (case side5 => repeat (first | exact (Kd.C_below HR252_3.out HB.out) | (with_reducible refine Kd.C_alloc ?_ _) | (with_reducible refine Kd.C_drewN ?_ _) | (with_reducible refine Kd.C_drew ?_)))
                (case side6 => exact HC252_3.out)
                (case side7 => repeat (first | exact (Kd.C_below HR252_4.out HB.out) | (with_reducible refine Kd.C_alloc ?_ _) | (with_reducible refine Kd.C_drewN ?_ _) | (with_reducible refine Kd.C_drew ?_)))
                (case side8 => exact HC252_4.out)
                rintro e w10 ⟨rfl, hb⟩
                refine ⟨_, rfl, ?_⟩
                have n0_ := Aside0.mk (below_step (by repeat (first | (with_reducible first | exact HB.out | apply below_alloc | apply pw_below_drewN | apply below_drew1) | exact HB.out)) hb)
                clear HB
                have HB := n0_
                clear n0_
                (try clear hb)
                (try clear hb2)
                (try clear hk)
                (try clear hi)
                refine hK.out _ _ ⟨((HB.out.cell (World.block_lt_of_cell? w _ hw251_0)).trans hw251_0), ((HB.out.cell (World.block_lt_of_cell? w _ hw251_1)).trans hw251_1), ((HB.out.cell (World.block_lt_of_cell? w _ hw251_2)).trans hw251_2), ((HB.out.cell (World.block_lt_of_cell? w _ hw251_3)).trans hw251_3), ((HB.out.cell (World.block_lt_of_cell? w _ hw251_4)).trans hw251_4), ((HB.out.cell (World.block_lt_of_cell? w _ hw251_5)).trans hw251_5), ((HB.out.cell (World.block_lt_of_cell? w _ hw252_0)).trans hw252_0), ((HB.out.cell (World.block_lt_of_cell? w _ hw252_1)).trans hw252_1), ((HB.out.cell (World.block_lt_of_cell? w _ hw252_2)).trans hw252_2), ((HB.out.cell (World.block_lt_of_cell? w _ hw252_3)).trans hw252_3), ((HB.out.cell (World.block_lt_of_cell? w _ hw252_4)).trans hw252_4), ((HB.out.cell (World.block_lt_of_cell? w _ hw252_5)).trans hw252_5)⟩ (fun hHeld => ?_)
                clear hK K
                refine norm_ (a' := ?_) ?_ ?_
                rotate_left
                · show Act.put _ (some 25) _ = _
                  simp only [Act.put, List.setIfInBounds_toArray, List.set_cons_zero, List.set_cons_succ, i64_w, i32_w]
                  rfl
                refine pure_ (i := 9) (N := some 26) (v := ?_) (a' := ?_) #[true, true, true, true, true, true, true, true, true, true] rfl rfl (any_of HT_.out (by kernel_rfl)) (fun _ _ _ h => h) (Or.inl ⟨by rfl, ?_⟩) ?_ ?_
                rotate_left
                · intro w'
                  go_simp
                  with_reducible rfl
                rotate_left
                · simp only [Act.put, List.setIfInBounds_toArray, List.set_cons_zero, List.set_cons_succ, i64_w, i32_w]
                  rfl
                refine done_ (done_of HT_.out (by kernel_rfl)) ?_
                try go_wp2
                go_roundg k1
                case measure => have := HK1.out; omega
                case rel => exact ⟨(wrap64 (x5_1 + 1)), (by first | rfl | (simp; done) | (simp [*]; done)), H', ⟨by have := HK1.out; omega⟩, ⟨by repeat (first | (with_reducible first | exact HB.out | apply below_alloc | apply pw_below_drewN | apply below_drew1) | exact HB.out)⟩⟩
              · replace c8 := Bool.eq_false_iff.mpr c8
                subst c8
                have H1 : (some false) = some r := by rw [if_neg (show ¬ (false = true) by decide)] at H; exact H
                clear H
                have H := H1
                clear H1
                obtain rfl := Option.some.inj H
                try go_wp2
                have n0_ := Aside0.mk (below_drew1 HB.out)
                clear HB
                have HB := n0_
                clear n0_
                have p251 : 0 ≤ (x5_1 : Int) := of_decide_eq_true (by first | (with_reducible assumption) | assumption)
                have q251 : x5_1 < (l0.length : Int) := of_decide_eq_true (by first | (with_reducible assumption) | assumption)
                obtain ⟨ad251, A251_3, c251_3, A251_4, c251_4, e251, hx251_0, hx251_1, hx251_2, hx251_3, hx251_4, hx251_5, hl251_3, hi251_3, hl251_4, hi251_4⟩ := at_T39 HR0.out x5_1 p251 q251
                have hw251_5 := hx251_5
                have hw251_4 := hx251_4
                have hw251_3 := hx251_3
                have hw251_2 := hx251_2
                have hw251_1 := hx251_1
                have hw251_0 := hx251_0
                cases e251
                replace hx251_0 := (HB.out.cell (World.block_lt_of_cell? w _ hx251_0)).trans hx251_0
                replace hx251_1 := (HB.out.cell (World.block_lt_of_cell? w _ hx251_1)).trans hx251_1
                replace hx251_2 := (HB.out.cell (World.block_lt_of_cell? w _ hx251_2)).trans hx251_2
                replace hx251_3 := (HB.out.cell (World.block_lt_of_cell? w _ hx251_3)).trans hx251_3
                replace hx251_4 := (HB.out.cell (World.block_lt_of_cell? w _ hx251_4)).trans hx251_4
                replace hx251_5 := (HB.out.cell (World.block_lt_of_cell? w _ hx251_5)).trans hx251_5
                have HR251_3 := Aside0.mk hi251_3
                have HC251_3 := Aside0.mk hl251_3
                clear hi251_3 hl251_3
                have HR251_4 := Aside0.mk hi251_4
                have HC251_4 := Aside0.mk hl251_4
                clear hi251_4 hl251_4
                replace p251 := eq_true p251
                replace q251 := eq_true q251
                have p252 : 0 ≤ (x5_1 : Int) := of_decide_eq_true (by first | (with_reducible assumption) | assumption)
                have q252 : x5_1 < (l1.length : Int) := of_decide_eq_true (by first | (with_reducible assumption) | assumption)
                obtain ⟨ad252, A252_3, c252_3, A252_4, c252_4, e252, hx252_0, hx252_1, hx252_2, hx252_3, hx252_4, hx252_5, hl252_3, hi252_3, hl252_4, hi252_4⟩ := at_T39 HR1.out x5_1 p252 q252
                have hw252_5 := hx252_5
                have hw252_4 := hx252_4
                have hw252_3 := hx252_3
                have hw252_2 := hx252_2
                have hw252_1 := hx252_1
                have hw252_0 := hx252_0
                cases e252
                replace hx252_0 := (HB.out.cell (World.block_lt_of_cell? w _ hx252_0)).trans hx252_0
                replace hx252_1 := (HB.out.cell (World.block_lt_of_cell? w _ hx252_1)).trans hx252_1
                replace hx252_2 := (HB.out.cell (World.block_lt_of_cell? w _ hx252_2)).trans hx252_2
                replace hx252_3 := (HB.out.cell (World.block_lt_of_cell? w _ hx252_3)).trans hx252_3
                replace hx252_4 := (HB.out.cell (World.block_lt_of_cell? w _ hx252_4)).trans hx252_4
                replace hx252_5 := (HB.out.cell (World.block_lt_of_cell? w _ hx252_5)).trans hx252_5
                have HR252_3 := Aside0.mk hi252_3
                have HC252_3 := Aside0.mk hl252_3
                clear hi252_3 hl252_3
                have HR252_4 := Aside0.mk hi252_4
                have HC252_4 := Aside0.mk hl252_4
                clear hi252_4 hl252_4
                replace p252 := eq_true p252
                replace q252 := eq_true q252
                refine start_ (n := 10) (S := fun w' => w'.cell? (ad251.add ((x5_1).toNat * 6)) = some (.int .u32 ((rd_T39 l0 x5_1).f0)) ∧ w'.cell? ⟨(ad251.add ((x5_1).toNat * 6)).block, (ad251.add ((x5_1).toNat * 6)).off + 1, none⟩ = some (.int .u32 ((rd_T39 l0 x5_1).f1)) ∧ w'.cell? ⟨(ad251.add ((x5_1).toNat * 6)).block, (ad251.add ((x5_1).toNat * 6)).off + 2, none⟩ = some (.int .u32 ((rd_T39 l0 x5_1).f2)) ∧ w'.cell? ⟨(ad251.add ((x5_1).toNat * 6)).block, (ad251.add ((x5_1).toNat * 6)).off + 3, none⟩ = some (.slice A251_3 ((rd_T39 l0 x5_1).f3).length c251_3) ∧ w'.cell? ⟨(ad251.add ((x5_1).toNat * 6)).block, (ad251.add ((x5_1).toNat * 6)).off + 4, none⟩ = some (.slice A251_4 ((rd_T39 l0 x5_1).f4).length c251_4) ∧ w'.cell? ⟨(ad251.add ((x5_1).toNat * 6)).block, (ad251.add ((x5_1).toNat * 6)).off + 5, none⟩ = some (.bool ((rd_T39 l0 x5_1).f5)) ∧ w'.cell? (ad252.add ((x5_1).toNat * 6)) = some (.int .u32 ((rd_T39 l1 x5_1).f0)) ∧ w'.cell? ⟨(ad252.add ((x5_1).toNat * 6)).block, (ad252.add ((x5_1).toNat * 6)).off + 1, none⟩ = some (.int .u32 ((rd_T39 l1 x5_1).f1)) ∧ w'.cell? ⟨(ad252.add ((x5_1).toNat * 6)).block, (ad252.add ((x5_1).toNat * 6)).off + 2, none⟩ = some (.int .u32 ((rd_T39 l1 x5_1).f2)) ∧ w'.cell? ⟨(ad252.add ((x5_1).toNat * 6)).block, (ad252.add ((x5_1).toNat * 6)).off + 3, none⟩ = some (.slice A252_3 ((rd_T39 l1 x5_1).f3).length c252_3) ∧ w'.cell? ⟨(ad252.add ((x5_1).toNat * 6)).block, (ad252.add ((x5_1).toNat * 6)).off + 4, none⟩ = some (.slice A252_4 ((rd_T39 l1 x5_1).f4).length c252_4) ∧ w'.cell? ⟨(ad252.add ((x5_1).toNat * 6)).block, (ad252.add ((x5_1).toNat * 6)).off + 5, none⟩ = some (.bool ((rd_T39 l1 x5_1).f5))) (ds := []) #[false, false, false, false, false, false, false, false, false, false] (by kernel_rfl) rfl rfl ⟨((HB.out.cell (World.block_lt_of_cell? w _ hw251_0)).trans hw251_0), ((HB.out.cell (World.block_lt_of_cell? w _ hw251_1)).trans hw251_1), ((HB.out.cell (World.block_lt_of_cell? w _ hw251_2)).trans hw251_2), ((HB.out.cell (World.block_lt_of_cell? w _ hw251_3)).trans hw251_3), ((HB.out.cell (World.block_lt_of_cell? w _ hw251_4)).trans hw251_4), ((HB.out.cell (World.block_lt_of_cell? w _ hw251_5)).trans hw251_5), ((HB.out.cell (World.block_lt_of_cell? w _ hw252_0)).trans hw252_0), ((HB.out.cell (World.block_lt_of_cell? w _ hw252_1)).trans hw252_1), ((HB.out.cell (World.block_lt_of_cell? w _ hw252_2)).trans hw252_2), ((HB.out.cell (World.block_lt_of_cell? w _ hw252_3)).trans hw252_3), ((HB.out.cell (World.block_lt_of_cell? w _ hw252_4)).trans hw252_4), ((HB.out.cell (World.block_lt_of_cell? w _ hw252_5)).trans hw252_5)⟩ (fun hHeld => ?_); refine with_tabW chamberlainref10_Same.tab6 chamberlainref10_Same.bits6 (fun HT_ HW_ => ?_)
                generalize wr.drew = w11 at HB HR251_3 HR251_4 HR252_3 HR252_4 hx251_0 hx251_1 hx251_2 hx251_3 hx251_4 hx251_5 hx252_0 hx252_1 hx252_2 hx252_3 hx252_4 hx252_5 hHeld ⊢
                refine pure_ (i := 0) (N := some 17) (v := ?_) (a' := ?_) #[true, false, false, false, false, false, false, false, false, false] rfl rfl (any_of HT_.out (by kernel_rfl)) (fun _ _ _ h => h) (Or.inl ⟨by rfl, ?_⟩) ?_ ?_
                rotate_left
                · intro w'
                  go_simp
                  with_reducible rfl
                rotate_left
                · simp only [Act.put, List.setIfInBounds_toArray, List.set_cons_zero, List.set_cons_succ, i64_w, i32_w]
                  rfl
                refine pure_ (i := 1) (N := some 18) (v := ?_) (a' := ?_) #[true, true, false, false, false, false, false, false, false, false] rfl rfl (any_of HT_.out (by kernel_rfl)) (fun _ _ _ h => h) (Or.inl ⟨by rfl, ?_⟩) ?_ ?_
                rotate_left
                · intro w'
                  go_simp
                  with_reducible rfl
                rotate_left
                · simp only [Act.put, List.setIfInBounds_toArray, List.set_cons_zero, List.set_cons_succ, i64_w, i32_w]
                  rfl
                refine pure_ (i := 2) (N := some 19) (v := ?_) (a' := ?_) #[true, true, true, false, false, false, false, false, false, false] rfl rfl (any_of HT_.out (by kernel_rfl)) (fun _ _ _ h => h) (Or.inl ⟨by rfl, ?_⟩) ?_ ?_
                rotate_left
                · intro w'
                  go_simp
                  with_reducible rfl
                rotate_left
                · simp only [Act.put, List.setIfInBounds_toArray, List.set_cons_zero, List.set_cons_succ, i64_w, i32_w]
                  rfl
                refine pure_ (i := 4) (N := some 21) (v := ?_) (a' := ?_) #[true, true, true, false, true, false, false, false, false, false] rfl rfl (any_of HT_.out (by kernel_rfl)) (fun _ _ _ h => h) (Or.inl ⟨by rfl, ?_⟩) ?_ ?_
                rotate_left
                · intro w'
                  go_simp
                  with_reducible rfl
                rotate_left
                · simp only [Act.put, List.setIfInBounds_toArray, List.set_cons_zero, List.set_cons_succ, i64_w, i32_w]
                  rfl
                refine pure_ (i := 5) (N := some 22) (v := ?_) (a' := ?_) #[true, true, true, false, true, true, false, false, false, false] rfl rfl (any_of HT_.out (by kernel_rfl)) (fun _ _ _ h => h) (Or.inl ⟨by rfl, ?_⟩) ?_ ?_
                rotate_left
                · intro w'
                  go_simp
                  with_reducible rfl
                rotate_left
                · simp only [Act.put, List.setIfInBounds_toArray, List.set_cons_zero, List.set_cons_succ, i64_w, i32_w]
                  rfl
                refine pure_ (i := 6) (N := some 23) (v := ?_) (a' := ?_) #[true, true, true, false, true, true, true, false, false, false] rfl rfl (any_of HT_.out (by kernel_rfl)) (fun _ _ _ h => h) (Or.inl ⟨by rfl, ?_⟩) ?_ ?_
                rotate_left
                · intro w'
                  go_simp
                  with_reducible rfl
                rotate_left
                · simp only [Act.put, List.setIfInBounds_toArray, List.set_cons_zero, List.set_cons_succ, i64_w, i32_w]
                  rfl
                refine take_ (i := 3) (N := some 20) (v := ?_) (a' := ?_) #[true, true, true, true, true, true, true, false, false, false] rfl rfl (take_ofW HT_.out HW_.out (by kernel_rfl)) (fun _ _ _ h => h) (Or.inl ⟨by rfl, ?_⟩) hHeld ?_ ?_
                rotate_left
                · rintro w' ⟨s0, s1, s2, s3, s4, s5, s6, s7, s8, s9, s10, s11⟩
                  go_simp
                  with_reducible rfl
                rotate_left
                · simp only [Act.put, List.setIfInBounds_toArray, List.set_cons_zero, List.set_cons_succ, i64_w, i32_w]
                  rfl
                refine take_ (i := 7) (N := some 24) (v := ?_) (a' := ?_) #[true, true, true, true, true, true, true, true, false, false] rfl rfl (take_ofW HT_.out HW_.out (by kernel_rfl)) (fun _ _ _ h => h) (Or.inl ⟨by rfl, ?_⟩) hHeld ?_ ?_
                rotate_left
                · rintro w' ⟨s0, s1, s2, s3, s4, s5, s6, s7, s8, s9, s10, s11⟩
                  go_simp
                  with_reducible rfl
                rotate_left
                · simp only [Act.put, List.setIfInBounds_toArray, List.set_cons_zero, List.set_cons_succ, i64_w, i32_w]
                  rfl
                refine one_ (i := 8) (N := some 25) #[true, true, true, true, true, true, true, true, true, false] rfl rfl (one_of HT_.out (by kernel_rfl)) (by decide) (fun K hK => ?_)
                refine goes_ Try.func20 (by kernel_rfl) rfl #[.agg #[.int .u32 ((rd_T39 l0 x5_1).f0), .int .u32 ((rd_T39 l0 x5_1).f1), .int .u32 ((rd_T39 l0 x5_1).f2), .slice A251_3 ((rd_T39 l0 x5_1).f3).length c251_3, .slice A251_4 ((rd_T39 l0 x5_1).f4).length c251_4, .bool ((rd_T39 l0 x5_1).f5)], .agg #[.int .u32 ((rd_T39 l1 x5_1).f0), .int .u32 ((rd_T39 l1 x5_1).f1), .int .u32 ((rd_T39 l1 x5_1).f2), .slice A252_3 ((rd_T39 l1 x5_1).f3).length c252_3, .slice A252_4 ((rd_T39 l1 x5_1).f4).length c252_4, .bool ((rd_T39 l1 x5_1).f5)]] (by rfl) rfl rfl (by (try simp only [List.map_toArray, List.map_cons, List.map_nil]); first | done | rfl | (simp only [List.length_drop, List.length_take]; rfl)) ?_
                with_reducible refine (chamberlainref10_One.calls k1 ((rd_T39 l0 x5_1).f0) ((rd_T39 l0 x5_1).f1) ((rd_T39 l0 x5_1).f2) _ _ ((rd_T39 l0 x5_1).f3) _ _ ((rd_T39 l0 x5_1).f4) ((rd_T39 l0 x5_1).f5) ((rd_T39 l1 x5_1).f0) ((rd_T39 l1 x5_1).f1) ((rd_T39 l1 x5_1).f2) _ _ ((rd_T39 l1 x5_1).f3) _ _ ((rd_T39 l1 x5_1).f4) ((rd_T39 l1 x5_1).f5) false _ ?side1 ?side2 ?side3 ?side4 ?side5 ?side6 ?side7 ?side8 A7.out).mono ?_
                (case side1 => repeat (first | exact (Kd.C_below HR251_3.out HB.out) | (with_reducible refine Kd.C_alloc ?_ _) | (with_reducible refine Kd.C_drewN ?_ _) | (with_reducible refine Kd.C_drew ?_)))
                (case side2 => exact HC251_3.out)
                (case side3 => repeat (first | exact (Kd.C_below HR251_4.out HB.out) | (with_reducible refine Kd.C_alloc ?_ _) | (with_reducible refine Kd.C_drewN ?_ _) | (with_reducible refine Kd.C_drew ?_)))
                (case side4 => exact HC251_4.out)
                (case side5 => repeat (first | exact (Kd.C_below HR252_3.out HB.out) | (with_reducible refine Kd.C_alloc ?_ _) | (with_reducible refine Kd.C_drewN ?_ _) | (with_reducible refine Kd.C_drew ?_)))
                (case side6 => exact HC252_3.out)
                (case side7 => repeat (first | exact (Kd.C_below HR252_4.out HB.out) | (with_reducible refine Kd.C_alloc ?_ _) | (with_reducible refine Kd.C_drewN ?_ _) | (with_reducible refine Kd.C_drew ?_)))
                (case side8 => exact HC252_4.out)
                rintro e w12 ⟨rfl, hb⟩
                refine ⟨_, rfl, ?_⟩
                have n0_ := Aside0.mk (below_step (by repeat (first | (with_reducible first | exact HB.out | apply below_alloc | apply pw_below_drewN | apply below_drew1) | exact HB.out)) hb)
                clear HB
                have HB := n0_
                clear n0_
                (try clear hb)
                (try clear hb2)
                (try clear hk)
                (try clear hi)
                refine hK.out _ _ ⟨((HB.out.cell (World.block_lt_of_cell? w _ hw251_0)).trans hw251_0), ((HB.out.cell (World.block_lt_of_cell? w _ hw251_1)).trans hw251_1), ((HB.out.cell (World.block_lt_of_cell? w _ hw251_2)).trans hw251_2), ((HB.out.cell (World.block_lt_of_cell? w _ hw251_3)).trans hw251_3), ((HB.out.cell (World.block_lt_of_cell? w _ hw251_4)).trans hw251_4), ((HB.out.cell (World.block_lt_of_cell? w _ hw251_5)).trans hw251_5), ((HB.out.cell (World.block_lt_of_cell? w _ hw252_0)).trans hw252_0), ((HB.out.cell (World.block_lt_of_cell? w _ hw252_1)).trans hw252_1), ((HB.out.cell (World.block_lt_of_cell? w _ hw252_2)).trans hw252_2), ((HB.out.cell (World.block_lt_of_cell? w _ hw252_3)).trans hw252_3), ((HB.out.cell (World.block_lt_of_cell? w _ hw252_4)).trans hw252_4), ((HB.out.cell (World.block_lt_of_cell? w _ hw252_5)).trans hw252_5)⟩ (fun hHeld => ?_)
                clear hK K
                refine norm_ (a' := ?_) ?_ ?_
                rotate_left
                · show Act.put _ (some 25) _ = _
                  simp only [Act.put, List.setIfInBounds_toArray, List.set_cons_zero, List.set_cons_succ, i64_w, i32_w]
                  rfl
                refine pure_ (i := 9) (N := some 26) (v := ?_) (a' := ?_) #[true, true, true, true, true, true, true, true, true, true] rfl rfl (any_of HT_.out (by kernel_rfl)) (fun _ _ _ h => h) (Or.inl ⟨by rfl, ?_⟩) ?_ ?_
                rotate_left
                · intro w'
                  go_simp
                  with_reducible rfl
                rotate_left
                · simp only [Act.put, List.setIfInBounds_toArray, List.set_cons_zero, List.set_cons_succ, i64_w, i32_w]
                  rfl
                refine done_ (done_of HT_.out (by kernel_rfl)) ?_
                try go_wp2
                go_ret
                exact ⟨by first | rfl | (simp [errW_none, errW_some] <;> rfl) | (simp [*, errW_none, errW_some] <;> rfl), by repeat (first | (with_reducible first | exact HB.out | apply below_alloc | apply pw_below_drewN | apply below_drew1) | exact HB.out)⟩
            · rw [if_neg c6] at H
              exact absurd H (by simp)
          · rw [if_neg c5] at H
            exact absurd H (by simp)
        · rw [if_neg c4] at H
          have c4b0 : decide (x5_1 < (l0.length : Int)) = false := decide_eq_false c4
          clear c4
          obtain rfl := Option.some.inj H
          go_wp2
          go_ret
          exact ⟨by first | rfl | (simp [errW_none, errW_some] <;> rfl) | (simp [*, errW_none, errW_some] <;> rfl), by repeat (first | (with_reducible first | exact HB.out | apply below_alloc | apply pw_below_drewN | apply below_drew1) | exact HB.out)⟩
  · rw [if_neg c3] at H
    have c3b0 : ((l0.length : Int) == (l1.length : Int)) = false := beq_eq_false_iff_ne.mpr c3
    have c3b1 : ((l0.length : Int) != (l1.length : Int)) = true := bne_iff_ne.mpr c3
    have c3b2 : (l0.length == l1.length) = false := by first | simpa using c3 | (simp at c3 ⊢; omega)
    obtain rfl := Option.some.inj H
    go_enter Try.func15, Try.ntmps15
    go_wp2
    go_ret
    exact ⟨by first | rfl | (simp [errW_none, errW_some] <;> rfl) | (simp [*, errW_none, errW_some] <;> rfl), by repeat (first | (with_reducible first | exact HB.out | apply below_alloc | apply pw_below_drewN | apply below_drew1) | exact HB.out)⟩

/-! ### chamberlainlaw10_PeopleNews: function 3 -/
mutual
def chamberlainlaw10_PeopleNews.j0 : Nat → Int → List (S39) → Bool → List Int → Int → Option (Bool)
  | 0, _, _, _, _, _ => none
  | k + 1, x0, x2, x34, x255000, x255001 => if x34 = true then ((chamberlainlaw10_awake.f k).bind fun t257 => (some t257)) else ((people_New.f k x0 x255000 x255001).bind fun bt258 => ((people_Right.f k x2).bind fun t267 => ((chamberlainref10_Right.f k x2).bind fun t268 => (if (t267 != t268) = true then (some false) else (if x0 < 1 then (chamberlainlaw10_PeopleNews.j1 k x0 bt258.1 bt258.2.2.2 true x255000 x255001 bt258.2.1 bt258.2.2.1) else (chamberlainlaw10_PeopleNews.j1 k x0 bt258.1 bt258.2.2.2 (decide (x0 > 6)) x255000 x255001 bt258.2.1 bt258.2.2.1))))))
def chamberlainlaw10_PeopleNews.j1 : Nat → Int → List (S39) → Int → Bool → List Int → Int → List Int → Int → Option (Bool)
  | 0, _, _, _, _, _, _, _, _ => none
  | k + 1, x0, x7, x9, x53, x255000, x255001, x267000, x267001 => if x53 = true then (if x9 = 1 then (if (x7.length : Int) = 0 then ((chamberlainref04_Same.f k x267000 x267001 x255000 x255001).bind fun t269 => (some t269)) else (some false)) else (some false)) else ((chamberlainref10_New.f k x0 x255000 x255001).bind fun bt270 => (if x9 = 0 then ((chamberlainref10_Same.f k x7 bt270.1).bind fun t278 => (if t278 = true then ((chamberlainref04_Same.f k x267000 x267001 bt270.2.1 bt270.2.2).bind fun t279 => (if t279 = true then ((people_Right.f k x7).bind fun t280 => (some t280)) else (some false))) else (some false))) else (some false)))
end
def chamberlainlaw10_PeopleNews.f (k : Nat) (a0 : Int) (l1_0 : List Int) (a1_1 : Int) (l2 : List (S39)) : Option (Bool) := (chamberlainlaw10_awake.f k).bind fun t255 => (if t255 = true then (if a1_1 < 0 then (chamberlainlaw10_PeopleNews.j0 k a0 l2 true l1_0 a1_1) else (if a1_1 > 1000 then (chamberlainlaw10_PeopleNews.j0 k a0 l2 true l1_0 a1_1) else (if (l1_0.length : Int) > 200 then (chamberlainlaw10_PeopleNews.j0 k a0 l2 true l1_0 a1_1) else ((chamberlainref10_Few.f k l2).bind fun t256 => (chamberlainlaw10_PeopleNews.j0 k a0 l2 (!t256) l1_0 a1_1))))) else (chamberlainlaw10_PeopleNews.j0 k a0 l2 true l1_0 a1_1))
theorem chamberlainlaw10_PeopleNews.mono_l : ∀ k, (∀ y0 y1 y2 y3 y4, LeO (chamberlainlaw10_PeopleNews.j0 k y0 y1 y2 y3 y4) (chamberlainlaw10_PeopleNews.j0 (k + 1) y0 y1 y2 y3 y4)) ∧ (∀ y0 y1 y2 y3 y4 y5 y6 y7, LeO (chamberlainlaw10_PeopleNews.j1 k y0 y1 y2 y3 y4 y5 y6 y7) (chamberlainlaw10_PeopleNews.j1 (k + 1) y0 y1 y2 y3 y4 y5 y6 y7))
  | 0 => ⟨fun _ _ _ _ _ r h => by simp [chamberlainlaw10_PeopleNews.j0] at h, fun _ _ _ _ _ _ _ _ r h => by simp [chamberlainlaw10_PeopleNews.j1] at h⟩
  | k + 1 => by
    obtain ⟨ih0, ih1⟩ := chamberlainlaw10_PeopleNews.mono_l k
    refine ⟨?_, ?_⟩
    · intro y0 y1 y2 y3 y4
      unfold chamberlainlaw10_PeopleNews.j0
      repeat' first
      | (with_reducible exact ih0 _ _ _ _ _)
      | (with_reducible exact ih1 _ _ _ _ _ _ _ _)
      | (with_reducible exact chamberlainlaw10_awake.mono _)
      | (with_reducible exact chamberlainref04_Same.mono _ _ _ _ _)
      | (with_reducible exact chamberlainref10_Few.mono _ _)
      | (with_reducible exact chamberlainref10_New.mono _ _ _ _)
      | (with_reducible exact chamberlainref10_Right.mono _ _)
      | (with_reducible exact chamberlainref10_Same.mono _ _ _)
      | (with_reducible exact people_New.mono _ _ _ _)
      | (with_reducible exact people_Right.mono _ _)
      | (with_reducible exact LeO.refl _)
      | (with_reducible exact LeO.none _)
      | (with_reducible refine LeO.ite ?_ ?_)
      | (with_reducible refine LeO.bind ?_ (fun _ => ?_))
      | exact ih0 _ _ _ _ _
      | exact ih1 _ _ _ _ _ _ _ _
      | exact chamberlainlaw10_awake.mono _
      | exact chamberlainref04_Same.mono _ _ _ _ _
      | exact chamberlainref10_Few.mono _ _
      | exact chamberlainref10_New.mono _ _ _ _
      | exact chamberlainref10_Right.mono _ _
      | exact chamberlainref10_Same.mono _ _ _
      | exact people_New.mono _ _ _ _
      | exact people_Right.mono _ _
      | exact LeO.none _
      | refine LeO.ite ?_ ?_
      | refine LeO.bind ?_ (fun _ => ?_)
    · intro y0 y1 y2 y3 y4 y5 y6 y7
      unfold chamberlainlaw10_PeopleNews.j1
      repeat' first
      | (with_reducible exact ih0 _ _ _ _ _)
      | (with_reducible exact ih1 _ _ _ _ _ _ _ _)
      | (with_reducible exact chamberlainlaw10_awake.mono _)
      | (with_reducible exact chamberlainref04_Same.mono _ _ _ _ _)
      | (with_reducible exact chamberlainref10_Few.mono _ _)
      | (with_reducible exact chamberlainref10_New.mono _ _ _ _)
      | (with_reducible exact chamberlainref10_Right.mono _ _)
      | (with_reducible exact chamberlainref10_Same.mono _ _ _)
      | (with_reducible exact people_New.mono _ _ _ _)
      | (with_reducible exact people_Right.mono _ _)
      | (with_reducible exact LeO.refl _)
      | (with_reducible exact LeO.none _)
      | (with_reducible refine LeO.ite ?_ ?_)
      | (with_reducible refine LeO.bind ?_ (fun _ => ?_))
      | exact ih0 _ _ _ _ _
      | exact ih1 _ _ _ _ _ _ _ _
      | exact chamberlainlaw10_awake.mono _
      | exact chamberlainref04_Same.mono _ _ _ _ _
      | exact chamberlainref10_Few.mono _ _
      | exact chamberlainref10_New.mono _ _ _ _
      | exact chamberlainref10_Right.mono _ _
      | exact chamberlainref10_Same.mono _ _ _
      | exact people_New.mono _ _ _ _
      | exact people_Right.mono _ _
      | exact LeO.none _
      | refine LeO.ite ?_ ?_
      | refine LeO.bind ?_ (fun _ => ?_)
theorem chamberlainlaw10_PeopleNews.mono : ∀ a0 a1 a2 a3 k, LeO (chamberlainlaw10_PeopleNews.f k a0 a1 a2 a3) (chamberlainlaw10_PeopleNews.f (k + 1) a0 a1 a2 a3) := by
  intro a0 a1 a2 a3 k
  obtain ⟨ih0, ih1⟩ := chamberlainlaw10_PeopleNews.mono_l k
  unfold chamberlainlaw10_PeopleNews.f
  repeat' first
      | (with_reducible exact ih0 _ _ _ _ _)
      | (with_reducible exact ih1 _ _ _ _ _ _ _ _)
      | (with_reducible exact chamberlainlaw10_awake.mono _)
      | (with_reducible exact chamberlainref04_Same.mono _ _ _ _ _)
      | (with_reducible exact chamberlainref10_Few.mono _ _)
      | (with_reducible exact chamberlainref10_New.mono _ _ _ _)
      | (with_reducible exact chamberlainref10_Right.mono _ _)
      | (with_reducible exact chamberlainref10_Same.mono _ _ _)
      | (with_reducible exact people_New.mono _ _ _ _)
      | (with_reducible exact people_Right.mono _ _)
      | (with_reducible exact LeO.refl _)
      | (with_reducible exact LeO.none _)
      | (with_reducible refine LeO.ite ?_ ?_)
      | (with_reducible refine LeO.bind ?_ (fun _ => ?_))
      | exact ih0 _ _ _ _ _
      | exact ih1 _ _ _ _ _ _ _ _
      | exact chamberlainlaw10_awake.mono _
      | exact chamberlainref04_Same.mono _ _ _ _ _
      | exact chamberlainref10_Few.mono _ _
      | exact chamberlainref10_New.mono _ _ _ _
      | exact chamberlainref10_Right.mono _ _
      | exact chamberlainref10_Same.mono _ _ _
      | exact people_New.mono _ _ _ _
      | exact people_Right.mono _ _
      | exact LeO.none _
      | refine LeO.ite ?_ ?_
      | refine LeO.bind ?_ (fun _ => ?_)
set_option maxHeartbeats 8000000 in
set_option maxRecDepth 100000 in
theorem chamberlainlaw10_PeopleNews.calls (k : Nat) (a0 : Int) (A1_0 : Option Addr) (c1_0 : Nat) (l1_0 : List Int) (a1_1 : Int) (A2 : Option Addr) (c2 : Nat) (l2 : List (S39)) (r : Bool) (w : World) (hr1_0 : Kd.C (Kd.int .u32) w A1_0 l1_0.length l1_0) (hc1_0 : l1_0.length ≤ c1_0) (hr2 : Kd.C k39 w A2 l2.length l2) (hc2 : l2.length ≤ c2) (h : chamberlainlaw10_PeopleNews.f k a0 l1_0 a1_1 l2 = some r) (hT0 : r = true) :
    Calls Try.prog 3 #[.int .i64 a0, .agg #[.slice A1_0 l1_0.length c1_0, .int .i64 a1_1], .slice A2 l2.length c2] w fun e w' => e = .returned (.bool r) ∧ Below w.heap.size w w' := by
  have hT := Aside0.mk hT0
  clear hT0
  have hu24 := Try.underlying24
  have HR1_0 := Aside0.mk hr1_0
  have HC1_0 := Aside0.mk hc1_0
  clear hr1_0 hc1_0
  have HR2 := Aside0.mk hr2
  have HC2 := Aside0.mk hc2
  clear hr2 hc2
  have HB := Aside0.mk (Below.refl w.heap.size w)
  have H : ((chamberlainlaw10_awake.f k).bind fun t255 => (if t255 = true then (if a1_1 < 0 then (chamberlainlaw10_PeopleNews.j0 k a0 l2 true l1_0 a1_1) else (if a1_1 > 1000 then (chamberlainlaw10_PeopleNews.j0 k a0 l2 true l1_0 a1_1) else (if (l1_0.length : Int) > 200 then (chamberlainlaw10_PeopleNews.j0 k a0 l2 true l1_0 a1_1) else ((chamberlainref10_Few.f k l2).bind fun t256 => (chamberlainlaw10_PeopleNews.j0 k a0 l2 (!t256) l1_0 a1_1))))) else (chamberlainlaw10_PeopleNews.j0 k a0 l2 true l1_0 a1_1))) = some r := h
  clear h
  have HC4 := Aside0.mk H
  clear H
  go_enter Try.func3, Try.ntmps3
  go_upto_region 1 with (first | ((with_reducible refine gate_dst (N := 4) rfl ?_); (try (refine gate_guard (by rfl) ?_; dsimp only)); refine box_event ?hg (N := 4) ?hd (cs := #[.slice A1_0 l1_0.length c1_0, .int .i64 a1_1]) (t := 24) ?hr ?_; (case hd => rfl); (case hg => rfl); (case hr => first | (go_simp; done) | (go_simp; rfl)); intro gb254 hg w5 hbox hb; have n0_ := Aside0.mk (below_step (by repeat (first | (with_reducible first | exact HB.out | apply below_alloc | apply pw_below_drewN | apply below_drew1) | exact HB.out)) hb); have n1_ := Aside0.mk (hbox); have n2_ := Aside0.mk ((by rw [hg]; exact (below_size (by repeat (first | (with_reducible first | exact HB.out | apply below_alloc | apply pw_below_drewN | apply below_drew1) | exact HB.out))) : w.heap.size ≤ gb254)); have n3_ := Aside0.mk ((by rw [hg]; exact (below_size (by repeat (first | (with_reducible first | exact HB.out | apply below_alloc | apply pw_below_drewN | apply below_drew1) | exact HB.out))) : w.heap.size ≤ gb254)); clear HB; have HB := n0_; have BK254 := n1_; have GW254 := n2_; have GE254 := n3_; clear n0_ n1_ n2_ n3_; clear hb hbox hg))
  (try simp only [Act.put, List.setIfInBounds_toArray, List.set_cons_zero, List.set_cons_succ])
  go_cut [34] (fun v34 wc => ∃ (kq : Nat) (x34_3 : Bool), v34 = .bool x34_3 ∧ Aside0 (chamberlainlaw10_PeopleNews.j0 kq a0 l2 x34_3 l1_0 a1_1 = some r) ∧ Aside0 (kq ≤ k) ∧ Aside0 (wc.heap[gb254]? = some (.cells #[(.slice A1_0 l1_0.length c1_0), .int .i64 a1_1] 24 (0, 0))) ∧ Aside0 (Below w.heap.size w wc))
  case first =>
    have H := HC4.out
    clear HC4
    replace H := Option.bind_eq_some_iff.mp H
    obtain ⟨t255, A60, H⟩ := H
    replace H : (if t255 = true then (if a1_1 < 0 then (chamberlainlaw10_PeopleNews.j0 k a0 l2 true l1_0 a1_1) else (if a1_1 > 1000 then (chamberlainlaw10_PeopleNews.j0 k a0 l2 true l1_0 a1_1) else (if (l1_0.length : Int) > 200 then (chamberlainlaw10_PeopleNews.j0 k a0 l2 true l1_0 a1_1) else ((chamberlainref10_Few.f k l2).bind fun t256 => (chamberlainlaw10_PeopleNews.j0 k a0 l2 (!t256) l1_0 a1_1))))) else (chamberlainlaw10_PeopleNews.j0 k a0 l2 true l1_0 a1_1)) = some r := H
    have A6 := Aside0.mk A60
    clear A60
    by_cases c7 : t255 = true
    · subst c7
      have H1 : (if a1_1 < 0 then (chamberlainlaw10_PeopleNews.j0 k a0 l2 true l1_0 a1_1) else (if a1_1 > 1000 then (chamberlainlaw10_PeopleNews.j0 k a0 l2 true l1_0 a1_1) else (if (l1_0.length : Int) > 200 then (chamberlainlaw10_PeopleNews.j0 k a0 l2 true l1_0 a1_1) else ((chamberlainref10_Few.f k l2).bind fun t256 => (chamberlainlaw10_PeopleNews.j0 k a0 l2 (!t256) l1_0 a1_1))))) = some r := by rw [if_pos rfl] at H; exact H
      clear H
      have H := H1
      clear H1
      by_cases c8 : a1_1 < 0
      · rw [if_pos c8] at H
        have c8b0 : decide (a1_1 < 0) = true := decide_eq_true c8
        clear c8
        (first | rw [c8b0] | (simp only [i64_w, i32_w]; rw [c8b0]) | skip)
        have H' := Aside0.mk H
        clear H
        go_wp2_with (first | ((with_reducible refine gate_callee (f := 8) rfl ?_); refine goesL_ (some 12) rfl rfl Try.func8 (by kernel_rfl) rfl #[] rfl (by (try simp only [List.map_toArray, List.map_cons, List.map_nil]); first | done | rfl | (simp only [List.length_drop, List.length_take]; rfl)) ?_; (with_reducible refine (chamberlainlaw10_awake.calls k  true _ A6.out).mono ?_); rintro e w9 ⟨rfl, hb⟩; refine ⟨_, rfl, ?_⟩; have n0_ := Aside0.mk (blk_below (g := gb254) (o := .cells #[.slice A1_0 l1_0.length c1_0, .int .i64 a1_1] 24 (0, 0)) (by (with_reducible repeat (first | refine blk_drewN ?_ _ | refine blk_drew ?_ | refine blk_alloc ?_ _)); exact BK254.out) hb); have n1_ := Aside0.mk (below_step (by repeat (first | (with_reducible first | exact HB.out | apply below_alloc | apply pw_below_drewN | apply below_drew1 | refine below_set ?_ GE254.out) | exact HB.out)) hb); clear BK254; clear HB; have BK254 := n0_; have HB := n1_; clear n0_ n1_; (try clear hb); (try clear hb2); (try clear hk); (try clear hi); have hcz10_0 : w9.cell? ⟨gb254, 0, none⟩ = some (.slice A1_0 l1_0.length c1_0) := (blk_cell BK254.out 0).trans rfl; have hcz10_1 : w9.cell? ⟨gb254, 1, none⟩ = some (.int .i64 a1_1) := (blk_cell BK254.out 1).trans rfl; have hfz10_0 := blk_frozen BK254.out 0; have hfz10_1 := blk_frozen BK254.out 1))
        go_meet
        case rel => exact ⟨_, (true), (by first | rfl | (simp; done) | (simp [*]; done)), H', ⟨by first | omega | exact Nat.le_refl _⟩, ⟨by (with_reducible repeat (first | refine blk_drewN ?_ _ | refine blk_drew ?_ | refine blk_alloc ?_ _)); exact BK254.out⟩, ⟨by repeat (first | (with_reducible first | exact HB.out | apply below_alloc | apply pw_below_drewN | apply below_drew1 | refine below_set ?_ GE254.out) | exact HB.out)⟩⟩
      · rw [if_neg c8] at H
        have c8b0 : decide (a1_1 < 0) = false := decide_eq_false c8
        clear c8
        (first | rw [c8b0] | (simp only [i64_w, i32_w]; rw [c8b0]) | skip)
        by_cases c11 : a1_1 > 1000
        · rw [if_pos c11] at H
          have c11b0 : decide (1000 < a1_1) = true := decide_eq_true c11
          clear c11
          have H' := Aside0.mk H
          clear H
          go_wp2_with (first | ((with_reducible refine gate_callee (f := 8) rfl ?_); refine goesL_ (some 12) rfl rfl Try.func8 (by kernel_rfl) rfl #[] rfl (by (try simp only [List.map_toArray, List.map_cons, List.map_nil]); first | done | rfl | (simp only [List.length_drop, List.length_take]; rfl)) ?_; (with_reducible refine (chamberlainlaw10_awake.calls k  true _ A6.out).mono ?_); rintro e w12 ⟨rfl, hb⟩; refine ⟨_, rfl, ?_⟩; have n0_ := Aside0.mk (blk_below (g := gb254) (o := .cells #[.slice A1_0 l1_0.length c1_0, .int .i64 a1_1] 24 (0, 0)) (by (with_reducible repeat (first | refine blk_drewN ?_ _ | refine blk_drew ?_ | refine blk_alloc ?_ _)); exact BK254.out) hb); have n1_ := Aside0.mk (below_step (by repeat (first | (with_reducible first | exact HB.out | apply below_alloc | apply pw_below_drewN | apply below_drew1 | refine below_set ?_ GE254.out) | exact HB.out)) hb); clear BK254; clear HB; have BK254 := n0_; have HB := n1_; clear n0_ n1_; (try clear hb); (try clear hb2); (try clear hk); (try clear hi); have hcz13_0 : w12.cell? ⟨gb254, 0, none⟩ = some (.slice A1_0 l1_0.length c1_0) := (blk_cell BK254.out 0).trans rfl; have hcz13_1 : w12.cell? ⟨gb254, 1, none⟩ = some (.int .i64 a1_1) := (blk_cell BK254.out 1).trans rfl; have hfz13_0 := blk_frozen BK254.out 0; have hfz13_1 := blk_frozen BK254.out 1))
          go_meet
          case rel => exact ⟨_, (true), (by first | rfl | (simp; done) | (simp [*]; done)), H', ⟨by first | omega | exact Nat.le_refl _⟩, ⟨by (with_reducible repeat (first | refine blk_drewN ?_ _ | refine blk_drew ?_ | refine blk_alloc ?_ _)); exact BK254.out⟩, ⟨by repeat (first | (with_reducible first | exact HB.out | apply below_alloc | apply pw_below_drewN | apply below_drew1 | refine below_set ?_ GE254.out) | exact HB.out)⟩⟩
        · rw [if_neg c11] at H
          have c11b0 : decide (1000 < a1_1) = false := decide_eq_false c11
          clear c11
          by_cases c14 : (l1_0.length : Int) > 200
          · rw [if_pos c14] at H
            have c14b0 : decide (200 < (l1_0.length : Int)) = true := decide_eq_true c14
            have c14b1 : decide (200 < l1_0.length) = true := decide_eq_true (by omega)
            clear c14
            have H' := Aside0.mk H
            clear H
            go_wp2_with (first | ((with_reducible refine gate_callee (f := 8) rfl ?_); refine goesL_ (some 12) rfl rfl Try.func8 (by kernel_rfl) rfl #[] rfl (by (try simp only [List.map_toArray, List.map_cons, List.map_nil]); first | done | rfl | (simp only [List.length_drop, List.length_take]; rfl)) ?_; (with_reducible refine (chamberlainlaw10_awake.calls k  true _ A6.out).mono ?_); rintro e w15 ⟨rfl, hb⟩; refine ⟨_, rfl, ?_⟩; have n0_ := Aside0.mk (blk_below (g := gb254) (o := .cells #[.slice A1_0 l1_0.length c1_0, .int .i64 a1_1] 24 (0, 0)) (by (with_reducible repeat (first | refine blk_drewN ?_ _ | refine blk_drew ?_ | refine blk_alloc ?_ _)); exact BK254.out) hb); have n1_ := Aside0.mk (below_step (by repeat (first | (with_reducible first | exact HB.out | apply below_alloc | apply pw_below_drewN | apply below_drew1 | refine below_set ?_ GE254.out) | exact HB.out)) hb); clear BK254; clear HB; have BK254 := n0_; have HB := n1_; clear n0_ n1_; (try clear hb); (try clear hb2); (try clear hk); (try clear hi); have hcz16_0 : w15.cell? ⟨gb254, 0, none⟩ = some (.slice A1_0 l1_0.length c1_0) := (blk_cell BK254.out 0).trans rfl; have hcz16_1 : w15.cell? ⟨gb254, 1, none⟩ = some (.int .i64 a1_1) := (blk_cell BK254.out 1).trans rfl; have hfz16_0 := blk_frozen BK254.out 0; have hfz16_1 := blk_frozen BK254.out 1))
            go_meet
            case rel => exact ⟨_, (true), (by first | rfl | (simp; done) | (simp [*]; done)), H', ⟨by first | omega | exact Nat.le_refl _⟩, ⟨by (with_reducible repeat (first | refine blk_drewN ?_ _ | refine blk_drew ?_ | refine blk_alloc ?_ _)); exact BK254.out⟩, ⟨by repeat (first | (with_reducible first | exact HB.out | apply below_alloc | apply pw_below_drewN | apply below_drew1 | refine below_set ?_ GE254.out) | exact HB.out)⟩⟩
          · rw [if_neg c14] at H
            have c14b0 : decide (200 < (l1_0.length : Int)) = false := decide_eq_false c14
            have c14b1 : decide (200 < l1_0.length) = false := decide_eq_false (by omega)
            clear c14
            replace H := Option.bind_eq_some_iff.mp H
            obtain ⟨t256, A170, H⟩ := H
            replace H : (chamberlainlaw10_PeopleNews.j0 k a0 l2 (!t256) l1_0 a1_1) = some r := H
            have A17 := Aside0.mk A170
            clear A170
            have H' := Aside0.mk H
            clear H
            go_wp2_with (first | ((with_reducible refine gate_callee (f := 8) rfl ?_); refine goesL_ (some 12) rfl rfl Try.func8 (by kernel_rfl) rfl #[] rfl (by (try simp only [List.map_toArray, List.map_cons, List.map_nil]); first | done | rfl | (simp only [List.length_drop, List.length_take]; rfl)) ?_; (with_reducible refine (chamberlainlaw10_awake.calls k  true _ A6.out).mono ?_); rintro e w18 ⟨rfl, hb⟩; refine ⟨_, rfl, ?_⟩; have n0_ := Aside0.mk (blk_below (g := gb254) (o := .cells #[.slice A1_0 l1_0.length c1_0, .int .i64 a1_1] 24 (0, 0)) (by (with_reducible repeat (first | refine blk_drewN ?_ _ | refine blk_drew ?_ | refine blk_alloc ?_ _)); exact BK254.out) hb); have n1_ := Aside0.mk (below_step (by repeat (first | (with_reducible first | exact HB.out | apply below_alloc | apply pw_below_drewN | apply below_drew1 | refine below_set ?_ GE254.out) | exact HB.out)) hb); clear BK254; clear HB; have BK254 := n0_; have HB := n1_; clear n0_ n1_; (try clear hb); (try clear hb2); (try clear hk); (try clear hi); have hcz19_0 : w18.cell? ⟨gb254, 0, none⟩ = some (.slice A1_0 l1_0.length c1_0) := (blk_cell BK254.out 0).trans rfl; have hcz19_1 : w18.cell? ⟨gb254, 1, none⟩ = some (.int .i64 a1_1) := (blk_cell BK254.out 1).trans rfl; have hfz19_0 := blk_frozen BK254.out 0; have hfz19_1 := blk_frozen BK254.out 1) | (go_at_call 9; (with_reducible refine (chamberlainref10_Few.calls k _ _ l2 t256 _ ?side1 ?side2 A17.out).mono ?_); (case side1 => repeat (first | exact (Kd.C_below HR2.out HB.out) | (with_reducible refine Kd.C_alloc ?_ _) | (with_reducible refine Kd.C_drewN ?_ _) | (with_reducible refine Kd.C_drew ?_))); (case side2 => exact HC2.out); rintro e w' ⟨rfl, ⟨nd, rfl⟩⟩))
            go_meet
            case rel => exact ⟨_, (!t256), (by first | rfl | (simp; done) | (simp [*]; done)), H', ⟨by first | omega | exact Nat.le_refl _⟩, ⟨by (with_reducible repeat (first | refine blk_drewN ?_ _ | refine blk_drew ?_ | refine blk_alloc ?_ _)); exact BK254.out⟩, ⟨by repeat (first | (with_reducible first | exact HB.out | apply below_alloc | apply pw_below_drewN | apply below_drew1 | refine below_set ?_ GE254.out) | exact HB.out)⟩⟩
    · replace c7 := Bool.eq_false_iff.mpr c7
      subst c7
      have H1 : (chamberlainlaw10_PeopleNews.j0 k a0 l2 true l1_0 a1_1) = some r := by rw [if_neg (show ¬ (false = true) by decide)] at H; exact H
      clear H
      have H := H1
      clear H1
      have H' := Aside0.mk H
      clear H
      go_wp2_with (first | ((with_reducible refine gate_callee (f := 8) rfl ?_); refine goesL_ (some 12) rfl rfl Try.func8 (by kernel_rfl) rfl #[] rfl (by (try simp only [List.map_toArray, List.map_cons, List.map_nil]); first | done | rfl | (simp only [List.length_drop, List.length_take]; rfl)) ?_; (with_reducible refine (chamberlainlaw10_awake.calls k  false _ A6.out).mono ?_); rintro e w20 ⟨rfl, hb⟩; refine ⟨_, rfl, ?_⟩; have n0_ := Aside0.mk (blk_below (g := gb254) (o := .cells #[.slice A1_0 l1_0.length c1_0, .int .i64 a1_1] 24 (0, 0)) (by (with_reducible repeat (first | refine blk_drewN ?_ _ | refine blk_drew ?_ | refine blk_alloc ?_ _)); exact BK254.out) hb); have n1_ := Aside0.mk (below_step (by repeat (first | (with_reducible first | exact HB.out | apply below_alloc | apply pw_below_drewN | apply below_drew1 | refine below_set ?_ GE254.out) | exact HB.out)) hb); clear BK254; clear HB; have BK254 := n0_; have HB := n1_; clear n0_ n1_; (try clear hb); (try clear hb2); (try clear hk); (try clear hi)))
      go_meet
      case rel => exact ⟨_, (true), (by first | rfl | (simp; done) | (simp [*]; done)), H', ⟨by first | omega | exact Nat.le_refl _⟩, ⟨by (with_reducible repeat (first | refine blk_drewN ?_ _ | refine blk_drew ?_ | refine blk_alloc ?_ _)); exact BK254.out⟩, ⟨by repeat (first | (with_reducible first | exact HB.out | apply below_alloc | apply pw_below_drewN | apply below_drew1 | refine below_set ?_ GE254.out) | exact HB.out)⟩⟩
  case rest =>
    clear HC4
    try clear c1
    try clear c2
    try clear p2
    try clear c3
    try clear c7
    try clear c8
    try clear c8b0
    try clear c11
    try clear c11b0
    try clear c14
    try clear c14b0
    try clear c14b1
    try clear hcz10_0
    try clear hcz10_1
    try clear hcz13_0
    try clear hcz13_1
    try clear hcz16_0
    try clear hcz16_1
    try clear hcz19_0
    try clear hcz19_1
    try clear hfz10_0
    try clear hfz10_1
    try clear hfz13_0
    try clear hfz13_1
    try clear hfz16_0
    try clear hfz16_1
    try clear hfz19_0
    try clear hfz19_1
    obtain ⟨kq, x34_3, rfl, HA, HJ3, BK254, HB⟩ := hcut
    cases kq with
    | zero => exact absurd HA.out (by simp [chamberlainlaw10_PeopleNews.j0])
    | succ kj3 =>
      have H := HA.out
      clear HA
      simp only [chamberlainlaw10_PeopleNews.j0] at H
      by_cases c21 : x34_3 = true
      · subst c21
        have H1 : ((chamberlainlaw10_awake.f kj3).bind fun t257 => (some t257)) = some r := by rw [if_pos rfl] at H; exact H
        clear H
        have H := H1
        clear H1
        replace H := Option.bind_eq_some_iff.mp H
        obtain ⟨t257, A220, H⟩ := H
        replace H : (some t257) = some r := H
        have A22 := Aside0.mk A220
        clear A220
        obtain rfl := Option.some.inj H
        go_wp2_with (first | ((with_reducible refine gate_callee (f := 8) rfl ?_); refine goesL_ (some 35) rfl rfl Try.func8 (by kernel_rfl) rfl #[] rfl (by (try simp only [List.map_toArray, List.map_cons, List.map_nil]); first | done | rfl | (simp only [List.length_drop, List.length_take]; rfl)) ?_; (with_reducible refine (chamberlainlaw10_awake.calls kj3  t257 _ A22.out).mono ?_); rintro e w23 ⟨rfl, hb⟩; refine ⟨_, rfl, ?_⟩; have n0_ := Aside0.mk (blk_below (g := gb254) (o := .cells #[.slice A1_0 l1_0.length c1_0, .int .i64 a1_1] 24 (0, 0)) (by (with_reducible repeat (first | refine blk_drewN ?_ _ | refine blk_drew ?_ | refine blk_alloc ?_ _)); exact BK254.out) hb); have n1_ := Aside0.mk (below_step (by repeat (first | (with_reducible first | exact HB.out | apply below_alloc | apply pw_below_drewN | apply below_drew1 | refine below_set ?_ GE254.out) | exact HB.out)) hb); clear BK254; clear HB; have BK254 := n0_; have HB := n1_; clear n0_ n1_; (try clear hb); (try clear hb2); (try clear hk); (try clear hi)))
        go_ret
        exact ⟨by first | rfl | (simp [errW_none, errW_some] <;> rfl) | (simp [*, errW_none, errW_some] <;> rfl), by repeat (first | (with_reducible first | exact HB.out | apply below_alloc | apply pw_below_drewN | apply below_drew1 | refine below_set ?_ GE254.out) | exact HB.out)⟩
      · replace c21 := Bool.eq_false_iff.mpr c21
        subst c21
        have H1 : ((people_New.f kj3 a0 l1_0 a1_1).bind fun bt258 => ((people_Right.f kj3 l2).bind fun t267 => ((chamberlainref10_Right.f kj3 l2).bind fun t268 => (if (t267 != t268) = true then (some false) else (if a0 < 1 then (chamberlainlaw10_PeopleNews.j1 kj3 a0 bt258.1 bt258.2.2.2 true l1_0 a1_1 bt258.2.1 bt258.2.2.1) else (chamberlainlaw10_PeopleNews.j1 kj3 a0 bt258.1 bt258.2.2.2 (decide (a0 > 6)) l1_0 a1_1 bt258.2.1 bt258.2.2.1)))))) = some r := by rw [if_neg (show ¬ (false = true) by decide)] at H; exact H
        clear H
        have H := H1
        clear H1
        replace H := Option.bind_eq_some_iff.mp H
        obtain ⟨⟨t258, t261, t264, t265⟩, A240, H⟩ := H
        replace H : ((people_Right.f kj3 l2).bind fun t267 => ((chamberlainref10_Right.f kj3 l2).bind fun t268 => (if (t267 != t268) = true then (some false) else (if a0 < 1 then (chamberlainlaw10_PeopleNews.j1 kj3 a0 t258 t265 true l1_0 a1_1 t261 t264) else (chamberlainlaw10_PeopleNews.j1 kj3 a0 t258 t265 (decide (a0 > 6)) l1_0 a1_1 t261 t264))))) = some r := H
        have A24 := Aside0.mk A240
        clear A240
        replace H := Option.bind_eq_some_iff.mp H
        obtain ⟨t267, A250, H⟩ := H
        replace H : ((chamberlainref10_Right.f kj3 l2).bind fun t268 => (if (t267 != t268) = true then (some false) else (if a0 < 1 then (chamberlainlaw10_PeopleNews.j1 kj3 a0 t258 t265 true l1_0 a1_1 t261 t264) else (chamberlainlaw10_PeopleNews.j1 kj3 a0 t258 t265 (decide (a0 > 6)) l1_0 a1_1 t261 t264)))) = some r := H
        have A25 := Aside0.mk A250
        clear A250
        replace H := Option.bind_eq_some_iff.mp H
        obtain ⟨t268, A260, H⟩ := H
        replace H : (if (t267 != t268) = true then (some false) else (if a0 < 1 then (chamberlainlaw10_PeopleNews.j1 kj3 a0 t258 t265 true l1_0 a1_1 t261 t264) else (chamberlainlaw10_PeopleNews.j1 kj3 a0 t258 t265 (decide (a0 > 6)) l1_0 a1_1 t261 t264))) = some r := H
        have A26 := Aside0.mk A260
        clear A260
        by_cases c27 : (t267 != t268) = true
        · rw [if_pos c27] at H
          have c27b0 : (t267 != t268) = true := c27
          (try (have c27b1 : decide (t267 = t268) = false := by simpa using c27))
          (try (have c27b2 : (t267 == t268) = false := by simpa using c27))
          (try (have c27b3 : ¬ (t267 = t268) := by simpa using c27))
          clear c27
          exact absurd (hT.out.symm.trans (Option.some.inj H).symm) (by decide)
        · rw [if_neg c27] at H
          have c27b0 : (t267 != t268) = false := by simpa using c27
          (try (have c27b1 : decide (t267 = t268) = true := by simpa using c27))
          (try (have c27b2 : (t267 == t268) = true := by simpa using c27))
          clear c27
          have HC35 := Aside0.mk H
          clear H
          have hcz36_0 : wc.cell? ⟨gb254, 0, none⟩ = some (.slice A1_0 l1_0.length c1_0) := (blk_cell BK254.out 0).trans rfl
          have hcz36_1 : wc.cell? ⟨gb254, 1, none⟩ = some (.int .i64 a1_1) := (blk_cell BK254.out 1).trans rfl
          have hfz36_0 := blk_frozen BK254.out 0
          have hfz36_1 := blk_frozen BK254.out 1
          go_upto_region 6 with (first | ((with_reducible refine gate_callee (f := 10) rfl ?_); refine goesL_ (some 39) rfl rfl Try.func10 (by kernel_rfl) rfl #[.int .i64 a0, .agg #[.slice A1_0 l1_0.length c1_0, .int .i64 a1_1]] rfl (by (try simp only [List.map_toArray, List.map_cons, List.map_nil]); first | done | rfl | (simp only [List.length_drop, List.length_take]; rfl)) ?_; (with_reducible refine (people_New.calls kj3 a0 (fun k_ => k_ < w.heap.size) _ _ l1_0 a1_1 t258 t261 t264 t265 _ ?side1 A24.out).mono ?_); (case side1 => exact Kd.V_mk HC1_0.out (Kd.F_below (Kd.C_F (Kd.heap_int .u32) HR1_0.out) (by repeat (first | (with_reducible first | exact HB.out | apply below_alloc | apply pw_below_drewN | apply below_drew1 | refine below_set ?_ GE254.out) | exact HB.out)))); rintro e w37 ⟨v259, v262, rfl, ho0, ho1, hb⟩; refine ⟨_, rfl, ?_⟩; have n0_ := Aside0.mk (Kd.S_lower (Kd.S_mono (ok' := fun k_ => True) ho0 (fun _ hk_ => trivial)) (below_size (by repeat (first | (with_reducible first | exact HB.out | apply below_alloc | apply pw_below_drewN | apply below_drew1 | refine below_set ?_ GE254.out) | exact HB.out)))); have n1_ := Aside0.mk (Kd.V_lower (Kd.V_mono (ok' := fun k_ => some k_ ≠ (v259 : Value).ownBlock ∧ k_ ≠ gb254) ho1 (fun k_ hk_ => ⟨hk_.2, Or.elim hk_.1 (fun hs_ => fun e_ => Nat.not_le.2 hs_ (by rw [e_]; exact GW254.out)) (fun hn_ => (Kd.freshB (g := gb254) (o := .cells #[.slice A1_0 l1_0.length c1_0, .int .i64 a1_1] 24 (0, 0)) (by (with_reducible repeat (first | refine blk_drewN ?_ _ | refine blk_drew ?_ | refine blk_alloc ?_ _)); exact BK254.out) k_ hn_))⟩)) (below_size (by repeat (first | (with_reducible first | exact HB.out | apply below_alloc | apply pw_below_drewN | apply below_drew1 | refine below_set ?_ GE254.out) | exact HB.out)))); have n2_ := Aside0.mk (blk_below (g := gb254) (o := .cells #[.slice A1_0 l1_0.length c1_0, .int .i64 a1_1] 24 (0, 0)) (by (with_reducible repeat (first | refine blk_drewN ?_ _ | refine blk_drew ?_ | refine blk_alloc ?_ _)); exact BK254.out) hb); have n3_ := Aside0.mk (below_step (by repeat (first | (with_reducible first | exact HB.out | apply below_alloc | apply pw_below_drewN | apply below_drew1 | refine below_set ?_ GE254.out) | exact HB.out)) hb); clear BK254; clear HB; have HO260 := n0_; have HO263 := n1_; have BK254 := n2_; have HB := n3_; clear n0_ n1_ n2_ n3_; (try clear hb); (try clear hb2); (try clear hk); (try clear hi); (try clear ho0); (try clear ho1)) | ((with_reducible refine gate_dst (N := 8) rfl ?_); (try (refine gate_guard (by rfl) ?_; dsimp only)); refine box_event ?hg (N := 8) ?hd (cs := #[.slice none 0 0, .int .i64 0]) (t := 24) ?hr ?_; (case hd => rfl); (case hg => rfl); (case hr => first | (go_simp; done) | (go_simp; rfl)); intro gb266 hg w38 hbox hb; have n0_ := Aside0.mk (Kd.S_below (by (with_reducible repeat (first | apply Kd.S_alloc | apply Kd.S_drewN | apply Kd.S_drew)); exact HO260.out) hb); have n1_ := Aside0.mk (Kd.V_below (Kd.V_elderB (by (with_reducible repeat (first | apply Kd.V_alloc | apply Kd.V_drewN | apply Kd.V_drew)); exact HO263.out) gb266 (Nat.le_of_eq hg.symm)) hb); have n2_ := Aside0.mk (blk_below (g := gb254) (o := .cells #[.slice A1_0 l1_0.length c1_0, .int .i64 a1_1] 24 (0, 0)) (by (with_reducible repeat (first | refine blk_drewN ?_ _ | refine blk_drew ?_ | refine blk_alloc ?_ _)); exact BK254.out) hb); have n3_ := Aside0.mk (below_step (by repeat (first | (with_reducible first | exact HB.out | apply below_alloc | apply pw_below_drewN | apply below_drew1 | refine below_set ?_ GE254.out) | exact HB.out)) hb); have n4_ := Aside0.mk (hbox); have n5_ := Aside0.mk ((by rw [hg]; exact (below_size (by repeat (first | (with_reducible first | exact HB.out | apply below_alloc | apply pw_below_drewN | apply below_drew1 | refine below_set ?_ GE254.out) | exact HB.out))) : w.heap.size ≤ gb266)); have n6_ := Aside0.mk ((by rw [hg]; exact (below_size (by repeat (first | (with_reducible first | exact HB.out | apply below_alloc | apply pw_below_drewN | apply below_drew1 | refine below_set ?_ GE254.out) | exact HB.out))) : w.heap.size ≤ gb266)); have n7_ := Aside0.mk ((by rw [hg]; exact Nat.ne_of_lt (blk_lt (g := gb254) (o := .cells #[.slice A1_0 l1_0.length c1_0, .int .i64 a1_1] 24 (0, 0)) (by (with_reducible repeat (first | refine blk_drewN ?_ _ | refine blk_drew ?_ | refine blk_alloc ?_ _)); exact BK254.out)) : gb254 ≠ gb266)); have n8_ := Aside0.mk ((by rw [hg]; exact Nat.ne_of_gt (blk_lt (g := gb254) (o := .cells #[.slice A1_0 l1_0.length c1_0, .int .i64 a1_1] 24 (0, 0)) (by (with_reducible repeat (first | refine blk_drewN ?_ _ | refine blk_drew ?_ | refine blk_alloc ?_ _)); exact BK254.out)) : gb266 ≠ gb254)); clear HO260; clear HO263; clear BK254; clear HB; have HO260 := n0_; have HO263 := n1_; have BK254 := n2_; have HB := n3_; have BK266 := n4_; have GW266 := n5_; have GE266 := n6_; have NB254_266 := n7_; have NB266_254 := n8_; clear n0_ n1_ n2_ n3_ n4_ n5_ n6_ n7_ n8_; clear hb hbox hg; obtain ⟨Ao39, co39, eo39⟩ := Kd.V_slice HO263.out; subst eo39; have hnb40 := NB266_254.out; have hnc40 := NB254_266.out; have hcz41_0 : w38.cell? ⟨gb266, 0, none⟩ = some (.slice none 0 0) := (blk_cell BK266.out 0).trans rfl; have hcz41_1 : w38.cell? ⟨gb266, 1, none⟩ = some (.int .i64 0) := (blk_cell BK266.out 1).trans rfl; have hfz41_0 := blk_frozen BK266.out 0; have hfz41_1 := blk_frozen BK266.out 1) | ((with_reducible refine gate_callee (f := 11) rfl ?_); refine goesL_ (some 44) rfl rfl Try.func11 (by kernel_rfl) rfl #[.slice A2 l2.length c2] rfl (by (try simp only [List.map_toArray, List.map_cons, List.map_nil]); first | done | rfl | (simp only [List.length_drop, List.length_take]; rfl)) ?_; (with_reducible refine (people_Right.calls kj3 _ _ l2 t267 _ ?side1 ?side2 A25.out).mono ?_); (case side1 => exact Kd.C_below HR2.out (by repeat (first | (with_reducible first | exact HB.out | apply below_alloc | apply pw_below_drewN | apply below_drew1 | refine below_set ?_ GE254.out | refine below_set ?_ GE266.out) | exact HB.out))); (case side2 => exact HC2.out); rintro e w42 ⟨rfl, hb⟩; refine ⟨_, rfl, ?_⟩; have n0_ := Aside0.mk (Kd.S_below (by (with_reducible repeat (first | apply Kd.S_alloc | apply Kd.S_drewN | apply Kd.S_drew)); exact (Kd.S_mono (Kd.S_far (p := ⟨gb266, 1, none⟩) (Kd.S_far (p := ⟨gb266, 0, none⟩) (Kd.S_types HO260.out BK266.out (by decide)) (fun _ hk => hk.2) (.slice Ao39 t261.length co39)) (fun _ hk => hk.2) (.int .i64 t264)) (fun _ h_ => h_.1))) hb); have n1_ := Aside0.mk (Kd.V_below (by (with_reducible repeat (first | apply Kd.V_alloc | apply Kd.V_drewN | apply Kd.V_drew)); exact (Kd.V_mono (Kd.V_far (p := ⟨gb266, 1, none⟩) (Kd.V_far (p := ⟨gb266, 0, none⟩) (Kd.V_mono HO263.out (fun k_ hk => (⟨hk, hk.2⟩ : _ ∧ k_ ≠ gb266))) (fun _ hk => hk.2) (.slice Ao39 t261.length co39)) (fun _ hk => hk.2) (.int .i64 t264)) (fun _ h_ => h_.1))) hb); have n2_ := Aside0.mk (blk_below (g := gb254) (o := .cells #[.slice A1_0 l1_0.length c1_0, .int .i64 a1_1] 24 (0, 0)) (by (with_reducible repeat (first | refine blk_drewN ?_ _ | refine blk_drew ?_ | refine blk_alloc ?_ _)); refine blk_far ?_ NB254_266.out _; (with_reducible repeat (first | refine blk_drewN ?_ _ | refine blk_drew ?_ | refine blk_alloc ?_ _)); refine blk_far ?_ NB254_266.out _; (with_reducible repeat (first | refine blk_drewN ?_ _ | refine blk_drew ?_ | refine blk_alloc ?_ _)); exact BK254.out) hb); have n3_ := Aside0.mk (blk_below (g := gb266) (o := .cells #[.slice Ao39 t261.length co39, .int .i64 t264] 24 (0, 0)) (by (with_reducible repeat (first | refine blk_drewN ?_ _ | refine blk_drew ?_ | refine blk_alloc ?_ _)); refine blk_put (cs := #[.slice Ao39 t261.length co39, .int .i64 0]) ?_ 1 _ rfl; (with_reducible repeat (first | refine blk_drewN ?_ _ | refine blk_drew ?_ | refine blk_alloc ?_ _)); refine blk_put (cs := #[.slice none 0 0, .int .i64 0]) ?_ 0 _ rfl; (with_reducible repeat (first | refine blk_drewN ?_ _ | refine blk_drew ?_ | refine blk_alloc ?_ _)); exact BK266.out) hb); have n4_ := Aside0.mk (below_step (by repeat (first | (with_reducible first | exact HB.out | apply below_alloc | apply pw_below_drewN | apply below_drew1 | refine below_set ?_ GE254.out | refine below_set ?_ GE266.out) | exact HB.out)) hb); clear HO260; clear HO263; clear BK254; clear BK266; clear HB; have HO260 := n0_; have HO263 := n1_; have BK254 := n2_; have BK266 := n3_; have HB := n4_; clear n0_ n1_ n2_ n3_ n4_; (try clear hb); (try clear hb2); (try clear hk); (try clear hi)) | ((with_reducible refine gate_callee (f := 12) rfl ?_); refine goesL_ (some 46) rfl rfl Try.func12 (by kernel_rfl) rfl #[.slice A2 l2.length c2] rfl (by (try simp only [List.map_toArray, List.map_cons, List.map_nil]); first | done | rfl | (simp only [List.length_drop, List.length_take]; rfl)) ?_; (with_reducible refine (chamberlainref10_Right.calls kj3 _ _ l2 t268 _ ?side1 ?side2 A26.out).mono ?_); (case side1 => repeat (first | exact (Kd.C_below HR2.out HB.out) | (with_reducible refine Kd.C_alloc ?_ _) | (with_reducible refine Kd.C_drewN ?_ _) | (with_reducible refine Kd.C_drew ?_))); (case side2 => exact HC2.out); rintro e w' ⟨rfl, ⟨nd, rfl⟩⟩; refine ⟨_, rfl, ?_⟩))
          (try simp only [Act.put, List.setIfInBounds_toArray, List.set_cons_zero, List.set_cons_succ])
          go_cut [53] (fun v53 wc => ∃ (kq : Nat) (x53_34 : Bool), v53 = .bool x53_34 ∧ Aside0 (chamberlainlaw10_PeopleNews.j1 kq a0 t258 t265 x53_34 l1_0 a1_1 t261 t264 = some r) ∧ Aside0 (kq ≤ kj3) ∧ Aside0 (Kd.S k39 39 wc w.heap.size (fun _ => True) v259 t258) ∧ Aside0 (Kd.V (Kd.int .u32) 36 wc w.heap.size (fun k_ => some k_ ≠ (v259 : Value).ownBlock ∧ k_ ≠ gb254 ∧ k_ ≠ gb266) (.slice Ao39 t261.length co39) t261) ∧ Aside0 (wc.heap[gb254]? = some (.cells #[(.slice A1_0 l1_0.length c1_0), .int .i64 a1_1] 24 (0, 0))) ∧ Aside0 (wc.heap[gb266]? = some (.cells #[(.slice Ao39 t261.length co39), .int .i64 t264] 24 (0, 0))) ∧ Aside0 (Below w.heap.size w wc))
          case first =>
            have H := HC35.out
            clear HC35
            by_cases c43 : a0 < 1
            · rw [if_pos c43] at H
              have c43b0 : decide (a0 < 1) = true := decide_eq_true c43
              clear c43
              (first | rw [c43b0] | (simp only [i64_w, i32_w]; rw [c43b0]) | skip)
              have H' := Aside0.mk H
              clear H
              go_wp2
              go_meet
              case rel => exact ⟨_, (true), (by first | rfl | (simp; done) | (simp [*]; done)), H', ⟨by have := HJ3.out; first | omega | exact Nat.le_refl _⟩, ⟨by (with_reducible repeat (first | apply Kd.S_alloc | apply Kd.S_drewN | apply Kd.S_drew)); exact HO260.out⟩, ⟨by (with_reducible repeat (first | apply Kd.V_alloc | apply Kd.V_drewN | apply Kd.V_drew)); exact Kd.V_mono HO263.out (fun _ hk => ⟨hk.1.1, ⟨hk.1.2, hk.2⟩⟩)⟩, ⟨by (with_reducible repeat (first | refine blk_drewN ?_ _ | refine blk_drew ?_ | refine blk_alloc ?_ _)); exact BK254.out⟩, ⟨by (with_reducible repeat (first | refine blk_drewN ?_ _ | refine blk_drew ?_ | refine blk_alloc ?_ _)); exact BK266.out⟩, ⟨by repeat (first | (with_reducible first | exact HB.out | apply below_alloc | apply pw_below_drewN | apply below_drew1 | refine below_set ?_ GE254.out | refine below_set ?_ GE266.out) | exact HB.out)⟩⟩
            · rw [if_neg c43] at H
              have c43b0 : decide (a0 < 1) = false := decide_eq_false c43
              clear c43
              (first | rw [c43b0] | (simp only [i64_w, i32_w]; rw [c43b0]) | skip)
              have H' := Aside0.mk H
              clear H
              go_wp2
              go_meet
              case rel => exact ⟨_, (decide (a0 > 6)), (by first | rfl | (simp; done) | (simp [*]; done)), H', ⟨by have := HJ3.out; first | omega | exact Nat.le_refl _⟩, ⟨by (with_reducible repeat (first | apply Kd.S_alloc | apply Kd.S_drewN | apply Kd.S_drew)); exact HO260.out⟩, ⟨by (with_reducible repeat (first | apply Kd.V_alloc | apply Kd.V_drewN | apply Kd.V_drew)); exact Kd.V_mono HO263.out (fun _ hk => ⟨hk.1.1, ⟨hk.1.2, hk.2⟩⟩)⟩, ⟨by (with_reducible repeat (first | refine blk_drewN ?_ _ | refine blk_drew ?_ | refine blk_alloc ?_ _)); exact BK254.out⟩, ⟨by (with_reducible repeat (first | refine blk_drewN ?_ _ | refine blk_drew ?_ | refine blk_alloc ?_ _)); exact BK266.out⟩, ⟨by repeat (first | (with_reducible first | exact HB.out | apply below_alloc | apply pw_below_drewN | apply below_drew1 | refine below_set ?_ GE254.out | refine below_set ?_ GE266.out) | exact HB.out)⟩⟩
          case rest =>
            clear HC35
            try clear c1
            try clear c2
            try clear p2
            try clear c3
            try clear c4
            try clear c7
            try clear c8
            try clear c8b0
            try clear c10
            try clear c11
            try clear c11b0
            try clear c12
            try clear c14
            try clear c14b0
            try clear c14b1
            try clear c21
            try clear c27
            try clear c27b0
            try clear c27b1
            try clear c27b2
            try clear c32
            try clear c40
            try clear c43
            try clear c43b0
            try clear hcz10_0
            try clear hcz10_1
            try clear hcz13_0
            try clear hcz13_1
            try clear hcz16_0
            try clear hcz16_1
            try clear hcz19_0
            try clear hcz19_1
            try clear hcz28_0
            try clear hcz28_1
            try clear hcz33_0
            try clear hcz33_1
            try clear hcz36_0
            try clear hcz36_1
            try clear hcz41_0
            try clear hcz41_1
            try clear hfz10_0
            try clear hfz10_1
            try clear hfz13_0
            try clear hfz13_1
            try clear hfz16_0
            try clear hfz16_1
            try clear hfz19_0
            try clear hfz19_1
            try clear hfz28_0
            try clear hfz28_1
            try clear hfz33_0
            try clear hfz33_1
            try clear hfz36_0
            try clear hfz36_1
            try clear hfz41_0
            try clear hfz41_1
            try clear p2
            obtain ⟨kq, x53_34, rfl, HA, HJ34, HO_7, HO_267000, BK254, BK266, HB⟩ := hcut
            cases kq with
            | zero => exact absurd HA.out (by simp [chamberlainlaw10_PeopleNews.j1])
            | succ kj34 =>
              have H := HA.out
              clear HA
              simp only [chamberlainlaw10_PeopleNews.j1] at H
              by_cases c44 : x53_34 = true
              · subst c44
                have H1 : (if t265 = 1 then (if (t258.length : Int) = 0 then ((chamberlainref04_Same.f kj34 t261 t264 l1_0 a1_1).bind fun t269 => (some t269)) else (some false)) else (some false)) = some r := by rw [if_pos rfl] at H; exact H
                clear H
                have H := H1
                clear H1
                by_cases c45 : t265 = 1
                · rw [if_pos c45] at H
                  have c45b0 : (t265 == 1) = true := beq_iff_eq.mpr c45
                  have c45b1 : (t265 != 1) = false := bne_eq_false_iff_eq.mpr c45
                  clear c45
                  by_cases c46 : (t258.length : Int) = 0
                  · rw [if_pos c46] at H
                    have c46b0 : ((t258.length : Int) == 0) = true := beq_iff_eq.mpr c46
                    have c46b1 : ((t258.length : Int) != 0) = false := bne_eq_false_iff_eq.mpr c46
                    clear c46
                    replace H := Option.bind_eq_some_iff.mp H
                    obtain ⟨t269, A470, H⟩ := H
                    replace H : (some t269) = some r := H
                    have A47 := Aside0.mk A470
                    clear A470
                    obtain rfl := Option.some.inj H
                    obtain ⟨Ao48, co48, eo48⟩ := Kd.S_slice HO_7.out
                    subst eo48
                    have hnb49 := NB266_254.out
                    have hnc49 := NB254_266.out
                    have hcz50_0 : wc.cell? ⟨gb266, 0, none⟩ = some (.slice Ao39 t261.length co39) := (blk_cell BK266.out 0).trans rfl
                    have hcz50_1 : wc.cell? ⟨gb266, 1, none⟩ = some (.int .i64 t264) := (blk_cell BK266.out 1).trans rfl
                    have hfz50_0 := blk_frozen BK266.out 0
                    have hfz50_1 := blk_frozen BK266.out 1
                    have hcz51_0 : wc.cell? ⟨gb254, 0, none⟩ = some (.slice A1_0 l1_0.length c1_0) := (blk_cell BK254.out 0).trans rfl
                    have hcz51_1 : wc.cell? ⟨gb254, 1, none⟩ = some (.int .i64 a1_1) := (blk_cell BK254.out 1).trans rfl
                    have hfz51_0 := blk_frozen BK254.out 0
                    have hfz51_1 := blk_frozen BK254.out 1
                    go_wp2_with (first | (go_at_call 13; (with_reducible refine (chamberlainref04_Same.calls kj34 _ _ t261 t264 _ _ l1_0 a1_1 t269 _ ?side1 ?side2 ?side3 ?side4 A47.out).mono ?_); (case side1 => repeat (first | exact (Kd.V_reads' HO_267000.out).2.2 | (with_reducible refine Kd.C_alloc ?_ _) | (with_reducible refine Kd.C_drewN ?_ _) | (with_reducible refine Kd.C_drew ?_))); (case side2 => exact (Kd.V_reads' HO_267000.out).2.1); (case side3 => repeat (first | exact (Kd.C_below HR1_0.out HB.out) | (with_reducible refine Kd.C_alloc ?_ _) | (with_reducible refine Kd.C_drewN ?_ _) | (with_reducible refine Kd.C_drew ?_))); (case side4 => exact HC1_0.out); rintro e w52 ⟨rfl, hb⟩; have n0_ := Aside0.mk (Kd.S_below (by (with_reducible repeat (first | apply Kd.S_alloc | apply Kd.S_drewN | apply Kd.S_drew)); exact HO_7.out) hb); have n1_ := Aside0.mk (Kd.V_below (by (with_reducible repeat (first | apply Kd.V_alloc | apply Kd.V_drewN | apply Kd.V_drew)); exact HO_267000.out) hb); have n2_ := Aside0.mk (blk_below (g := gb254) (o := .cells #[.slice A1_0 l1_0.length c1_0, .int .i64 a1_1] 24 (0, 0)) (by (with_reducible repeat (first | refine blk_drewN ?_ _ | refine blk_drew ?_ | refine blk_alloc ?_ _)); exact BK254.out) hb); have n3_ := Aside0.mk (blk_below (g := gb266) (o := .cells #[.slice Ao39 t261.length co39, .int .i64 t264] 24 (0, 0)) (by (with_reducible repeat (first | refine blk_drewN ?_ _ | refine blk_drew ?_ | refine blk_alloc ?_ _)); exact BK266.out) hb); have n4_ := Aside0.mk (below_step (by repeat (first | (with_reducible first | exact HB.out | apply below_alloc | apply pw_below_drewN | apply below_drew1 | refine below_set ?_ GE254.out | refine below_set ?_ GE266.out) | exact HB.out)) hb); clear HO_7; clear HO_267000; clear BK254; clear BK266; clear HB; have HO_7 := n0_; have HO_267000 := n1_; have BK254 := n2_; have BK266 := n3_; have HB := n4_; clear n0_ n1_ n2_ n3_ n4_; (try clear hb); (try clear hb2); (try clear hk); (try clear hi)))
                    go_ret
                    exact ⟨by first | rfl | (simp [errW_none, errW_some] <;> rfl) | (simp [*, errW_none, errW_some] <;> rfl), by repeat (first | (with_reducible first | exact HB.out | apply below_alloc | apply pw_below_drewN | apply below_drew1 | refine below_set ?_ GE254.out | refine below_set ?_ GE266.out) | exact HB.out)⟩
                  · rw [if_neg c46] at H
                    have c46b0 : ((t258.length : Int) == 0) = false := beq_eq_false_iff_ne.mpr c46
                    have c46b1 : ((t258.length : Int) != 0) = true := bne_iff_ne.mpr c46
                    have c46b2 : ¬ (t258 = []) := fun h_ => c46 (by rw [h_]; rfl)
                    exact absurd (hT.out.symm.trans (Option.some.inj H).symm) (by decide)
                · rw [if_neg c45] at H
                  have c45b0 : (t265 == 1) = false := beq_eq_false_iff_ne.mpr c45
                  have c45b1 : (t265 != 1) = true := bne_iff_ne.mpr c45
                  exact absurd (hT.out.symm.trans (Option.some.inj H).symm) (by decide)
              · replace c44 := Bool.eq_false_iff.mpr c44
                subst c44
                have H1 : ((chamberlainref10_New.f kj34 a0 l1_0 a1_1).bind fun bt270 => (if t265 = 0 then ((chamberlainref10_Same.f kj34 t258 bt270.1).bind fun t278 => (if t278 = true then ((chamberlainref04_Same.f kj34 t261 t264 bt270.2.1 bt270.2.2).bind fun t279 => (if t279 = true then ((people_Right.f kj34 t258).bind fun t280 => (some t280)) else (some false))) else (some false))) else (some false))) = some r := by rw [if_neg (show ¬ (false = true) by decide)] at H; exact H
                clear H
                have H := H1
                clear H1
                replace H := Option.bind_eq_some_iff.mp H
                obtain ⟨⟨t270, t273, t276⟩, A540, H⟩ := H
                replace H : (if t265 = 0 then ((chamberlainref10_Same.f kj34 t258 t270).bind fun t278 => (if t278 = true then ((chamberlainref04_Same.f kj34 t261 t264 t273 t276).bind fun t279 => (if t279 = true then ((people_Right.f kj34 t258).bind fun t280 => (some t280)) else (some false))) else (some false))) else (some false)) = some r := H
                have A54 := Aside0.mk A540
                clear A540
                by_cases c55 : t265 = 0
                · rw [if_pos c55] at H
                  have c55b0 : (t265 == 0) = true := beq_iff_eq.mpr c55
                  have c55b1 : (t265 != 0) = false := bne_eq_false_iff_eq.mpr c55
                  clear c55
                  replace H := Option.bind_eq_some_iff.mp H
                  obtain ⟨t278, A560, H⟩ := H
                  replace H : (if t278 = true then ((chamberlainref04_Same.f kj34 t261 t264 t273 t276).bind fun t279 => (if t279 = true then ((people_Right.f kj34 t258).bind fun t280 => (some t280)) else (some false))) else (some false)) = some r := H
                  have A56 := Aside0.mk A560
                  clear A560
                  by_cases c57 : t278 = true
                  · subst c57
                    have H1 : ((chamberlainref04_Same.f kj34 t261 t264 t273 t276).bind fun t279 => (if t279 = true then ((people_Right.f kj34 t258).bind fun t280 => (some t280)) else (some false))) = some r := by rw [if_pos rfl] at H; exact H
                    clear H
                    have H := H1
                    clear H1
                    replace H := Option.bind_eq_some_iff.mp H
                    obtain ⟨t279, A580, H⟩ := H
                    replace H : (if t279 = true then ((people_Right.f kj34 t258).bind fun t280 => (some t280)) else (some false)) = some r := H
                    have A58 := Aside0.mk A580
                    clear A580
                    by_cases c59 : t279 = true
                    · subst c59
                      have H1 : ((people_Right.f kj34 t258).bind fun t280 => (some t280)) = some r := by rw [if_pos rfl] at H; exact H
                      clear H
                      have H := H1
                      clear H1
                      replace H := Option.bind_eq_some_iff.mp H
                      obtain ⟨t280, A600, H⟩ := H
                      replace H : (some t280) = some r := H
                      have A60 := Aside0.mk A600
                      clear A600
                      obtain rfl := Option.some.inj H
                      have hnb61 := NB254_266.out
                      have hnc61 := NB266_254.out
                      have hcz62_0 : wc.cell? ⟨gb254, 0, none⟩ = some (.slice A1_0 l1_0.length c1_0) := (blk_cell BK254.out 0).trans rfl
                      have hcz62_1 : wc.cell? ⟨gb254, 1, none⟩ = some (.int .i64 a1_1) := (blk_cell BK254.out 1).trans rfl
                      have hfz62_0 := blk_frozen BK254.out 0
                      have hfz62_1 := blk_frozen BK254.out 1
                      go_wp2_with (first | ((with_reducible refine gate_callee (f := 14) rfl ?_); refine goesL_ (some 69) rfl rfl Try.func14 (by kernel_rfl) rfl #[.int .i64 a0, .agg #[.slice A1_0 l1_0.length c1_0, .int .i64 a1_1]] rfl (by (try simp only [List.map_toArray, List.map_cons, List.map_nil]); first | done | rfl | (simp only [List.length_drop, List.length_take]; rfl)) ?_; (with_reducible refine (chamberlainref10_New.calls kj34 a0 (fun k_ => k_ < w.heap.size) _ _ l1_0 a1_1 t270 t273 t276 _ ?side1 A54.out).mono ?_); (case side1 => exact Kd.V_mk HC1_0.out (Kd.F_below (Kd.C_F (Kd.heap_int .u32) HR1_0.out) (by repeat (first | (with_reducible first | exact HB.out | apply below_alloc | apply pw_below_drewN | apply below_drew1 | refine below_set ?_ GE254.out | refine below_set ?_ GE266.out) | exact HB.out)))); rintro e w63 ⟨v271, v274, rfl, ho0, ho1, hb⟩; refine ⟨_, rfl, ?_⟩; have n0_ := Aside0.mk (Kd.S_elder' (by (with_reducible repeat (first | apply Kd.S_alloc | apply Kd.S_drewN | apply Kd.S_drew)); exact HO_7.out) (Kd.S_base ho0) hb); have n1_ := Aside0.mk (Kd.V_elder' (by (with_reducible repeat (first | apply Kd.V_alloc | apply Kd.V_drewN | apply Kd.V_drew)); exact HO_267000.out) (Kd.S_base ho0) hb); have n2_ := Aside0.mk (Kd.S_lower (Kd.S_new' (Kd.S_mono (ok' := fun k_ => True) ho0 (fun _ hk_ => trivial)) (Kd.S_lt (by (with_reducible repeat (first | apply Kd.S_alloc | apply Kd.S_drewN | apply Kd.S_drew)); exact HO_7.out))) (below_size (by repeat (first | (with_reducible first | exact HB.out | apply below_alloc | apply pw_below_drewN | apply below_drew1 | refine below_set ?_ GE254.out | refine below_set ?_ GE266.out) | exact HB.out)))); have n3_ := Aside0.mk (Kd.V_lower (Kd.V_mono (ok' := fun k_ => some k_ ≠ (v271 : Value).ownBlock ∧ some k_ ≠ (v259 : Value).ownBlock ∧ k_ ≠ gb254 ∧ k_ ≠ gb266) ho1 (fun k_ hk_ => ⟨hk_.2, Or.elim hk_.1 (fun hs_ => fun e_ => Nat.not_le.2 hs_ (Kd.S_base HO_7.out k_ e_.symm)) (fun hn_ => (Kd.fresh' (Kd.S_lt (by (with_reducible repeat (first | apply Kd.S_alloc | apply Kd.S_drewN | apply Kd.S_drew)); exact HO_7.out)) k_ hn_)), Or.elim hk_.1 (fun hs_ => fun e_ => Nat.not_le.2 hs_ (by rw [e_]; exact GW254.out)) (fun hn_ => (Kd.freshB (g := gb254) (o := .cells #[.slice A1_0 l1_0.length c1_0, .int .i64 a1_1] 24 (0, 0)) (by (with_reducible repeat (first | refine blk_drewN ?_ _ | refine blk_drew ?_ | refine blk_alloc ?_ _)); exact BK254.out) k_ hn_)), Or.elim hk_.1 (fun hs_ => fun e_ => Nat.not_le.2 hs_ (by rw [e_]; exact GW266.out)) (fun hn_ => (Kd.freshB (g := gb266) (o := .cells #[.slice Ao39 t261.length co39, .int .i64 t264] 24 (0, 0)) (by (with_reducible repeat (first | refine blk_drewN ?_ _ | refine blk_drew ?_ | refine blk_alloc ?_ _)); exact BK266.out) k_ hn_))⟩)) (below_size (by repeat (first | (with_reducible first | exact HB.out | apply below_alloc | apply pw_below_drewN | apply below_drew1 | refine below_set ?_ GE254.out | refine below_set ?_ GE266.out) | exact HB.out)))); have n4_ := Aside0.mk (blk_below (g := gb254) (o := .cells #[.slice A1_0 l1_0.length c1_0, .int .i64 a1_1] 24 (0, 0)) (by (with_reducible repeat (first | refine blk_drewN ?_ _ | refine blk_drew ?_ | refine blk_alloc ?_ _)); exact BK254.out) hb); have n5_ := Aside0.mk (blk_below (g := gb266) (o := .cells #[.slice Ao39 t261.length co39, .int .i64 t264] 24 (0, 0)) (by (with_reducible repeat (first | refine blk_drewN ?_ _ | refine blk_drew ?_ | refine blk_alloc ?_ _)); exact BK266.out) hb); have n6_ := Aside0.mk (below_step (by repeat (first | (with_reducible first | exact HB.out | apply below_alloc | apply pw_below_drewN | apply below_drew1 | refine below_set ?_ GE254.out | refine below_set ?_ GE266.out) | exact HB.out)) hb); clear HO_7; clear HO_267000; clear BK254; clear BK266; clear HB; have HO_7 := n0_; have HO_267000 := n1_; have HO272 := n2_; have HO275 := n3_; have BK254 := n4_; have BK266 := n5_; have HB := n6_; clear n0_ n1_ n2_ n3_ n4_ n5_ n6_; (try clear hb); (try clear hb2); (try clear hk); (try clear hi); (try clear ho0); (try clear ho1)) | ((with_reducible refine gate_dst (N := 11) rfl ?_); (try (refine gate_guard (by rfl) ?_; dsimp only)); refine box_event ?hg (N := 11) ?hd (cs := #[.slice none 0 0, .int .i64 0]) (t := 24) ?hr ?_; (case hd => rfl); (case hg => rfl); (case hr => first | (go_simp; done) | (go_simp; rfl)); intro gb277 hg w64 hbox hb; have n0_ := Aside0.mk (Kd.S_below (by (with_reducible repeat (first | apply Kd.S_alloc | apply Kd.S_drewN | apply Kd.S_drew)); exact HO_7.out) hb); have n1_ := Aside0.mk (Kd.V_below (Kd.V_elderB (by (with_reducible repeat (first | apply Kd.V_alloc | apply Kd.V_drewN | apply Kd.V_drew)); exact HO_267000.out) gb277 (Nat.le_of_eq hg.symm)) hb); have n2_ := Aside0.mk (Kd.S_below (by (with_reducible repeat (first | apply Kd.S_alloc | apply Kd.S_drewN | apply Kd.S_drew)); exact HO272.out) hb); have n3_ := Aside0.mk (Kd.V_below (Kd.V_elderB (by (with_reducible repeat (first | apply Kd.V_alloc | apply Kd.V_drewN | apply Kd.V_drew)); exact HO275.out) gb277 (Nat.le_of_eq hg.symm)) hb); have n4_ := Aside0.mk (blk_below (g := gb254) (o := .cells #[.slice A1_0 l1_0.length c1_0, .int .i64 a1_1] 24 (0, 0)) (by (with_reducible repeat (first | refine blk_drewN ?_ _ | refine blk_drew ?_ | refine blk_alloc ?_ _)); exact BK254.out) hb); have n5_ := Aside0.mk (blk_below (g := gb266) (o := .cells #[.slice Ao39 t261.length co39, .int .i64 t264] 24 (0, 0)) (by (with_reducible repeat (first | refine blk_drewN ?_ _ | refine blk_drew ?_ | refine blk_alloc ?_ _)); exact BK266.out) hb); have n6_ := Aside0.mk (below_step (by repeat (first | (with_reducible first | exact HB.out | apply below_alloc | apply pw_below_drewN | apply below_drew1 | refine below_set ?_ GE254.out | refine below_set ?_ GE266.out) | exact HB.out)) hb); have n7_ := Aside0.mk (hbox); have n8_ := Aside0.mk ((by rw [hg]; exact (below_size (by repeat (first | (with_reducible first | exact HB.out | apply below_alloc | apply pw_below_drewN | apply below_drew1 | refine below_set ?_ GE254.out | refine below_set ?_ GE266.out) | exact HB.out))) : w.heap.size ≤ gb277)); have n9_ := Aside0.mk ((by rw [hg]; exact (below_size (by repeat (first | (with_reducible first | exact HB.out | apply below_alloc | apply pw_below_drewN | apply below_drew1 | refine below_set ?_ GE254.out | refine below_set ?_ GE266.out) | exact HB.out))) : w.heap.size ≤ gb277)); have n10_ := Aside0.mk ((by rw [hg]; exact Nat.ne_of_lt (blk_lt (g := gb254) (o := .cells #[.slice A1_0 l1_0.length c1_0, .int .i64 a1_1] 24 (0, 0)) (by (with_reducible repeat (first | refine blk_drewN ?_ _ | refine blk_drew ?_ | refine blk_alloc ?_ _)); exact BK254.out)) : gb254 ≠ gb277)); have n11_ := Aside0.mk ((by rw [hg]; exact Nat.ne_of_gt (blk_lt (g := gb254) (o := .cells #[.slice A1_0 l1_0.length c1_0, .int .i64 a1_1] 24 (0, 0)) (by (with_reducible repeat (first | refine blk_drewN ?_ _ | refine blk_drew ?_ | refine blk_alloc ?_ _)); exact BK254.out)) : gb277 ≠ gb254)); have n12_ := Aside0.mk ((by rw [hg]; exact Nat.ne_of_lt (blk_lt (g := gb266) (o := .cells #[.slice Ao39 t261.length co39, .int .i64 t264] 24 (0, 0)) (by (with_reducible repeat (first | refine blk_drewN ?_ _ | refine blk_drew ?_ | refine blk_alloc ?_ _)); exact BK266.out)) : gb266 ≠ gb277)); have n13_ := Aside0.mk ((by rw [hg]; exact Nat.ne_of_gt (blk_lt (g := gb266) (o := .cells #[.slice Ao39 t261.length co39, .int .i64 t264] 24 (0, 0)) (by (with_reducible repeat (first | refine blk_drewN ?_ _ | refine blk_drew ?_ | refine blk_alloc ?_ _)); exact BK266.out)) : gb277 ≠ gb266)); clear HO_7; clear HO_267000; clear HO272; clear HO275; clear BK254; clear BK266; clear HB; have HO_7 := n0_; have HO_267000 := n1_; have HO272 := n2_; have HO275 := n3_; have BK254 := n4_; have BK266 := n5_; have HB := n6_; have BK277 := n7_; have GW277 := n8_; have GE277 := n9_; have NB254_277 := n10_; have NB277_254 := n11_; have NB266_277 := n12_; have NB277_266 := n13_; clear n0_ n1_ n2_ n3_ n4_ n5_ n6_ n7_ n8_ n9_ n10_ n11_ n12_ n13_; clear hb hbox hg; obtain ⟨Ao65, co65, eo65⟩ := Kd.V_slice HO275.out; subst eo65; have hnb66 := NB277_254.out; have hnc66 := NB254_277.out; have hnb67 := NB277_266.out; have hnc67 := NB266_277.out; have hcz68_0 : w64.cell? ⟨gb277, 0, none⟩ = some (.slice none 0 0) := (blk_cell BK277.out 0).trans rfl; have hcz68_1 : w64.cell? ⟨gb277, 1, none⟩ = some (.int .i64 0) := (blk_cell BK277.out 1).trans rfl; have hfz68_0 := blk_frozen BK277.out 0; have hfz68_1 := blk_frozen BK277.out 1; obtain ⟨Ao69, co69, eo69⟩ := Kd.S_slice HO_7.out; subst eo69; obtain ⟨Ao70, co70, eo70⟩ := Kd.S_slice HO272.out; subst eo70) | (go_at_call 15; (with_reducible refine (chamberlainref10_Same.calls kj34 _ _ t258 _ _ t270 true _ ?side1 ?side2 ?side3 ?side4 A56.out).mono ?_); (case side1 => refine (Kd.S_reads' (e := 39) (base := w.heap.size) (ok := fun k_ => (True ∧ some k_ ≠ (.slice Ao70 t270.length co70 : Value).ownBlock)) (n := t258.length) (c := co69) ?_).2.2; exact (by (with_reducible repeat (first | apply Kd.S_alloc | apply Kd.S_drewN | apply Kd.S_drew)); exact (Kd.S_mono (Kd.S_far (p := ⟨gb277, 1, none⟩) (Kd.S_far (p := ⟨gb277, 0, none⟩) (Kd.S_types HO_7.out BK277.out (by decide)) (fun _ hk => hk.2) (.slice Ao65 t273.length co65)) (fun _ hk => hk.2) (.int .i64 t276)) (fun _ h_ => h_.1)))); (case side2 => exact (Kd.S_reads' HO_7.out).2.1); (case side3 => refine (Kd.S_reads' (e := 39) (base := w.heap.size) (ok := fun k_ => (True ∧ some k_ ≠ (.slice Ao69 t258.length co69 : Value).ownBlock)) (n := t270.length) (c := co70) ?_).2.2; exact (by (with_reducible repeat (first | apply Kd.S_alloc | apply Kd.S_drewN | apply Kd.S_drew)); exact (Kd.S_mono (Kd.S_far (p := ⟨gb277, 1, none⟩) (Kd.S_far (p := ⟨gb277, 0, none⟩) (Kd.S_types HO272.out BK277.out (by decide)) (fun _ hk => hk.2) (.slice Ao65 t273.length co65)) (fun _ hk => hk.2) (.int .i64 t276)) (fun _ h_ => h_.1)))); (case side4 => exact (Kd.S_reads' HO272.out).2.1); rintro e w71 ⟨rfl, hb⟩; have n0_ := Aside0.mk (Kd.S_below (by (with_reducible repeat (first | apply Kd.S_alloc | apply Kd.S_drewN | apply Kd.S_drew)); exact (Kd.S_mono (Kd.S_far (p := ⟨gb277, 1, none⟩) (Kd.S_far (p := ⟨gb277, 0, none⟩) (Kd.S_types HO_7.out BK277.out (by decide)) (fun _ hk => hk.2) (.slice Ao65 t273.length co65)) (fun _ hk => hk.2) (.int .i64 t276)) (fun _ h_ => h_.1))) hb); have n1_ := Aside0.mk (Kd.V_below (by (with_reducible repeat (first | apply Kd.V_alloc | apply Kd.V_drewN | apply Kd.V_drew)); exact (Kd.V_mono (Kd.V_far (p := ⟨gb277, 1, none⟩) (Kd.V_far (p := ⟨gb277, 0, none⟩) (Kd.V_mono HO_267000.out (fun k_ hk => (⟨hk, hk.2⟩ : _ ∧ k_ ≠ gb277))) (fun _ hk => hk.2) (.slice Ao65 t273.length co65)) (fun _ hk => hk.2) (.int .i64 t276)) (fun _ h_ => h_.1))) hb); have n2_ := Aside0.mk (Kd.S_below (by (with_reducible repeat (first | apply Kd.S_alloc | apply Kd.S_drewN | apply Kd.S_drew)); exact (Kd.S_mono (Kd.S_far (p := ⟨gb277, 1, none⟩) (Kd.S_far (p := ⟨gb277, 0, none⟩) (Kd.S_types HO272.out BK277.out (by decide)) (fun _ hk => hk.2) (.slice Ao65 t273.length co65)) (fun _ hk => hk.2) (.int .i64 t276)) (fun _ h_ => h_.1))) hb); have n3_ := Aside0.mk (Kd.V_below (by (with_reducible repeat (first | apply Kd.V_alloc | apply Kd.V_drewN | apply Kd.V_drew)); exact (Kd.V_mono (Kd.V_far (p := ⟨gb277, 1, none⟩) (Kd.V_far (p := ⟨gb277, 0, none⟩) (Kd.V_mono HO275.out (fun k_ hk => (⟨hk, hk.2⟩ : _ ∧ k_ ≠ gb277))) (fun _ hk => hk.2) (.slice Ao65 t273.length co65)) (fun _ hk => hk.2) (.int .i64 t276)) (fun _ h_ => h_.1))) hb); have n4_ := Aside0.mk (blk_below (g := gb254) (o := .cells #[.slice A1_0 l1_0.length c1_0, .int .i64 a1_1] 24 (0, 0)) (by (with_reducible repeat (first | refine blk_drewN ?_ _ | refine blk_drew ?_ | refine blk_alloc ?_ _)); refine blk_far ?_ NB254_277.out _; (with_reducible repeat (first | refine blk_drewN ?_ _ | refine blk_drew ?_ | refine blk_alloc ?_ _)); refine blk_far ?_ NB254_277.out _; (with_reducible repeat (first | refine blk_drewN ?_ _ | refine blk_drew ?_ | refine blk_alloc ?_ _)); exact BK254.out) hb); have n5_ := Aside0.mk (blk_below (g := gb266) (o := .cells #[.slice Ao39 t261.length co39, .int .i64 t264] 24 (0, 0)) (by (with_reducible repeat (first | refine blk_drewN ?_ _ | refine blk_drew ?_ | refine blk_alloc ?_ _)); refine blk_far ?_ NB266_277.out _; (with_reducible repeat (first | refine blk_drewN ?_ _ | refine blk_drew ?_ | refine blk_alloc ?_ _)); refine blk_far ?_ NB266_277.out _; (with_reducible repeat (first | refine blk_drewN ?_ _ | refine blk_drew ?_ | refine blk_alloc ?_ _)); exact BK266.out) hb); have n6_ := Aside0.mk (blk_below (g := gb277) (o := .cells #[.slice Ao65 t273.length co65, .int .i64 t276] 24 (0, 0)) (by (with_reducible repeat (first | refine blk_drewN ?_ _ | refine blk_drew ?_ | refine blk_alloc ?_ _)); refine blk_put (cs := #[.slice Ao65 t273.length co65, .int .i64 0]) ?_ 1 _ rfl; (with_reducible repeat (first | refine blk_drewN ?_ _ | refine blk_drew ?_ | refine blk_alloc ?_ _)); refine blk_put (cs := #[.slice none 0 0, .int .i64 0]) ?_ 0 _ rfl; (with_reducible repeat (first | refine blk_drewN ?_ _ | refine blk_drew ?_ | refine blk_alloc ?_ _)); exact BK277.out) hb); have n7_ := Aside0.mk (below_step (by repeat (first | (with_reducible first | exact HB.out | apply below_alloc | apply pw_below_drewN | apply below_drew1 | refine below_set ?_ GE254.out | refine below_set ?_ GE266.out | refine below_set ?_ GE277.out) | exact HB.out)) hb); clear HO_7; clear HO_267000; clear HO272; clear HO275; clear BK254; clear BK266; clear BK277; clear HB; have HO_7 := n0_; have HO_267000 := n1_; have HO272 := n2_; have HO275 := n3_; have BK254 := n4_; have BK266 := n5_; have BK277 := n6_; have HB := n7_; clear n0_ n1_ n2_ n3_ n4_ n5_ n6_ n7_; (try clear hb); (try clear hb2); (try clear hk); (try clear hi); have hcz72_0 : w71.cell? ⟨gb266, 0, none⟩ = some (.slice Ao39 t261.length co39) := (blk_cell BK266.out 0).trans rfl; have hcz72_1 : w71.cell? ⟨gb266, 1, none⟩ = some (.int .i64 t264) := (blk_cell BK266.out 1).trans rfl; have hfz72_0 := blk_frozen BK266.out 0; have hfz72_1 := blk_frozen BK266.out 1; have hcz73_0 : w71.cell? ⟨gb277, 0, none⟩ = some (.slice Ao65 t273.length co65) := (blk_cell BK277.out 0).trans rfl; have hcz73_1 : w71.cell? ⟨gb277, 1, none⟩ = some (.int .i64 t276) := (blk_cell BK277.out 1).trans rfl; have hfz73_0 := blk_frozen BK277.out 0; have hfz73_1 := blk_frozen BK277.out 1) | (go_at_call 13; (with_reducible refine (chamberlainref04_Same.calls kj34 _ _ t261 t264 _ _ t273 t276 true _ ?side1 ?side2 ?side3 ?side4 A58.out).mono ?_); (case side1 => repeat (first | exact (Kd.V_reads' HO_267000.out).2.2 | (with_reducible refine Kd.C_alloc ?_ _) | (with_reducible refine Kd.C_drewN ?_ _) | (with_reducible refine Kd.C_drew ?_))); (case side2 => exact (Kd.V_reads' HO_267000.out).2.1); (case side3 => repeat (first | exact (Kd.V_reads' HO275.out).2.2 | (with_reducible refine Kd.C_alloc ?_ _) | (with_reducible refine Kd.C_drewN ?_ _) | (with_reducible refine Kd.C_drew ?_))); (case side4 => exact (Kd.V_reads' HO275.out).2.1); rintro e w74 ⟨rfl, hb⟩; have n0_ := Aside0.mk (Kd.S_below (by (with_reducible repeat (first | apply Kd.S_alloc | apply Kd.S_drewN | apply Kd.S_drew)); exact HO_7.out) hb); have n1_ := Aside0.mk (Kd.V_below (by (with_reducible repeat (first | apply Kd.V_alloc | apply Kd.V_drewN | apply Kd.V_drew)); exact HO_267000.out) hb); have n2_ := Aside0.mk (Kd.S_below (by (with_reducible repeat (first | apply Kd.S_alloc | apply Kd.S_drewN | apply Kd.S_drew)); exact HO272.out) hb); have n3_ := Aside0.mk (Kd.V_below (by (with_reducible repeat (first | apply Kd.V_alloc | apply Kd.V_drewN | apply Kd.V_drew)); exact HO275.out) hb); have n4_ := Aside0.mk (blk_below (g := gb254) (o := .cells #[.slice A1_0 l1_0.length c1_0, .int .i64 a1_1] 24 (0, 0)) (by (with_reducible repeat (first | refine blk_drewN ?_ _ | refine blk_drew ?_ | refine blk_alloc ?_ _)); exact BK254.out) hb); have n5_ := Aside0.mk (blk_below (g := gb266) (o := .cells #[.slice Ao39 t261.length co39, .int .i64 t264] 24 (0, 0)) (by (with_reducible repeat (first | refine blk_drewN ?_ _ | refine blk_drew ?_ | refine blk_alloc ?_ _)); exact BK266.out) hb); have n6_ := Aside0.mk (blk_below (g := gb277) (o := .cells #[.slice Ao65 t273.length co65, .int .i64 t276] 24 (0, 0)) (by (with_reducible repeat (first | refine blk_drewN ?_ _ | refine blk_drew ?_ | refine blk_alloc ?_ _)); exact BK277.out) hb); have n7_ := Aside0.mk (below_step (by repeat (first | (with_reducible first | exact HB.out | apply below_alloc | apply pw_below_drewN | apply below_drew1 | refine below_set ?_ GE254.out | refine below_set ?_ GE266.out | refine below_set ?_ GE277.out) | exact HB.out)) hb); clear HO_7; clear HO_267000; clear HO272; clear HO275; clear BK254; clear BK266; clear BK277; clear HB; have HO_7 := n0_; have HO_267000 := n1_; have HO272 := n2_; have HO275 := n3_; have BK254 := n4_; have BK266 := n5_; have BK277 := n6_; have HB := n7_; clear n0_ n1_ n2_ n3_ n4_ n5_ n6_ n7_; (try clear hb); (try clear hb2); (try clear hk); (try clear hi)) | (go_at_call 11; (with_reducible refine (people_Right.calls kj34 _ _ t258 t280 _ ?side1 ?side2 A60.out).mono ?_); (case side1 => repeat (first | exact (Kd.S_reads' HO_7.out).2.2 | (with_reducible refine Kd.C_alloc ?_ _) | (with_reducible refine Kd.C_drewN ?_ _) | (with_reducible refine Kd.C_drew ?_))); (case side2 => exact (Kd.S_reads' HO_7.out).2.1); rintro e w75 ⟨rfl, hb⟩; have n0_ := Aside0.mk (Kd.S_below (by (with_reducible repeat (first | apply Kd.S_alloc | apply Kd.S_drewN | apply Kd.S_drew)); exact HO_7.out) hb); have n1_ := Aside0.mk (Kd.V_below (by (with_reducible repeat (first | apply Kd.V_alloc | apply Kd.V_drewN | apply Kd.V_drew)); exact HO_267000.out) hb); have n2_ := Aside0.mk (Kd.S_below (by (with_reducible repeat (first | apply Kd.S_alloc | apply Kd.S_drewN | apply Kd.S_drew)); exact HO272.out) hb); have n3_ := Aside0.mk (Kd.V_below (by (with_reducible repeat (first | apply Kd.V_alloc | apply Kd.V_drewN | apply Kd.V_drew)); exact HO275.out) hb); have n4_ := Aside0.mk (blk_below (g := gb254) (o := .cells #[.slice A1_0 l1_0.length c1_0, .int .i64 a1_1] 24 (0, 0)) (by (with_reducible repeat (first | refine blk_drewN ?_ _ | refine blk_drew ?_ | refine blk_alloc ?_ _)); exact BK254.out) hb); have n5_ := Aside0.mk (blk_below (g := gb266) (o := .cells #[.slice Ao39 t261.length co39, .int .i64 t264] 24 (0, 0)) (by (with_reducible repeat (first | refine blk_drewN ?_ _ | refine blk_drew ?_ | refine blk_alloc ?_ _)); exact BK266.out) hb); have n6_ := Aside0.mk (blk_below (g := gb277) (o := .cells #[.slice Ao65 t273.length co65, .int .i64 t276] 24 (0, 0)) (by (with_reducible repeat (first | refine blk_drewN ?_ _ | refine blk_drew ?_ | refine blk_alloc ?_ _)); exact BK277.out) hb); have n7_ := Aside0.mk (below_step (by repeat (first | (with_reducible first | exact HB.out | apply below_alloc | apply pw_below_drewN | apply below_drew1 | refine below_set ?_ GE254.out | refine below_set ?_ GE266.out | refine below_set ?_ GE277.out) | exact HB.out)) hb); clear HO_7; clear HO_267000; clear HO272; clear HO275; clear BK254; clear BK266; clear BK277; clear HB; have HO_7 := n0_; have HO_267000 := n1_; have HO272 := n2_; have HO275 := n3_; have BK254 := n4_; have BK266 := n5_; have BK277 := n6_; have HB := n7_; clear n0_ n1_ n2_ n3_ n4_ n5_ n6_ n7_; (try clear hb); (try clear hb2); (try clear hk); (try clear hi)))
                      go_ret
                      exact ⟨by first | rfl | (simp [errW_none, errW_some] <;> rfl) | (simp [*, errW_none, errW_some] <;> rfl), by repeat (first | (with_reducible first | exact HB.out | apply below_alloc | apply pw_below_drewN | apply below_drew1 | refine below_set ?_ GE254.out | refine below_set ?_ GE266.out | refine below_set ?_ GE277.out) | exact HB.out)⟩
                    · replace c59 := Bool.eq_false_iff.mpr c59
                      subst c59
                      have H1 : (some false) = some r := by rw [if_neg (show ¬ (false = true) by decide)] at H; exact H
                      clear H
                      have H := H1
                      clear H1
                      exact absurd (hT.out.symm.trans (Option.some.inj H).symm) (by decide)
                  · replace c57 := Bool.eq_false_iff.mpr c57
                    subst c57
                    have H1 : (some false) = some r := by rw [if_neg (show ¬ (false = true) by decide)] at H; exact H
                    clear H
                    have H := H1
                    clear H1
                    exact absurd (hT.out.symm.trans (Option.some.inj H).symm) (by decide)
                · rw [if_neg c55] at H
                  have c55b0 : (t265 == 0) = false := beq_eq_false_iff_ne.mpr c55
                  have c55b1 : (t265 != 0) = true := bne_iff_ne.mpr c55
                  exact absurd (hT.out.symm.trans (Option.some.inj H).symm) (by decide)

end Go.Proofs.Ytlgbahgddpggfaa.PPeopleNews
