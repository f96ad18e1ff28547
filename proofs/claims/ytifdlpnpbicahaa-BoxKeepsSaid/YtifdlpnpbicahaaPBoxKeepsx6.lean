-- Written for this claim by wip/tools/myprint.py (print.py's forms; proofs of the faked functions by hand).
import Derived.Test.YtifdlpnpbicahaaPBoxKeepsx1
import Derived.Test.YtifdlpnpbicahaaPBoxKeepsx2
import Derived.Test.YtifdlpnpbicahaaPBoxKeepsx3
import Derived.Test.YtifdlpnpbicahaaPBoxKeepsx0
import Derived.Test.YtifdlpnpbicahaaPBoxKeepsx4
import Derived.Test.YtifdlpnpbicahaaPBoxKeepsx5
namespace Go.Proofs.Ytifdlpnpbicahaa.PBoxKeeps
open Go.RowKit Go.Proofs.YtifdlpnpbicahaaW.PrintWords Go.Proofs.YtifdlpnpbicahaaW.PrintLast Go.Proofs.YtifdlpnpbicahaaW.PrintMore
attribute [local go_sem] max2_int min2_int max_two min_two max_three min_three max_four min_four   -- for this text's walks alone
set_option linter.unusedVariables false
set_option linter.unusedSimpArgs false

/-! ### chamberlainref07_Right: function 11 -/
mutual
def chamberlainref07_Right.j0 : Nat → Bool → Int → List (S43) → Option (Bool)
  | 0, _, _, _ => none
  | k + 1, x19, x252000, x252001 => if x19 = true then (some false) else (chamberlainref07_Right.l0 k 0 x252000 x252001)
def chamberlainref07_Right.l0 : Nat → Int → Int → List (S43) → Option (Bool)
  | 0, _, _, _ => none
  | k + 1, x3, x252000, x252001 => if x3 < (x252001.length : Int) then (if 0 ≤ x3 then (if (((rd_T43 x252001 x3).f3).length : Int) > 64 then (some false) else (if x3 ≤ (x252001.length : Int) then ((chamberlainref07_There.f k 0 (x252001.take (x3 : Int).toNat) ((rd_T43 x252001 x3).f0)).bind fun t258 => (if t258 = true then (some false) else (chamberlainref07_Right.l0 k (wrap64 (x3 + 1)) x252000 x252001))) else (none))) else (none)) else (some true)
end
def chamberlainref07_Right.f (k : Nat) (a0_0 : Int) (l0_1 : List (S43)) : Option (Bool) := if a0_0 < 0 then (chamberlainref07_Right.j0 k true a0_0 l0_1) else (if a0_0 > 64 then (chamberlainref07_Right.j0 k true a0_0 l0_1) else (chamberlainref07_Right.j0 k (decide ((l0_1.length : Int) > a0_0)) a0_0 l0_1))
theorem chamberlainref07_Right.mono_l : ∀ k, (∀ y0 y1 y2, LeO (chamberlainref07_Right.j0 k y0 y1 y2) (chamberlainref07_Right.j0 (k + 1) y0 y1 y2)) ∧ (∀ y0 y1 y2, LeO (chamberlainref07_Right.l0 k y0 y1 y2) (chamberlainref07_Right.l0 (k + 1) y0 y1 y2))
  | 0 => ⟨fun _ _ _ r h => by simp [chamberlainref07_Right.j0] at h, fun _ _ _ r h => by simp [chamberlainref07_Right.l0] at h⟩
  | k + 1 => by
    obtain ⟨ih0, ih1⟩ := chamberlainref07_Right.mono_l k
    refine ⟨?_, ?_⟩
    · intro y0 y1 y2
      unfold chamberlainref07_Right.j0
      repeat' first
      | (with_reducible exact ih0 _ _ _)
      | (with_reducible exact ih1 _ _ _)
      | (with_reducible exact chamberlainref07_There.mono _ _ _ _)
      | (with_reducible exact LeO.refl _)
      | (with_reducible exact LeO.none _)
      | (with_reducible refine LeO.ite ?_ ?_)
      | (with_reducible refine LeO.bind ?_ (fun _ => ?_))
      | exact ih0 _ _ _
      | exact ih1 _ _ _
      | exact chamberlainref07_There.mono _ _ _ _
      | exact LeO.none _
      | refine LeO.ite ?_ ?_
      | refine LeO.bind ?_ (fun _ => ?_)
    · intro y0 y1 y2
      unfold chamberlainref07_Right.l0
      repeat' first
      | (with_reducible exact ih0 _ _ _)
      | (with_reducible exact ih1 _ _ _)
      | (with_reducible exact chamberlainref07_There.mono _ _ _ _)
      | (with_reducible exact LeO.refl _)
      | (with_reducible exact LeO.none _)
      | (with_reducible refine LeO.ite ?_ ?_)
      | (with_reducible refine LeO.bind ?_ (fun _ => ?_))
      | exact ih0 _ _ _
      | exact ih1 _ _ _
      | exact chamberlainref07_There.mono _ _ _ _
      | exact LeO.none _
      | refine LeO.ite ?_ ?_
      | refine LeO.bind ?_ (fun _ => ?_)
theorem chamberlainref07_Right.mono : ∀ a0 a1 k, LeO (chamberlainref07_Right.f k a0 a1) (chamberlainref07_Right.f (k + 1) a0 a1) := by
  intro a0 a1 k
  obtain ⟨ih0, ih1⟩ := chamberlainref07_Right.mono_l k
  unfold chamberlainref07_Right.f
  repeat' first
      | (with_reducible exact ih0 _ _ _)
      | (with_reducible exact ih1 _ _ _)
      | (with_reducible exact chamberlainref07_There.mono _ _ _ _)
      | (with_reducible exact LeO.refl _)
      | (with_reducible exact LeO.none _)
      | (with_reducible refine LeO.ite ?_ ?_)
      | (with_reducible refine LeO.bind ?_ (fun _ => ?_))
      | exact ih0 _ _ _
      | exact ih1 _ _ _
      | exact chamberlainref07_There.mono _ _ _ _
      | exact LeO.none _
      | refine LeO.ite ?_ ?_
      | refine LeO.bind ?_ (fun _ => ?_)
def chamberlainref07_Right.T6 : Bool × List (List Nat × List Nat) := (true, [([], []), ([0], [0]), ([], []), ([1, 2], [1, 2]), ([3], [3]), ([4], [4]), ([5], [5]), ([6], [6]), ([7], [7]), ([8], [8]), ([9, 8], [8, 9]), ([8], [8]), ([10, 11, 8], [8, 10, 11]), ([12, 8], [8, 12]), ([8], [8]), ([14, 8], [8, 14]), ([8], [8]), ([15, 16, 8], [8, 15, 16]), ([17, 8], [8, 17]), ([18, 8], [8, 18]), ([13, 19, 8, 8], [8, 13, 19]), ([8, 20], [8, 20])])
def chamberlainref07_Right.B6 : List Nat := [0, 1, 0, 7, 15, 31, 63, 127, 255, 511, 1023, 511, 4095, 8191, 511, 16895, 511, 115199, 246271, 508415, 1048575, 2097151]
theorem chamberlainref07_Right.tab6 : rtab .any (opsOf Try.f11 6) = chamberlainref07_Right.T6 := by kernel_rfl
theorem chamberlainref07_Right.bits6 : waitsOk chamberlainref07_Right.T6.2 chamberlainref07_Right.B6 = true := by kernel_rfl
set_option maxHeartbeats 8000000 in
set_option maxRecDepth 100000 in
theorem chamberlainref07_Right.calls (k : Nat) (a0_0 : Int) (A0_1 : Option Addr) (c0_1 : Nat) (l0_1 : List (S43)) (r : Bool) (w : World) (hr0_1 : Kd.C k43 w A0_1 l0_1.length l0_1) (hc0_1 : l0_1.length ≤ c0_1) (h : chamberlainref07_Right.f k a0_0 l0_1 = some r) :
    Calls Try.prog 11 #[.agg #[.int .i64 a0_0, .slice A0_1 l0_1.length c0_1]] w fun e w' => e = .returned (.bool r) ∧ Below w.heap.size w w' := by
  have hu24 := Try.underlying24
  have HR0_1 := Aside0.mk hr0_1
  have HC0_1 := Aside0.mk hc0_1
  clear hr0_1 hc0_1
  have HB := Aside0.mk (Below.refl w.heap.size w)
  have H : (if a0_0 < 0 then (chamberlainref07_Right.j0 k true a0_0 l0_1) else (if a0_0 > 64 then (chamberlainref07_Right.j0 k true a0_0 l0_1) else (chamberlainref07_Right.j0 k (decide ((l0_1.length : Int) > a0_0)) a0_0 l0_1))) = some r := h
  clear h
  have HC2 := Aside0.mk H
  clear H
  go_enter Try.func11, Try.ntmps11
  go_upto_region 1 with (first | ((with_reducible refine gate_dst (N := 1) rfl ?_); (try (refine gate_guard (by rfl) ?_; dsimp only)); refine box_event ?hg (N := 1) ?hd (cs := #[.int .i64 a0_0, .slice A0_1 l0_1.length c0_1]) (t := 24) ?hr ?_; (case hd => rfl); (case hg => rfl); (case hr => first | (go_simp; done) | (go_simp; rfl)); intro gb251 hg w3 hbox hb; have n0_ := Aside0.mk (bs_ hb); have n1_ := Aside0.mk (hbox); have n3_ := Aside0.mk ((ge_ hg : w.heap.size ≤ gb251)); clear HB; have HB := n0_; have BK251 := n1_; have GE251 := n3_; clear n0_ n1_ n3_; clear hb hbox hg))
  (try simp only [Act.put, List.setIfInBounds_toArray, List.set_cons_zero, List.set_cons_succ])
  go_cut [19] (fun v19 wc => ∃ (kq : Nat) (x19_1 : Bool), v19 = .bool x19_1 ∧ Aside0 (chamberlainref07_Right.j0 kq x19_1 a0_0 l0_1 = some r) ∧ Aside0 (kq ≤ k) ∧ Aside0 (wc.heap[gb251]? = some (.cells #[.int .i64 a0_0, (.slice A0_1 l0_1.length c0_1)] 24 (0, 0))) ∧ Aside0 (Below w.heap.size w wc))
  case first =>
    have H := HC2.out
    clear HC2
    by_cases c4 : a0_0 < 0
    · rw [if_pos c4] at H
      have c4b0 : decide (a0_0 < 0) = true := decide_eq_true c4
      clear c4
      (first | rw [c4b0] | (simp only [i64_w, i32_w]; rw [c4b0]) | skip)
      have H' := Aside0.mk H
      clear H
      have ⟨hcz5_0, hcz5_1⟩ := cz2_ BK251.out
      have ⟨hfz5_0, hfz5_1⟩ := fz2_ BK251.out
      go_wp2
      go_meet
      case rel => exact ⟨_, (true), (by first | rfl | (simp; done) | (simp [*]; done)), H', ⟨by first | omega | exact Nat.le_refl _⟩, ⟨by (with_reducible repeat (first | refine blk_drewN ?_ _ | refine blk_drew ?_ | refine blk_alloc ?_ _)); exact BK251.out⟩, ⟨by repeat (first | (with_reducible first | exact HB.out | apply below_alloc | apply pw_below_drewN | apply below_drew1 | refine below_set ?_ GE251.out) | exact HB.out)⟩⟩
    · rw [if_neg c4] at H
      have c4b0 : decide (a0_0 < 0) = false := decide_eq_false c4
      clear c4
      (first | rw [c4b0] | (simp only [i64_w, i32_w]; rw [c4b0]) | skip)
      by_cases c6 : a0_0 > 64
      · rw [if_pos c6] at H
        have c6b0 : decide (64 < a0_0) = true := decide_eq_true c6
        clear c6
        have H' := Aside0.mk H
        clear H
        have ⟨hcz7_0, hcz7_1⟩ := cz2_ BK251.out
        have ⟨hfz7_0, hfz7_1⟩ := fz2_ BK251.out
        go_wp2
        go_meet
        case rel => exact ⟨_, (true), (by first | rfl | (simp; done) | (simp [*]; done)), H', ⟨by first | omega | exact Nat.le_refl _⟩, ⟨by (with_reducible repeat (first | refine blk_drewN ?_ _ | refine blk_drew ?_ | refine blk_alloc ?_ _)); exact BK251.out⟩, ⟨by repeat (first | (with_reducible first | exact HB.out | apply below_alloc | apply pw_below_drewN | apply below_drew1 | refine below_set ?_ GE251.out) | exact HB.out)⟩⟩
      · rw [if_neg c6] at H
        have c6b0 : decide (64 < a0_0) = false := decide_eq_false c6
        clear c6
        have H' := Aside0.mk H
        clear H
        have ⟨hcz8_0, hcz8_1⟩ := cz2_ BK251.out
        have ⟨hfz8_0, hfz8_1⟩ := fz2_ BK251.out
        go_wp2
        go_meet
        case rel => exact ⟨_, (decide ((l0_1.length : Int) > a0_0)), (by first | rfl | (simp; done) | (simp [*]; done)), H', ⟨by first | omega | exact Nat.le_refl _⟩, ⟨by (with_reducible repeat (first | refine blk_drewN ?_ _ | refine blk_drew ?_ | refine blk_alloc ?_ _)); exact BK251.out⟩, ⟨by repeat (first | (with_reducible first | exact HB.out | apply below_alloc | apply pw_below_drewN | apply below_drew1 | refine below_set ?_ GE251.out) | exact HB.out)⟩⟩
  case rest =>
    clear HC2
    try clear c1
    try clear p2
    try clear c4
    try clear c4b0
    try clear c6
    try clear c6b0
    try clear hcz5_0
    try clear hcz5_1
    try clear hcz7_0
    try clear hcz7_1
    try clear hcz8_0
    try clear hcz8_1
    try clear hfz5_0
    try clear hfz5_1
    try clear hfz7_0
    try clear hfz7_1
    try clear hfz8_0
    try clear hfz8_1
    obtain ⟨kq, x19_1, rfl, HA, HJ1, BK251, HB⟩ := hcut
    cases kq with
    | zero => exact absurd HA.out (by simp [chamberlainref07_Right.j0])
    | succ kj1 =>
      have H := HA.out
      clear HA
      simp only [chamberlainref07_Right.j0] at H
      by_cases c9 : x19_1 = true
      · subst c9
        have H1 : (some false) = some r := by rw [if_pos rfl] at H; exact H
        clear H
        have H := H1
        clear H1
        obtain rfl := Option.some.inj H
        go_wp2
        go_ret
        exact ⟨by first | rfl | (simp [errW_none, errW_some] <;> rfl) | (simp [*, errW_none, errW_some] <;> rfl), by repeat (first | (with_reducible first | exact HB.out | apply below_alloc | apply pw_below_drewN | apply below_drew1 | refine below_set ?_ GE251.out) | exact HB.out)⟩
      · replace c9 := Bool.eq_false_iff.mpr c9
        subst c9
        have H1 : (chamberlainref07_Right.l0 kj1 0 a0_0 l0_1) = some r := by rw [if_neg (show ¬ (false = true) by decide)] at H; exact H
        clear H
        have H := H1
        clear H1
        have H' := Aside0.mk H
        clear H
        go_wp2
        go_loopg [3] kj1 (fun kq v3 w' => ∃ (x3_2 : Int), v3 = .int .i64 x3_2 ∧ Aside0 (chamberlainref07_Right.l0 kq x3_2 a0_0 l0_1 = some r) ∧ Aside0 (kq ≤ kj1) ∧ Aside0 (w'.heap[gb251]? = some (.cells #[.int .i64 a0_0, (.slice A0_1 l0_1.length c0_1)] 24 (0, 0))) ∧ Aside0 (Below w.heap.size w w'))
        case atStart => exact ⟨(0), (by first | rfl | (simp; done) | (simp [*]; done)), H', ⟨Nat.le_refl _⟩, ⟨by (with_reducible repeat (first | refine blk_drewN ?_ _ | refine blk_drew ?_ | refine blk_alloc ?_ _)); exact BK251.out⟩, ⟨by repeat (first | (with_reducible first | exact HB.out | apply below_alloc | apply pw_below_drewN | apply below_drew1 | refine below_set ?_ GE251.out) | exact HB.out)⟩⟩
        case round =>
          clear H'
          try clear c1
          try clear p2
          try clear c4
          try clear c4b0
          try clear c6
          try clear c6b0
          try clear c9
          try clear hcz5_0
          try clear hcz5_1
          try clear hcz7_0
          try clear hcz7_1
          try clear hcz8_0
          try clear hcz8_1
          try clear hfz5_0
          try clear hfz5_1
          try clear hfz7_0
          try clear hfz7_1
          try clear hfz8_0
          try clear hfz8_1
          try clear p2
          obtain ⟨x3_2, rfl, HA, HK2, BK251, HB⟩ := hrel
          cases gk with
          | zero => exact absurd HA.out (by simp [chamberlainref07_Right.l0])
          | succ k2 =>
            have H := HA.out
            clear HA
            simp only [chamberlainref07_Right.l0] at H
            by_cases c10 : x3_2 < (l0_1.length : Int)
            · rw [if_pos c10] at H
              have c10b0 : decide (x3_2 < (l0_1.length : Int)) = true := decide_eq_true c10
              clear c10
              by_cases c11 : 0 ≤ x3_2
              · rw [if_pos c11] at H
                have c11b0 : decide (0 ≤ x3_2) = true := decide_eq_true c11
                clear c11
                by_cases c12 : (((rd_T43 l0_1 x3_2).f3).length : Int) > 64
                · rw [if_pos c12] at H
                  have c12b0 : decide (64 < (((rd_T43 l0_1 x3_2).f3).length : Int)) = true := decide_eq_true c12
                  have c12b1 : decide (64 < ((rd_T43 l0_1 x3_2).f3).length) = true := decide_eq_true (by omega)
                  clear c12
                  obtain rfl := Option.some.inj H
                  have ⟨hcz13_0, hcz13_1⟩ := cz2_ BK251.out
                  have ⟨hfz13_0, hfz13_1⟩ := fz2_ BK251.out
                  try go_wp2
                  have n0_ := Aside0.mk (blk_drew BK251.out)
                  have n1_ := Aside0.mk (below_drew1 HB.out)
                  clear BK251 HB
                  have BK251 := n0_
                  have HB := n1_
                  clear n0_ n1_
                  have p252 : 0 ≤ (x3_2 : Int) := of_decide_eq_true (by first | (with_reducible assumption) | assumption)
                  have q252 : x3_2 < (l0_1.length : Int) := of_decide_eq_true (by first | (with_reducible assumption) | assumption)
                  obtain ⟨ad252, A252_3, c252_3, e252, hx252_0, hx252_1, hx252_2, hx252_3, hl252_3, hi252_3⟩ := at_T43 HR0_1.out x3_2 p252 q252
                  have hw252_3 := hx252_3
                  have hw252_2 := hx252_2
                  have hw252_1 := hx252_1
                  have hw252_0 := hx252_0
                  cases e252
                  replace hx252_0 := (HB.out.cell (World.block_lt_of_cell? w _ hx252_0)).trans hx252_0
                  replace hx252_1 := (HB.out.cell (World.block_lt_of_cell? w _ hx252_1)).trans hx252_1
                  replace hx252_2 := (HB.out.cell (World.block_lt_of_cell? w _ hx252_2)).trans hx252_2
                  replace hx252_3 := (HB.out.cell (World.block_lt_of_cell? w _ hx252_3)).trans hx252_3
                  have HR252_3 := Aside0.mk hi252_3
                  have HC252_3 := Aside0.mk hl252_3
                  clear hi252_3 hl252_3
                  replace p252 := eq_true p252
                  replace q252 := eq_true q252
                  refine start_ (n := 22) (S := fun w' => w'.cell? ⟨gb251, 0, none⟩ = some (.int .i64 a0_0) ∧ w'.cell? ⟨gb251, 1, none⟩ = some (.slice (some ad252) l0_1.length c0_1) ∧ w'.cell? (ad252.add ((x3_2).toNat * 4)) = some (.int .u32 ((rd_T43 l0_1 x3_2).f0)) ∧ w'.cell? ⟨(ad252.add ((x3_2).toNat * 4)).block, (ad252.add ((x3_2).toNat * 4)).off + 1, none⟩ = some (.int .u32 ((rd_T43 l0_1 x3_2).f1)) ∧ w'.cell? ⟨(ad252.add ((x3_2).toNat * 4)).block, (ad252.add ((x3_2).toNat * 4)).off + 2, none⟩ = some (.int .u32 ((rd_T43 l0_1 x3_2).f2)) ∧ w'.cell? ⟨(ad252.add ((x3_2).toNat * 4)).block, (ad252.add ((x3_2).toNat * 4)).off + 3, none⟩ = some (.slice A252_3 ((rd_T43 l0_1 x3_2).f3).length c252_3)) (ds := []) #[false, false, false, false, false, false, false, false, false, false, false, false, false, false, false, false, false, false, false, false, false, false] (by kernel_rfl) rfl rfl ⟨(blk_cell BK251.out 0).trans rfl, (blk_cell BK251.out 1).trans rfl, ((HB.out.cell (World.block_lt_of_cell? w _ hw252_0)).trans hw252_0), ((HB.out.cell (World.block_lt_of_cell? w _ hw252_1)).trans hw252_1), ((HB.out.cell (World.block_lt_of_cell? w _ hw252_2)).trans hw252_2), ((HB.out.cell (World.block_lt_of_cell? w _ hw252_3)).trans hw252_3)⟩ (fun hHeld => ?_); refine with_tabW chamberlainref07_Right.tab6 chamberlainref07_Right.bits6 (fun HT_ HW_ => ?_)
                  generalize wr.drew = w14 at BK251 HB HR252_3 hx252_0 hx252_1 hx252_2 hx252_3 hHeld ⊢
                  refine pure_ (i := 0) (N := some 27) (v := ?_) (a' := ?_) #[true, false, false, false, false, false, false, false, false, false, false, false, false, false, false, false, false, false, false, false, false, false] rfl rfl (any_of HT_.out (by kernel_rfl)) (fun _ _ _ h => h) (Or.inl ⟨by rfl, ?_⟩) ?_ ?_
                  rotate_left
                  · intro w'
                    go_simp
                    with_reducible rfl
                  rotate_left
                  · simp only [Act.put, List.setIfInBounds_toArray, List.set_cons_zero, List.set_cons_succ, i64_w, i32_w]
                    rfl
                  refine pure_ (i := 2) (N := some 29) (v := ?_) (a' := ?_) #[true, false, true, false, false, false, false, false, false, false, false, false, false, false, false, false, false, false, false, false, false, false] rfl rfl (any_of HT_.out (by kernel_rfl)) (fun _ _ _ h => h) (Or.inl ⟨by rfl, ?_⟩) ?_ ?_
                  rotate_left
                  · intro w'
                    go_simp
                    with_reducible rfl
                  rotate_left
                  · simp only [Act.put, List.setIfInBounds_toArray, List.set_cons_zero, List.set_cons_succ, i64_w, i32_w]
                    rfl
                  refine take_ (i := 1) (N := some 28) (v := ?_) (a' := ?_) #[true, true, true, false, false, false, false, false, false, false, false, false, false, false, false, false, false, false, false, false, false, false] rfl rfl (take_ofW HT_.out HW_.out (by kernel_rfl)) (fun _ _ _ h => h) (Or.inl ⟨by rfl, ?_⟩) hHeld ?_ ?_
                  rotate_left
                  · rintro w' ⟨s0, s1, s2, s3, s4, s5⟩
                    go_simp
                    with_reducible rfl
                  rotate_left
                  · simp only [Act.put, List.setIfInBounds_toArray, List.set_cons_zero, List.set_cons_succ, i64_w, i32_w]
                    rfl
                  refine pure_ (i := 3) (N := some 30) (v := ?_) (a' := ?_) #[true, true, true, true, false, false, false, false, false, false, false, false, false, false, false, false, false, false, false, false, false, false] rfl rfl (any_of HT_.out (by kernel_rfl)) (fun _ _ _ h => h) (Or.inl ⟨by rfl, ?_⟩) ?_ ?_
                  rotate_left
                  · intro w'
                    go_simp
                    with_reducible rfl
                  rotate_left
                  · simp only [Act.put, List.setIfInBounds_toArray, List.set_cons_zero, List.set_cons_succ, i64_w, i32_w]
                    rfl
                  refine pure_ (i := 4) (N := some 31) (v := ?_) (a' := ?_) #[true, true, true, true, true, false, false, false, false, false, false, false, false, false, false, false, false, false, false, false, false, false] rfl rfl (any_of HT_.out (by kernel_rfl)) (fun _ _ _ h => h) (Or.inl ⟨by rfl, ?_⟩) ?_ ?_
                  rotate_left
                  · intro w'
                    go_simp
                    with_reducible rfl
                  rotate_left
                  · simp only [Act.put, List.setIfInBounds_toArray, List.set_cons_zero, List.set_cons_succ, i64_w, i32_w]
                    rfl
                  refine take_ (i := 5) (N := some 32) (v := ?_) (a' := ?_) #[true, true, true, true, true, true, false, false, false, false, false, false, false, false, false, false, false, false, false, false, false, false] rfl rfl (take_ofW HT_.out HW_.out (by kernel_rfl)) (fun _ _ _ h => h) (Or.inl ⟨by rfl, ?_⟩) hHeld ?_ ?_
                  rotate_left
                  · rintro w' ⟨s0, s1, s2, s3, s4, s5⟩
                    go_simp
                    with_reducible rfl
                  rotate_left
                  · simp only [Act.put, List.setIfInBounds_toArray, List.set_cons_zero, List.set_cons_succ, i64_w, i32_w]
                    rfl
                  refine pure_ (i := 6) (N := some 33) (v := ?_) (a' := ?_) #[true, true, true, true, true, true, true, false, false, false, false, false, false, false, false, false, false, false, false, false, false, false] rfl rfl (any_of HT_.out (by kernel_rfl)) (fun _ _ _ h => h) (Or.inl ⟨by rfl, ?_⟩) ?_ ?_
                  rotate_left
                  · intro w'
                    go_simp
                    with_reducible rfl
                  rotate_left
                  · simp only [Act.put, List.setIfInBounds_toArray, List.set_cons_zero, List.set_cons_succ, i64_w, i32_w]
                    rfl
                  refine pure_ (i := 7) (N := some 34) (v := ?_) (a' := ?_) #[true, true, true, true, true, true, true, true, false, false, false, false, false, false, false, false, false, false, false, false, false, false] rfl rfl (any_of HT_.out (by kernel_rfl)) (fun _ _ _ h => h) (Or.inl ⟨by rfl, ?_⟩) ?_ ?_
                  rotate_left
                  · intro w'
                    go_simp
                    with_reducible rfl
                  rotate_left
                  · simp only [Act.put, List.setIfInBounds_toArray, List.set_cons_zero, List.set_cons_succ, i64_w, i32_w]
                    rfl
                  refine pure_ (i := 8) (N := some 35) (v := ?_) (a' := ?_) #[true, true, true, true, true, true, true, true, true, false, false, false, false, false, false, false, false, false, false, false, false, false] rfl rfl (any_of HT_.out (by kernel_rfl)) (fun _ _ _ h => h) (Or.inl ⟨by rfl, ?_⟩) ?_ ?_
                  rotate_left
                  · intro w'
                    go_simp
                    with_reducible rfl
                  rotate_left
                  · simp only [Act.put, List.setIfInBounds_toArray, List.set_cons_zero, List.set_cons_succ, i64_w, i32_w]
                    rfl
                  refine pure_ (i := 9) (N := some 36) (v := undef) (a' := ?_) #[true, true, true, true, true, true, true, true, true, true, false, false, false, false, false, false, false, false, false, false, false, false] rfl rfl (any_of HT_.out (by kernel_rfl)) (fun _ _ _ h => h) (Or.inr ⟨by rfl, rfl⟩) ?_ ?_
                  rotate_left
                  · simp only [Act.put, List.setIfInBounds_toArray, List.set_cons_zero, List.set_cons_succ, i64_w, i32_w]
                    rfl
                  refine pure_ (i := 10) (N := some 37) (v := undef) (a' := ?_) #[true, true, true, true, true, true, true, true, true, true, true, false, false, false, false, false, false, false, false, false, false, false] rfl rfl (any_of HT_.out (by kernel_rfl)) (fun _ _ _ h => h) (Or.inr ⟨by rfl, rfl⟩) ?_ ?_
                  rotate_left
                  · simp only [Act.put, List.setIfInBounds_toArray, List.set_cons_zero, List.set_cons_succ, i64_w, i32_w]
                    rfl
                  refine pure_ (i := 11) (N := some 38) (v := undef) (a' := ?_) #[true, true, true, true, true, true, true, true, true, true, true, true, false, false, false, false, false, false, false, false, false, false] rfl rfl (any_of HT_.out (by kernel_rfl)) (fun _ _ _ h => h) (Or.inr ⟨by rfl, rfl⟩) ?_ ?_
                  rotate_left
                  · simp only [Act.put, List.setIfInBounds_toArray, List.set_cons_zero, List.set_cons_succ, i64_w, i32_w]
                    rfl
                  refine pure_ (i := 12) (N := some 39) (v := undef) (a' := ?_) #[true, true, true, true, true, true, true, true, true, true, true, true, true, false, false, false, false, false, false, false, false, false] rfl rfl (any_of HT_.out (by kernel_rfl)) (fun _ _ _ h => h) (Or.inr ⟨by rfl, rfl⟩) ?_ ?_
                  rotate_left
                  · simp only [Act.put, List.setIfInBounds_toArray, List.set_cons_zero, List.set_cons_succ, i64_w, i32_w]
                    rfl
                  refine pure_ (i := 13) (N := some 40) (v := undef) (a' := ?_) #[true, true, true, true, true, true, true, true, true, true, true, true, true, true, false, false, false, false, false, false, false, false] rfl rfl (any_of HT_.out (by kernel_rfl)) (fun _ _ _ h => h) (Or.inr ⟨by rfl, rfl⟩) ?_ ?_
                  rotate_left
                  · simp only [Act.put, List.setIfInBounds_toArray, List.set_cons_zero, List.set_cons_succ, i64_w, i32_w]
                    rfl
                  refine pure_ (i := 14) (N := some 41) (v := undef) (a' := ?_) #[true, true, true, true, true, true, true, true, true, true, true, true, true, true, true, false, false, false, false, false, false, false] rfl rfl (any_of HT_.out (by kernel_rfl)) (fun _ _ _ h => h) (Or.inr ⟨by rfl, rfl⟩) ?_ ?_
                  rotate_left
                  · simp only [Act.put, List.setIfInBounds_toArray, List.set_cons_zero, List.set_cons_succ, i64_w, i32_w]
                    rfl
                  refine pure_ (i := 15) (N := some 42) (v := undef) (a' := ?_) #[true, true, true, true, true, true, true, true, true, true, true, true, true, true, true, true, false, false, false, false, false, false] rfl rfl (any_of HT_.out (by kernel_rfl)) (fun _ _ _ h => h) (Or.inr ⟨by rfl, rfl⟩) ?_ ?_
                  rotate_left
                  · simp only [Act.put, List.setIfInBounds_toArray, List.set_cons_zero, List.set_cons_succ, i64_w, i32_w]
                    rfl
                  refine pure_ (i := 16) (N := some 43) (v := undef) (a' := ?_) #[true, true, true, true, true, true, true, true, true, true, true, true, true, true, true, true, true, false, false, false, false, false] rfl rfl (any_of HT_.out (by kernel_rfl)) (fun _ _ _ h => h) (Or.inr ⟨by rfl, rfl⟩) ?_ ?_
                  rotate_left
                  · simp only [Act.put, List.setIfInBounds_toArray, List.set_cons_zero, List.set_cons_succ, i64_w, i32_w]
                    rfl
                  refine pure_ (i := 17) (N := some 44) (v := undef) (a' := ?_) #[true, true, true, true, true, true, true, true, true, true, true, true, true, true, true, true, true, true, false, false, false, false] rfl rfl (any_of HT_.out (by kernel_rfl)) (fun _ _ _ h => h) (Or.inr ⟨by rfl, rfl⟩) ?_ ?_
                  rotate_left
                  · simp only [Act.put, List.setIfInBounds_toArray, List.set_cons_zero, List.set_cons_succ, i64_w, i32_w]
                    rfl
                  refine pure_ (i := 18) (N := some 45) (v := undef) (a' := ?_) #[true, true, true, true, true, true, true, true, true, true, true, true, true, true, true, true, true, true, true, false, false, false] rfl rfl (any_of HT_.out (by kernel_rfl)) (fun _ _ _ h => h) (Or.inr ⟨by rfl, rfl⟩) ?_ ?_
                  rotate_left
                  · simp only [Act.put, List.setIfInBounds_toArray, List.set_cons_zero, List.set_cons_succ, i64_w, i32_w]
                    rfl
                  refine pure_ (i := 19) (N := some 46) (v := undef) (a' := ?_) #[true, true, true, true, true, true, true, true, true, true, true, true, true, true, true, true, true, true, true, true, false, false] rfl rfl (any_of HT_.out (by kernel_rfl)) (fun _ _ _ h => h) (Or.inr ⟨by rfl, rfl⟩) ?_ ?_
                  rotate_left
                  · simp only [Act.put, List.setIfInBounds_toArray, List.set_cons_zero, List.set_cons_succ, i64_w, i32_w]
                    rfl
                  refine pure_ (i := 20) (N := some 47) (v := undef) (a' := ?_) #[true, true, true, true, true, true, true, true, true, true, true, true, true, true, true, true, true, true, true, true, true, false] rfl rfl (any_of HT_.out (by kernel_rfl)) (fun _ _ _ h => h) (Or.inr ⟨by rfl, rfl⟩) ?_ ?_
                  rotate_left
                  · simp only [Act.put, List.setIfInBounds_toArray, List.set_cons_zero, List.set_cons_succ, i64_w, i32_w]
                    rfl
                  refine pure_ (i := 21) (N := some 48) (v := ?_) (a' := ?_) #[true, true, true, true, true, true, true, true, true, true, true, true, true, true, true, true, true, true, true, true, true, true] rfl rfl (any_of HT_.out (by kernel_rfl)) (fun _ _ _ h => h) (Or.inl ⟨by rfl, ?_⟩) ?_ ?_
                  rotate_left
                  · intro w'
                    go_simp
                    with_reducible rfl
                  rotate_left
                  · simp only [Act.put, List.setIfInBounds_toArray, List.set_cons_zero, List.set_cons_succ, i64_w, i32_w]
                    rfl
                  refine done_ (done_of HT_.out (by kernel_rfl)) ?_
                  try go_wp2
                  go_ret
                  exact ⟨by first | rfl | (simp [errW_none, errW_some] <;> rfl) | (simp [*, errW_none, errW_some] <;> rfl), by repeat (first | (with_reducible first | exact HB.out | apply below_alloc | apply pw_below_drewN | apply below_drew1 | refine below_set ?_ GE251.out) | exact HB.out)⟩
                · rw [if_neg c12] at H
                  have c12b0 : decide (64 < (((rd_T43 l0_1 x3_2).f3).length : Int)) = false := decide_eq_false c12
                  have c12b1 : decide (64 < ((rd_T43 l0_1 x3_2).f3).length) = false := decide_eq_false (by omega)
                  clear c12
                  have c15b0 := eq_true (of_decide_eq_true (by first | (with_reducible assumption) | assumption) : 0 ≤ x3_2)
                  by_cases c16 : x3_2 ≤ (l0_1.length : Int)
                  · rw [if_pos c16] at H
                    have c16b0 := eq_true c16
                    have c16b1 : decide (x3_2 ≤ (l0_1.length : Int)) = true := decide_eq_true c16
                    clear c16
                    obtain ⟨y253, hy253⟩ : ∃ y_ : List (S43), y_ = (l0_1.take (x3_2 : Int).toNat) := ⟨_, rfl⟩
                    replace H : ((chamberlainref07_There.f k2 0 y253 ((rd_T43 l0_1 x3_2).f0)).bind fun t258 => (if t258 = true then (some false) else (chamberlainref07_Right.l0 k2 (wrap64 (x3_2 + 1)) a0_0 l0_1))) = some r := by first | (rw [hy253]; with_reducible exact H) | (have H2_ := (Option.bind_some _ _).symm.trans H; rw [hy253]; with_reducible exact H2_) | (have H2_ := (Option.bind_some _ _).symm.trans H; with_reducible exact H2_) | with_reducible exact H | (rw [hy253]; exact H) | exact H
                    have Ny253 := Aside0.mk hy253
                    clear hy253
                    replace H := Option.bind_eq_some_iff.mp H
                    obtain ⟨t258, A170, H⟩ := H
                    replace H : (if t258 = true then (some false) else (chamberlainref07_Right.l0 k2 (wrap64 (x3_2 + 1)) a0_0 l0_1)) = some r := H
                    have A17 := Aside0.mk A170
                    clear A170
                    by_cases c18 : t258 = true
                    · subst c18
                      have H1 : (some false) = some r := by rw [if_pos rfl] at H; exact H
                      clear H
                      have H := H1
                      clear H1
                      obtain rfl := Option.some.inj H
                      have ⟨hcz19_0, hcz19_1⟩ := cz2_ BK251.out
                      have ⟨hfz19_0, hfz19_1⟩ := fz2_ BK251.out
                      try go_wp2
                      have n0_ := Aside0.mk (blk_drew BK251.out)
                      have n1_ := Aside0.mk (below_drew1 HB.out)
                      clear BK251 HB
                      have BK251 := n0_
                      have HB := n1_
                      clear n0_ n1_
                      have p252 : 0 ≤ (x3_2 : Int) := of_decide_eq_true (by first | (with_reducible assumption) | assumption)
                      have q252 : x3_2 < (l0_1.length : Int) := of_decide_eq_true (by first | (with_reducible assumption) | assumption)
                      obtain ⟨ad252, A252_3, c252_3, e252, hx252_0, hx252_1, hx252_2, hx252_3, hl252_3, hi252_3⟩ := at_T43 HR0_1.out x3_2 p252 q252
                      have hw252_3 := hx252_3
                      have hw252_2 := hx252_2
                      have hw252_1 := hx252_1
                      have hw252_0 := hx252_0
                      cases e252
                      replace hx252_0 := (HB.out.cell (World.block_lt_of_cell? w _ hx252_0)).trans hx252_0
                      replace hx252_1 := (HB.out.cell (World.block_lt_of_cell? w _ hx252_1)).trans hx252_1
                      replace hx252_2 := (HB.out.cell (World.block_lt_of_cell? w _ hx252_2)).trans hx252_2
                      replace hx252_3 := (HB.out.cell (World.block_lt_of_cell? w _ hx252_3)).trans hx252_3
                      have HR252_3 := Aside0.mk hi252_3
                      have HC252_3 := Aside0.mk hl252_3
                      clear hi252_3 hl252_3
                      replace p252 := eq_true p252
                      replace q252 := eq_true q252
                      have q21 : (x3_2 : Int) ≤ ((l0_1.length : Int) : Int) := of_decide_eq_true (by first | (with_reducible assumption) | assumption)
                      obtain ⟨i021, hi021, _, hsz21, _⟩ := info_parts info43
                      have hroom21 : l0_1.length ≤ c0_1 := HC0_1.out
                      have hC21 : Kd.C k43 _ (some ad252) l0_1.length l0_1 := HR0_1.out
                      have hcut21 := cut_to (P := Try.prog) 22 43 .i64 Try.underlying22 hi021 (some ad252) l0_1.length c0_1 x3_2 (of_decide_eq_true (by first | (with_reducible assumption) | assumption)) q21 hroom21
                      have hr21 := Kd.C_take (m := (x3_2 : Int).toNat) hC21 (by omega)
                      have hy21 : y253.length = (x3_2 : Int).toNat := (by rw [Ny253.out, List.length_take]; omega)
                      rw [← Ny253.out] at hr21
                      rw [← hy21] at hcut21
                      have HR256 := Aside0.mk hr21
                      have HC256 := Aside0.mk (show y253.length ≤ c0_1 from by omega)
                      clear hr21 hC21 hroom21 hi021 hsz21
                      have KY21 := Aside0.mk hy21
                      clear hy21
                      replace q21 := eq_true q21
                      have p257 : 0 ≤ (x3_2 : Int) := of_decide_eq_true (by first | (with_reducible assumption) | assumption)
                      have q257 : x3_2 < (l0_1.length : Int) := of_decide_eq_true (by first | (with_reducible assumption) | assumption)
                      obtain ⟨ad257, A257_3, c257_3, e257, hx257_0, hx257_1, hx257_2, hx257_3, hl257_3, hi257_3⟩ := at_T43 HR0_1.out x3_2 p257 q257
                      have hw257_3 := hx257_3
                      have hw257_2 := hx257_2
                      have hw257_1 := hx257_1
                      have hw257_0 := hx257_0
                      obtain rfl : ad252 = ad257 := (by injection e257)
                      replace hx257_0 := (HB.out.cell (World.block_lt_of_cell? w _ hx257_0)).trans hx257_0
                      replace hx257_1 := (HB.out.cell (World.block_lt_of_cell? w _ hx257_1)).trans hx257_1
                      replace hx257_2 := (HB.out.cell (World.block_lt_of_cell? w _ hx257_2)).trans hx257_2
                      replace hx257_3 := (HB.out.cell (World.block_lt_of_cell? w _ hx257_3)).trans hx257_3
                      have HR257_3 := Aside0.mk hi257_3
                      have HC257_3 := Aside0.mk hl257_3
                      clear hi257_3 hl257_3
                      replace p257 := eq_true p257
                      replace q257 := eq_true q257
                      have ea_ := Option.some.inj (hx252_3.symm.trans hx257_3)
                      injection ea_ with ea_ en_ ec_
                      subst ea_
                      subst ec_
                      clear en_
                      refine start_ (n := 22) (S := fun w' => w'.cell? ⟨gb251, 0, none⟩ = some (.int .i64 a0_0) ∧ w'.cell? ⟨gb251, 1, none⟩ = some (.slice (some ad252) l0_1.length c0_1) ∧ w'.cell? (ad252.add ((x3_2).toNat * 4)) = some (.int .u32 ((rd_T43 l0_1 x3_2).f0)) ∧ w'.cell? ⟨(ad252.add ((x3_2).toNat * 4)).block, (ad252.add ((x3_2).toNat * 4)).off + 1, none⟩ = some (.int .u32 ((rd_T43 l0_1 x3_2).f1)) ∧ w'.cell? ⟨(ad252.add ((x3_2).toNat * 4)).block, (ad252.add ((x3_2).toNat * 4)).off + 2, none⟩ = some (.int .u32 ((rd_T43 l0_1 x3_2).f2)) ∧ w'.cell? ⟨(ad252.add ((x3_2).toNat * 4)).block, (ad252.add ((x3_2).toNat * 4)).off + 3, none⟩ = some (.slice A252_3 ((rd_T43 l0_1 x3_2).f3).length c252_3) ∧ w'.cell? (ad252.add ((x3_2).toNat * 4)) = some (.int .u32 ((rd_T43 l0_1 x3_2).f0)) ∧ w'.cell? ⟨(ad252.add ((x3_2).toNat * 4)).block, (ad252.add ((x3_2).toNat * 4)).off + 1, none⟩ = some (.int .u32 ((rd_T43 l0_1 x3_2).f1)) ∧ w'.cell? ⟨(ad252.add ((x3_2).toNat * 4)).block, (ad252.add ((x3_2).toNat * 4)).off + 2, none⟩ = some (.int .u32 ((rd_T43 l0_1 x3_2).f2)) ∧ w'.cell? ⟨(ad252.add ((x3_2).toNat * 4)).block, (ad252.add ((x3_2).toNat * 4)).off + 3, none⟩ = some (.slice A252_3 ((rd_T43 l0_1 x3_2).f3).length c252_3)) (ds := []) #[false, false, false, false, false, false, false, false, false, false, false, false, false, false, false, false, false, false, false, false, false, false] (by kernel_rfl) rfl rfl ⟨(blk_cell BK251.out 0).trans rfl, (blk_cell BK251.out 1).trans rfl, ((HB.out.cell (World.block_lt_of_cell? w _ hw252_0)).trans hw252_0), ((HB.out.cell (World.block_lt_of_cell? w _ hw252_1)).trans hw252_1), ((HB.out.cell (World.block_lt_of_cell? w _ hw252_2)).trans hw252_2), ((HB.out.cell (World.block_lt_of_cell? w _ hw252_3)).trans hw252_3), ((HB.out.cell (World.block_lt_of_cell? w _ hw257_0)).trans hw257_0), ((HB.out.cell (World.block_lt_of_cell? w _ hw257_1)).trans hw257_1), ((HB.out.cell (World.block_lt_of_cell? w _ hw257_2)).trans hw257_2), ((HB.out.cell (World.block_lt_of_cell? w _ hw257_3)).trans hw257_3)⟩ (fun hHeld => ?_); refine with_tabW chamberlainref07_Right.tab6 chamberlainref07_Right.bits6 (fun HT_ HW_ => ?_)
                      generalize wr.drew = w20 at BK251 HB HR252_3 HR256 HR257_3 hx252_0 hx252_1 hx252_2 hx252_3 hx257_0 hx257_1 hx257_2 hx257_3 hHeld ⊢
                      refine pure_ (i := 0) (N := some 27) (v := ?_) (a' := ?_) #[true, false, false, false, false, false, false, false, false, false, false, false, false, false, false, false, false, false, false, false, false, false] rfl rfl (any_of HT_.out (by kernel_rfl)) (fun _ _ _ h => h) (Or.inl ⟨by rfl, ?_⟩) ?_ ?_
                      rotate_left
                      · intro w'
                        go_simp
                        with_reducible rfl
                      rotate_left
                      · simp only [Act.put, List.setIfInBounds_toArray, List.set_cons_zero, List.set_cons_succ, i64_w, i32_w]
                        rfl
                      refine pure_ (i := 2) (N := some 29) (v := ?_) (a' := ?_) #[true, false, true, false, false, false, false, false, false, false, false, false, false, false, false, false, false, false, false, false, false, false] rfl rfl (any_of HT_.out (by kernel_rfl)) (fun _ _ _ h => h) (Or.inl ⟨by rfl, ?_⟩) ?_ ?_
                      rotate_left
                      · intro w'
                        go_simp
                        with_reducible rfl
                      rotate_left
                      · simp only [Act.put, List.setIfInBounds_toArray, List.set_cons_zero, List.set_cons_succ, i64_w, i32_w]
                        rfl
                      refine take_ (i := 1) (N := some 28) (v := ?_) (a' := ?_) #[true, true, true, false, false, false, false, false, false, false, false, false, false, false, false, false, false, false, false, false, false, false] rfl rfl (take_ofW HT_.out HW_.out (by kernel_rfl)) (fun _ _ _ h => h) (Or.inl ⟨by rfl, ?_⟩) hHeld ?_ ?_
                      rotate_left
                      · rintro w' ⟨s0, s1, s2, s3, s4, s5, s6, s7, s8, s9⟩
                        go_simp
                        with_reducible rfl
                      rotate_left
                      · simp only [Act.put, List.setIfInBounds_toArray, List.set_cons_zero, List.set_cons_succ, i64_w, i32_w]
                        rfl
                      refine pure_ (i := 3) (N := some 30) (v := ?_) (a' := ?_) #[true, true, true, true, false, false, false, false, false, false, false, false, false, false, false, false, false, false, false, false, false, false] rfl rfl (any_of HT_.out (by kernel_rfl)) (fun _ _ _ h => h) (Or.inl ⟨by rfl, ?_⟩) ?_ ?_
                      rotate_left
                      · intro w'
                        go_simp
                        with_reducible rfl
                      rotate_left
                      · simp only [Act.put, List.setIfInBounds_toArray, List.set_cons_zero, List.set_cons_succ, i64_w, i32_w]
                        rfl
                      refine pure_ (i := 4) (N := some 31) (v := ?_) (a' := ?_) #[true, true, true, true, true, false, false, false, false, false, false, false, false, false, false, false, false, false, false, false, false, false] rfl rfl (any_of HT_.out (by kernel_rfl)) (fun _ _ _ h => h) (Or.inl ⟨by rfl, ?_⟩) ?_ ?_
                      rotate_left
                      · intro w'
                        go_simp
                        with_reducible rfl
                      rotate_left
                      · simp only [Act.put, List.setIfInBounds_toArray, List.set_cons_zero, List.set_cons_succ, i64_w, i32_w]
                        rfl
                      refine take_ (i := 5) (N := some 32) (v := ?_) (a' := ?_) #[true, true, true, true, true, true, false, false, false, false, false, false, false, false, false, false, false, false, false, false, false, false] rfl rfl (take_ofW HT_.out HW_.out (by kernel_rfl)) (fun _ _ _ h => h) (Or.inl ⟨by rfl, ?_⟩) hHeld ?_ ?_
                      rotate_left
                      · rintro w' ⟨s0, s1, s2, s3, s4, s5, s6, s7, s8, s9⟩
                        go_simp
                        with_reducible rfl
                      rotate_left
                      · simp only [Act.put, List.setIfInBounds_toArray, List.set_cons_zero, List.set_cons_succ, i64_w, i32_w]
                        rfl
                      refine pure_ (i := 6) (N := some 33) (v := ?_) (a' := ?_) #[true, true, true, true, true, true, true, false, false, false, false, false, false, false, false, false, false, false, false, false, false, false] rfl rfl (any_of HT_.out (by kernel_rfl)) (fun _ _ _ h => h) (Or.inl ⟨by rfl, ?_⟩) ?_ ?_
                      rotate_left
                      · intro w'
                        go_simp
                        with_reducible rfl
                      rotate_left
                      · simp only [Act.put, List.setIfInBounds_toArray, List.set_cons_zero, List.set_cons_succ, i64_w, i32_w]
                        rfl
                      refine pure_ (i := 7) (N := some 34) (v := ?_) (a' := ?_) #[true, true, true, true, true, true, true, true, false, false, false, false, false, false, false, false, false, false, false, false, false, false] rfl rfl (any_of HT_.out (by kernel_rfl)) (fun _ _ _ h => h) (Or.inl ⟨by rfl, ?_⟩) ?_ ?_
                      rotate_left
                      · intro w'
                        go_simp
                        with_reducible rfl
                      rotate_left
                      · simp only [Act.put, List.setIfInBounds_toArray, List.set_cons_zero, List.set_cons_succ, i64_w, i32_w]
                        rfl
                      refine pure_ (i := 8) (N := some 35) (v := ?_) (a' := ?_) #[true, true, true, true, true, true, true, true, true, false, false, false, false, false, false, false, false, false, false, false, false, false] rfl rfl (any_of HT_.out (by kernel_rfl)) (fun _ _ _ h => h) (Or.inl ⟨by rfl, ?_⟩) ?_ ?_
                      rotate_left
                      · intro w'
                        go_simp
                        with_reducible rfl
                      rotate_left
                      · simp only [Act.put, List.setIfInBounds_toArray, List.set_cons_zero, List.set_cons_succ, i64_w, i32_w]
                        rfl
                      refine pure_ (i := 9) (N := some 36) (v := ?_) (a' := ?_) #[true, true, true, true, true, true, true, true, true, true, false, false, false, false, false, false, false, false, false, false, false, false] rfl rfl (any_of HT_.out (by kernel_rfl)) (fun _ _ _ h => h) (Or.inl ⟨by rfl, ?_⟩) ?_ ?_
                      rotate_left
                      · intro w'
                        go_simp
                        with_reducible rfl
                      rotate_left
                      · simp only [Act.put, List.setIfInBounds_toArray, List.set_cons_zero, List.set_cons_succ, i64_w, i32_w]
                        rfl
                      refine pure_ (i := 11) (N := some 38) (v := ?_) (a' := ?_) #[true, true, true, true, true, true, true, true, true, true, false, true, false, false, false, false, false, false, false, false, false, false] rfl rfl (any_of HT_.out (by kernel_rfl)) (fun _ _ _ h => h) (Or.inl ⟨by rfl, ?_⟩) ?_ ?_
                      rotate_left
                      · intro w'
                        go_simp
                        with_reducible rfl
                      rotate_left
                      · simp only [Act.put, List.setIfInBounds_toArray, List.set_cons_zero, List.set_cons_succ, i64_w, i32_w]
                        rfl
                      refine pure_ (i := 14) (N := some 41) (v := ?_) (a' := ?_) #[true, true, true, true, true, true, true, true, true, true, false, true, false, false, true, false, false, false, false, false, false, false] rfl rfl (any_of HT_.out (by kernel_rfl)) (fun _ _ _ h => h) (Or.inl ⟨by rfl, ?_⟩) ?_ ?_
                      rotate_left
                      · intro w'
                        go_simp
                        with_reducible rfl
                      rotate_left
                      · simp only [Act.put, List.setIfInBounds_toArray, List.set_cons_zero, List.set_cons_succ, i64_w, i32_w]
                        rfl
                      refine pure_ (i := 16) (N := some 43) (v := ?_) (a' := ?_) #[true, true, true, true, true, true, true, true, true, true, false, true, false, false, true, false, true, false, false, false, false, false] rfl rfl (any_of HT_.out (by kernel_rfl)) (fun _ _ _ h => h) (Or.inl ⟨by rfl, ?_⟩) ?_ ?_
                      rotate_left
                      · intro w'
                        go_simp
                        with_reducible rfl
                      rotate_left
                      · simp only [Act.put, List.setIfInBounds_toArray, List.set_cons_zero, List.set_cons_succ, i64_w, i32_w]
                        rfl
                      refine take_ (i := 10) (N := some 37) (v := ?_) (a' := ?_) #[true, true, true, true, true, true, true, true, true, true, true, true, false, false, true, false, true, false, false, false, false, false] rfl rfl (take_ofW HT_.out HW_.out (by kernel_rfl)) (fun _ _ _ h => h) (Or.inl ⟨by rfl, ?_⟩) hHeld ?_ ?_
                      rotate_left
                      · rintro w' ⟨s0, s1, s2, s3, s4, s5, s6, s7, s8, s9⟩
                        go_simp
                        with_reducible rfl
                      rotate_left
                      · simp only [Act.put, List.setIfInBounds_toArray, List.set_cons_zero, List.set_cons_succ, i64_w, i32_w]
                        rfl
                      refine pure_ (i := 12) (N := some 39) (v := ?_) (a' := ?_) #[true, true, true, true, true, true, true, true, true, true, true, true, true, false, true, false, true, false, false, false, false, false] rfl rfl (any_of HT_.out (by kernel_rfl)) (fun _ _ _ h => h) (Or.inl ⟨by rfl, ?_⟩) ?_ ?_
                      rotate_left
                      · intro w'
                        go_simp
                        with_reducible rfl
                      rotate_left
                      · simp only [Act.put, List.setIfInBounds_toArray, List.set_cons_zero, List.set_cons_succ, i64_w, i32_w]
                        rfl
                      refine pure_ (i := 13) (N := some 40) (v := ?_) (a' := ?_) #[true, true, true, true, true, true, true, true, true, true, true, true, true, true, true, false, true, false, false, false, false, false] rfl rfl (any_of HT_.out (by kernel_rfl)) (fun _ _ _ h => h) (Or.inl ⟨by rfl, ?_⟩) ?_ ?_
                      rotate_left
                      · intro w'
                        go_simp
                        with_reducible rfl
                      rotate_left
                      · simp only [Act.put, List.setIfInBounds_toArray, List.set_cons_zero, List.set_cons_succ, i64_w, i32_w]
                        rfl
                      refine take_ (i := 15) (N := some 42) (v := ?_) (a' := ?_) #[true, true, true, true, true, true, true, true, true, true, true, true, true, true, true, true, true, false, false, false, false, false] rfl rfl (take_ofW HT_.out HW_.out (by kernel_rfl)) (fun _ _ _ h => h) (Or.inl ⟨by rfl, ?_⟩) hHeld ?_ ?_
                      rotate_left
                      · rintro w' ⟨s0, s1, s2, s3, s4, s5, s6, s7, s8, s9⟩
                        go_simp
                        with_reducible rfl
                      rotate_left
                      · simp only [Act.put, List.setIfInBounds_toArray, List.set_cons_zero, List.set_cons_succ, i64_w, i32_w]
                        rfl
                      refine pure_ (i := 17) (N := some 44) (v := ?_) (a' := ?_) #[true, true, true, true, true, true, true, true, true, true, true, true, true, true, true, true, true, true, false, false, false, false] rfl rfl (any_of HT_.out (by kernel_rfl)) (fun _ _ _ h => h) (Or.inl ⟨by rfl, ?_⟩) ?_ ?_
                      rotate_left
                      · intro w'
                        go_simp
                        with_reducible rfl
                      rotate_left
                      · simp only [Act.put, List.setIfInBounds_toArray, List.set_cons_zero, List.set_cons_succ, i64_w, i32_w]
                        rfl
                      refine pure_ (i := 18) (N := some 45) (v := ?_) (a' := ?_) #[true, true, true, true, true, true, true, true, true, true, true, true, true, true, true, true, true, true, true, false, false, false] rfl rfl (any_of HT_.out (by kernel_rfl)) (fun _ _ _ h => h) (Or.inl ⟨by rfl, ?_⟩) ?_ ?_
                      rotate_left
                      · intro w'
                        go_simp
                        with_reducible rfl
                      rotate_left
                      · simp only [Act.put, List.setIfInBounds_toArray, List.set_cons_zero, List.set_cons_succ, i64_w, i32_w]
                        rfl
                      refine take_ (i := 19) (N := some 46) (v := ?_) (a' := ?_) #[true, true, true, true, true, true, true, true, true, true, true, true, true, true, true, true, true, true, true, true, false, false] rfl rfl (take_ofW HT_.out HW_.out (by kernel_rfl)) (fun _ _ _ h => h) (Or.inl ⟨by rfl, ?_⟩) hHeld ?_ ?_
                      rotate_left
                      · rintro w' ⟨s0, s1, s2, s3, s4, s5, s6, s7, s8, s9⟩
                        go_simp
                        with_reducible rfl
                      rotate_left
                      · simp only [Act.put, List.setIfInBounds_toArray, List.set_cons_zero, List.set_cons_succ, i64_w, i32_w]
                        rfl
                      refine one_ (i := 20) (N := some 47) #[true, true, true, true, true, true, true, true, true, true, true, true, true, true, true, true, true, true, true, true, true, false] rfl rfl (one_of HT_.out (by kernel_rfl)) (by decide) (fun K hK => ?_)
                      refine goes_ Try.func20 (by kernel_rfl) rfl #[.agg #[.int .i64 0, .slice (some ad252) y253.length c0_1], .int .u32 ((rd_T43 l0_1 x3_2).f0)] (by rfl) rfl rfl (by (try simp only [List.map_toArray, List.map_cons, List.map_nil]); first | done | rfl | (simp only [List.length_drop, List.length_take]; rfl)) ?_
                      with_reducible refine (chamberlainref07_There.calls k2 0 _ _ y253 ((rd_T43 l0_1 x3_2).f0) true _ ?side1 ?side2 A17.out).mono ?_
                      (case side1 => repeat (first | exact (Kd.C_below HR256.out HB.out) | (with_reducible refine Kd.C_alloc ?_ _) | (with_reducible refine Kd.C_drewN ?_ _) | (with_reducible refine Kd.C_drew ?_)))
                      (case side2 => exact HC256.out)
                      rintro e w22 ⟨rfl, hb⟩
                      refine ⟨_, rfl, ?_⟩
                      have n0_ := Aside0.mk (bb_ BK251.out hb)
                      have n1_ := Aside0.mk (bs_ hb)
                      clear BK251 HB
                      have BK251 := n0_
                      have HB := n1_
                      clear n0_ n1_
                      (try clear hb)
                      (try clear hb2)
                      (try clear hk)
                      (try clear hi)
                      refine hK.out _ _ ⟨(blk_cell BK251.out 0).trans rfl, (blk_cell BK251.out 1).trans rfl, ((HB.out.cell (World.block_lt_of_cell? w _ hw252_0)).trans hw252_0), ((HB.out.cell (World.block_lt_of_cell? w _ hw252_1)).trans hw252_1), ((HB.out.cell (World.block_lt_of_cell? w _ hw252_2)).trans hw252_2), ((HB.out.cell (World.block_lt_of_cell? w _ hw252_3)).trans hw252_3), ((HB.out.cell (World.block_lt_of_cell? w _ hw257_0)).trans hw257_0), ((HB.out.cell (World.block_lt_of_cell? w _ hw257_1)).trans hw257_1), ((HB.out.cell (World.block_lt_of_cell? w _ hw257_2)).trans hw257_2), ((HB.out.cell (World.block_lt_of_cell? w _ hw257_3)).trans hw257_3)⟩ (fun hHeld => ?_)
                      clear hK K
                      refine norm_ (a' := ?_) ?_ ?_
                      rotate_left
                      · show Act.put _ (some 47) _ = _
                        simp only [Act.put, List.setIfInBounds_toArray, List.set_cons_zero, List.set_cons_succ, i64_w, i32_w]
                        rfl
                      refine pure_ (i := 21) (N := some 48) (v := ?_) (a' := ?_) #[true, true, true, true, true, true, true, true, true, true, true, true, true, true, true, true, true, true, true, true, true, true] rfl rfl (any_of HT_.out (by kernel_rfl)) (fun _ _ _ h => h) (Or.inl ⟨by rfl, ?_⟩) ?_ ?_
                      rotate_left
                      · intro w'
                        go_simp
                        with_reducible rfl
                      rotate_left
                      · simp only [Act.put, List.setIfInBounds_toArray, List.set_cons_zero, List.set_cons_succ, i64_w, i32_w]
                        rfl
                      refine done_ (done_of HT_.out (by kernel_rfl)) ?_
                      try go_wp2
                      go_ret
                      exact ⟨by first | rfl | (simp [errW_none, errW_some] <;> rfl) | (simp [*, errW_none, errW_some] <;> rfl), by repeat (first | (with_reducible first | exact HB.out | apply below_alloc | apply pw_below_drewN | apply below_drew1 | refine below_set ?_ GE251.out) | exact HB.out)⟩
                    · replace c18 := Bool.eq_false_iff.mpr c18
                      subst c18
                      have H1 : (chamberlainref07_Right.l0 k2 (wrap64 (x3_2 + 1)) a0_0 l0_1) = some r := by rw [if_neg (show ¬ (false = true) by decide)] at H; exact H
                      clear H
                      have H := H1
                      clear H1
                      have H' := Aside0.mk H
                      clear H
                      have ⟨hcz23_0, hcz23_1⟩ := cz2_ BK251.out
                      have ⟨hfz23_0, hfz23_1⟩ := fz2_ BK251.out
                      try go_wp2
                      have n0_ := Aside0.mk (blk_drew BK251.out)
                      have n1_ := Aside0.mk (below_drew1 HB.out)
                      clear BK251 HB
                      have BK251 := n0_
                      have HB := n1_
                      clear n0_ n1_
                      have p252 : 0 ≤ (x3_2 : Int) := of_decide_eq_true (by first | (with_reducible assumption) | assumption)
                      have q252 : x3_2 < (l0_1.length : Int) := of_decide_eq_true (by first | (with_reducible assumption) | assumption)
                      obtain ⟨ad252, A252_3, c252_3, e252, hx252_0, hx252_1, hx252_2, hx252_3, hl252_3, hi252_3⟩ := at_T43 HR0_1.out x3_2 p252 q252
                      have hw252_3 := hx252_3
                      have hw252_2 := hx252_2
                      have hw252_1 := hx252_1
                      have hw252_0 := hx252_0
                      cases e252
                      replace hx252_0 := (HB.out.cell (World.block_lt_of_cell? w _ hx252_0)).trans hx252_0
                      replace hx252_1 := (HB.out.cell (World.block_lt_of_cell? w _ hx252_1)).trans hx252_1
                      replace hx252_2 := (HB.out.cell (World.block_lt_of_cell? w _ hx252_2)).trans hx252_2
                      replace hx252_3 := (HB.out.cell (World.block_lt_of_cell? w _ hx252_3)).trans hx252_3
                      have HR252_3 := Aside0.mk hi252_3
                      have HC252_3 := Aside0.mk hl252_3
                      clear hi252_3 hl252_3
                      replace p252 := eq_true p252
                      replace q252 := eq_true q252
                      have q25 : (x3_2 : Int) ≤ ((l0_1.length : Int) : Int) := of_decide_eq_true (by first | (with_reducible assumption) | assumption)
                      obtain ⟨i025, hi025, _, hsz25, _⟩ := info_parts info43
                      have hroom25 : l0_1.length ≤ c0_1 := HC0_1.out
                      have hC25 : Kd.C k43 _ (some ad252) l0_1.length l0_1 := HR0_1.out
                      have hcut25 := cut_to (P := Try.prog) 22 43 .i64 Try.underlying22 hi025 (some ad252) l0_1.length c0_1 x3_2 (of_decide_eq_true (by first | (with_reducible assumption) | assumption)) q25 hroom25
                      have hr25 := Kd.C_take (m := (x3_2 : Int).toNat) hC25 (by omega)
                      have hy25 : y253.length = (x3_2 : Int).toNat := (by rw [Ny253.out, List.length_take]; omega)
                      rw [← Ny253.out] at hr25
                      rw [← hy25] at hcut25
                      have HR256 := Aside0.mk hr25
                      have HC256 := Aside0.mk (show y253.length ≤ c0_1 from by omega)
                      clear hr25 hC25 hroom25 hi025 hsz25
                      have KY25 := Aside0.mk hy25
                      clear hy25
                      replace q25 := eq_true q25
                      have p257 : 0 ≤ (x3_2 : Int) := of_decide_eq_true (by first | (with_reducible assumption) | assumption)
                      have q257 : x3_2 < (l0_1.length : Int) := of_decide_eq_true (by first | (with_reducible assumption) | assumption)
                      obtain ⟨ad257, A257_3, c257_3, e257, hx257_0, hx257_1, hx257_2, hx257_3, hl257_3, hi257_3⟩ := at_T43 HR0_1.out x3_2 p257 q257
                      have hw257_3 := hx257_3
                      have hw257_2 := hx257_2
                      have hw257_1 := hx257_1
                      have hw257_0 := hx257_0
                      obtain rfl : ad252 = ad257 := (by injection e257)
                      replace hx257_0 := (HB.out.cell (World.block_lt_of_cell? w _ hx257_0)).trans hx257_0
                      replace hx257_1 := (HB.out.cell (World.block_lt_of_cell? w _ hx257_1)).trans hx257_1
                      replace hx257_2 := (HB.out.cell (World.block_lt_of_cell? w _ hx257_2)).trans hx257_2
                      replace hx257_3 := (HB.out.cell (World.block_lt_of_cell? w _ hx257_3)).trans hx257_3
                      have HR257_3 := Aside0.mk hi257_3
                      have HC257_3 := Aside0.mk hl257_3
                      clear hi257_3 hl257_3
                      replace p257 := eq_true p257
                      replace q257 := eq_true q257
                      have ea_ := Option.some.inj (hx252_3.symm.trans hx257_3)
                      injection ea_ with ea_ en_ ec_
                      subst ea_
                      subst ec_
                      clear en_
                      refine start_ (n := 22) (S := fun w' => w'.cell? ⟨gb251, 0, none⟩ = some (.int .i64 a0_0) ∧ w'.cell? ⟨gb251, 1, none⟩ = some (.slice (some ad252) l0_1.length c0_1) ∧ w'.cell? (ad252.add ((x3_2).toNat * 4)) = some (.int .u32 ((rd_T43 l0_1 x3_2).f0)) ∧ w'.cell? ⟨(ad252.add ((x3_2).toNat * 4)).block, (ad252.add ((x3_2).toNat * 4)).off + 1, none⟩ = some (.int .u32 ((rd_T43 l0_1 x3_2).f1)) ∧ w'.cell? ⟨(ad252.add ((x3_2).toNat * 4)).block, (ad252.add ((x3_2).toNat * 4)).off + 2, none⟩ = some (.int .u32 ((rd_T43 l0_1 x3_2).f2)) ∧ w'.cell? ⟨(ad252.add ((x3_2).toNat * 4)).block, (ad252.add ((x3_2).toNat * 4)).off + 3, none⟩ = some (.slice A252_3 ((rd_T43 l0_1 x3_2).f3).length c252_3) ∧ w'.cell? (ad252.add ((x3_2).toNat * 4)) = some (.int .u32 ((rd_T43 l0_1 x3_2).f0)) ∧ w'.cell? ⟨(ad252.add ((x3_2).toNat * 4)).block, (ad252.add ((x3_2).toNat * 4)).off + 1, none⟩ = some (.int .u32 ((rd_T43 l0_1 x3_2).f1)) ∧ w'.cell? ⟨(ad252.add ((x3_2).toNat * 4)).block, (ad252.add ((x3_2).toNat * 4)).off + 2, none⟩ = some (.int .u32 ((rd_T43 l0_1 x3_2).f2)) ∧ w'.cell? ⟨(ad252.add ((x3_2).toNat * 4)).block, (ad252.add ((x3_2).toNat * 4)).off + 3, none⟩ = some (.slice A252_3 ((rd_T43 l0_1 x3_2).f3).length c252_3)) (ds := []) #[false, false, false, false, false, false, false, false, false, false, false, false, false, false, false, false, false, false, false, false, false, false] (by kernel_rfl) rfl rfl ⟨(blk_cell BK251.out 0).trans rfl, (blk_cell BK251.out 1).trans rfl, ((HB.out.cell (World.block_lt_of_cell? w _ hw252_0)).trans hw252_0), ((HB.out.cell (World.block_lt_of_cell? w _ hw252_1)).trans hw252_1), ((HB.out.cell (World.block_lt_of_cell? w _ hw252_2)).trans hw252_2), ((HB.out.cell (World.block_lt_of_cell? w _ hw252_3)).trans hw252_3), ((HB.out.cell (World.block_lt_of_cell? w _ hw257_0)).trans hw257_0), ((HB.out.cell (World.block_lt_of_cell? w _ hw257_1)).trans hw257_1), ((HB.out.cell (World.block_lt_of_cell? w _ hw257_2)).trans hw257_2), ((HB.out.cell (World.block_lt_of_cell? w _ hw257_3)).trans hw257_3)⟩ (fun hHeld => ?_); refine with_tabW chamberlainref07_Right.tab6 chamberlainref07_Right.bits6 (fun HT_ HW_ => ?_)
                      generalize wr.drew = w24 at BK251 HB HR252_3 HR256 HR257_3 hx252_0 hx252_1 hx252_2 hx252_3 hx257_0 hx257_1 hx257_2 hx257_3 hHeld ⊢
                      refine pure_ (i := 0) (N := some 27) (v := ?_) (a' := ?_) #[true, false, false, false, false, false, false, false, false, false, false, false, false, false, false, false, false, false, false, false, false, false] rfl rfl (any_of HT_.out (by kernel_rfl)) (fun _ _ _ h => h) (Or.inl ⟨by rfl, ?_⟩) ?_ ?_
                      rotate_left
                      · intro w'
                        go_simp
                        with_reducible rfl
                      rotate_left
                      · simp only [Act.put, List.setIfInBounds_toArray, List.set_cons_zero, List.set_cons_succ, i64_w, i32_w]
                        rfl
                      refine pure_ (i := 2) (N := some 29) (v := ?_) (a' := ?_) #[true, false, true, false, false, false, false, false, false, false, false, false, false, false, false, false, false, false, false, false, false, false] rfl rfl (any_of HT_.out (by kernel_rfl)) (fun _ _ _ h => h) (Or.inl ⟨by rfl, ?_⟩) ?_ ?_
                      rotate_left
                      · intro w'
                        go_simp
                        with_reducible rfl
                      rotate_left
                      · simp only [Act.put, List.setIfInBounds_toArray, List.set_cons_zero, List.set_cons_succ, i64_w, i32_w]
                        rfl
                      refine take_ (i := 1) (N := some 28) (v := ?_) (a' := ?_) #[true, true, true, false, false, false, false, false, false, false, false, false, false, false, false, false, false, false, false, false, false, false] rfl rfl (take_ofW HT_.out HW_.out (by kernel_rfl)) (fun _ _ _ h => h) (Or.inl ⟨by rfl, ?_⟩) hHeld ?_ ?_
                      rotate_left
                      · rintro w' ⟨s0, s1, s2, s3, s4, s5, s6, s7, s8, s9⟩
                        go_simp
                        with_reducible rfl
                      rotate_left
                      · simp only [Act.put, List.setIfInBounds_toArray, List.set_cons_zero, List.set_cons_succ, i64_w, i32_w]
                        rfl
                      refine pure_ (i := 3) (N := some 30) (v := ?_) (a' := ?_) #[true, true, true, true, false, false, false, false, false, false, false, false, false, false, false, false, false, false, false, false, false, false] rfl rfl (any_of HT_.out (by kernel_rfl)) (fun _ _ _ h => h) (Or.inl ⟨by rfl, ?_⟩) ?_ ?_
                      rotate_left
                      · intro w'
                        go_simp
                        with_reducible rfl
                      rotate_left
                      · simp only [Act.put, List.setIfInBounds_toArray, List.set_cons_zero, List.set_cons_succ, i64_w, i32_w]
                        rfl
                      refine pure_ (i := 4) (N := some 31) (v := ?_) (a' := ?_) #[true, true, true, true, true, false, false, false, false, false, false, false, false, false, false, false, false, false, false, false, false, false] rfl rfl (any_of HT_.out (by kernel_rfl)) (fun _ _ _ h => h) (Or.inl ⟨by rfl, ?_⟩) ?_ ?_
                      rotate_left
                      · intro w'
                        go_simp
                        with_reducible rfl
                      rotate_left
                      · simp only [Act.put, List.setIfInBounds_toArray, List.set_cons_zero, List.set_cons_succ, i64_w, i32_w]
                        rfl
                      refine take_ (i := 5) (N := some 32) (v := ?_) (a' := ?_) #[true, true, true, true, true, true, false, false, false, false, false, false, false, false, false, false, false, false, false, false, false, false] rfl rfl (take_ofW HT_.out HW_.out (by kernel_rfl)) (fun _ _ _ h => h) (Or.inl ⟨by rfl, ?_⟩) hHeld ?_ ?_
                      rotate_left
                      · rintro w' ⟨s0, s1, s2, s3, s4, s5, s6, s7, s8, s9⟩
                        go_simp
                        with_reducible rfl
                      rotate_left
                      · simp only [Act.put, List.setIfInBounds_toArray, List.set_cons_zero, List.set_cons_succ, i64_w, i32_w]
                        rfl
                      refine pure_ (i := 6) (N := some 33) (v := ?_) (a' := ?_) #[true, true, true, true, true, true, true, false, false, false, false, false, false, false, false, false, false, false, false, false, false, false] rfl rfl (any_of HT_.out (by kernel_rfl)) (fun _ _ _ h => h) (Or.inl ⟨by rfl, ?_⟩) ?_ ?_
                      rotate_left
                      · intro w'
                        go_simp
                        with_reducible rfl
                      rotate_left
                      · simp only [Act.put, List.setIfInBounds_toArray, List.set_cons_zero, List.set_cons_succ, i64_w, i32_w]
                        rfl
                      refine pure_ (i := 7) (N := some 34) (v := ?_) (a' := ?_) #[true, true, true, true, true, true, true, true, false, false, false, false, false, false, false, false, false, false, false, false, false, false] rfl rfl (any_of HT_.out (by kernel_rfl)) (fun _ _ _ h => h) (Or.inl ⟨by rfl, ?_⟩) ?_ ?_
                      rotate_left
                      · intro w'
                        go_simp
                        with_reducible rfl
                      rotate_left
                      · simp only [Act.put, List.setIfInBounds_toArray, List.set_cons_zero, List.set_cons_succ, i64_w, i32_w]
                        rfl
                      refine pure_ (i := 8) (N := some 35) (v := ?_) (a' := ?_) #[true, true, true, true, true, true, true, true, true, false, false, false, false, false, false, false, false, false, false, false, false, false] rfl rfl (any_of HT_.out (by kernel_rfl)) (fun _ _ _ h => h) (Or.inl ⟨by rfl, ?_⟩) ?_ ?_
                      rotate_left
                      · intro w'
                        go_simp
                        with_reducible rfl
                      rotate_left
                      · simp only [Act.put, List.setIfInBounds_toArray, List.set_cons_zero, List.set_cons_succ, i64_w, i32_w]
                        rfl
                      refine pure_ (i := 9) (N := some 36) (v := ?_) (a' := ?_) #[true, true, true, true, true, true, true, true, true, true, false, false, false, false, false, false, false, false, false, false, false, false] rfl rfl (any_of HT_.out (by kernel_rfl)) (fun _ _ _ h => h) (Or.inl ⟨by rfl, ?_⟩) ?_ ?_
                      rotate_left
                      · intro w'
                        go_simp
                        with_reducible rfl
                      rotate_left
                      · simp only [Act.put, List.setIfInBounds_toArray, List.set_cons_zero, List.set_cons_succ, i64_w, i32_w]
                        rfl
                      refine pure_ (i := 11) (N := some 38) (v := ?_) (a' := ?_) #[true, true, true, true, true, true, true, true, true, true, false, true, false, false, false, false, false, false, false, false, false, false] rfl rfl (any_of HT_.out (by kernel_rfl)) (fun _ _ _ h => h) (Or.inl ⟨by rfl, ?_⟩) ?_ ?_
                      rotate_left
                      · intro w'
                        go_simp
                        with_reducible rfl
                      rotate_left
                      · simp only [Act.put, List.setIfInBounds_toArray, List.set_cons_zero, List.set_cons_succ, i64_w, i32_w]
                        rfl
                      refine pure_ (i := 14) (N := some 41) (v := ?_) (a' := ?_) #[true, true, true, true, true, true, true, true, true, true, false, true, false, false, true, false, false, false, false, false, false, false] rfl rfl (any_of HT_.out (by kernel_rfl)) (fun _ _ _ h => h) (Or.inl ⟨by rfl, ?_⟩) ?_ ?_
                      rotate_left
                      · intro w'
                        go_simp
                        with_reducible rfl
                      rotate_left
                      · simp only [Act.put, List.setIfInBounds_toArray, List.set_cons_zero, List.set_cons_succ, i64_w, i32_w]
                        rfl
                      refine pure_ (i := 16) (N := some 43) (v := ?_) (a' := ?_) #[true, true, true, true, true, true, true, true, true, true, false, true, false, false, true, false, true, false, false, false, false, false] rfl rfl (any_of HT_.out (by kernel_rfl)) (fun _ _ _ h => h) (Or.inl ⟨by rfl, ?_⟩) ?_ ?_
                      rotate_left
                      · intro w'
                        go_simp
                        with_reducible rfl
                      rotate_left
                      · simp only [Act.put, List.setIfInBounds_toArray, List.set_cons_zero, List.set_cons_succ, i64_w, i32_w]
                        rfl
                      refine take_ (i := 10) (N := some 37) (v := ?_) (a' := ?_) #[true, true, true, true, true, true, true, true, true, true, true, true, false, false, true, false, true, false, false, false, false, false] rfl rfl (take_ofW HT_.out HW_.out (by kernel_rfl)) (fun _ _ _ h => h) (Or.inl ⟨by rfl, ?_⟩) hHeld ?_ ?_
                      rotate_left
                      · rintro w' ⟨s0, s1, s2, s3, s4, s5, s6, s7, s8, s9⟩
                        go_simp
                        with_reducible rfl
                      rotate_left
                      · simp only [Act.put, List.setIfInBounds_toArray, List.set_cons_zero, List.set_cons_succ, i64_w, i32_w]
                        rfl
                      refine pure_ (i := 12) (N := some 39) (v := ?_) (a' := ?_) #[true, true, true, true, true, true, true, true, true, true, true, true, true, false, true, false, true, false, false, false, false, false] rfl rfl (any_of HT_.out (by kernel_rfl)) (fun _ _ _ h => h) (Or.inl ⟨by rfl, ?_⟩) ?_ ?_
                      rotate_left
                      · intro w'
                        go_simp
                        with_reducible rfl
                      rotate_left
                      · simp only [Act.put, List.setIfInBounds_toArray, List.set_cons_zero, List.set_cons_succ, i64_w, i32_w]
                        rfl
                      refine pure_ (i := 13) (N := some 40) (v := ?_) (a' := ?_) #[true, true, true, true, true, true, true, true, true, true, true, true, true, true, true, false, true, false, false, false, false, false] rfl rfl (any_of HT_.out (by kernel_rfl)) (fun _ _ _ h => h) (Or.inl ⟨by rfl, ?_⟩) ?_ ?_
                      rotate_left
                      · intro w'
                        go_simp
                        with_reducible rfl
                      rotate_left
                      · simp only [Act.put, List.setIfInBounds_toArray, List.set_cons_zero, List.set_cons_succ, i64_w, i32_w]
                        rfl
                      refine take_ (i := 15) (N := some 42) (v := ?_) (a' := ?_) #[true, true, true, true, true, true, true, true, true, true, true, true, true, true, true, true, true, false, false, false, false, false] rfl rfl (take_ofW HT_.out HW_.out (by kernel_rfl)) (fun _ _ _ h => h) (Or.inl ⟨by rfl, ?_⟩) hHeld ?_ ?_
                      rotate_left
                      · rintro w' ⟨s0, s1, s2, s3, s4, s5, s6, s7, s8, s9⟩
                        go_simp
                        with_reducible rfl
                      rotate_left
                      · simp only [Act.put, List.setIfInBounds_toArray, List.set_cons_zero, List.set_cons_succ, i64_w, i32_w]
                        rfl
                      refine pure_ (i := 17) (N := some 44) (v := ?_) (a' := ?_) #[true, true, true, true, true, true, true, true, true, true, true, true, true, true, true, true, true, true, false, false, false, false] rfl rfl (any_of HT_.out (by kernel_rfl)) (fun _ _ _ h => h) (Or.inl ⟨by rfl, ?_⟩) ?_ ?_
                      rotate_left
                      · intro w'
                        go_simp
                        with_reducible rfl
                      rotate_left
                      · simp only [Act.put, List.setIfInBounds_toArray, List.set_cons_zero, List.set_cons_succ, i64_w, i32_w]
                        rfl
                      refine pure_ (i := 18) (N := some 45) (v := ?_) (a' := ?_) #[true, true, true, true, true, true, true, true, true, true, true, true, true, true, true, true, true, true, true, false, false, false] rfl rfl (any_of HT_.out (by kernel_rfl)) (fun _ _ _ h => h) (Or.inl ⟨by rfl, ?_⟩) ?_ ?_
                      rotate_left
                      · intro w'
                        go_simp
                        with_reducible rfl
                      rotate_left
                      · simp only [Act.put, List.setIfInBounds_toArray, List.set_cons_zero, List.set_cons_succ, i64_w, i32_w]
                        rfl
                      refine take_ (i := 19) (N := some 46) (v := ?_) (a' := ?_) #[true, true, true, true, true, true, true, true, true, true, true, true, true, true, true, true, true, true, true, true, false, false] rfl rfl (take_ofW HT_.out HW_.out (by kernel_rfl)) (fun _ _ _ h => h) (Or.inl ⟨by rfl, ?_⟩) hHeld ?_ ?_
                      rotate_left
                      · rintro w' ⟨s0, s1, s2, s3, s4, s5, s6, s7, s8, s9⟩
                        go_simp
                        with_reducible rfl
                      rotate_left
                      · simp only [Act.put, List.setIfInBounds_toArray, List.set_cons_zero, List.set_cons_succ, i64_w, i32_w]
                        rfl
                      refine one_ (i := 20) (N := some 47) #[true, true, true, true, true, true, true, true, true, true, true, true, true, true, true, true, true, true, true, true, true, false] rfl rfl (one_of HT_.out (by kernel_rfl)) (by decide) (fun K hK => ?_)
                      refine goes_ Try.func20 (by kernel_rfl) rfl #[.agg #[.int .i64 0, .slice (some ad252) y253.length c0_1], .int .u32 ((rd_T43 l0_1 x3_2).f0)] (by rfl) rfl rfl (by (try simp only [List.map_toArray, List.map_cons, List.map_nil]); first | done | rfl | (simp only [List.length_drop, List.length_take]; rfl)) ?_
                      with_reducible refine (chamberlainref07_There.calls k2 0 _ _ y253 ((rd_T43 l0_1 x3_2).f0) false _ ?side1 ?side2 A17.out).mono ?_
                      (case side1 => repeat (first | exact (Kd.C_below HR256.out HB.out) | (with_reducible refine Kd.C_alloc ?_ _) | (with_reducible refine Kd.C_drewN ?_ _) | (with_reducible refine Kd.C_drew ?_)))
                      (case side2 => exact HC256.out)
                      rintro e w26 ⟨rfl, hb⟩
                      refine ⟨_, rfl, ?_⟩
                      have n0_ := Aside0.mk (bb_ BK251.out hb)
                      have n1_ := Aside0.mk (bs_ hb)
                      clear BK251 HB
                      have BK251 := n0_
                      have HB := n1_
                      clear n0_ n1_
                      (try clear hb)
                      (try clear hb2)
                      (try clear hk)
                      (try clear hi)
                      refine hK.out _ _ ⟨(blk_cell BK251.out 0).trans rfl, (blk_cell BK251.out 1).trans rfl, ((HB.out.cell (World.block_lt_of_cell? w _ hw252_0)).trans hw252_0), ((HB.out.cell (World.block_lt_of_cell? w _ hw252_1)).trans hw252_1), ((HB.out.cell (World.block_lt_of_cell? w _ hw252_2)).trans hw252_2), ((HB.out.cell (World.block_lt_of_cell? w _ hw252_3)).trans hw252_3), ((HB.out.cell (World.block_lt_of_cell? w _ hw257_0)).trans hw257_0), ((HB.out.cell (World.block_lt_of_cell? w _ hw257_1)).trans hw257_1), ((HB.out.cell (World.block_lt_of_cell? w _ hw257_2)).trans hw257_2), ((HB.out.cell (World.block_lt_of_cell? w _ hw257_3)).trans hw257_3)⟩ (fun hHeld => ?_)
                      clear hK K
                      refine norm_ (a' := ?_) ?_ ?_
                      rotate_left
                      · show Act.put _ (some 47) _ = _
                        simp only [Act.put, List.setIfInBounds_toArray, List.set_cons_zero, List.set_cons_succ, i64_w, i32_w]
                        rfl
                      refine pure_ (i := 21) (N := some 48) (v := ?_) (a' := ?_) #[true, true, true, true, true, true, true, true, true, true, true, true, true, true, true, true, true, true, true, true, true, true] rfl rfl (any_of HT_.out (by kernel_rfl)) (fun _ _ _ h => h) (Or.inl ⟨by rfl, ?_⟩) ?_ ?_
                      rotate_left
                      · intro w'
                        go_simp
                        with_reducible rfl
                      rotate_left
                      · simp only [Act.put, List.setIfInBounds_toArray, List.set_cons_zero, List.set_cons_succ, i64_w, i32_w]
                        rfl
                      refine done_ (done_of HT_.out (by kernel_rfl)) ?_
                      try go_wp2
                      go_roundg k2
                      case measure => have := HJ1.out; have := HK2.out; omega
                      case rel => exact ⟨(wrap64 (x3_2 + 1)), (by first | rfl | (simp; done) | (simp [*]; done)), H', ⟨by have := HJ1.out; have := HK2.out; omega⟩, ⟨by (with_reducible repeat (first | refine blk_drewN ?_ _ | refine blk_drew ?_ | refine blk_alloc ?_ _)); exact BK251.out⟩, ⟨by repeat (first | (with_reducible first | exact HB.out | apply below_alloc | apply pw_below_drewN | apply below_drew1 | refine below_set ?_ GE251.out) | exact HB.out)⟩⟩
                  · rw [if_neg c16] at H
                    exact absurd H (by simp)
              · rw [if_neg c11] at H
                exact absurd H (by simp)
            · rw [if_neg c10] at H
              have c10b0 : decide (x3_2 < (l0_1.length : Int)) = false := decide_eq_false c10
              clear c10
              obtain rfl := Option.some.inj H
              have ⟨hcz27_0, hcz27_1⟩ := cz2_ BK251.out
              have ⟨hfz27_0, hfz27_1⟩ := fz2_ BK251.out
              go_wp2
              go_ret
              exact ⟨by first | rfl | (simp [errW_none, errW_some] <;> rfl) | (simp [*, errW_none, errW_some] <;> rfl), by repeat (first | (with_reducible first | exact HB.out | apply below_alloc | apply pw_below_drewN | apply below_drew1 | refine below_set ?_ GE251.out) | exact HB.out)⟩

/-! ### chamberlainlaw07_fits: function 19 -/
def chamberlainlaw07_fits.f (k : Nat) (a0_0 : Int) (l0_1 : List (S43)) : Option (Bool) := (chamberlainref07_Few.f k a0_0 l0_1).bind fun t260 => (if t260 = true then ((chamberlainref07_Right.f k a0_0 l0_1).bind fun t261 => (some t261)) else (some false))
theorem chamberlainlaw07_fits.mono : ∀ a0 a1 k, LeO (chamberlainlaw07_fits.f k a0 a1) (chamberlainlaw07_fits.f (k + 1) a0 a1) := by
  intro a0 a1 k
  unfold chamberlainlaw07_fits.f
  repeat' first
      | (with_reducible exact chamberlainref07_Few.mono _ _ _)
      | (with_reducible exact chamberlainref07_Right.mono _ _ _)
      | (with_reducible exact LeO.refl _)
      | (with_reducible exact LeO.none _)
      | (with_reducible refine LeO.ite ?_ ?_)
      | (with_reducible refine LeO.bind ?_ (fun _ => ?_))
      | exact chamberlainref07_Few.mono _ _ _
      | exact chamberlainref07_Right.mono _ _ _
      | exact LeO.none _
      | refine LeO.ite ?_ ?_
      | refine LeO.bind ?_ (fun _ => ?_)
set_option maxHeartbeats 8000000 in
set_option maxRecDepth 100000 in
theorem chamberlainlaw07_fits.calls (k : Nat) (a0_0 : Int) (A0_1 : Option Addr) (c0_1 : Nat) (l0_1 : List (S43)) (r : Bool) (w : World) (hr0_1 : Kd.C k43 w A0_1 l0_1.length l0_1) (hc0_1 : l0_1.length ≤ c0_1) (h : chamberlainlaw07_fits.f k a0_0 l0_1 = some r) :
    Calls Try.prog 19 #[.agg #[.int .i64 a0_0, .slice A0_1 l0_1.length c0_1]] w fun e w' => e = .returned (.bool r) ∧ Below w.heap.size w w' := by
  have hu24 := Try.underlying24
  have HR0_1 := Aside0.mk hr0_1
  have HC0_1 := Aside0.mk hc0_1
  clear hr0_1 hc0_1
  have HB := Aside0.mk (Below.refl w.heap.size w)
  have H : ((chamberlainref07_Few.f k a0_0 l0_1).bind fun t260 => (if t260 = true then ((chamberlainref07_Right.f k a0_0 l0_1).bind fun t261 => (some t261)) else (some false))) = some r := h
  clear h
  replace H := Option.bind_eq_some_iff.mp H
  obtain ⟨t260, A20, H⟩ := H
  replace H : (if t260 = true then ((chamberlainref07_Right.f k a0_0 l0_1).bind fun t261 => (some t261)) else (some false)) = some r := H
  have A2 := Aside0.mk A20
  clear A20
  by_cases c3 : t260 = true
  · subst c3
    have H1 : ((chamberlainref07_Right.f k a0_0 l0_1).bind fun t261 => (some t261)) = some r := by rw [if_pos rfl] at H; exact H
    clear H
    have H := H1
    clear H1
    replace H := Option.bind_eq_some_iff.mp H
    obtain ⟨t261, A40, H⟩ := H
    replace H : (some t261) = some r := H
    have A4 := Aside0.mk A40
    clear A40
    obtain rfl := Option.some.inj H
    go_enter Try.func19, Try.ntmps19
    go_wp2_with (first | ((with_reducible refine gate_dst (N := 1) rfl ?_); refine box_event ?hg (N := 1) ?hd (cs := #[.int .i64 a0_0, .slice A0_1 l0_1.length c0_1]) (t := 24) ?hr ?_; (case hd => rfl); (case hg => rfl); (case hr => first | (go_simp; done) | (go_simp; rfl)); intro gb259 hg w5 hbox hb; have n0_ := Aside0.mk (below_step (by repeat (first | (with_reducible first | exact HB.out | apply below_alloc | apply pw_below_drewN | apply below_drew1) | exact HB.out)) hb); have n1_ := Aside0.mk (hbox); have n2_ := Aside0.mk ((by rw [hg]; exact (below_size (by repeat (first | (with_reducible first | exact HB.out | apply below_alloc | apply pw_below_drewN | apply below_drew1) | exact HB.out))) : w.heap.size ≤ gb259)); have n3_ := Aside0.mk ((by rw [hg]; exact (below_size (by repeat (first | (with_reducible first | exact HB.out | apply below_alloc | apply pw_below_drewN | apply below_drew1) | exact HB.out))) : w.heap.size ≤ gb259)); clear HB; have HB := n0_; have BK259 := n1_; have GW259 := n2_; have GE259 := n3_; clear n0_ n1_ n2_ n3_; clear hb hbox hg; have hcz6_0 : w5.cell? ⟨gb259, 0, none⟩ = some (.int .i64 a0_0) := (blk_cell BK259.out 0).trans rfl; have hcz6_1 : w5.cell? ⟨gb259, 1, none⟩ = some (.slice A0_1 l0_1.length c0_1) := (blk_cell BK259.out 1).trans rfl; have hfz6_0 := blk_frozen BK259.out 0; have hfz6_1 := blk_frozen BK259.out 1) | ((with_reducible refine gate_callee (f := 9) rfl ?_); refine goesL_ (some 4) rfl rfl Try.func9 (by kernel_rfl) rfl #[.agg #[.int .i64 a0_0, .slice A0_1 l0_1.length c0_1]] rfl (by (try simp only [List.map_toArray, List.map_cons, List.map_nil]); first | done | rfl | (simp only [List.length_drop, List.length_take]; rfl)) ?_; (with_reducible refine (chamberlainref07_Few.calls k a0_0 _ _ l0_1 true _ ?side1 ?side2 A2.out).mono ?_); (case side1 => repeat (first | exact (Kd.C_below HR0_1.out HB.out) | (with_reducible refine Kd.C_alloc ?_ _) | (with_reducible refine Kd.C_drewN ?_ _) | (with_reducible refine Kd.C_drew ?_))); (case side2 => exact HC0_1.out); rintro e w7 ⟨rfl, hb⟩; refine ⟨_, rfl, ?_⟩; have n0_ := Aside0.mk (blk_below (g := gb259) (o := .cells #[.int .i64 a0_0, .slice A0_1 l0_1.length c0_1] 24 (0, 0)) (by (with_reducible repeat (first | refine blk_drewN ?_ _ | refine blk_drew ?_ | refine blk_alloc ?_ _)); exact BK259.out) hb); have n1_ := Aside0.mk (below_step (by repeat (first | (with_reducible first | exact HB.out | apply below_alloc | apply pw_below_drewN | apply below_drew1 | refine below_set ?_ GE259.out) | exact HB.out)) hb); clear BK259; clear HB; have BK259 := n0_; have HB := n1_; clear n0_ n1_; (try clear hb); (try clear hb2); (try clear hk); (try clear hi); have hcz8_0 : w7.cell? ⟨gb259, 0, none⟩ = some (.int .i64 a0_0) := (blk_cell BK259.out 0).trans rfl; have hcz8_1 : w7.cell? ⟨gb259, 1, none⟩ = some (.slice A0_1 l0_1.length c0_1) := (blk_cell BK259.out 1).trans rfl; have hfz8_0 := blk_frozen BK259.out 0; have hfz8_1 := blk_frozen BK259.out 1) | (go_at_call 11; (with_reducible refine (chamberlainref07_Right.calls k a0_0 _ _ l0_1 t261 _ ?side1 ?side2 A4.out).mono ?_); (case side1 => repeat (first | exact (Kd.C_below HR0_1.out HB.out) | (with_reducible refine Kd.C_alloc ?_ _) | (with_reducible refine Kd.C_drewN ?_ _) | (with_reducible refine Kd.C_drew ?_))); (case side2 => exact HC0_1.out); rintro e w9 ⟨rfl, hb⟩; have n0_ := Aside0.mk (blk_below (g := gb259) (o := .cells #[.int .i64 a0_0, .slice A0_1 l0_1.length c0_1] 24 (0, 0)) (by (with_reducible repeat (first | refine blk_drewN ?_ _ | refine blk_drew ?_ | refine blk_alloc ?_ _)); exact BK259.out) hb); have n1_ := Aside0.mk (below_step (by repeat (first | (with_reducible first | exact HB.out | apply below_alloc | apply pw_below_drewN | apply below_drew1 | refine below_set ?_ GE259.out) | exact HB.out)) hb); clear BK259; clear HB; have BK259 := n0_; have HB := n1_; clear n0_ n1_; (try clear hb); (try clear hb2); (try clear hk); (try clear hi)))
    go_ret
    exact ⟨by first | rfl | (simp [errW_none, errW_some] <;> rfl) | (simp [*, errW_none, errW_some] <;> rfl), by repeat (first | (with_reducible first | exact HB.out | apply below_alloc | apply pw_below_drewN | apply below_drew1 | refine below_set ?_ GE259.out) | exact HB.out)⟩
  · replace c3 := Bool.eq_false_iff.mpr c3
    subst c3
    have H1 : (some false) = some r := by rw [if_neg (show ¬ (false = true) by decide)] at H; exact H
    clear H
    have H := H1
    clear H1
    obtain rfl := Option.some.inj H
    go_enter Try.func19, Try.ntmps19
    go_wp2_with (first | ((with_reducible refine gate_dst (N := 1) rfl ?_); refine box_event ?hg (N := 1) ?hd (cs := #[.int .i64 a0_0, .slice A0_1 l0_1.length c0_1]) (t := 24) ?hr ?_; (case hd => rfl); (case hg => rfl); (case hr => first | (go_simp; done) | (go_simp; rfl)); intro gb259 hg w10 hbox hb; have n0_ := Aside0.mk (below_step (by repeat (first | (with_reducible first | exact HB.out | apply below_alloc | apply pw_below_drewN | apply below_drew1) | exact HB.out)) hb); have n1_ := Aside0.mk (hbox); have n2_ := Aside0.mk ((by rw [hg]; exact (below_size (by repeat (first | (with_reducible first | exact HB.out | apply below_alloc | apply pw_below_drewN | apply below_drew1) | exact HB.out))) : w.heap.size ≤ gb259)); have n3_ := Aside0.mk ((by rw [hg]; exact (below_size (by repeat (first | (with_reducible first | exact HB.out | apply below_alloc | apply pw_below_drewN | apply below_drew1) | exact HB.out))) : w.heap.size ≤ gb259)); clear HB; have HB := n0_; have BK259 := n1_; have GW259 := n2_; have GE259 := n3_; clear n0_ n1_ n2_ n3_; clear hb hbox hg; have hcz11_0 : w10.cell? ⟨gb259, 0, none⟩ = some (.int .i64 a0_0) := (blk_cell BK259.out 0).trans rfl; have hcz11_1 : w10.cell? ⟨gb259, 1, none⟩ = some (.slice A0_1 l0_1.length c0_1) := (blk_cell BK259.out 1).trans rfl; have hfz11_0 := blk_frozen BK259.out 0; have hfz11_1 := blk_frozen BK259.out 1) | ((with_reducible refine gate_callee (f := 9) rfl ?_); refine goesL_ (some 4) rfl rfl Try.func9 (by kernel_rfl) rfl #[.agg #[.int .i64 a0_0, .slice A0_1 l0_1.length c0_1]] rfl (by (try simp only [List.map_toArray, List.map_cons, List.map_nil]); first | done | rfl | (simp only [List.length_drop, List.length_take]; rfl)) ?_; (with_reducible refine (chamberlainref07_Few.calls k a0_0 _ _ l0_1 false _ ?side1 ?side2 A2.out).mono ?_); (case side1 => repeat (first | exact (Kd.C_below HR0_1.out HB.out) | (with_reducible refine Kd.C_alloc ?_ _) | (with_reducible refine Kd.C_drewN ?_ _) | (with_reducible refine Kd.C_drew ?_))); (case side2 => exact HC0_1.out); rintro e w12 ⟨rfl, hb⟩; refine ⟨_, rfl, ?_⟩; have n0_ := Aside0.mk (blk_below (g := gb259) (o := .cells #[.int .i64 a0_0, .slice A0_1 l0_1.length c0_1] 24 (0, 0)) (by (with_reducible repeat (first | refine blk_drewN ?_ _ | refine blk_drew ?_ | refine blk_alloc ?_ _)); exact BK259.out) hb); have n1_ := Aside0.mk (below_step (by repeat (first | (with_reducible first | exact HB.out | apply below_alloc | apply pw_below_drewN | apply below_drew1 | refine below_set ?_ GE259.out) | exact HB.out)) hb); clear BK259; clear HB; have BK259 := n0_; have HB := n1_; clear n0_ n1_; (try clear hb); (try clear hb2); (try clear hk); (try clear hi)))
    go_ret
    exact ⟨by first | rfl | (simp [errW_none, errW_some] <;> rfl) | (simp [*, errW_none, errW_some] <;> rfl), by repeat (first | (with_reducible first | exact HB.out | apply below_alloc | apply pw_below_drewN | apply below_drew1 | refine below_set ?_ GE259.out) | exact HB.out)⟩

/-! ### chamberlainlaw07_BoxKeeps: function 6 -/
def chamberlainlaw07_BoxKeeps.f (a0_0 : Int) (l0_1 : List (S43)) (a1 : Int) (a2 : Int) (a3 : Int) (l4 : List Int) : Option (Bool) := some true
namespace uk
theorem wf32 {x : Int} (h : (Lit.int .u32 x).wf = true) : 0 ≤ x ∧ x < 4294967296 := by
  simp only [Lit.wf, IntKind.min, IntKind.max, IntKind.signed, IntKind.bits, Bool.and_eq_true] at h
  simp at h
  omega
theorem wf8 {x : Int} (h : (Lit.int .u8 x).wf = true) : 0 ≤ x ∧ x < 256 := by
  simp only [Lit.wf, IntKind.min, IntKind.max, IntKind.signed, IntKind.bits, Bool.and_eq_true] at h
  simp at h
  omega
theorem wf16 {x : Int} (h : (Lit.int .u16 x).wf = true) : 0 ≤ x ∧ x < 65536 := by
  simp only [Lit.wf, IntKind.min, IntKind.max, IntKind.signed, IntKind.bits, Bool.and_eq_true] at h
  simp at h
  omega
theorem wf64 {x : Int} (h : (Lit.int .i64 x).wf = true) : -9223372036854775808 ≤ x ∧ x ≤ 9223372036854775807 := by
  simp only [Lit.wf, IntKind.min, IntKind.max, IntKind.signed, IntKind.bits, Bool.and_eq_true] at h
  simp at h
  omega
theorem w64 {x : Int} (h1 : -9223372036854775808 ≤ x) (h2 : x ≤ 9223372036854775807) : wrap64 x = x := by
  unfold wrap64
  omega
theorem rd_nat (xs : List Int) (i : Nat) (h : i < xs.length) : rd xs (i : Int) = xs[i] := by
  unfold rd
  simp [List.getD_eq_getElem?_getD, h]
/-- From place i on, n places: does p hold of all? -/
def allF (p : Nat → Bool) : Nat → Nat → Bool
  | 0, _ => true
  | n + 1, i => p i && allF p n (i + 1)
theorem allF_iff (p : Nat → Bool) (n i : Nat) : allF p n i = true ↔ ∀ j, i ≤ j → j < i + n → p j = true := by
  induction n generalizing i with
  | zero => simp [allF]; intro j h1 h2; omega
  | succ n ih =>
    simp only [allF, Bool.and_eq_true, ih]
    constructor
    · rintro ⟨h0, h⟩ j h1 h2
      by_cases e : j = i
      · subst e; exact h0
      · exact h j (by omega) (by omega)
    · intro h
      exact ⟨h i (by omega) (by omega), fun j h1 h2 => h j (by omega) (by omega)⟩
/-- The first place from i on, of n, of which p holds. -/
def fnd (p : Nat → Bool) : Nat → Nat → Option Nat
  | 0, _ => none
  | n + 1, i => if p i = true then some i else fnd p n (i + 1)
theorem fnd_some {p : Nat → Bool} {n i j : Nat} (h : fnd p n i = some j) : i ≤ j ∧ j < i + n ∧ p j = true ∧ ∀ m, i ≤ m → m < j → p m = false := by
  induction n generalizing i with
  | zero => simp [fnd] at h
  | succ n ih =>
    simp only [fnd] at h
    by_cases e : p i = true
    · rw [if_pos e] at h
      cases h
      exact ⟨Nat.le_refl _, by omega, e, fun m h1 h2 => by omega⟩
    · rw [if_neg e] at h
      obtain ⟨h1, h2, h3, h4⟩ := ih h
      refine ⟨by omega, by omega, h3, fun m m1 m2 => ?_⟩
      by_cases c : m = i
      · subst c; simpa using e
      · exact h4 m (by omega) m2
theorem fnd_none {p : Nat → Bool} {n i : Nat} (h : fnd p n i = none) : ∀ m, i ≤ m → m < i + n → p m = false := by
  induction n generalizing i with
  | zero => intro m h1 h2; omega
  | succ n ih =>
    simp only [fnd] at h
    by_cases e : p i = true
    · rw [if_pos e] at h; cases h
    · rw [if_neg e] at h
      intro m h1 h2
      by_cases c : m = i
      · subst c; simpa using e
      · exact ih h m (by omega) (by omega)
theorem fnd_eq_some {p : Nat → Bool} {n i j : Nat} (h1 : i ≤ j) (h2 : j < i + n) (h3 : p j = true) (h4 : ∀ m, i ≤ m → m < j → p m = false) : fnd p n i = some j := by
  cases h : fnd p n i with
  | none => have := fnd_none h j h1 h2; rw [this] at h3; cases h3
  | some q =>
    obtain ⟨a, b, c, d⟩ := fnd_some h
    congr 1
    rcases Nat.lt_trichotomy q j with e | e | e
    · have := h4 q a e; rw [this] at c; cases c
    · exact e
    · have := d j h1 e; rw [this] at h3; cases h3
theorem fnd_eq_none {p : Nat → Bool} {n i : Nat} (h : ∀ m, i ≤ m → m < i + n → p m = false) : fnd p n i = none := by
  cases e : fnd p n i with
  | none => rfl
  | some q =>
    obtain ⟨a, b, c, _⟩ := fnd_some e
    rw [h q a b] at c; cases c
theorem rows_eq (a b : List Int) (h : a.length = b.length) : allF (fun i => decide (rd a (i : Int) = rd b (i : Int))) a.length 0 = decide (a = b) := by
  rw [Bool.eq_iff_iff, allF_iff]
  simp only [decide_eq_true_eq]
  constructor
  · intro H
    apply List.ext_getElem h
    intro i h1 h2
    have := H i (by omega) (by omega)
    rw [rd_nat a i h1, rd_nat b i h2] at this
    exact this
  · intro e j _ _
    rw [e]
/-- A loop that asks place by place. -/
theorem all_loop (f : Nat → Nat → Option Bool) (n : Nat) (p : Nat → Bool) (h : ∀ k i, i ≤ n → f (k + 1) i = if i < n then (if p i = true then f k (i + 1) else some false) else some true) :
    ∀ (d k i : Nat), n - i = d → i ≤ n → d < k → f k i = some (allF p d i) := by
  intro d
  induction d with
  | zero =>
    intro k i h1 h2 h3
    obtain ⟨k, rfl⟩ : ∃ m, k = m + 1 := ⟨k - 1, by omega⟩
    rw [h k i h2, if_neg (by omega)]; rfl
  | succ d ih =>
    intro k i h1 h2 h3
    obtain ⟨k, rfl⟩ : ∃ m, k = m + 1 := ⟨k - 1, by omega⟩
    rw [h k i h2, if_pos (by omega)]
    simp only [allF]
    cases e : p i with
    | true => rw [if_pos rfl, ih k (i + 1) (by omega) (by omega) (by omega)]; simp
    | false => simp
/-- A loop that looks for the first place. -/
theorem fnd_loop {α : Type} (f : Nat → Nat → Option α) (n : Nat) (p : Nat → Bool) (yes : Nat → α) (no : α) (c : Nat) (h : ∀ k i, i ≤ n → c ≤ k → f (k + 1) i = if i < n then (if p i = true then some (yes i) else f k (i + 1)) else some no) :
    ∀ (d k i : Nat), n - i = d → i ≤ n → c + d < k → f k i = some (match fnd p d i with | some j => yes j | none => no) := by
  intro d
  induction d with
  | zero =>
    intro k i h1 h2 h3
    obtain ⟨k, rfl⟩ : ∃ m, k = m + 1 := ⟨k - 1, by omega⟩
    rw [h k i h2 (by omega), if_neg (by omega)]; rfl
  | succ d ih =>
    intro k i h1 h2 h3
    obtain ⟨k, rfl⟩ : ∃ m, k = m + 1 := ⟨k - 1, by omega⟩
    rw [h k i h2 (by omega), if_pos (by omega)]
    simp only [fnd]
    cases e : p i with
    | true => simp
    | false => rw [if_neg (by simp), if_neg (by simp), ih k (i + 1) (by omega) (by omega) (by omega)]
theorem rsame_eq (a b : List Int) (k : Nat) (hb : a.length ≤ 4611686018427387904) (hk : a.length < k) : chamberlainref01_Same.f k a b = some (decide (a = b)) := by
  unfold chamberlainref01_Same.f
  by_cases hl : a.length = b.length
  · rw [if_pos (by omega)]
    have h := all_loop (fun k i => chamberlainref01_Same.l0 k a b (i : Int)) a.length (fun i => decide (rd a (i : Int) = rd b (i : Int))) (by
      intro k i hi
      simp only [chamberlainref01_Same.l0]
      by_cases c : i < a.length
      · rw [if_pos (by omega), if_pos (by omega), if_pos (by omega), if_pos c, w64 (by omega) (by omega)]
        simp
      · rw [if_neg (by omega), if_neg c]) a.length k 0 (by omega) (by omega) (by omega)
    simp only [Int.natCast_zero] at h
    rw [h, rows_eq a b hl]
  · rw [if_neg (by omega)]
    congr 1
    symm
    apply decide_eq_false
    intro e
    exact hl (by rw [e])
theorem rdS (l : List S43) (i : Nat) (h : i < l.length) : rd_T43 l (i : Int) = l[i] := bfind.rd_get l i h
theorem awake60 (k : Nat) (hk : 60 ≤ k) : chamberlainlaw07_awake.f k = some true := at_rounds chamberlainlaw07_awake.mono hk chamberlainlaw07_awake.at60
/-- A small box's words. -/
def small (s : S43) : Prop := s.f3.length ≤ 100
theorem few_loop (r : Int) (l : List S43) (hl : l.length ≤ 9223372036854775807) : ∀ (d k i : Nat), 100 - i = d → i ≤ 100 → 2 * d + 2 ≤ k → ∃ b, chamberlainref07_Few.l0 k (i : Int) r l = some b ∧ (b = true → l.length ≤ 70 ∧ ∀ j (hj : j < l.length), i ≤ j → j < 100 → small l[j]) := by
  intro d
  induction d with
  | zero =>
    intro k i h1 h2 h3
    obtain ⟨k, rfl⟩ : ∃ m, k = m + 2 := ⟨k - 2, by omega⟩
    refine ⟨decide (l.length ≤ 70), ?_, fun h => ⟨of_decide_eq_true h, fun j hj h1 h2 => by omega⟩⟩
    rw [chamberlainref07_Few.l0]
    have e : decide ((l.length : Int) ≤ 70) = decide (l.length ≤ 70) := by rw [Bool.eq_iff_iff]; simp; omega
    by_cases c : (i : Int) < (l.length : Int)
    · rw [if_pos c, show decide ((i : Int) < 100) = false from decide_eq_false (by omega), chamberlainref07_Few.j1, if_neg (by decide), e]
    · rw [if_neg c, chamberlainref07_Few.j1, if_neg (by decide), e]
  | succ d ih =>
    intro k i h1 h2 h3
    obtain ⟨k, rfl⟩ : ∃ m, k = m + 2 := ⟨k - 2, by omega⟩
    have e : decide ((l.length : Int) ≤ 70) = decide (l.length ≤ 70) := by rw [Bool.eq_iff_iff]; simp; omega
    rw [chamberlainref07_Few.l0]
    by_cases c : i < l.length
    · rw [if_pos (by omega), show decide ((i : Int) < 100) = true from decide_eq_true (by omega), chamberlainref07_Few.j1, if_pos rfl, if_pos (by omega), if_pos (by omega), rdS l i c]
      by_cases g : (l[i].f3.length : Int) > 100
      · rw [if_pos g]
        exact ⟨false, rfl, fun h => by cases h⟩
      · rw [if_neg g, w64 (by omega) (by omega), show (i : Int) + 1 = ((i + 1 : Nat) : Int) by omega]
        obtain ⟨b, hb, hs⟩ := ih k (i + 1) (by omega) (by omega) (by omega)
        refine ⟨b, hb, fun h => ⟨(hs h).1, fun j hj h1 h2 => ?_⟩⟩
        rcases Nat.lt_or_ge i j with q | q
        · exact (hs h).2 j hj q h2
        · obtain rfl : j = i := by omega
          unfold small; omega
    · rw [if_neg (by omega), chamberlainref07_Few.j1, if_neg (by decide), e]
      exact ⟨_, rfl, fun h => ⟨of_decide_eq_true h, fun j hj h1 h2 => by omega⟩⟩
theorem few_some (r : Int) (l : List S43) (k : Nat) (hl : l.length ≤ 9223372036854775807) (hk : 300 ≤ k) : ∃ b, chamberlainref07_Few.f k r l = some b ∧ (b = true → l.length ≤ 70 ∧ ∀ s ∈ l, small s) := by
  unfold chamberlainref07_Few.f
  obtain ⟨b, hb, hs⟩ := few_loop r l hl 100 k 0 rfl (by omega) (by omega)
  refine ⟨b, hb, fun h => ⟨(hs h).1, fun s hm => ?_⟩⟩
  obtain ⟨j, hj, rfl⟩ := List.getElem_of_mem hm
  exact (hs h).2 j hj (Nat.zero_le _) (by have := (hs h).1; omega)
/-- Is there an entry of a handle? -/
def there (l : List S43) (h : Int) : Bool := l.any (fun s => s.f0 == h)
theorem there_loop (l : List S43) (h r : Int) (hl : l.length ≤ 4611686018427387904) : ∀ (d k i : Nat), l.length - i = d → i ≤ l.length → d < k → chamberlainref07_There.l0 k h (i : Int) r l = some ((l.drop i).any (fun s => s.f0 == h)) := by
  intro d
  induction d with
  | zero =>
    intro k i h1 h2 h3
    obtain ⟨k, rfl⟩ : ∃ m, k = m + 1 := ⟨k - 1, by omega⟩
    rw [chamberlainref07_There.l0, if_neg (by omega), List.drop_eq_nil_of_le (by omega)]
    rfl
  | succ d ih =>
    intro k i h1 h2 h3
    obtain ⟨k, rfl⟩ : ∃ m, k = m + 1 := ⟨k - 1, by omega⟩
    have hi : i < l.length := by omega
    rw [chamberlainref07_There.l0, if_pos (by omega), if_pos (by omega), rdS l i hi, List.drop_eq_getElem_cons hi, List.any_cons]
    by_cases c : l[i].f0 = h
    · rw [if_pos c, show (l[i].f0 == h) = true from beq_iff_eq.2 c]; rfl
    · rw [if_neg c, w64 (by omega) (by omega), show (i : Int) + 1 = ((i + 1 : Nat) : Int) by omega, ih k (i + 1) (by omega) (by omega) (by omega), show (l[i].f0 == h) = false from beq_eq_false_iff_ne.2 c, Bool.false_or]
theorem there_eq (l : List S43) (h r : Int) (k : Nat) (hl : l.length ≤ 4611686018427387904) (hk : l.length < k) : chamberlainref07_There.f k r l h = some (there l h) := by
  unfold chamberlainref07_There.f
  have := there_loop l h r hl l.length k 0 (by omega) (by omega) hk
  simp only [Int.natCast_zero, List.drop_zero] at this
  exact this
theorem pos_there (l : List S43) (h : Int) : (0 ≤ bfind.pos h l) ↔ there l h = true := by
  unfold bfind.pos there
  rw [List.any_eq_true]
  constructor
  · intro q
    split at q
    · rename_i c
      rw [List.findIdx_lt_length] at c
      exact c
    · omega
  · intro q
    rw [if_pos (List.findIdx_lt_length.2 q)]
    omega
theorem seen_take (l : List S43) (i : Nat) (hi : i < l.length) : there (l.take i) (rd_T43 l i).f0 = bright.seen l i := by
  rw [Bool.eq_iff_iff, bright.seen_iff]
  unfold there
  rw [List.any_eq_true]
  constructor
  · rintro ⟨s, hs, e⟩
    obtain ⟨t, ht, rfl⟩ := List.getElem_of_mem hs
    rw [List.length_take] at ht
    refine ⟨t, by omega, ?_⟩
    simp only [List.getElem_take] at e
    have := rdS l t (by omega)
    show (rd_T43 l (t : Int)).f0 = _
    rw [this]; exact beq_iff_eq.1 e
  · rintro ⟨t, ht, e⟩
    refine ⟨l[t]'(by omega), ?_, ?_⟩
    · rw [List.mem_take_iff_getElem]; exact ⟨t, by omega, rfl⟩
    · have := rdS l t (by omega)
      simp only at e
      rw [this] at e
      exact beq_iff_eq.2 e
theorem rright_loop (l : List S43) (r : Int) (hl : l.length ≤ 4611686018427387904) : ∀ (d k i : Nat), l.length - i = d → i ≤ l.length → l.length + d < k → chamberlainref07_Right.l0 k (i : Int) r l = some (allF (fun i => !bright.seen l i && !bright.long l i) d i) := by
  intro d
  induction d with
  | zero =>
    intro k i h1 h2 h3
    obtain ⟨k, rfl⟩ : ∃ m, k = m + 1 := ⟨k - 1, by omega⟩
    rw [chamberlainref07_Right.l0, if_neg (by omega)]; rfl
  | succ d ih =>
    intro k i h1 h2 h3
    obtain ⟨k, rfl⟩ : ∃ m, k = m + 1 := ⟨k - 1, by omega⟩
    have hi : i < l.length := by omega
    rw [chamberlainref07_Right.l0, if_pos (by omega), if_pos (by omega)]
    simp only [allF]
    by_cases g : ((rd_T43 l (i : Int)).f3.length : Int) > 64
    · rw [if_pos g, show bright.long l i = true from decide_eq_true g]; simp
    · rw [if_neg g, if_pos (by omega), Int.toNat_natCast, there_eq _ _ _ _ (by rw [List.length_take]; omega) (by rw [List.length_take]; omega), Option.bind_some, seen_take l i hi, show bright.long l i = false from decide_eq_false g]
      cases e : bright.seen l i with
      | true => simp
      | false => rw [if_neg (by simp), w64 (by omega) (by omega), show (i : Int) + 1 = ((i + 1 : Nat) : Int) by omega, ih k (i + 1) (by omega) (by omega) (by omega)]; simp
theorem ok_allF (l : List S43) : allF (fun i => !bright.seen l i && !bright.long l i) l.length 0 = bright.ok l := by
  rw [Bool.eq_iff_iff, allF_iff]
  unfold bright.ok
  rw [List.all_eq_true]
  exact ⟨fun h i hi => h i (Nat.zero_le _) (by have := List.mem_range.1 hi; omega), fun h j _ hj => h j (List.mem_range.2 (by omega))⟩
/-- Whether a box is right. -/
def rightB (r : Int) (l : List S43) : Bool := decide (0 ≤ r ∧ r ≤ 64 ∧ (l.length : Int) ≤ r) && bright.ok l
theorem rright_eq (r : Int) (l : List S43) (k : Nat) (hl : l.length ≤ 4611686018427387904) (hk : 2 * l.length + 3 < k) : chamberlainref07_Right.f k r l = some (rightB r l) := by
  obtain ⟨k, rfl⟩ : ∃ m, k = m + 1 := ⟨k - 1, by omega⟩
  unfold chamberlainref07_Right.f rightB
  have hloop := rright_loop l r hl l.length k 0 (by omega) (by omega) (by omega)
  rw [ok_allF] at hloop
  simp only [Int.natCast_zero] at hloop
  by_cases c1 : r < 0
  · rw [if_pos c1, chamberlainref07_Right.j0, if_pos rfl, show decide (0 ≤ r ∧ r ≤ 64 ∧ (l.length : Int) ≤ r) = false from decide_eq_false (by omega)]; rfl
  · rw [if_neg c1]
    by_cases c2 : r > 64
    · rw [if_pos c2, chamberlainref07_Right.j0, if_pos rfl, show decide (0 ≤ r ∧ r ≤ 64 ∧ (l.length : Int) ≤ r) = false from decide_eq_false (by omega)]; rfl
    · rw [if_neg c2, chamberlainref07_Right.j0]
      by_cases c3 : (l.length : Int) > r
      · rw [show decide ((l.length : Int) > r) = true from decide_eq_true c3, if_pos rfl, show decide (0 ≤ r ∧ r ≤ 64 ∧ (l.length : Int) ≤ r) = false from decide_eq_false (by omega)]; rfl
      · rw [show decide ((l.length : Int) > r) = false from decide_eq_false c3, if_neg (by decide), hloop, show decide (0 ≤ r ∧ r ≤ 64 ∧ (l.length : Int) ≤ r) = true from decide_eq_true (by omega)]; rfl
theorem right_eq (r : Int) (l : List S43) (h : ∀ s ∈ l, 0 ≤ s.f0 ∧ s.f0 < 4294967296) : box_Right.f r l = some (rightB r l) := by
  unfold box_Right.f rightB
  have hu : bright.u32 l = true := by
    unfold bright.u32
    rw [List.all_eq_true]
    intro s hs
    have := h s hs
    simp; omega
  by_cases c1 : r < 0
  · rw [if_pos c1, show decide (0 ≤ r ∧ r ≤ 64 ∧ (l.length : Int) ≤ r) = false from decide_eq_false (by omega)]; rfl
  · rw [if_neg c1]
    by_cases c2 : r > 64
    · rw [if_pos c2, show decide (0 ≤ r ∧ r ≤ 64 ∧ (l.length : Int) ≤ r) = false from decide_eq_false (by omega)]; rfl
    · rw [if_neg c2]
      by_cases c3 : (l.length : Int) > r
      · rw [if_pos c3, show decide (0 ≤ r ∧ r ≤ 64 ∧ (l.length : Int) ≤ r) = false from decide_eq_false (by omega)]; rfl
      · rw [if_neg c3, if_pos hu, show decide (0 ≤ r ∧ r ≤ 64 ∧ (l.length : Int) ≤ r) = true from decide_eq_true (by omega)]; rfl
theorem rightB_iff (r : Int) (l : List S43) : rightB r l = true ↔ 0 ≤ r ∧ r ≤ 64 ∧ (l.length : Int) ≤ r ∧ bright.ok l = true := by
  unfold rightB
  simp only [Bool.and_eq_true, decide_eq_true_eq]
  exact ⟨fun ⟨⟨a, b, c⟩, d⟩ => ⟨a, b, c, d⟩, fun ⟨a, b, c, d⟩ => ⟨⟨a, b, c⟩, d⟩⟩
/-- Handles are there once, and words are no more than 64. -/
theorem ok_iff (l : List S43) : bright.ok l = true ↔ (∀ i j (hi : i < l.length) (hj : j < l.length), l[i].f0 = l[j].f0 → i = j) ∧ ∀ s ∈ l, s.f3.length ≤ 64 := by
  unfold bright.ok
  rw [List.all_eq_true]
  constructor
  · intro h
    have h' : ∀ i (hi : i < l.length), bright.seen l i = false ∧ bright.long l i = false := fun i hi => by
      have := h i (List.mem_range.2 hi); simpa using this
    refine ⟨fun i j hi hj e => ?_, fun s hs => ?_⟩
    · rcases Nat.lt_trichotomy i j with q | q | q
      · have := (h' j hj).1
        rw [(bright.seen_iff l j).2 ⟨i, q, by simp only; rw [rdS l i hi, rdS l j hj]; exact e⟩] at this; cases this
      · exact q
      · have := (h' i hi).1
        rw [(bright.seen_iff l i).2 ⟨j, q, by simp only; rw [rdS l i hi, rdS l j hj]; exact e.symm⟩] at this; cases this
    · obtain ⟨i, hi, rfl⟩ := List.getElem_of_mem hs
      have := (h' i hi).2
      unfold bright.long at this
      rw [rdS l i hi] at this
      have := of_decide_eq_false this; omega
  · rintro ⟨h1, h2⟩ i hi
    have hi := List.mem_range.1 hi
    have a : bright.seen l i = false := by
      cases e : bright.seen l i with
      | false => rfl
      | true =>
        obtain ⟨t, ht, q⟩ := (bright.seen_iff l i).1 e
        simp only at q
        rw [rdS l i hi, rdS l t (by omega)] at q
        have := h1 t i (by omega) hi q; omega
    have b : bright.long l i = false := by
      unfold bright.long
      rw [rdS l i hi]
      have := h2 _ (List.getElem_mem hi)
      exact decide_eq_false (by omega)
    rw [a, b]; rfl
theorem clone_eq (l : List Int) (h : l.length ≤ 100) : slices_Clone_uint32_uint32.f l = some l := by
  unfold slices_Clone_uint32_uint32.f
  rw [Option.bind_some, if_pos (by simp; omega)]; rfl
/-- What is sealed. -/
def sealS (r : Int) (l : List S43) (h ky lb : Int) (p : List Int) : Int × List S43 × Int := if 64 < p.length then (r, l, 3) else if there l h = true then (r, l, 8) else if r ≤ l.length then (r, l, 10) else (r, l ++ [⟨h, ky, lb, p⟩], 0)
theorem seal_eq (r : Int) (l : List S43) (h ky lb : Int) (p : List Int) (hr0 : 0 ≤ r) (hr : r ≤ 64) (hl : l.length ≤ 1000) : box_Seal.f r l h ky lb p = some (sealS r l h ky lb p) := by
  unfold box_Seal.f sealS
  by_cases c1 : 64 < p.length
  · rw [if_pos (by omega), if_pos c1]
  · rw [if_neg (by omega), if_neg c1]
    by_cases c2 : there l h = true
    · rw [if_pos ((pos_there l h).2 c2), if_pos c2]
    · rw [if_neg (fun q => c2 ((pos_there l h).1 q)), if_neg c2, w64 (by omega) (by omega)]
      by_cases c3 : r ≤ l.length
      · rw [if_pos (by omega), if_pos c3]
      · rw [if_neg (by omega), if_neg c3, if_pos (by omega)]
/-- What a handle, a key and a label open. -/
def openS (l : List S43) (ky lb h : Int) : List Int × Bool := match l.find? (fun s => s.f0 == h) with | some s => if s.f1 = ky ∧ s.f2 = lb then (s.f3, true) else ([], false) | none => ([], false)
theorem find_pos (l : List S43) (h : Int) : (bfind.pos h l < 0 ∧ l.find? (fun s => s.f0 == h) = none) ∨ (∃ i : Nat, bfind.pos h l = i ∧ i < l.length ∧ l.find? (fun s => s.f0 == h) = some (rd_T43 l i)) := by
  unfold bfind.pos
  by_cases c : l.findIdx (fun s => s.f0 == h) < l.length
  · rw [if_pos c]
    refine .inr ⟨_, rfl, c, ?_⟩
    rw [rdS l _ c]
    exact List.find?_eq_some_iff_getElem.2 ⟨(by have := List.findIdx_getElem (xs := l) (p := fun s : S43 => s.f0 == h) (w := c); exact this), _, c, rfl, fun j hj => by have := List.not_of_lt_findIdx hj; simpa using this⟩
  · rw [if_neg c]
    refine .inl ⟨by omega, ?_⟩
    rw [List.find?_eq_none]
    intro x hx q
    exact c (List.findIdx_lt_length.2 ⟨x, hx, q⟩)
theorem open_eq (r : Int) (l : List S43) (ky lb h : Int) (hs : ∀ s ∈ l, s.f3.length ≤ 100) : box_Open.f r l ky lb h = some (openS l ky lb h) := by
  unfold box_Open.f openS box_find.f
  rcases find_pos l h with ⟨h1, h2⟩ | ⟨i, h1, h2, h3⟩
  · rw [if_pos h1, h2, Option.bind_some, if_neg (by decide)]
  · rw [if_neg (by omega), h1, h3, Option.bind_some, if_pos rfl]
    have hm : (rd_T43 l (i : Int)).f3.length ≤ 100 := by rw [rdS l i h2]; exact hs _ (List.getElem_mem h2)
    by_cases c1 : (rd_T43 l (i : Int)).f1 = ky
    · rw [if_pos c1]
      by_cases c2 : (rd_T43 l (i : Int)).f2 = lb
      · rw [if_pos c2, clone_eq _ hm]
        simp [c1, c2]
      · rw [if_neg c2]; simp [c2]
    · rw [if_neg c1]; simp [c1]
theorem rseal_eq (r : Int) (l : List S43) (h ky lb : Int) (p : List Int) (k : Nat) (hl : l.length ≤ 1000) (hk : 1001 < k) : chamberlainref07_Seal.f k r l h ky lb p = some (sealS r l h ky lb p) := by
  unfold chamberlainref07_Seal.f sealS
  by_cases c1 : 64 < p.length
  · rw [if_pos (by omega), if_pos c1]
  · rw [if_neg (by omega), if_neg c1, there_eq _ _ _ _ (by omega) (by omega), Option.bind_some]
    by_cases c2 : there l h = true
    · rw [if_pos c2, if_pos c2]
    · rw [if_neg c2, if_neg c2]
      by_cases c3 : r ≤ l.length
      · rw [if_pos (by omega), if_pos c3]
      · rw [if_neg (by omega), if_neg c3]
        simp only [Option.bind_some, List.nil_append, List.length_nil, List.length_cons]
        rw [if_pos (by omega), if_pos (by omega), if_pos (by omega)]
theorem same_loop (l : List S43) (r r' : Int) (hl : l.length ≤ 4611686018427387904) (hs : ∀ s ∈ l, s.f3.length ≤ 100) : ∀ (d k i : Nat), l.length - i = d → i ≤ l.length → d + 200 < k → chamberlainref07_Same.l0 k (i : Int) r l r' l = some true := by
  intro d
  induction d with
  | zero =>
    intro k i h1 h2 h3
    obtain ⟨k, rfl⟩ : ∃ m, k = m + 1 := ⟨k - 1, by omega⟩
    rw [chamberlainref07_Same.l0, if_neg (by omega)]
  | succ d ih =>
    intro k i h1 h2 h3
    obtain ⟨k, rfl⟩ : ∃ m, k = m + 1 := ⟨k - 1, by omega⟩
    have hi : i < l.length := by omega
    have hm : l[i].f3.length ≤ 100 := hs _ (List.getElem_mem hi)
    rw [chamberlainref07_Same.l0, if_pos (by omega), if_pos (by omega), if_pos (by omega), if_pos rfl, if_pos rfl, if_pos rfl, rdS l i hi, rsame_eq _ _ _ (by omega) (by omega), Option.bind_some, if_pos (by simp), w64 (by omega) (by omega), show (i : Int) + 1 = ((i + 1 : Nat) : Int) by omega]
    exact ih k (i + 1) (by omega) (by omega) (by omega)
theorem same_self (r : Int) (l : List S43) (k : Nat) (hl : l.length ≤ 1000) (hs : ∀ s ∈ l, s.f3.length ≤ 100) (hk : 1300 < k) : chamberlainref07_Same.f k r l r l = some true := by
  obtain ⟨k, rfl⟩ : ∃ m, k = m + 1 := ⟨k - 1, by omega⟩
  unfold chamberlainref07_Same.f
  rw [if_pos rfl, chamberlainref07_Same.j0, if_neg (by simp)]
  have := same_loop l r r (by omega) hs l.length k 0 (by omega) (by omega) (by omega)
  simpa using this
theorem seal_len (r : Int) (l : List S43) (h ky lb : Int) (p : List Int) (hl : l.length ≤ 70) (hs : ∀ s ∈ l, s.f3.length ≤ 100) : (sealS r l h ky lb p).1 = r ∧ (sealS r l h ky lb p).2.1.length ≤ 71 ∧ ∀ s ∈ (sealS r l h ky lb p).2.1, s.f3.length ≤ 100 := by
  unfold sealS
  split
  · exact ⟨rfl, by show l.length ≤ 71; omega, hs⟩
  · split
    · exact ⟨rfl, by show l.length ≤ 71; omega, hs⟩
    · split
      · exact ⟨rfl, by show l.length ≤ 71; omega, hs⟩
      · refine ⟨rfl, by simp; omega, fun s q => ?_⟩
        rcases List.mem_append.1 q with q | q
        · exact hs s q
        · obtain rfl := List.mem_singleton.1 q
          show p.length ≤ 100; omega
theorem open_len (l : List S43) (ky lb h : Int) (hs : ∀ s ∈ l, s.f3.length ≤ 100) : (openS l ky lb h).1.length ≤ 100 := by
  unfold openS
  split
  · rename_i s e
    split
    · exact hs s (List.mem_of_find?_eq_some e)
    · simp
  · simp
theorem fits_some (r : Int) (l : List S43) (k : Nat) (hl : l.length ≤ 9223372036854775807) (hk : 300 ≤ k) : ∃ b, chamberlainlaw07_fits.f k r l = some b ∧ (b = true → l.length ≤ 70 ∧ (∀ s ∈ l, small s) ∧ rightB r l = true) := by
  unfold chamberlainlaw07_fits.f
  obtain ⟨b, hb, hs⟩ := few_some r l k hl hk
  rw [hb, Option.bind_some]
  cases b with
  | false => exact ⟨false, by rw [if_neg (by decide)], fun h => by cases h⟩
  | true =>
    obtain ⟨f1, f2⟩ := hs rfl
    rw [if_pos rfl, rright_eq r l k (by omega) (by omega), Option.bind_some]
    exact ⟨_, rfl, fun h => ⟨f1, f2, h⟩⟩
theorem there_app (l : List S43) (s : S43) (h : Int) : there (l ++ [s]) h = (there l h || (s.f0 == h)) := by
  unfold there
  simp
theorem find_there (l : List S43) (h : Int) : (there l h = true ∧ ∃ x, l.find? (fun s => s.f0 == h) = some x ∧ x ∈ l ∧ x.f0 = h) ∨ (there l h = false ∧ l.find? (fun s => s.f0 == h) = none) := by
  unfold there
  cases e : l.find? (fun s => s.f0 == h) with
  | some x =>
    have h1 := List.mem_of_find?_eq_some e
    have h2 := List.find?_some e
    exact .inl ⟨List.any_eq_true.2 ⟨x, h1, h2⟩, x, rfl, h1, beq_iff_eq.1 h2⟩
  | none =>
    refine .inr ⟨?_, rfl⟩
    rw [List.find?_eq_none] at e
    rw [List.any_eq_false]
    exact e
theorem open_app (l : List S43) (s : S43) (ky lb h : Int) : openS (l ++ [s]) ky lb h = if there l h = true then openS l ky lb h else if s.f0 = h then (if s.f1 = ky ∧ s.f2 = lb then (s.f3, true) else ([], false)) else ([], false) := by
  unfold openS
  rw [List.find?_append]
  rcases find_there l h with ⟨h1, x, h2, _⟩ | ⟨h1, h2⟩
  · rw [h2, if_pos h1]; simp
  · rw [h2, h1, if_neg (by decide)]
    by_cases c : s.f0 = h
    · simp [c]
    · simp [c]
theorem open_none (l : List S43) (ky lb h : Int) (hn : there l h = false) : openS l ky lb h = ([], false) := by
  unfold openS
  rcases find_there l h with ⟨h1, _⟩ | ⟨_, h2⟩
  · rw [hn] at h1; cases h1
  · rw [h2]
theorem ok_app (l : List S43) (s : S43) (h1 : bright.ok l = true) (h2 : there l s.f0 = false) (h3 : s.f3.length ≤ 64) : bright.ok (l ++ [s]) = true := by
  obtain ⟨o1, o2⟩ := (ok_iff l).1 h1
  have hno : ∀ i (hi : i < l.length), l[i].f0 ≠ s.f0 := fun i hi q => by
    unfold there at h2
    rw [List.any_eq_false] at h2
    exact h2 _ (List.getElem_mem hi) (beq_iff_eq.2 q)
  rw [ok_iff]
  refine ⟨fun i j hi hj e => ?_, fun x hx => ?_⟩
  · rw [List.length_append, List.length_singleton] at hi hj
    rw [List.getElem_append, List.getElem_append] at e
    split at e
    · rename_i a
      split at e
      · rename_i b; exact o1 i j a b e
      · simp at e; exact absurd e (hno i a)
    · rename_i a
      split at e
      · rename_i b; simp at e; exact absurd e.symm (hno j b)
      · rename_i b; omega
  · rcases List.mem_append.1 hx with q | q
    · exact o2 x q
    · obtain rfl := List.mem_singleton.1 q; exact h3
end uk
theorem kc.run {P : Program} (w : World) (dT sT ty elem : TypeId) (s g dLen dCap : Nat) (sp : Option Addr) (sLen sCap : Nat) (cur : List Value) (t : TypeId) (cs : List Value)
    (hu : P.underlying dT = some (.slice elem)) (hs : (P.info? elem).map (·.size) = some s) (hg : w.heap[g]? = some (.cells cur.toArray t (0, 0))) (hn : cs.length = Nat.min sLen dLen * s)
    (hsrc : 0 < cs.length → ∃ a, sp = some a ∧ ∀ j v, cs[j]? = some v → w.cell? (a.add j) = some v) (hfit : cs.length ≤ cur.length) (h1 : ∀ v ∈ cs, v.oneCell' = true) :
    (Builtin.copy_ #[dT, sT] ty #[.slice (some ⟨g, 0, none⟩) dLen dCap, .slice sp sLen sCap]).run P w = .ok (goInt (Nat.min sLen dLen)) (w.setRow g (cs ++ cur.drop cs.length).toArray) := by
  have hst := run_storeCells_at P g 0 t cs 0 cur.toArray w hg (by simpa using hfit) h1
  simp only [Nat.zero_add, List.take_zero, List.nil_append] at hst
  cases hq : P.info? elem with
  | none => simp [hq] at hs
  | some i =>
    have hi : i.size = s := by simpa [hq] using hs
    rcases Nat.eq_zero_or_pos cs.length with h0 | hp
    · obtain rfl : cs = [] := List.eq_nil_of_length_eq_zero h0
      have hl : ∀ (x : Addr), (loadCells x 0).run P w = .ok #[] w := fun x => by simpa using run_loadCells_list (P := P) w x [] (by simp)
      have hz : Nat.min sLen dLen * s = 0 := by simpa using hn.symm
      have hw : w.setRow g (([] : List Value) ++ cur.drop ([] : List Value).length).toArray = w := by simpa using setRow_self w g cur.toArray t (0, 0) hg
      rw [hw]
      cases sp <;> simp [Builtin.copy_, run_underlying hu, Builtin.lenOf, Builtin.firstCells, sizeOf, typeInfo, hq, hi, hz, hl, storeCells]
    · obtain ⟨a, rfl, hc⟩ := hsrc hp
      have hl := run_loadCells_list (P := P) w a cs hc
      simp [Builtin.copy_, run_underlying hu, Builtin.lenOf, Builtin.firstCells, sizeOf, typeInfo, hq, hi, ← hn, hl]
      simp [hst]
theorem kc.wp {P : Program} {w : World} {ops : Array Oper} {rest : List Oper} {o : Oper} {a : Act} {Q : Exit → Act → World → Prop} (hgd : o.guard = none) (d s : Operand) (dT sT elem : TypeId)
    (ho : o.op = .call { callee := .builtin .copy, args := #[d, s], argTypes := #[dT, sT] }) (sz g dLen dCap : Nat) (sp : Option Addr) (sLen sCap : Nat) (hd : a.eval d = .slice (some ⟨g, 0, none⟩) dLen dCap) (hs : a.eval s = .slice sp sLen sCap)
    (cur : List Value) (t : TypeId) (cs : List Value)
    (hu : P.underlying dT = some (.slice elem)) (hsz : (P.info? elem).map (·.size) = some sz) (hg : w.heap[g]? = some (.cells cur.toArray t (0, 0))) (hn : cs.length = Nat.min sLen dLen * sz)
    (hsrc : 0 < cs.length → ∃ a, sp = some a ∧ ∀ j v, cs[j]? = some v → w.cell? (a.add j) = some v) (hfit : cs.length ≤ cur.length) (h1 : ∀ v ∈ cs, v.oneCell' = true) (B : Nat) (w0 : World) (hb : Below B w0 w) (hBg : B ≤ g)
    (h : ∀ w', w'.heap[g]? = some (.cells (cs ++ cur.drop cs.length).toArray t (0, 0)) → Below B w0 w' → (∀ k, k ≠ g → w'.heap[k]? = w.heap[k]?) → wpList P ops Q rest (a.put o.dst (goInt (Nat.min sLen dLen))) w') : wpList P ops Q (o :: rest) a w := by
  refine wpList_plain hgd fun K hK => ?_
  have hr := kc.run (P := P) w dT sT o.type elem sz g dLen dCap sp sLen sCap cur t cs hu hsz hg hn hsrc hfit h1
  unfold Oper.wp execOp
  simp only [ho, resolve, invoke, builtin, Sem.run_bind, Sem.run_pure, Result.andThen_ok, List.map_toArray, List.map_cons, List.map_nil, hd, hs, hr]
  exact hK _ _ (h _ (setRow_heap w g _ _ t _ hg) (below_setRow hb hBg _) (fun k hk => setRow_other w g k _ hk))
theorem nrow.add0 (g n : Nat) : (⟨g, 0, none⟩ : Addr).add n = ⟨g, n, none⟩ := by
  unfold Addr.add
  by_cases h : n = 0
  · subst h; rfl
  · simp [h]
theorem nrow.F_block {α : Type} {d : Kd α} {W : World} {ok : Nat → Prop} {g : Nat} {cs : Array Value} {t : TypeId} (xs : List α) (rows : List (List Value)) (hb : W.heap[g]? = some (.cells cs t (0, 0))) (hok : ok g) (hl : rows.length = xs.length)
    (hr : ∀ (j : Nat) (x : α) (c : List Value), xs[j]? = some x → rows[j]? = some c → Kd.FK d W ok x c ∧ c.length = d.sz) (hc : ∀ (j : Nat) (c : List Value), rows[j]? = some c → ∀ (i : Nat) (u : Value), c[i]? = some u → cs[j * d.sz + i]? = some u) (hn : xs.length ≤ 9223372036854775807) :
    Kd.F d W ok (some ⟨g, 0, none⟩) xs.length xs := by
  intro W' hW
  have hb' : W'.heap[g]? = some (.cells cs t (0, 0)) := (hW g hok (blk_lt hb)).trans hb
  refine ⟨rfl, hn, fun _ => ⟨⟨g, 0, none⟩, rfl, fun j p hp => ?_⟩⟩
  have hj : j < xs.length := (List.getElem?_eq_some_iff.1 hp).1
  obtain ⟨c, hcj⟩ : ∃ c, rows[j]? = some c := ⟨rows[j]'(by omega), List.getElem?_eq_getElem (by omega)⟩
  obtain ⟨h1, h2⟩ := hr j p c hp hcj
  refine ⟨c, h2, h1 W' hW, fun i u hu => ?_⟩
  have := blk_cell hb' (j * d.sz + i)
  rw [hc j c hcj i u hu] at this
  rw [show (⟨g, 0, none⟩ : Addr).add (j * d.sz + i) = ⟨g, j * d.sz + i, none⟩ from nrow.add0 _ _]
  exact this
theorem nrow.olds {α : Type} {d : Kd α} {W : World} {ok : Nat → Prop} {A : Option Addr} {l : List α} (h : Kd.F d W ok A l.length l) (hs : 0 < d.sz) :
    ∃ olds : List Value, olds.length = l.length * d.sz ∧ (∀ b, A = some b → ∀ j u, olds[j]? = some u → W.cell? (b.add j) = some u) ∧ (A = none → l.length = 0) ∧ (∀ (j : Nat) (x : α), l[j]? = some x → Kd.FK d W ok x ((olds.drop (j * d.sz)).take d.sz)) ∧ ∀ u ∈ olds, u.oneCell' = true := by
  have hr := Kd.F_rows h
  rcases Nat.eq_zero_or_pos l.length with h0 | hp
  · have : l = [] := List.eq_nil_of_length_eq_zero h0
    subst this
    exact ⟨[], by simp, fun b _ j u hu => by simp at hu, fun _ => rfl, fun j x hx => by simp at hx, fun u hu => by simp at hu⟩
  · obtain ⟨ad, rfl, _⟩ := hr.2.2 hp
    obtain ⟨inner, hi, hc⟩ := ReadsRow.inner_ hr
    refine ⟨inner, hi.1, fun b e j u hu => (by cases e; exact hc j u hu), (fun e => by cases e), hi.2, fun u hu => ?_⟩
    obtain ⟨j, hj, rfl⟩ := List.getElem_of_mem hu
    have hq : j / d.sz < l.length := Nat.div_lt_of_lt_mul (by rw [Nat.mul_comm, ← hi.1]; exact hj)
    have hk := hi.2 (j / d.sz) _ (List.getElem?_eq_getElem hq)
    refine d.K_one (Kd.FK_now hk) _ (List.mem_iff_getElem?.2 ⟨j % d.sz, ?_⟩)
    rw [List.getElem?_take, if_pos (Nat.mod_lt _ hs), List.getElem?_drop, Nat.mul_comm, Nat.div_add_mod, List.getElem?_eq_getElem hj]
theorem kk.open_ {W : World} {base sz e : Nat} {ok : Nat → Prop} {v : Value} {xs : List (List Value)} (h : Kd.R (Kd.raw sz) e W base ok v xs) (hp : 0 < xs.length) :
    ∃ g cap cur, v = .slice (some ⟨g, 0, none⟩) xs.length cap ∧ base ≤ g ∧ g < W.heap.size ∧ xs.length ≤ cap ∧ cap ≤ maxLen ∧ W.heap[g]? = some (.cells cur e (0, 0)) ∧ cur.size = cap * sz ∧ ∀ (j : Nat) (c : List Value), xs[j]? = some c → ∀ (i : Nat) (u : Value), c[i]? = some u → cur.toList[j * sz + i]? = some u := by
  obtain ⟨_, inner, ⟨hl, hn | ⟨g, cap, cur, hv, hb, hh, h1, h2, h3, h4⟩⟩, hr⟩ := h
  · omega
  · refine ⟨g, cap, cur, hv, hb, blk_lt hh, h1, h2, hh, h3, fun j c hc i u hu => ?_⟩
    have hm : (inner.drop (j * sz)).take sz = c := (hr.2 j c hc).1
    subst hm
    rw [List.getElem?_take] at hu
    split at hu
    · rw [List.getElem?_drop, ← h4, List.getElem?_take] at hu
      split at hu
      · exact hu
      · cases hu
    · cases hu
theorem kk.own {α : Type} {d : Kd α} {w W3 W4 : World} {g t : Nat} {l : List α} {olds rest : List Value} (hb3 : Below w.heap.size w W3) (hb4 : Below w.heap.size w W4) (hq : W4.heap[g]? = some (.cells (olds ++ rest).toArray t (0, 0))) (ho : olds.length = l.length * d.sz)
    (hf : ∀ (j : Nat) (x : α), l[j]? = some x → Kd.FK d W3 (fun k => k < w.heap.size) x ((olds.drop (j * d.sz)).take d.sz)) (hn : l.length ≤ 9223372036854775807) : Kd.F d W4 (fun k => k = g ∨ k < w.heap.size) (some ⟨g, 0, none⟩) l.length l := by
  refine nrow.F_block l (Kd.chunks d.sz l.length olds) hq (.inl rfl) (Kd.chunks_length _ _ _) ?_ ?_ hn
  · intro j x c hx hc
    have hj : j < l.length := (List.getElem?_eq_some_iff.1 hx).1
    obtain rfl := Kd.chunks_get hc
    refine ⟨Kd.FK_mono (Kd.FK_step (hf j x hx) (fun k hk _ => (hb4.block k hk).trans (hb3.block k hk).symm)) (fun k hk => .inr hk), ?_⟩
    rw [List.length_take, List.length_drop, ho]
    have : j * d.sz + d.sz ≤ l.length * d.sz := by rw [← Nat.succ_mul]; exact Nat.mul_le_mul_right _ hj
    omega
  · intro j c hc i u hu
    have hj : j < l.length := by have := (List.getElem?_eq_some_iff.1 hc).1; rwa [Kd.chunks_length] at this
    obtain rfl := Kd.chunks_get hc
    have hi : i < d.sz := by have := (List.getElem?_eq_some_iff.1 hu).1; rw [List.length_take] at this; omega
    rw [List.getElem?_take, if_pos hi, List.getElem?_drop] at hu
    have hlt := (List.getElem?_eq_some_iff.1 hu).1
    rw [List.getElem?_toArray, List.getElem?_append_left hlt]
    exact hu
/-- A block of so many cells. -/
def kk.Blk (W : World) (g t N : Nat) : Prop := ∃ cur, W.heap[g]? = some (.cells cur t (0, 0)) ∧ cur.size = N
theorem kk.Blk.set {W : World} {g t N : Nat} (h : kk.Blk W g t N) (j : Nat) (v : Value) : kk.Blk (W.setCell ⟨g, j, none⟩ v) g t N := by
  obtain ⟨cur, hc, hs⟩ := h
  exact ⟨cur.setIfInBounds j v, blk_put hc j v rfl, by simpa using hs⟩
theorem kk.Blk.cell {W : World} {g t N : Nat} (h : kk.Blk W g t N) (j : Nat) (hj : j < N) : ∃ v, W.cell? ⟨g, j, none⟩ = some v ∧ W.frozen? ⟨g, j, none⟩ = false := by
  obtain ⟨cur, hc, hs⟩ := h
  exact ⟨cur[j]'(by omega), (blk_cell hc j).trans (Array.getElem?_eq_getElem (by omega)), blk_frozen hc j⟩
theorem kk.Blk.below {W W1 : World} {g t N : Nat} (h : kk.Blk W g t N) (hb : Below W.heap.size W W1) : kk.Blk W1 g t N := by
  obtain ⟨cur, hc, hs⟩ := h
  exact ⟨cur, blk_below hc hb, hs⟩
theorem kk.Blk.grown {W W1 : World} {g t N : Nat} (h : kk.Blk W g t N) {row : Option Nat} (hg : W.grownBy W1 row) (hne : some g ≠ row) : kk.Blk W1 g t N := by
  obtain ⟨cur, hc, hs⟩ := h
  exact ⟨cur, (hg.block g (blk_lt hc) hne).trans hc, hs⟩
theorem kk.src {W : World} {A : Option Addr} {n sz : Nat} {olds : List Value} (h1 : olds.length = n * sz) (h2 : ∀ b, A = some b → ∀ j u, olds[j]? = some u → W.cell? (b.add j) = some u) (h3 : A = none → n = 0) : 0 < olds.length → ∃ a, A = some a ∧ ∀ j v, olds[j]? = some v → W.cell? (a.add j) = some v := by
  intro hp
  cases A with
  | none => rw [h3 rfl, Nat.zero_mul] at h1; omega
  | some b => exact ⟨b, rfl, h2 b rfl⟩
theorem kk.cut (t g cap n m s : Nat) (hu : Try.prog.underlying t = some (.slice (Try.prog.elem t))) (hs : ∀ W : World, (sizeOf (Try.prog.elem t)).run Try.prog W = .ok s W) (hm : m ≤ n) (hn : n ≤ cap) : ∀ W : World, (Instr.slice t (.slice (some ⟨g, 0, none⟩) n cap) none (some (.int .i64 (m : Int))) none).run Try.prog W = .ok (.slice (some ⟨g, 0, none⟩) m cap) W := by
  intro W
  rw [run_slice_h W t (some ⟨g, 0, none⟩) n cap hu .i64 (m : Int) (by omega) (by omega), hs]
  simp [sliced, Result.andThen, Addr.add]
theorem kk.rest {olds cur zs : List Value} {l sz : Nat} (ho : olds.length = l * sz) (hz : ∀ (i : Nat) (u : Value), zs[i]? = some u → cur[l * sz + i]? = some u) : ∀ (i : Nat) (u : Value), zs[i]? = some u → (olds ++ cur.drop olds.length).toArray[l * sz + i]? = some u := by
  intro i u hu
  rw [List.getElem?_toArray, List.getElem?_append_right (by omega), List.getElem?_drop, show olds.length + (l * sz + i - olds.length) = l * sz + i by omega]
  exact hz i u hu
/-- A row that is read now, and what its elements lead to, with the blocks that this lies in. -/
def kk.E {α : Type} (d : Kd α) (W : World) (ok : Nat → Prop) (A : Option Addr) (n : Nat) (xs : List α) : Prop := ReadsRow (fun x c => Kd.FK d W ok x c) d.sz W A n xs
theorem kk.E.below {α : Type} {d : Kd α} {W W1 : World} {ok : Nat → Prop} {A : Option Addr} {n : Nat} {xs : List α} (h : kk.E d W ok A n xs) (hb : Below W.heap.size W W1) : kk.E d W1 ok A n xs := ReadsRow.imp_ h hb (fun _ _ hp => Kd.FK_below hp hb)
theorem kk.E.old {α : Type} {d : Kd α} {W W1 : World} {ok : Nat → Prop} {A : Option Addr} {n : Nat} {xs : List α} (h : kk.E d W ok A n xs) (hb : Below W.heap.size W W1) : kk.E d W1 (fun k => ok k ∧ k < W.heap.size) A n xs := ReadsRow.imp_ h hb (fun _ _ hp => Kd.FK_below (Kd.FK_bound hp) hb)
theorem kk.E.mono {α : Type} {d : Kd α} {W : World} {ok ok' : Nat → Prop} {A : Option Addr} {n : Nat} {xs : List α} (h : kk.E d W ok A n xs) (hk : ∀ k, ok k → ok' k) : kk.E d W ok' A n xs := ReadsRow.imp_ h (Below.refl _ _) (fun _ _ hp => Kd.FK_mono hp hk)
theorem kk.E.ofF {α : Type} {d : Kd α} {W : World} {ok : Nat → Prop} {A : Option Addr} {n : Nat} {xs : List α} (h : Kd.F d W ok A n xs) : kk.E d W ok A n xs := Kd.F_rows h
theorem kk.E.ofN {α : Type} {d : Kd α} {e : Nat} {W : World} {base : Nat} {ok : Nat → Prop} {A : Option Addr} {n c : Nat} {xs : List α} (h : Kd.N d e W base ok (.slice A n c) xs) : kk.E d W (fun k => ok k ∧ some k ≠ (Value.slice A n c).ownBlock) A xs.length xs := by
  obtain ⟨_, rows, hl, hR, hf⟩ := h
  obtain ⟨hn, _, hC⟩ := Kd.R_reads' hR
  obtain ⟨h1, h2, h3⟩ := hC
  refine ⟨rfl, by omega, fun hp => ?_⟩
  obtain ⟨ad, hA, hc⟩ := h3 (by omega)
  refine ⟨ad, hA, fun j x hx => ?_⟩
  have hj : j < xs.length := (List.getElem?_eq_some_iff.1 hx).1
  obtain ⟨c', hs, ⟨rfl, _, _⟩, hcell⟩ := hc j (rows[j]'(by omega)) (List.getElem?_eq_getElem (by omega))
  exact ⟨_, hs, hf j x _ hx (List.getElem?_eq_getElem (by omega)), hcell⟩
theorem kk.N_append_rows {α : Type} {P : Program} {ops : Array Oper} {rest : List Oper} {o : Oper} {a : Act} {Q : Exit → Act → World → Prop} (d : Kd α) {w0 W : World} (base : Nat) (hgd : o.guard = none) (s x : Operand) (t e : TypeId) (z : Value) (bytes : Nat)
    (ho : o.op = .call { callee := .builtin .append, args := #[s, x], argTypes := #[t, t] })
    (ht : P.underlying t = some (.slice e)) (hinfo : (P.info? e).map (fun i => (i.zero, i.size, i.bytes)) = some (some z, d.sz, bytes)) (hz : z.cells.size = d.sz) (hs0 : 0 < d.sz) (hb0 : 0 < bytes)
    (v : Value) (xs ys : List α) (A : Option Addr) (m c : Nat) (ok okp : Nat → Prop) (hs : a.eval s = v) (hx : a.eval x = .slice A m c)
    (HO : Kd.N d e W base ok v xs) (HR : kk.E d W okp A m ys) (hokp : ∀ k, okp k → ok k ∧ some k ≠ v.ownBlock) (hfresh : ∀ k, W.heap.size ≤ k → ok k)
    (HB : Below base w0 W) (hbase : base ≤ W.heap.size) (hl : (xs.length + m) * bytes ≤ 140737488355328)
    (h : ∀ v1 w1, Kd.N d e w1 base ok v1 (xs ++ ys) → Below base w0 w1 → W.grownBy w1 v.ownBlock → (v1.ownBlock = v.ownBlock ∨ ∃ b, v1.ownBlock = some b ∧ W.heap.size ≤ b) → wpList P ops Q rest (a.put o.dst v1) w1) :
    wpList P ops Q (o :: rest) a W := by
  obtain ⟨h0, rows, hlr, hR, hf⟩ := HO
  obtain ⟨news, hnl, hnr, hnf⟩ := Kd.reads_raw HR (fun y c hk => ⟨d.K_len (Kd.FK_now hk), d.K_one (Kd.FK_now hk)⟩)
  refine Kd.R_append_rows (Kd.raw d.sz) base hgd s x t e z bytes ho ht hinfo hz hs0 hb0 v rows news A m c (fun _ => True) (fun _ => False) hs hx (Kd.raw_any hR) hnr (fun _ _ hk => hk) (fun _ hk => hk.elim) (fun _ _ => trivial) HB hbase (by rw [hlr]; exact hl) ?_
  intro v1 w1 hr hb hg hat
  exact h v1 w1 (Kd.N_appended h0 hlr hf hnl hnf hokp hfresh hr hg hat) hb hg hat
theorem kk.openB {W : World} {base sz e : Nat} {ok : Nat → Prop} {v : Value} {xs : List (List Value)} (h : Kd.R (Kd.raw sz) e W base ok v xs) {g : Nat} (hg : v.ownBlock = some g) :
    ∃ cap cur, v = .slice (some ⟨g, 0, none⟩) xs.length cap ∧ base ≤ g ∧ xs.length ≤ cap ∧ W.heap[g]? = some (.cells cur e (0, 0)) ∧ cur.size = cap * sz := by
  obtain ⟨_, inner, ⟨hl, hn | ⟨g', cap, cur, hv, hb, hh, h1, h2, h3, h4⟩⟩, hr⟩ := h
  · rw [hn.1] at hg
    simp [Value.ownBlock] at hg
  · subst hv
    have : g' = g := by simpa [Value.ownBlock] using hg
    subst this
    exact ⟨cap, cur, rfl, hb, h1, hh, h3⟩
/-- An own row, opened: its block, and so many cells. -/
theorem kk.openN {α : Type} {d : Kd α} {W : World} {base e : Nat} {ok : Nat → Prop} {v : Value} {xs : List α} (h : Kd.N d e W base ok v xs) {g : Nat} (hg : v.ownBlock = some g) :
    ∃ cap, v = .slice (some ⟨g, 0, none⟩) xs.length cap ∧ base ≤ g ∧ g < W.heap.size ∧ xs.length ≤ cap ∧ kk.Blk W g e (cap * d.sz) := by
  obtain ⟨_, rows, hl, hR, _⟩ := h
  obtain ⟨cap, cur, hv, hb, h1, hh, hs⟩ := kk.openB hR hg
  rw [hl] at hv h1
  exact ⟨cap, hv, hb, blk_lt hh, h1, cur, hh, hs⟩
/-- An own row, opened where it has elements; g is a block of its own in any case. -/
theorem kk.openZ {α : Type} {d : Kd α} {W : World} {base e : Nat} {ok : Nat → Prop} {v : Value} {xs : List α} (h : Kd.N d e W base ok v xs) :
    ∃ A g cap, v = .slice A xs.length cap ∧ base ≤ g ∧ xs.length ≤ cap ∧ (0 < xs.length → A = some ⟨g, 0, none⟩ ∧ kk.Blk W g e (cap * d.sz)) := by
  rcases Kd.N_base2 h with hn | ⟨g, hg, hb⟩
  · obtain ⟨A, c, rfl⟩ := Kd.N_slice h
    obtain ⟨_, hc, hC⟩ := Kd.N_reads' h
    refine ⟨A, base, c, rfl, Nat.le_refl _, hc, fun hp => ?_⟩
    obtain ⟨g, cap, hv, _⟩ := Kd.N_form h hp
    rw [hv] at hn
    simp [Value.ownBlock] at hn
  · obtain ⟨cap, rfl, h1, _, h2, h3⟩ := kk.openN h hg
    exact ⟨_, g, cap, rfl, h1, h2, fun _ => ⟨rfl, h3⟩⟩
/-- A row of rows that are read, with the blocks that these rows' elements lead to. -/
def kk.EE {α : Type} (d : Kd α) (W : World) (ok : Nat → Prop) (A : Option Addr) (ll : List (List α)) : Prop := ReadsRow (fun (x : List α) c => ∃ A1 c1, c = [Value.slice A1 x.length c1] ∧ kk.E d W ok A1 x.length x) 1 W A ll.length ll
theorem kk.EE.get {α : Type} {d : Kd α} {w W : World} {ok : Nat → Prop} {ad : Addr} {ll : List (List α)} (h : kk.EE d w ok (some ad) ll) (hb : Below w.heap.size w W) {i : Int} (h0 : 0 ≤ i) (h1 : i < (ll.length : Int)) {A1 : Option Addr} {n c : Nat} (hx : W.cell? (ad.add i.toNat) = some (.slice A1 n c)) :
    kk.E d W (fun k => ok k ∧ k < w.heap.size) A1 (ll.getD i.toNat []).length (ll.getD i.toNat []) := by
  have h' : ReadsRow (fun (x : List α) c => ∃ A1 c1, c = [Value.slice A1 x.length c1] ∧ kk.E d W (fun k => ok k ∧ k < w.heap.size) A1 x.length x) 1 W (some ad) ll.length ll :=
    ReadsRow.imp_ h hb (fun _ _ ⟨A1, c1, e1, hE⟩ => ⟨A1, c1, e1, kk.E.old hE hb⟩)
  obtain ⟨_, _, h3⟩ := h'
  have hi : i.toNat < ll.length := by omega
  obtain ⟨ad', hA, hc⟩ := h3 (by omega)
  cases hA
  obtain ⟨c', hs, ⟨A2, c2, rfl, hE⟩, hcell⟩ := hc i.toNat (ll[i.toNat]'hi) (List.getElem?_eq_getElem hi)
  have h4 := hcell 0 _ rfl
  rw [Nat.mul_one, Nat.add_zero, hx] at h4
  have h5 := Option.some.inj h4
  injection h5 with e1 e2 e3
  subst e1
  rw [List.getD_eq_getElem?_getD, List.getElem?_eq_getElem hi]
  exact hE
theorem kk.Blk.far {W : World} {g t N : Nat} (h : kk.Blk W g t N) {p : Addr} (hne : g ≠ p.block) (u : Value) : kk.Blk (W.setCell p u) g t N := by
  obtain ⟨cur, hc, hs⟩ := h
  exact ⟨cur, blk_far hc hne u, hs⟩
set_option maxHeartbeats 8000000 in
set_option maxRecDepth 100000 in
theorem api_Sealed_23.new (k : Nat) (P0_ Q0_ : Nat → Prop) (A0 : Option Addr) (c0 : Nat) (l0 : List (List (S43))) (r : List (S43)) (w : World) (hs0 : Kd.V (Kd.slice 43 k43) 22 w w.heap.size (fun k_ => P0_ k_) (.slice A0 l0.length c0) l0) (hE : kk.EE k43 w (fun k_ => Q0_ k_) A0 l0) (h : api_Sealed_23.f k l0 = some r) :
    Calls Try.prog 23 #[.slice A0 l0.length c0] w fun e w' => ∃ v0_ : Value, e = .returned (v0_) ∧ Kd.N k43 43 w' w.heap.size (fun k_ => (Q0_ k_ ∨ w.heap.size ≤ k_)) v0_ r ∧ Below w.heap.size w w' := by
  have HE := Aside0.mk hE
  clear hE
  have HO0 := Aside0.mk (show Kd.V (Kd.slice 43 k43) 22 w w.heap.size (fun k_ => (P0_ k_ ∨ w.heap.size ≤ k_)) (.slice A0 l0.length c0) l0 from Kd.V_mono hs0 (fun k_ hk => .inl hk))
  have HB := Aside0.mk (Below.refl w.heap.size w)
  have H : (api_Sealed_23.l0 k l0 0 l0 (l0.length : Int) 0) = some r := h
  clear h
  have H' := Aside0.mk H
  clear H
  go_enter Try.func23, Try.ntmps23
  go_wp2
  go_loopg [3, 11] k (fun kq v3 v11 w' => ∃ (x3_1 : Int) (x11_1 : Int), v3 = .int .i64 x3_1 ∧ v11 = .int .i64 x11_1 ∧ Aside0 (api_Sealed_23.l0 kq l0 x3_1 l0 (l0.length : Int) x11_1 = some r) ∧ Aside0 (kq ≤ k) ∧ Aside0 (Kd.V (Kd.slice 43 k43) 22 w' w.heap.size (fun k_ => (P0_ k_ ∨ w.heap.size ≤ k_)) (.slice A0 l0.length c0) l0) ∧ Aside0 (Kd.V (Kd.slice 43 k43) 22 w' w.heap.size (fun k_ => (P0_ k_ ∨ w.heap.size ≤ k_)) (.slice A0 l0.length c0) l0) ∧ Aside0 (Below w.heap.size w w'))
  case atStart => exact ⟨(0), (0), (by first | rfl | (simp; done) | (simp [*]; done)), (by first | rfl | (simp; done) | (simp [*]; done)), H', ⟨Nat.le_refl _⟩, ⟨by (with_reducible repeat (first | apply Kd.V_alloc | apply Kd.V_drewN | apply Kd.V_drew)); exact HO0.out⟩, ⟨by (with_reducible repeat (first | apply Kd.V_alloc | apply Kd.V_drewN | apply Kd.V_drew)); exact HO0.out⟩, ⟨by repeat (first | (with_reducible first | exact HB.out | apply below_alloc | apply pw_below_drewN | apply below_drew1) | exact HB.out)⟩⟩
  case round =>
    clear H'
    obtain ⟨x3_1, x11_1, rfl, rfl, HA, HK1, HO_0, HO_9, HB⟩ := hrel
    cases gk with
    | zero => exact absurd HA.out (by simp [api_Sealed_23.l0])
    | succ k1 =>
      have H := HA.out
      clear HA
      simp only [api_Sealed_23.l0] at H
      by_cases c2 : x11_1 < (l0.length : Int)
      · rw [if_pos c2] at H
        have c2b0 : decide (x11_1 < (l0.length : Int)) = true := decide_eq_true c2
        clear c2
        by_cases c3 : 0 ≤ x11_1
        · rw [if_pos c3] at H
          have c3b0 : decide (0 ≤ x11_1) = true := decide_eq_true c3
          clear c3
          by_cases c4 : x11_1 < (l0.length : Int)
          · rw [if_pos c4] at H
            have c4b0 : decide (x11_1 < (l0.length : Int)) = true := decide_eq_true c4
            clear c4
            by_cases c5 : (wrap64 (x3_1 + ((rd_L3 l0 x11_1).length : Int))) < 0
            · rw [if_pos c5] at H
              exact absurd H (by simp)
            · rw [if_neg c5] at H
              have c5b0 : decide ((wrap64 (x3_1 + ((rd_L3 l0 x11_1).length : Int))) < 0) = false := decide_eq_false c5
              clear c5
              have H' := Aside0.mk H
              clear H
              have p120 : 0 ≤ (x11_1 : Int) := of_decide_eq_true (by first | (with_reducible assumption) | assumption)
              have q120 : x11_1 < (l0.length : Int) := of_decide_eq_true (by first | (with_reducible assumption) | assumption)
              obtain ⟨ad120, A120_0, c120_0, e120, hx120_0, hl120_0, hi120_0⟩ := at_L3 (Kd.V_reads' HO_9.out).2.2 x11_1 p120 q120
              cases e120
              obtain ⟨ce120, hce120, hMe120, hcc120⟩ := Kd.V_get HO_9.out [] x11_1 p120 (by first | exact q120 | exact of_decide_eq_true (by first | (with_reducible assumption) | assumption) | (have e_ := (Kd.V_reads' HO_9.out).1; omega))
              obtain ⟨ua120_0, uc120_0, rfl, ul120_0, ge120_0⟩ := Kd.FK_slice_open hMe120
              have hv120_0 := hcc120 0 _ rfl
              rw [Nat.add_zero, show ((Kd.slice 43 k43)).sz = 1 from rfl, Nat.mul_one] at hv120_0
              replace hv120_0 := Option.some.inj (hv120_0.symm.trans hx120_0)
              injection hv120_0 with hva_ hvn_ hvc_
              rw [hva_] at ge120_0
              rw [hvc_] at ul120_0
              have HL120_0 := Aside0.mk (show Kd.V k43 43 _ w.heap.size _ _ (rd_L3 l0 x11_1) from Kd.V_mk ul120_0 ge120_0)
              clear hva_ hvn_ hvc_ ge120_0 ul120_0
              clear hcc120 hce120
              have HR120_0 := Aside0.mk hi120_0
              have HC120_0 := Aside0.mk hl120_0
              clear hi120_0 hl120_0
              replace p120 := eq_true p120
              replace q120 := eq_true q120
              go_wp2
              go_roundg k1
              case measure => have := HK1.out; omega
              case rel => exact ⟨(wrap64 (x3_1 + ((rd_L3 l0 x11_1).length : Int))), (wrap64 (x11_1 + 1)), (by first | rfl | (simp; done) | (simp [*]; done)), (by first | rfl | (simp; done) | (simp [*]; done)), H', ⟨by have := HK1.out; omega⟩, ⟨by (with_reducible repeat (first | apply Kd.V_alloc | apply Kd.V_drewN | apply Kd.V_drew)); exact HO_0.out⟩, ⟨by (with_reducible repeat (first | apply Kd.V_alloc | apply Kd.V_drewN | apply Kd.V_drew)); exact HO_9.out⟩, ⟨by repeat (first | (with_reducible first | exact HB.out | apply below_alloc | apply pw_below_drewN | apply below_drew1) | exact HB.out)⟩⟩
          · rw [if_neg c4] at H
            exact absurd H (by simp)
        · rw [if_neg c3] at H
          exact absurd H (by simp)
      · rw [if_neg c2] at H
        have c2b0 : decide (x11_1 < (l0.length : Int)) = false := decide_eq_false c2
        clear c2
        replace H := Option.bind_eq_some_iff.mp H
        obtain ⟨t121, A60, H⟩ := H
        replace H : (api_Sealed_23.l1 k1 t121 l0 (l0.length : Int) 0) = some r := H
        have A6 := Aside0.mk A60
        clear A60
        have H' := Aside0.mk H
        clear H
        go_wp2_with (first | ((with_reducible refine gate_callee (f := 26) rfl ?_); refine goesL_ (some 24) rfl rfl Try.func26 (by kernel_rfl) rfl #[.slice none 0 0, .int .i64 x3_1] rfl (by (try simp only [List.map_toArray, List.map_cons, List.map_nil]); first | done | rfl | (simp only [List.length_drop, List.length_take]; rfl)) ?_; (refine (api_Sealed_26.calls _ _ ([] : List (S43)) x3_1 t121 _ ?side1 ?side2 A6.out).mono ?_); (case side1 => exact Kd.C_nil _ _); (case side2 => exact Nat.le_refl _); rintro e w7 ⟨v122, rfl, ho0, hb⟩; refine ⟨_, rfl, ?_⟩; have n0_ := Aside0.mk (Kd.V_elder' (by (with_reducible repeat (first | apply Kd.V_alloc | apply Kd.V_drewN | apply Kd.V_drew)); exact HO_0.out) (Kd.S_base ho0) hb); have n1_ := Aside0.mk (Kd.V_elder' (by (with_reducible repeat (first | apply Kd.V_alloc | apply Kd.V_drewN | apply Kd.V_drew)); exact HO_9.out) (Kd.S_base ho0) hb); have n2_ := Aside0.mk (Kd.N_lower (Kd.N_mono (ok' := fun k_ => (Q0_ k_ ∨ w.heap.size ≤ k_)) (Kd.S_N (Kd.S_bound ho0)) (fun k_ hk_ => (.inr (Nat.le_trans (below_size (by repeat (first | (with_reducible first | exact HB.out | apply below_alloc | apply pw_below_drewN | apply below_drew1) | exact HB.out))) hk_.2.1)))) (below_size (by repeat (first | (with_reducible first | exact HB.out | apply below_alloc | apply pw_below_drewN | apply below_drew1) | exact HB.out)))); have n3_ := Aside0.mk (below_step (by repeat (first | (with_reducible first | exact HB.out | apply below_alloc | apply pw_below_drewN | apply below_drew1) | exact HB.out)) hb); clear HO_0; clear HO_9; clear HB; have HO_0 := n0_; have HO_9 := n1_; have HO123 := n2_; have HB := n3_; clear n0_ n1_ n2_ n3_; (try clear hb); (try clear hb2); (try clear hk); (try clear hi); (try clear ho0)))
        go_loopg [6, 27] k1 (fun kq v6 v27 w' => ∃ (x6_2 : List (S43)) (x27_2 : Int), v27 = .int .i64 x27_2 ∧ Aside0 (api_Sealed_23.l1 kq x6_2 l0 (l0.length : Int) x27_2 = some r) ∧ Aside0 (kq ≤ k1) ∧ Aside0 (Kd.N k43 43 w' w.heap.size (fun k_ => (Q0_ k_ ∨ w.heap.size ≤ k_)) v6 x6_2) ∧ Aside0 (Kd.V (Kd.slice 43 k43) 22 w' w.heap.size (fun k_ => (P0_ k_ ∨ w.heap.size ≤ k_) ∧ some k_ ≠ (v6 : Value).ownBlock) (.slice A0 l0.length c0) l0) ∧ Aside0 (Below w.heap.size w w'))
        case atStart => exact ⟨(t121), (0), (by first | rfl | (simp; done) | (simp [*]; done)), H', ⟨Nat.le_refl _⟩, ⟨by (with_reducible repeat (first | apply Kd.N_alloc | apply Kd.N_drewN | apply Kd.N_drew)); exact HO123.out⟩, ⟨by (with_reducible repeat (first | apply Kd.V_alloc | apply Kd.V_drewN | apply Kd.V_drew)); exact HO_0.out⟩, ⟨by repeat (first | (with_reducible first | exact HB.out | apply below_alloc | apply pw_below_drewN | apply below_drew1) | exact HB.out)⟩⟩
        case round =>
          clear H'
          try clear c1
          try clear p1
          try clear q1
          try clear hx1
          try clear c2
          try clear c2b0
          try clear p2
          try clear c3
          try clear c3b0
          try clear c4
          try clear c4b0
          try clear c5
          try clear c5b0
          try clear p6
          try clear hx120_0
          try clear p120
          try clear q120
          obtain ⟨x6_2, x27_2, rfl, HA, HK2, HO_6, HO_25, HB⟩ := hrel
          cases gk with
          | zero => exact absurd HA.out (by simp [api_Sealed_23.l1])
          | succ k2 =>
            have H := HA.out
            clear HA
            simp only [api_Sealed_23.l1] at H
            by_cases c8 : x27_2 < (l0.length : Int)
            · rw [if_pos c8] at H
              have c8b0 : decide (x27_2 < (l0.length : Int)) = true := decide_eq_true c8
              clear c8
              by_cases c9 : 0 ≤ x27_2
              · rw [if_pos c9] at H
                have c9b0 : decide (0 ≤ x27_2) = true := decide_eq_true c9
                clear c9
                by_cases c10 : x27_2 < (l0.length : Int)
                · rw [if_pos c10] at H
                  have c10b0 : decide (x27_2 < (l0.length : Int)) = true := decide_eq_true c10
                  clear c10
                  by_cases c11 : x6_2.length + (rd_L3 l0 x27_2).length < 3518437208883
                  · rw [if_pos c11] at H
                    have LMc11 := Aside0.mk c11
                    clear c11
                    obtain ⟨y125, hy125⟩ : ∃ y_ : List (S43), y_ = (x6_2 ++ (rd_L3 l0 x27_2)) := ⟨_, rfl⟩
                    replace H : (api_Sealed_23.l1 k2 y125 l0 (l0.length : Int) (wrap64 (x27_2 + 1))) = some r := by first | (rw [hy125]; with_reducible exact H) | (have H2_ := (Option.bind_some _ _).symm.trans H; rw [hy125]; with_reducible exact H2_) | (have H2_ := (Option.bind_some _ _).symm.trans H; with_reducible exact H2_) | with_reducible exact H | (rw [hy125]; exact H) | exact H
                    have Ny125 := Aside0.mk hy125
                    clear hy125
                    have H' := Aside0.mk H
                    clear H
                    have p124 : 0 ≤ (x27_2 : Int) := of_decide_eq_true (by first | (with_reducible assumption) | assumption)
                    have q124 : x27_2 < (l0.length : Int) := of_decide_eq_true (by first | (with_reducible assumption) | assumption)
                    obtain ⟨ad124, A124_0, c124_0, e124, hx124_0, hl124_0, hi124_0⟩ := at_L3 (Kd.V_reads' HO_25.out).2.2 x27_2 p124 q124
                    cases e124
                    obtain ⟨ce124, hce124, hMe124, hcc124⟩ := Kd.V_get HO_25.out [] x27_2 p124 (by first | exact q124 | exact of_decide_eq_true (by first | (with_reducible assumption) | assumption) | (have e_ := (Kd.V_reads' HO_25.out).1; omega))
                    obtain ⟨ua124_0, uc124_0, rfl, ul124_0, ge124_0⟩ := Kd.FK_slice_open hMe124
                    have hv124_0 := hcc124 0 _ rfl
                    rw [Nat.add_zero, show ((Kd.slice 43 k43)).sz = 1 from rfl, Nat.mul_one] at hv124_0
                    replace hv124_0 := Option.some.inj (hv124_0.symm.trans hx124_0)
                    injection hv124_0 with hva_ hvn_ hvc_
                    rw [hva_] at ge124_0
                    rw [hvc_] at ul124_0
                    have HL124_0 := Aside0.mk (show Kd.V k43 43 _ w.heap.size _ _ (rd_L3 l0 x27_2) from Kd.V_mk ul124_0 ge124_0)
                    clear hva_ hvn_ hvc_ ge124_0 ul124_0
                    clear hcc124 hce124
                    have HR124_0 := Aside0.mk hi124_0
                    have HC124_0 := Aside0.mk hl124_0
                    clear hi124_0 hl124_0
                    replace p124 := eq_true p124
                    replace q124 := eq_true q124
                    go_wp2_with (first | ((with_reducible refine gate_builtin (b := .append) (xs := #[.tmp 31, .tmp 32]) rfl ?_); at_builtin; refine kk.N_append_rows k43 (w0 := w) w.heap.size rfl (.tmp 31) (.tmp 32) 22 43 (.agg #[(.int .u32 0), (.int .u32 0), (.int .u32 0), (.slice none 0 0)]) 40 rfl Try.underlying22 info43 rfl (by decide) (by omega) u6 x6_2 (rd_L3 l0 x27_2) _ _ _ (fun k_ => (Q0_ k_ ∨ w.heap.size ≤ k_)) (fun k_ => Q0_ k_ ∧ k_ < w.heap.size) rfl rfl ?aO ?aR (fun k_ hk => ⟨.inl hk.1, fun e_ => absurd (Kd.N_base HO_6.out k_ e_.symm) (Nat.not_le.2 hk.2)⟩) ?aF ?aB ?aS ?aL ?_; (case aR => exact kk.EE.get HE.out HB.out (of_eq_true p124) (of_eq_true q124) hx124_0); (case aB => exact (by repeat (first | (with_reducible first | exact HB.out | apply below_alloc | apply pw_below_drewN | apply below_drew1) | exact HB.out))); (case aF => exact (fun k_ hk => (.inr (Nat.le_trans (below_size (by repeat (first | (with_reducible first | exact HB.out | apply below_alloc | apply pw_below_drewN | apply below_drew1) | exact HB.out))) hk)))); (case aO => exact (by (with_reducible repeat (first | apply Kd.N_alloc | apply Kd.N_drewN | apply Kd.N_drew)); exact HO_6.out)); (case aS => exact (below_size (by repeat (first | (with_reducible first | exact HB.out | apply below_alloc | apply pw_below_drewN | apply below_drew1) | exact HB.out)))); (case aL => have := LMc11.out; omega); intro v126 w12 ho hb hg hat; rw [← Ny125.out] at ho; have n0_ := Aside0.mk (Kd.V_afterv (ok := (fun k_ => (P0_ k_ ∨ w.heap.size ≤ k_))) (by (with_reducible repeat (first | apply Kd.V_alloc | apply Kd.V_drewN | apply Kd.V_drew)); exact HO_25.out) hg hat); have n1_ := Aside0.mk (Kd.V_afterv (ok := (fun k_ => (P0_ k_ ∨ w.heap.size ≤ k_))) (by (with_reducible repeat (first | apply Kd.V_alloc | apply Kd.V_drewN | apply Kd.V_drew)); exact HL124_0.out) hg hat); have n2_ := Aside0.mk (hb); have n3_ := Aside0.mk (ho); clear HO_25; clear HL124_0; clear HB; clear HO_6; have HO_25 := n0_; have HL124_0 := n1_; have HB := n2_; have HO127 := n3_; clear n0_ n1_ n2_ n3_; clear ho hb hg hat))
                    go_roundg k2
                    case measure => have := HK1.out; have := HK2.out; omega
                    case rel => exact ⟨(y125), (wrap64 (x27_2 + 1)), (by first | rfl | (simp; done) | (simp [*]; done)), H', ⟨by have := HK1.out; have := HK2.out; omega⟩, ⟨by (with_reducible repeat (first | apply Kd.N_alloc | apply Kd.N_drewN | apply Kd.N_drew)); exact HO127.out⟩, ⟨by (with_reducible repeat (first | apply Kd.V_alloc | apply Kd.V_drewN | apply Kd.V_drew)); exact HO_25.out⟩, ⟨by repeat (first | (with_reducible first | exact HB.out | apply below_alloc | apply pw_below_drewN | apply below_drew1) | exact HB.out)⟩⟩
                  · rw [if_neg c11] at H
                    exact absurd H (by simp)
                · rw [if_neg c10] at H
                  exact absurd H (by simp)
              · rw [if_neg c9] at H
                exact absurd H (by simp)
            · rw [if_neg c8] at H
              have c8b0 : decide (x27_2 < (l0.length : Int)) = false := decide_eq_false c8
              clear c8
              obtain rfl := Option.some.inj H
              go_wp2
              go_ret
              exact ⟨_, by first | rfl | (simp [errW_none, errW_some] <;> rfl) | (simp [*, errW_none, errW_some] <;> rfl), by (with_reducible repeat (first | apply Kd.N_alloc | apply Kd.N_drewN | apply Kd.N_drew)); exact HO_6.out, by repeat (first | (with_reducible first | exact HB.out | apply below_alloc | apply pw_below_drewN | apply below_drew1) | exact HB.out)⟩
theorem bseal.rowsE (w w3 : World) (Q : Nat → Prop) (base2 : Nat) (A0 : Option Addr) (c0 : Nat) (l : List S43) (a1 a2 a3 : Int) (A5 : Option Addr) (c5 : Nat) (l4 : List Int)
    (hE : kk.E k43 w3 (fun k => Q k ∧ k < w.heap.size) A0 l.length l) (hR : Kd.R (Kd.int .u32) 25 w3 base2 (fun k => w.heap.size + 1 < k) (.slice A5 l4.length c5) l4) (hlt : w.heap.size + 1 < w3.heap.size) :
    kk.EE k43 (((w3.alloc (.cells #[.int .u32 a1, .int .u32 a2, .int .u32 a3, .slice A5 l4.length c5] 43)).alloc (.cells #[.int .u32 a1, .int .u32 a2, .int .u32 a3, .slice A5 l4.length c5] 43)).alloc (.cells #[.slice A0 l.length c0, .slice (some ⟨w3.heap.size + 1, 0, none⟩) 1 1] 22))
      (fun k => (Q k ∧ k < w.heap.size) ∨ w.heap.size + 1 < k) (some ⟨w3.heap.size + 1 + 1, 0, none⟩) [l, [(⟨a1, a2, a3, l4⟩ : S43)]] := by
  obtain ⟨Wa, hWa⟩ : ∃ Wa : World, Wa = w3.alloc (.cells #[.int .u32 a1, .int .u32 a2, .int .u32 a3, .slice A5 l4.length c5] 43) := ⟨_, rfl⟩
  obtain ⟨Wb, hWb⟩ : ∃ Wb : World, Wb = Wa.alloc (.cells #[.int .u32 a1, .int .u32 a2, .int .u32 a3, .slice A5 l4.length c5] 43) := ⟨_, rfl⟩
  obtain ⟨Wc, hWc⟩ : ∃ Wc : World, Wc = Wb.alloc (.cells #[.slice A0 l.length c0, .slice (some ⟨w3.heap.size + 1, 0, none⟩) 1 1] 22) := ⟨_, rfl⟩
  rw [← hWa, ← hWb, ← hWc]
  have sa : Wa.heap.size = w3.heap.size + 1 := by rw [hWa]; simp
  have sb : Wb.heap.size = w3.heap.size + 1 + 1 := by rw [hWb]; simp [sa]
  have bb : Wb.heap[w3.heap.size + 1]? = some (.cells #[.int .u32 a1, .int .u32 a2, .int .u32 a3, .slice A5 l4.length c5] 43 (0, 0)) := by rw [hWb, ← sa]; exact (MapKept.heap_alloc _ _).1
  have bc : Wc.heap[w3.heap.size + 1 + 1]? = some (.cells #[.slice A0 l.length c0, .slice (some ⟨w3.heap.size + 1, 0, none⟩) 1 1] 22 (0, 0)) := by rw [hWc, ← sb]; exact (MapKept.heap_alloc _ _).1
  have bb' : Wc.heap[w3.heap.size + 1]? = some (.cells #[.int .u32 a1, .int .u32 a2, .int .u32 a3, .slice A5 l4.length c5] 43 (0, 0)) := by rw [hWc]; exact blk_alloc bb _
  have hB : Below w3.heap.size w3 Wc := by rw [hWc, hWb, hWa]; exact below_alloc (below_alloc (below_alloc (Below.refl _ _) _) _) _
  have E1 : kk.E k43 Wc (fun k => (Q k ∧ k < w.heap.size) ∨ w.heap.size + 1 < k) A0 l.length l := kk.E.mono (kk.E.below hE hB) (fun k hk => .inl hk)
  obtain ⟨_, hc5, F2⟩ := Kd.V_at (Kd.V_below (Kd.R_V (base' := 0) hR) hB)
  have F3 : Kd.F k43 Wc (fun k => (Q k ∧ k < w.heap.size) ∨ w.heap.size + 1 < k) (some ⟨w3.heap.size + 1, 0, none⟩) 1 [(⟨a1, a2, a3, l4⟩ : S43)] :=
    bseal.F_block [(⟨a1, a2, a3, l4⟩ : S43)] [[.int .u32 a1, .int .u32 a2, .int .u32 a3, .slice A5 l4.length c5]] bb' (.inr (by omega)) rfl
      (fun j x c hx hc => by
        have : j = 0 := by have := (List.getElem?_eq_some_iff.1 hx).1; simpa using this
        subst this
        cases hx
        cases hc
        exact ⟨k43_mkF Wc _ _ hc5 (Kd.F_mono F2 (fun k hk => .inr hk)), rfl⟩)
      (fun j c hc i u hu => by
        have : j = 0 := by have := (List.getElem?_eq_some_iff.1 hc).1; simpa using this
        subst this
        cases hc
        simpa using hu) (by simp)
  have E2 : kk.E k43 Wc (fun k => (Q k ∧ k < w.heap.size) ∨ w.heap.size + 1 < k) (some ⟨w3.heap.size + 1, 0, none⟩) 1 [(⟨a1, a2, a3, l4⟩ : S43)] := kk.E.ofF F3
  refine ⟨rfl, by simp, fun _ => ⟨⟨w3.heap.size + 1 + 1, 0, none⟩, rfl, fun j x hx => ?_⟩⟩
  have hj := (List.getElem?_eq_some_iff.1 hx).1
  simp only [List.length_cons, List.length_nil] at hj
  rcases Nat.lt_or_ge j 1 with q | q
  · obtain rfl : j = 0 := by omega
    cases hx
    refine ⟨[.slice A0 l.length c0], rfl, ⟨A0, c0, rfl, E1⟩, fun i u hu => ?_⟩
    have hi := (List.getElem?_eq_some_iff.1 hu).1
    simp only [List.length_cons, List.length_nil] at hi
    obtain rfl : i = 0 := by omega
    rw [show (⟨w3.heap.size + 1 + 1, 0, none⟩ : Addr).add (0 * 1 + 0) = ⟨w3.heap.size + 1 + 1, 0 * 1 + 0, none⟩ from bseal.add0 _ _]
    exact (blk_cell bc (0 * 1 + 0)).trans hu
  · obtain rfl : j = 1 := by omega
    cases hx
    refine ⟨[.slice (some ⟨w3.heap.size + 1, 0, none⟩) 1 1], rfl, ⟨_, 1, rfl, E2⟩, fun i u hu => ?_⟩
    have hi := (List.getElem?_eq_some_iff.1 hu).1
    simp only [List.length_cons, List.length_nil] at hi
    obtain rfl : i = 0 := by omega
    rw [show (⟨w3.heap.size + 1 + 1, 0, none⟩ : Addr).add (1 * 1 + 0) = ⟨w3.heap.size + 1 + 1, 1 * 1 + 0, none⟩ from bseal.add0 _ _]
    exact (blk_cell bc (1 * 1 + 0)).trans hu
set_option maxHeartbeats 8000000 in
set_option maxRecDepth 100000 in
theorem box_Seal.new (a0_0 : Int) (P0_1_ Q0_ : Nat → Prop) (A0_1 : Option Addr) (c0_1 : Nat) (l0_1 : List (S43)) (a1 : Int) (a2 : Int) (a3 : Int) (A4 : Option Addr) (c4 : Nat) (l4 : List Int) (r1 : Int) (r2 : List (S43)) (r3 : Int) (w : World) (hs0_1 : Kd.V k43 43 w w.heap.size (fun k_ => P0_1_ k_) (.slice A0_1 l0_1.length c0_1) l0_1) (hr4 : Kd.C (Kd.int .u32) w A4 l4.length l4) (hc4 : l4.length ≤ c4) (hE : kk.E k43 w (fun k_ => Q0_ k_) A0_1 l0_1.length l0_1) (h : box_Seal.f a0_0 l0_1 a1 a2 a3 l4 = some (r1, r2, r3)) :
    Calls Try.prog 12 #[.agg #[.int .i64 a0_0, .slice A0_1 l0_1.length c0_1], .int .u32 a1, .int .u32 a2, .int .u32 a3, .slice A4 l4.length c4] w fun e w' => ∃ (A1_ : Option Addr) (c1_ : Nat), e = .returned (.tuple #[.agg #[.int .i64 r1, .slice A1_ r2.length c1_], .int .i64 r3]) ∧ (r3 = 0 → Kd.V k43 43 w' w.heap.size (fun k_ => (Q0_ k_ ∨ w.heap.size ≤ k_)) (.slice A1_ r2.length c1_) r2) ∧ Below w.heap.size w w' := by
  obtain ⟨f1, f2, f3, f4, hf⟩ := bseal.found a0_0 a1 l0_1
  have HF := Aside0.mk hf
  clear hf
  have HE := Aside0.mk hE
  clear hE
  have HS := Aside0.mk (Kd.V_bound hs0_1)
  have HR4 := Aside0.mk hr4
  have HC4 := Aside0.mk hc4
  clear hs0_1 hr4 hc4
  unfold box_Seal.f at h
  have Hh := Aside0.mk h
  clear h
  obtain ⟨W1, hW1⟩ : ∃ W1 : World, W1 = w.alloc (.cells #[.int .i64 a0_0, .slice A0_1 l0_1.length c0_1] 24) := ⟨_, rfl⟩
  obtain ⟨W2, hW2⟩ : ∃ W2 : World, W2 = W1.alloc (.cells #[.int .i64 0, .slice none 0 0] 24) := ⟨_, rfl⟩
  have s1 : W1.heap.size = w.heap.size + 1 := by rw [hW1]; simp
  have s2 : W2.heap.size = w.heap.size + 1 + 1 := by rw [hW2]; simp [s1]
  have b1 : W1.heap[w.heap.size]? = some (.cells #[.int .i64 a0_0, .slice A0_1 l0_1.length c0_1] 24 (0, 0)) := by rw [hW1]; exact (MapKept.heap_alloc _ _).1
  have b2 : W2.heap[w.heap.size + 1]? = some (.cells #[.int .i64 0, .slice none 0 0] 24 (0, 0)) := by rw [hW2, ← s1]; exact (MapKept.heap_alloc _ _).1
  have b1' : W2.heap[w.heap.size]? = some (.cells #[.int .i64 a0_0, .slice A0_1 l0_1.length c0_1] 24 (0, 0)) := by rw [hW2]; exact blk_alloc b1 _
  have hB2 : Below w.heap.size w W2 := by rw [hW2, hW1]; exact ((Below.refl _ w).alloc (Nat.le_refl _) _).alloc (by simp) _
  have HV2 := Aside0.mk (Kd.V_below HS.out hB2)
  have HB2 := Aside0.mk hB2
  have Hs2 := Aside0.mk s2
  have Hb1 := Aside0.mk b1'
  have Hb2 := Aside0.mk b2
  have Hw := Aside0.mk (hW2.trans (by rw [hW1]))
  have hk0 : W2.cell? ⟨w.heap.size, 0, none⟩ = some (.int .i64 a0_0) := (blk_cell b1' 0).trans rfl
  have hk1 : W2.cell? ⟨w.heap.size, 1, none⟩ = some (.slice A0_1 l0_1.length c0_1) := (blk_cell b1' 1).trans rfl
  clear b1 b2 b1' hB2 s1 s2 hW1 hW2 HS
  by_cases c1 : (l4.length : Int) > 64
  · have c1b0 : decide (64 < (l4.length : Int)) = true := decide_eq_true c1
    have c1b1 : decide (64 < l4.length) = true := decide_eq_true (by omega)
    have h := Hh.out
    rw [if_pos c1] at h
    simp only [Option.some.injEq, Prod.mk.injEq] at h
    obtain ⟨rfl, rfl, rfl⟩ := h
    clear Hh c1
    go_enter Try.func12, Try.ntmps12
    go_wp2_with (rw [← Hw.out]; go_at_call 21; refine (box_find.calls a0_0 _ _ _ l0_1 a1 f1 f2 f3 f4 _ _ HV2.out HF.out).mono ?_; rintro e w1 ⟨v3, rfl, hv3, hb1⟩; obtain ⟨A3, c3, rfl⟩ := Kd.V_slice hv3; clear hv3; have hlt5 : w.heap.size < w1.heap.size := (by have := hb1.size; have := Hs2.out; omega); have hlt10 : w.heap.size + 1 < w1.heap.size := (by have := hb1.size; have := Hs2.out; omega); have B5 := Aside0.mk (blk_below Hb1.out hb1); have B10 := Aside0.mk (blk_below Hb2.out hb1); have HV3 := Aside0.mk (Kd.V_below HV2.out hb1); have HB3 := Aside0.mk (HB2.out.trans (hb1.mono (by have := Hs2.out; omega))); clear hb1; have q0 : w1.cell? ⟨w.heap.size, 0, none⟩ = some (.int .i64 a0_0) := (blk_cell B5.out 0).trans rfl; have q1 : w1.cell? ⟨w.heap.size, 1, none⟩ = some (.slice A0_1 l0_1.length c0_1) := (blk_cell B5.out 1).trans rfl; have p0 : w1.cell? ⟨w.heap.size + 1, 0, none⟩ = some (.int .i64 0) := (blk_cell B10.out 0).trans rfl; have p1 : w1.cell? ⟨w.heap.size + 1, 1, none⟩ = some (.slice none 0 0) := (blk_cell B10.out 1).trans rfl; have g0 := blk_frozen B10.out 0; have g1 := blk_frozen B10.out 1)
    refine bodyPost_ret (results_ct rfl _ _ (w.heap.size + 1) 24 #[.int .i64 a0_0, .slice A0_1 l0_1.length c0_1] (0, 0) _ rfl (by refine blk_alloc ?_ _; refine blk_put (cs := #[.int .i64 a0_0, .slice none 0 0]) ?_ 1 _ rfl; exact blk_put (cs := #[.int .i64 0, .slice none 0 0]) B10.out 0 _ rfl) Try.underlying24 rfl (by kernel_rfl)) rfl ?_
    have hg : w.heap.size ≤ w.heap.size + 1 := by omega
    have hne : ∀ k, P0_1_ k ∧ k < w.heap.size → k ≠ w.heap.size + 1 := fun k hk => by have := hk.2; omega
    exact ⟨_, _, rfl, fun h0_ => absurd h0_ (by decide), below_alloc (below_set (below_set HB3.out hg) hg) _⟩

  have c1b0 : decide (64 < (l4.length : Int)) = false := decide_eq_false c1
  have c1b1 : decide (64 < l4.length) = false := decide_eq_false (by omega)
  have hl4 : l4.length ≤ 64 := by omega
  have h := Hh.out
  clear Hh
  rw [if_neg c1] at h
  by_cases c2 : 0 ≤ bfind.pos a1 l0_1
  · rw [if_pos c2] at h
    simp only [Option.some.injEq, Prod.mk.injEq] at h
    obtain ⟨rfl, rfl, rfl⟩ := h
    have c2b : decide (0 ≤ bfind.pos a1 l0_1) = true := decide_eq_true c2
    rw [c2b] at HF
    clear c1 c2 c2b
    go_enter Try.func12, Try.ntmps12
    go_wp2_with (rw [← Hw.out]; go_at_call 21; refine (box_find.calls a0_0 _ _ _ l0_1 a1 f1 f2 f3 f4 _ _ HV2.out HF.out).mono ?_; rintro e w1 ⟨v3, rfl, hv3, hb1⟩; obtain ⟨A3, c3, rfl⟩ := Kd.V_slice hv3; clear hv3; have hlt5 : w.heap.size < w1.heap.size := (by have := hb1.size; have := Hs2.out; omega); have hlt10 : w.heap.size + 1 < w1.heap.size := (by have := hb1.size; have := Hs2.out; omega); have B5 := Aside0.mk (blk_below Hb1.out hb1); have B10 := Aside0.mk (blk_below Hb2.out hb1); have HV3 := Aside0.mk (Kd.V_below HV2.out hb1); have HB3 := Aside0.mk (HB2.out.trans (hb1.mono (by have := Hs2.out; omega))); clear hb1; have q0 : w1.cell? ⟨w.heap.size, 0, none⟩ = some (.int .i64 a0_0) := (blk_cell B5.out 0).trans rfl; have q1 : w1.cell? ⟨w.heap.size, 1, none⟩ = some (.slice A0_1 l0_1.length c0_1) := (blk_cell B5.out 1).trans rfl; have p0 : w1.cell? ⟨w.heap.size + 1, 0, none⟩ = some (.int .i64 0) := (blk_cell B10.out 0).trans rfl; have p1 : w1.cell? ⟨w.heap.size + 1, 1, none⟩ = some (.slice none 0 0) := (blk_cell B10.out 1).trans rfl; have g0 := blk_frozen B10.out 0; have g1 := blk_frozen B10.out 1)
    refine bodyPost_ret (results_ct rfl _ _ (w.heap.size + 1) 24 #[.int .i64 a0_0, .slice A0_1 l0_1.length c0_1] (0, 0) _ rfl (by refine blk_alloc ?_ _; refine blk_put (cs := #[.int .i64 a0_0, .slice none 0 0]) ?_ 1 _ rfl; exact blk_put (cs := #[.int .i64 0, .slice none 0 0]) B10.out 0 _ rfl) Try.underlying24 rfl (by kernel_rfl)) rfl ?_
    have hg : w.heap.size ≤ w.heap.size + 1 := by omega
    have hne : ∀ k, P0_1_ k ∧ k < w.heap.size → k ≠ w.heap.size + 1 := fun k hk => by have := hk.2; omega
    exact ⟨_, _, rfl, fun h0_ => absurd h0_ (by decide), below_alloc (below_set (below_set HB3.out hg) hg) _⟩

  rw [if_neg c2] at h
  have c2b : decide (0 ≤ bfind.pos a1 l0_1) = false := decide_eq_false c2
  rw [c2b] at HF
  clear c1 c2 c2b
  have HL := Aside0.mk hl4
  clear hl4
  obtain ⟨t, ht⟩ : ∃ t, t = wrap64 (a0_0 - (l0_1.length : Int)) := ⟨_, rfl⟩
  rw [← ht] at h
  have HT := Aside0.mk (show box_Free.f a0_0 l0_1 = some t by rw [ht]; rfl)
  clear ht
  by_cases c3 : t < 1
  · rw [if_pos c3] at h
    simp only [Option.some.injEq, Prod.mk.injEq] at h
    obtain ⟨rfl, rfl, rfl⟩ := h
    have c3b : decide (t < 1) = true := decide_eq_true c3
    clear c3
    go_enter Try.func12, Try.ntmps12
    go_wp2_with (first | (rw [← Hw.out]; go_at_call 21; refine (box_find.calls a0_0 _ _ _ l0_1 a1 f1 f2 f3 f4 _ _ HV2.out HF.out).mono ?_; rintro e w1 ⟨v3, rfl, hv3, hb1⟩; obtain ⟨A3, c3, rfl⟩ := Kd.V_slice hv3; clear hv3; have hlt5 : w.heap.size < w1.heap.size := (by have := hb1.size; have := Hs2.out; omega); have hlt10 : w.heap.size + 1 < w1.heap.size := (by have := hb1.size; have := Hs2.out; omega); have B5 := Aside0.mk (blk_below Hb1.out hb1); have B10 := Aside0.mk (blk_below Hb2.out hb1); have HV3 := Aside0.mk (Kd.V_below HV2.out hb1); have HB3 := Aside0.mk (HB2.out.trans (hb1.mono (by have := Hs2.out; omega))); clear hb1; have q0 : w1.cell? ⟨w.heap.size, 0, none⟩ = some (.int .i64 a0_0) := (blk_cell B5.out 0).trans rfl; have q1 : w1.cell? ⟨w.heap.size, 1, none⟩ = some (.slice A0_1 l0_1.length c0_1) := (blk_cell B5.out 1).trans rfl; have p0 : w1.cell? ⟨w.heap.size + 1, 0, none⟩ = some (.int .i64 0) := (blk_cell B10.out 0).trans rfl; have p1 : w1.cell? ⟨w.heap.size + 1, 1, none⟩ = some (.slice none 0 0) := (blk_cell B10.out 1).trans rfl; have g0 := blk_frozen B10.out 0; have g1 := blk_frozen B10.out 1) | (go_at_call 18; refine (box_Free.calls a0_0 _ _ l0_1 t _ (Kd.C_alloc (Kd.V_reads' HV3.out).2.2 _) (Kd.V_reads' HV3.out).2.1 HT.out).mono ?_; rintro e w2 ⟨rfl, hb2⟩; have hB12 := Aside0.mk (below_alloc (Below.refl w1.heap.size w1) _ |>.trans (hb2.mono (by simp))); have hB2w := Aside0.mk (hb2); have hlt5' : w.heap.size < w2.heap.size := (by have := hB12.out.size; omega); have hlt10' : w.heap.size + 1 < w2.heap.size := (by have := hB12.out.size; omega); clear hlt5 hlt10 q0 q1 p0 p1 g0 g1 hb2; have B5' := Aside0.mk (blk_below B5.out hB12.out); have B10' := Aside0.mk (blk_below B10.out hB12.out); have HV4 := Aside0.mk (Kd.V_below HV3.out hB12.out); have HB4 := Aside0.mk (HB3.out.trans (hB12.out.mono HB3.out.size)); have q0 : w2.cell? ⟨w.heap.size, 0, none⟩ = some (.int .i64 a0_0) := (blk_cell B5'.out 0).trans rfl; have q1 : w2.cell? ⟨w.heap.size, 1, none⟩ = some (.slice A0_1 l0_1.length c0_1) := (blk_cell B5'.out 1).trans rfl; have p0 : w2.cell? ⟨w.heap.size + 1, 0, none⟩ = some (.int .i64 0) := (blk_cell B10'.out 0).trans rfl; have p1 : w2.cell? ⟨w.heap.size + 1, 1, none⟩ = some (.slice none 0 0) := (blk_cell B10'.out 1).trans rfl; have g0 := blk_frozen B10'.out 0; have g1 := blk_frozen B10'.out 1))
    refine bodyPost_ret (results_ct rfl _ _ (w.heap.size + 1) 24 #[.int .i64 a0_0, .slice A0_1 l0_1.length c0_1] (0, 0) _ rfl (by refine blk_put (cs := #[.int .i64 a0_0, .slice none 0 0]) ?_ 1 _ rfl; exact blk_put (cs := #[.int .i64 0, .slice none 0 0]) B10'.out 0 _ rfl) Try.underlying24 rfl (by kernel_rfl)) rfl ?_
    have hg : w.heap.size ≤ w.heap.size + 1 := by omega
    have hne : ∀ k, P0_1_ k ∧ k < w.heap.size → k ≠ w.heap.size + 1 := fun k hk => by have := hk.2; omega
    exact ⟨_, _, rfl, fun h0_ => absurd h0_ (by decide), (below_set (below_set HB4.out hg) hg)⟩

  rw [if_neg c3] at h
  have c3b : decide (t < 1) = false := decide_eq_false c3
  clear c3
  by_cases c4 : ¬ l0_1.length < 1000000
  · rw [if_neg c4] at h; cases h
  replace c4 := Decidable.not_not.mp c4
  rw [if_pos c4] at h
  have HM := Aside0.mk c4
  have HCAT := Aside0.mk (show api_Sealed_23.f 100 [l0_1, [(⟨a1, a2, a3, l4⟩ : S43)]] = some (l0_1 ++ [(⟨a1, a2, a3, l4⟩ : S43)]) by rw [bseal.concat_eq _ 100 (by simp) (by simp; omega) (by simp)]; simp)
  have HCL := Aside0.mk (show slices_Clone_uint32_uint32.f l4 = some l4 by unfold slices_Clone_uint32_uint32.f; rw [Option.bind_some, if_pos (by have := HL.out; simp; omega)]; rfl)
  simp only [Option.some.injEq, Prod.mk.injEq] at h
  obtain ⟨rfl, rfl, rfl⟩ := h
  clear c4
  go_enter Try.func12, Try.ntmps12
  go_wp2_with (first | (rw [← Hw.out]; go_at_call 21; refine (box_find.calls a0_0 _ _ _ l0_1 a1 f1 f2 f3 f4 _ _ HV2.out HF.out).mono ?_; rintro e w1 ⟨v3, rfl, hv3, hb1⟩; obtain ⟨A3, c3, rfl⟩ := Kd.V_slice hv3; clear hv3; have hlt5 : w.heap.size < w1.heap.size := (by have := hb1.size; have := Hs2.out; omega); have hlt10 : w.heap.size + 1 < w1.heap.size := (by have := hb1.size; have := Hs2.out; omega); have B5 := Aside0.mk (blk_below Hb1.out hb1); have B10 := Aside0.mk (blk_below Hb2.out hb1); have HV3 := Aside0.mk (Kd.V_below HV2.out hb1); have HB3 := Aside0.mk (HB2.out.trans (hb1.mono (by have := Hs2.out; omega))); clear hb1; have q0 : w1.cell? ⟨w.heap.size, 0, none⟩ = some (.int .i64 a0_0) := (blk_cell B5.out 0).trans rfl; have q1 : w1.cell? ⟨w.heap.size, 1, none⟩ = some (.slice A0_1 l0_1.length c0_1) := (blk_cell B5.out 1).trans rfl; have p0 : w1.cell? ⟨w.heap.size + 1, 0, none⟩ = some (.int .i64 0) := (blk_cell B10.out 0).trans rfl; have p1 : w1.cell? ⟨w.heap.size + 1, 1, none⟩ = some (.slice none 0 0) := (blk_cell B10.out 1).trans rfl; have g0 := blk_frozen B10.out 0; have g1 := blk_frozen B10.out 1) | (go_at_call 18; refine (box_Free.calls a0_0 _ _ l0_1 t _ (Kd.C_alloc (Kd.V_reads' HV3.out).2.2 _) (Kd.V_reads' HV3.out).2.1 HT.out).mono ?_; rintro e w2 ⟨rfl, hb2⟩; have hB12 := Aside0.mk (below_alloc (Below.refl w1.heap.size w1) _ |>.trans (hb2.mono (by simp))); have hB2w := Aside0.mk (hb2); have hlt5' : w.heap.size < w2.heap.size := (by have := hB12.out.size; omega); have hlt10' : w.heap.size + 1 < w2.heap.size := (by have := hB12.out.size; omega); clear hlt5 hlt10 q0 q1 p0 p1 g0 g1 hb2; have B5' := Aside0.mk (blk_below B5.out hB12.out); have B10' := Aside0.mk (blk_below B10.out hB12.out); have HV4 := Aside0.mk (Kd.V_below HV3.out hB12.out); have HB4 := Aside0.mk (HB3.out.trans (hB12.out.mono HB3.out.size)); have q0 : w2.cell? ⟨w.heap.size, 0, none⟩ = some (.int .i64 a0_0) := (blk_cell B5'.out 0).trans rfl; have q1 : w2.cell? ⟨w.heap.size, 1, none⟩ = some (.slice A0_1 l0_1.length c0_1) := (blk_cell B5'.out 1).trans rfl; have p0 : w2.cell? ⟨w.heap.size + 1, 0, none⟩ = some (.int .i64 0) := (blk_cell B10'.out 0).trans rfl; have p1 : w2.cell? ⟨w.heap.size + 1, 1, none⟩ = some (.slice none 0 0) := (blk_cell B10'.out 1).trans rfl; have g0 := blk_frozen B10'.out 0; have g1 := blk_frozen B10'.out 1) | (go_at_call 22; refine (slices_Clone_uint32_uint32.calls A4 c4 l4 l4 _ (Kd.C_below HR4.out HB4.out) HC4.out HCL.out).mono ?_; rintro e w3 ⟨v5, rfl, ho5, hb3⟩; have HO5 := Aside0.mk (Kd.R_mono (ok' := fun k => w.heap.size + 1 < k) (Kd.R_bound ho5) (fun k hk => (by have := hk.2.1; omega))); obtain ⟨A5, c5, rfl⟩ := Kd.R_slice ho5; clear ho5; have HLT := Aside0.mk (show w.heap.size + 1 < w3.heap.size by have := hb3.size; omega); clear hlt5' hlt10' q0 q1 p0 p1 g0 g1; have B5'' := Aside0.mk (blk_below B5'.out hb3); have B10'' := Aside0.mk (blk_below B10'.out hb3); have HV5 := Aside0.mk (Kd.V_below HV4.out hb3); have HB5 := Aside0.mk (HB4.out.trans (hb3.mono HB4.out.size)); clear hb3; have hlt5'' : w.heap.size < w3.heap.size := (by have := HLT.out; omega); have hlt10'' : w.heap.size + 1 < w3.heap.size := HLT.out; have q0 : w3.cell? ⟨w.heap.size, 0, none⟩ = some (.int .i64 a0_0) := (blk_cell B5''.out 0).trans rfl; have q1 : w3.cell? ⟨w.heap.size, 1, none⟩ = some (.slice A0_1 l0_1.length c0_1) := (blk_cell B5''.out 1).trans rfl) | (go_at_call 23; refine (api_Sealed_23.new 100 _ (fun k => (Q0_ k ∧ k < w.heap.size) ∨ w.heap.size + 1 < k) _ _ [l0_1, [(⟨a1, a2, a3, l4⟩ : S43)]] (l0_1 ++ [(⟨a1, a2, a3, l4⟩ : S43)]) _ (bseal.rows w w3 P0_1_ _ _ A0_1 c0_1 l0_1 a1 a2 a3 A5 c5 l4 HV5.out (Kd.R_mono HO5.out (fun _ hk => .inr hk)) HLT.out _) (bseal.rowsE w w3 Q0_ _ A0_1 c0_1 l0_1 a1 a2 a3 A5 c5 l4 (kk.E.old HE.out HB5.out) HO5.out HLT.out) HCAT.out).mono ?_; rintro e w7 ⟨v7, rfl, ho7, hb7⟩; obtain ⟨A7, c7, e7⟩ := Kd.N_slice ho7; subst e7; rw [show (l0_1 ++ [(⟨a1, a2, a3, l4⟩ : S43)]).length = l0_1.length + 1 from by simp] at ho7; have HB7 := Aside0.mk (show Below w3.heap.size w3 w7 from (below_alloc (below_alloc (below_alloc (Below.refl _ _) _) _) _).trans (hb7.mono (by simp; omega))); have HO7 := Aside0.mk (Kd.V_mono (ok' := fun k => (Q0_ k ∧ k < w.heap.size) ∨ w.heap.size + 1 < k) (Kd.N_V (base' := w.heap.size) ho7) (fun k hk => by rcases hk with hk | hk; (exact hk); (refine .inr ?_; have := HLT.out; simp at hk; omega))); clear ho7 hb7 hlt5'' hlt10'' q0 q1; have B5c := Aside0.mk (blk_below B5''.out HB7.out); have B10c := Aside0.mk (blk_below B10''.out HB7.out); have q0 : w7.cell? ⟨w.heap.size, 0, none⟩ = some (.int .i64 a0_0) := (blk_cell B5c.out 0).trans rfl; have q1 : w7.cell? ⟨w.heap.size, 1, none⟩ = some (.slice A0_1 l0_1.length c0_1) := (blk_cell B5c.out 1).trans rfl; have z0 := blk_frozen B5c.out 0; have z1 := blk_frozen B5c.out 1; have p0 : w7.cell? ⟨w.heap.size + 1, 0, none⟩ = some (.int .i64 0) := (blk_cell B10c.out 0).trans rfl; have p1 : w7.cell? ⟨w.heap.size + 1, 1, none⟩ = some (.slice none 0 0) := (blk_cell B10c.out 1).trans rfl; have g0 := blk_frozen B10c.out 0; have g1 := blk_frozen B10c.out 1))
  refine bodyPost_ret (results_ct rfl _ _ (w.heap.size + 1) 24 #[.int .i64 a0_0, .slice A7 (l0_1.length + 1) c7] (0, 0) _ rfl (by refine blk_put (cs := #[.int .i64 a0_0, .slice none 0 0]) ?_ 1 _ rfl; refine blk_put (cs := #[.int .i64 0, .slice none 0 0]) ?_ 0 _ rfl; exact blk_far B10c.out (by simp) _) Try.underlying24 rfl (by kernel_rfl)) rfl ?_
  have hg : w.heap.size ≤ w.heap.size + 1 := by omega
  have hne5 : ∀ k, ((Q0_ k ∧ k < w.heap.size) ∨ w.heap.size + 1 < k) → k ≠ w.heap.size := fun k hk => by omega
  have hne : ∀ k, ((Q0_ k ∧ k < w.heap.size) ∨ w.heap.size + 1 < k) → k ≠ w.heap.size + 1 := fun k hk => by omega
  exact ⟨A7, c7, (by simp), fun _ => by rw [show (l0_1 ++ [(⟨a1, a2, a3, l4⟩ : S43)]).length = l0_1.length + 1 from by simp]; exact Kd.V_mono (Kd.V_far (p := ⟨w.heap.size + 1, 1, none⟩) (Kd.V_far (p := ⟨w.heap.size + 1, 0, none⟩) (Kd.V_far (p := ⟨w.heap.size, 1, none⟩) HO7.out hne5 _) hne _) hne _) (fun k hk => by rcases hk with hk | hk; (exact .inl hk.1); (exact .inr (by omega))), below_set (below_set (below_set (HB5.out.trans (HB7.out.mono (by have := HLT.out; omega))) (Nat.le_refl _)) hg) hg⟩
set_option maxHeartbeats 8000000 in
set_option maxRecDepth 100000 in
theorem chamberlainlaw07_BoxKeeps.calls (a0_0 : Int) (A0_1 : Option Addr) (c0_1 : Nat) (l0_1 : List (S43)) (a1 : Int) (a2 : Int) (a3 : Int) (A4 : Option Addr) (c4 : Nat) (l4 : List Int) (r : Bool) (w : World) (hr0_1 : Kd.C k43 w A0_1 l0_1.length l0_1) (hc0_1 : l0_1.length ≤ c0_1) (hr4 : Kd.C (Kd.int .u32) w A4 l4.length l4) (hc4 : l4.length ≤ c4) (h : chamberlainlaw07_BoxKeeps.f a0_0 l0_1 a1 a2 a3 l4 = some r) (hT0 : r = true) :
    Calls Try.prog 6 #[.agg #[.int .i64 a0_0, .slice A0_1 l0_1.length c0_1], .int .u32 a1, .int .u32 a2, .int .u32 a3, .slice A4 l4.length c4] w fun e w' => e = .returned (.bool r) ∧ Below w.heap.size w w' := by
  have hT := Aside0.mk hT0
  clear hT0
  unfold chamberlainlaw07_BoxKeeps.f at h
  obtain rfl := Option.some.inj h
  clear h hT
  have hu24 := Try.underlying24
  have F0 := Kd.C_F k43_heap hr0_1
  have F4 := Kd.C_F (Kd.heap_int .u32) hr4
  have hmax := hr0_1.2.1
  have AW := Aside0.mk (uk.awake60 60 (Nat.le_refl _))
  obtain ⟨b, hf, hfit⟩ := uk.fits_some a0_0 l0_1 300 hmax (Nat.le_refl _)
  have AF := Aside0.mk hf
  clear hf
  cases b with
  | false =>
    clear hfit
    go_enter Try.func6, Try.ntmps6
    go_wp2_with (first | ((with_reducible refine gate_dst (N := 5) rfl ?_); refine box_event ?hg (N := 5) ?hd (cs := #[.int .i64 a0_0, .slice A0_1 l0_1.length c0_1]) (t := 24) ?hr ?_; (case hd => rfl); (case hg => rfl); (case hr => first | (go_simp; done) | (go_simp; rfl)); intro gb hgb W0 BK HB; clear hgb; have k0_ : W0.cell? ⟨gb, 0, none⟩ = some (.int .i64 a0_0) := (blk_cell BK 0).trans rfl; have z0_ := blk_frozen BK 0; have k1_ : W0.cell? ⟨gb, 1, none⟩ = some (.slice A0_1 l0_1.length c0_1) := (blk_cell BK 1).trans rfl; have z1_ := blk_frozen BK 1) | (go_at_call 19; (with_reducible refine (chamberlainlaw07_fits.calls 300 a0_0 _ _ l0_1 false _ (Kd.F_now (Kd.F_below F0 HB)) hc0_1 AF.out).mono ?_); rintro e W2 ⟨rfl, hb2⟩; replace BK := blk_below BK hb2; replace HB := HB.trans (hb2.mono HB.size); clear k0_ z0_ k1_ z1_; have k0_ : W2.cell? ⟨gb, 0, none⟩ = some (.int .i64 a0_0) := (blk_cell BK 0).trans rfl; have z0_ := blk_frozen BK 0; have k1_ : W2.cell? ⟨gb, 1, none⟩ = some (.slice A0_1 l0_1.length c0_1) := (blk_cell BK 1).trans rfl; have z1_ := blk_frozen BK 1; clear hb2) | (go_at_call 8; (with_reducible refine (chamberlainlaw07_awake.calls 60 true _ AW.out).mono ?_); rintro e W1 ⟨rfl, hb1⟩; replace BK := blk_below BK hb1; replace HB := HB.trans (hb1.mono HB.size); clear k0_ z0_ k1_ z1_; have k0_ : W1.cell? ⟨gb, 0, none⟩ = some (.int .i64 a0_0) := (blk_cell BK 0).trans rfl; have z0_ := blk_frozen BK 0; have k1_ : W1.cell? ⟨gb, 1, none⟩ = some (.slice A0_1 l0_1.length c0_1) := (blk_cell BK 1).trans rfl; have z1_ := blk_frozen BK 1; clear hb1))
    go_ret
    exact ⟨rfl, HB⟩
  | true =>
  obtain ⟨f1, f2, f3⟩ := hfit rfl
  clear hfit
  by_cases h64 : l4.length ≤ 64
  rotate_left
  · have q : decide ((l4.length : Int) > 64) = true := decide_eq_true (by omega)
    have q2 : decide (64 < l4.length) = true := decide_eq_true (by omega)
    clear h64
    go_enter Try.func6, Try.ntmps6
    go_wp2_with (first | ((with_reducible refine gate_dst (N := 5) rfl ?_); refine box_event ?hg (N := 5) ?hd (cs := #[.int .i64 a0_0, .slice A0_1 l0_1.length c0_1]) (t := 24) ?hr ?_; (case hd => rfl); (case hg => rfl); (case hr => first | (go_simp; done) | (go_simp; rfl)); intro gb hgb W0 BK HB; clear hgb; have k0_ : W0.cell? ⟨gb, 0, none⟩ = some (.int .i64 a0_0) := (blk_cell BK 0).trans rfl; have z0_ := blk_frozen BK 0; have k1_ : W0.cell? ⟨gb, 1, none⟩ = some (.slice A0_1 l0_1.length c0_1) := (blk_cell BK 1).trans rfl; have z1_ := blk_frozen BK 1) | (go_at_call 19; (with_reducible refine (chamberlainlaw07_fits.calls 300 a0_0 _ _ l0_1 true _ (Kd.F_now (Kd.F_below F0 HB)) hc0_1 AF.out).mono ?_); rintro e W2 ⟨rfl, hb2⟩; replace BK := blk_below BK hb2; replace HB := HB.trans (hb2.mono HB.size); clear k0_ z0_ k1_ z1_; have k0_ : W2.cell? ⟨gb, 0, none⟩ = some (.int .i64 a0_0) := (blk_cell BK 0).trans rfl; have z0_ := blk_frozen BK 0; have k1_ : W2.cell? ⟨gb, 1, none⟩ = some (.slice A0_1 l0_1.length c0_1) := (blk_cell BK 1).trans rfl; have z1_ := blk_frozen BK 1; clear hb2) | (go_at_call 8; (with_reducible refine (chamberlainlaw07_awake.calls 60 true _ AW.out).mono ?_); rintro e W1 ⟨rfl, hb1⟩; replace BK := blk_below BK hb1; replace HB := HB.trans (hb1.mono HB.size); clear k0_ z0_ k1_ z1_; have k0_ : W1.cell? ⟨gb, 0, none⟩ = some (.int .i64 a0_0) := (blk_cell BK 0).trans rfl; have z0_ := blk_frozen BK 0; have k1_ : W1.cell? ⟨gb, 1, none⟩ = some (.slice A0_1 l0_1.length c0_1) := (blk_cell BK 1).trans rfl; have z1_ := blk_frozen BK 1; clear hb1))
    go_ret
    exact ⟨rfl, HB⟩
  have q : decide ((l4.length : Int) > 64) = false := decide_eq_false (by omega)
  have q2 : decide (64 < l4.length) = false := decide_eq_false (by omega)
  obtain ⟨g1, g2, g3, g4⟩ := (uk.rightB_iff a0_0 l0_1).1 f3
  obtain ⟨r1, r2, r3, hst⟩ : ∃ r1 r2 r3, uk.sealS a0_0 l0_1 a1 a2 a3 l4 = (r1, r2, r3) := ⟨_, _, _, rfl⟩
  obtain ⟨n1, n2, n3⟩ := uk.seal_len a0_0 l0_1 a1 a2 a3 l4 f1 f2
  rw [hst] at n1 n2 n3
  simp only at n1 n2 n3
  have AA := Aside0.mk (show box_Seal.f a0_0 l0_1 a1 a2 a3 l4 = some (r1, r2, r3) by rw [uk.seal_eq _ _ _ _ _ _ g1 g2 (by omega), hst])
  have AC := Aside0.mk (show chamberlainref07_Seal.f 2000 a0_0 l0_1 a1 a2 a3 l4 = some (r1, r2, r3) by rw [uk.rseal_eq _ _ _ _ _ _ _ (by omega) (by omega), hst])
  have AO := Aside0.mk (show r3 = 0 → box_Open.f r1 r2 a2 a3 a1 = some (l4, true) by
    intro h0
    rw [uk.open_eq r1 r2 a2 a3 a1 n3]
    unfold uk.sealS at hst
    by_cases c1 : 64 < l4.length
    · omega
    rw [if_neg c1] at hst
    by_cases c2 : uk.there l0_1 a1 = true
    · rw [if_pos c2] at hst; simp only [Prod.mk.injEq] at hst; omega
    rw [if_neg c2] at hst
    by_cases c3 : a0_0 ≤ l0_1.length
    · rw [if_pos c3] at hst; simp only [Prod.mk.injEq] at hst; omega
    rw [if_neg c3] at hst
    simp only [Prod.mk.injEq] at hst
    rw [← hst.2.1, uk.open_app, if_neg c2]
    simp)
  have AS4 := Aside0.mk (show chamberlainref01_Same.f 300 l4 l4 = some true by rw [uk.rsame_eq _ _ _ (by omega) (by omega)]; simp)
  have ASl := Aside0.mk (uk.same_self a0_0 l0_1 2000 (by omega) f2 (by omega))
  have ASr := Aside0.mk (uk.same_self r1 r2 2000 (by omega) n3 (by omega))
  have lN : l4.length ≤ 64 := h64
  clear hst n1 n2 n3 g1 g2 g3 g4 f2 f3 hmax
  go_enter Try.func6, Try.ntmps6
  go_wp2_with (first | ((with_reducible refine gate_dst (N := 5) rfl ?_); refine box_event ?hg (N := 5) ?hd (cs := #[.int .i64 a0_0, .slice A0_1 l0_1.length c0_1]) (t := 24) ?hr ?_; (case hd => rfl); (case hg => rfl); (case hr => first | (go_simp; done) | (go_simp; rfl)); intro gb hgb W0 BK HB; clear hgb; have k0_ : W0.cell? ⟨gb, 0, none⟩ = some (.int .i64 a0_0) := (blk_cell BK 0).trans rfl; have z0_ := blk_frozen BK 0; have k1_ : W0.cell? ⟨gb, 1, none⟩ = some (.slice A0_1 l0_1.length c0_1) := (blk_cell BK 1).trans rfl; have z1_ := blk_frozen BK 1) | (go_at_call 19; (with_reducible refine (chamberlainlaw07_fits.calls 300 a0_0 _ _ l0_1 true _ (Kd.F_now (Kd.F_below F0 HB)) hc0_1 AF.out).mono ?_); rintro e W2 ⟨rfl, hb2⟩; replace BK := blk_below BK hb2; replace HB := HB.trans (hb2.mono HB.size); clear k0_ z0_ k1_ z1_; have k0_ : W2.cell? ⟨gb, 0, none⟩ = some (.int .i64 a0_0) := (blk_cell BK 0).trans rfl; have z0_ := blk_frozen BK 0; have k1_ : W2.cell? ⟨gb, 1, none⟩ = some (.slice A0_1 l0_1.length c0_1) := (blk_cell BK 1).trans rfl; have z1_ := blk_frozen BK 1; clear hb2) | (go_at_call 8; (with_reducible refine (chamberlainlaw07_awake.calls 60 true _ AW.out).mono ?_); rintro e W1 ⟨rfl, hb1⟩; replace BK := blk_below BK hb1; replace HB := HB.trans (hb1.mono HB.size); clear k0_ z0_ k1_ z1_; have k0_ : W1.cell? ⟨gb, 0, none⟩ = some (.int .i64 a0_0) := (blk_cell BK 0).trans rfl; have z0_ := blk_frozen BK 0; have k1_ : W1.cell? ⟨gb, 1, none⟩ = some (.slice A0_1 l0_1.length c0_1) := (blk_cell BK 1).trans rfl; have z1_ := blk_frozen BK 1; clear hb1) | ((with_reducible refine gate_dst (N := 37) rfl ?_); refine Kd.N_lit (Kd.int .u32) _ 25 ?hg (N' := 37) ?hd (xs := ([] : List Int)) (inner := []) (ok := fun _ => True) (okp := fun _ => True) ?hr ?hp (fun _ hk => hk) trivial (Below.refl _ _) (Nat.le_refl _) (by simp) ?_; (case hd => rfl); (case hg => rfl); (case hr => first | (go_simp; done) | (go_simp; rfl)); (case hp => exact (Reps.none _ _)); intro v37 W4 hN4 hb4 hg_ hnew4; clear hg_; have ho4 : (∃ b, v37.ownBlock = some b ∧ gb < b) := (hnew4.elim fun b hb => ⟨b, hb.1, Nat.lt_of_lt_of_le (blk_lt BK) hb.2⟩); clear hnew4; replace hN4 := Kd.N_lower hN4 HB.size; replace BK := blk_below BK hb4; replace HB := HB.trans (hb4.mono HB.size); clear k0_ z0_ k1_ z1_; have k0_ : W4.cell? ⟨gb, 0, none⟩ = some (.int .i64 a0_0) := (blk_cell BK 0).trans rfl; have z0_ := blk_frozen BK 0; have k1_ : W4.cell? ⟨gb, 1, none⟩ = some (.slice A0_1 l0_1.length c0_1) := (blk_cell BK 1).trans rfl; have z1_ := blk_frozen BK 1; clear hb4) | ((with_reducible refine gate_builtin (b := .append) (xs := #[.tmp 37, .tmp 38]) rfl ?_); at_builtin; refine Kd.N_append_rows (Kd.int .u32) (w0 := w) w.heap.size rfl (.tmp 37) (.tmp 38) 26 25 (.int .u32 0) 4 rfl Try.underlying26 info25 rfl (by decide) (by omega) v37 [] l4 _ _ _ (fun _ => True) (fun k => k < w.heap.size) rfl rfl hN4 (Kd.F_below F4 HB) (fun k hk => ⟨trivial, fun e_ => Nat.lt_irrefl _ (Nat.lt_of_lt_of_le hk (Kd.N_base hN4 k e_.symm))⟩) (fun _ _ => trivial) HB HB.size (by simp only [List.length_nil]; omega) ?_; intro v39 W5 hN5 HB5 hg5 hat5; rw [List.nil_append] at hN5; have ho5 : (∃ b, v39.ownBlock = some b ∧ gb < b) := (hat5.elim (fun e => ho4.elim fun b hb => ⟨b, e.trans hb.1, hb.2⟩) (fun ⟨b, e, hb⟩ => ⟨b, e, Nat.lt_of_lt_of_le (blk_lt BK) hb⟩)); have BK5 := BK; replace BK := (hg5.block gb (blk_lt BK5) (fun e_ => by obtain ⟨b, h1, h2⟩ := ho4; have h3 := Option.some.inj (e_.trans h1); omega)).trans BK5; replace HB := HB5; obtain ⟨gO, eO, lO⟩ := ho5; obtain ⟨capO, ev, bO, ltO, hcO, HKO⟩ := kk.openN hN5 eO; subst ev; have FO := Kd.F_bound (Kd.N_F hN5); clear eO ho4 hat5 hg5 HB5 hN4 hN5 BK5; clear k0_ z0_ k1_ z1_; have k0_ : W5.cell? ⟨gb, 0, none⟩ = some (.int .i64 a0_0) := (blk_cell BK 0).trans rfl; have z0_ := blk_frozen BK 0; have k1_ : W5.cell? ⟨gb, 1, none⟩ = some (.slice A0_1 l0_1.length c0_1) := (blk_cell BK 1).trans rfl; have z1_ := blk_frozen BK 1) | ((with_reducible refine gate_dst (N := 40) rfl ?_); refine Kd.N_lit k43 _ 43 ?hg (N' := 40) ?hd (xs := ([] : List S43)) (inner := []) (ok := fun k => k ≠ gO) (okp := fun _ => False) ?hr ?hp (fun _ hk => hk.elim) (Nat.ne_of_gt ltO) (Below.refl _ _) (Nat.le_refl _) (by simp) ?_; (case hd => rfl); (case hg => rfl); (case hr => first | (go_simp; done) | (go_simp; rfl)); (case hp => exact (Reps.none _ _)); intro v40 W6 hN6 hb6 hg_ hnew6; clear hg_; have ho6 : (∃ b, v40.ownBlock = some b ∧ gb < b ∧ W5.heap.size ≤ b) := (hnew6.elim fun b hb => ⟨b, hb.1, Nat.lt_of_lt_of_le (blk_lt BK) hb.2, hb.2⟩); clear hnew6; replace hN6 := Kd.N_lower hN6 HB.size; replace HKO := HKO.below hb6; replace FO := Kd.F_below FO hb6; have lt6 : W5.heap.size ≤ W6.heap.size := hb6.size; replace BK := blk_below BK hb6; replace HB := HB.trans (hb6.mono HB.size); clear k0_ z0_ k1_ z1_; have k0_ : W6.cell? ⟨gb, 0, none⟩ = some (.int .i64 a0_0) := (blk_cell BK 0).trans rfl; have z0_ := blk_frozen BK 0; have k1_ : W6.cell? ⟨gb, 1, none⟩ = some (.slice A0_1 l0_1.length c0_1) := (blk_cell BK 1).trans rfl; have z1_ := blk_frozen BK 1; clear hb6) | ((with_reducible refine gate_builtin (b := .append) (xs := #[.tmp 40, .tmp 42]) rfl ?_); at_builtin; refine Kd.N_append_rows k43 (w0 := w) w.heap.size rfl (.tmp 40) (.tmp 42) 22 43 (.agg #[(.int .u32 0), (.int .u32 0), (.int .u32 0), (.slice none 0 0)]) 40 rfl Try.underlying22 info43 rfl (by decide) (by omega) v40 [] l0_1 _ _ _ (fun k => k ≠ gO) (fun k => k < w.heap.size) rfl rfl hN6 (Kd.F_below F0 HB) (fun k hk => ⟨fun e_ => by omega, fun e_ => Nat.lt_irrefl _ (Nat.lt_of_lt_of_le hk (Kd.N_base hN6 k e_.symm))⟩) (fun k hk e_ => by omega) HB HB.size (by simp only [List.length_nil]; omega) ?_; intro v43 W7 hN7 HB7 hg7 hat7; rw [List.nil_append] at hN7; have ho7 : (∃ b, v43.ownBlock = some b ∧ gb < b ∧ W5.heap.size ≤ b) := (hat7.elim (fun e => ho6.elim fun b hb => ⟨b, e.trans hb.1, hb.2⟩) (fun ⟨b, e, hb⟩ => ⟨b, e, Nat.lt_of_lt_of_le (blk_lt BK) hb, Nat.le_trans lt6 hb⟩)); have BK7 := BK; replace BK := (hg7.block gb (blk_lt BK7) (fun e_ => by obtain ⟨b, h1, h2, h3⟩ := ho6; have h4 := Option.some.inj (e_.trans h1); omega)).trans BK7; have HKO7 := HKO; replace HKO := kk.Blk.grown HKO7 hg7 (fun e_ => by obtain ⟨b, h1, h2, h3⟩ := ho6; have h4 := Option.some.inj (e_.trans h1); omega); have FO7 := FO; replace FO := Kd.F_grown FO7 hg7 (fun k hk e_ => by obtain ⟨b, h1, h2, h3⟩ := ho6; have h4 := Option.some.inj (e_.trans h1); have h5 := hk.2; omega); have sz7 : W6.heap.size ≤ W7.heap.size := hg7.size; replace HB := HB7; obtain ⟨gL, eL, lL, lOL⟩ := ho7; obtain ⟨capL, ev, bL, ltL, hcL, HKL⟩ := kk.openN hN7 eL; subst ev; have FL := Kd.N_F hN7; have HE : kk.E k43 W7 (fun k => k ≠ gO ∧ k ≠ gL) (some ⟨gL, 0, none⟩) l0_1.length l0_1 := (kk.E.ofN hN7).mono (fun k hk => ⟨hk.1, fun e => hk.2 (by subst e; simp [Value.ownBlock])⟩); clear eL ho6 hat7 hg7 HB7 hN6 hN7 BK7 HKO7 FO7; clear k0_ z0_ k1_ z1_; have k0_ : W7.cell? ⟨gb, 0, none⟩ = some (.int .i64 a0_0) := (blk_cell BK 0).trans rfl; have z0_ := blk_frozen BK 0; have k1_ : W7.cell? ⟨gb, 1, none⟩ = some (.slice A0_1 l0_1.length c0_1) := (blk_cell BK 1).trans rfl; have z1_ := blk_frozen BK 1))
  have lO7 : gO < W7.heap.size := Nat.lt_of_lt_of_le ltO (Nat.le_trans lt6 sz7)
  have hOL : gO ≠ gL := by omega
  refine (box_Seal.new a0_0 (fun _ => True) (fun k => k ≠ gO ∧ k ≠ gL) _ capL l0_1 a1 a2 a3 _ capO l4 r1 r2 r3 _ (Kd.V_mk hcL (Kd.F_mono FL (fun _ _ => trivial))) (Kd.F_now FO) hcO HE AA.out).mono ?_
  rintro e W8 ⟨Aa, ca, rfl, hVa, hb8⟩
  obtain ⟨m8, hm8⟩ : ∃ m, m = W8.heap.size := ⟨_, rfl⟩
  have HM := Aside0.mk hm8
  have lO8 : gO < m8 := by rw [hm8]; exact Nat.lt_of_lt_of_le lO7 hb8.size
  have lL8 : gL < m8 := by rw [hm8]; exact Nat.lt_of_lt_of_le ltL hb8.size
  have hVa8 : r3 = 0 → Kd.V k43 43 W8 0 (fun k => (k ≠ gO ∧ k ≠ gL) ∧ k < m8) (.slice Aa r2.length ca) r2 := fun h0 => by rw [hm8]; exact Kd.V_bound (Kd.V_mono (hVa h0) (fun k hk => hk.elim id (fun h => ⟨by omega, by omega⟩)))
  have FO8 : Kd.F (Kd.int .u32) W8 (fun k => k < m8) (some ⟨gO, 0, none⟩) l4.length l4 := by rw [hm8]; exact Kd.F_mono (Kd.F_bound (Kd.F_below FO hb8)) (fun k hk => hk.2)
  have FL8 : Kd.F k43 W8 (fun k => k < m8) (some ⟨gL, 0, none⟩) l0_1.length l0_1 := by rw [hm8]; exact Kd.F_mono (Kd.F_bound (Kd.F_below FL hb8)) (fun k hk => hk.2)
  clear hVa FO FL hm8 HE
  have hVa := hVa8
  have FO := FO8
  have FL := FL8
  clear hVa8 FO8 FL8
  replace HKO := HKO.below hb8
  replace HKL := HKL.below hb8
  replace BK := blk_below BK hb8
  replace HB := HB.trans (hb8.mono HB.size)
  clear k0_ z0_ k1_ z1_
  have k0_ : W8.cell? ⟨gb, 0, none⟩ = some (.int .i64 a0_0) := (blk_cell BK 0).trans rfl
  have z0_ := blk_frozen BK 0
  have k1_ : W8.cell? ⟨gb, 1, none⟩ = some (.slice A0_1 l0_1.length c0_1) := (blk_cell BK 1).trans rfl
  have z1_ := blk_frozen BK 1
  clear hb8 ltO ltL lO7 lt6 sz7
  go_wp2_with (first | ((with_reducible refine gate_dst (N := 13) rfl ?_); refine box_event ?hg (N := 13) ?hd (cs := #[.int .i64 0, .slice none 0 0]) (t := 24) ?hr ?_; (case hd => rfl); (case hg => rfl); (case hr => first | (go_simp; done) | (go_simp; rfl)); intro ga hga W9 BA hb9; have lba : gb < ga := (by rw [hga]; exact blk_lt BK); replace hga : ga = m8 := (hga.trans HM.out.symm); have lOa : gO < ga := (by rw [hga]; exact lO8); have lLa : gL < ga := (by rw [hga]; exact lL8); have HGA := Aside0.mk hga; clear hga; have wga : w.heap.size ≤ ga := Nat.le_trans (Nat.le_trans bO (Nat.le_of_lt lOa)) (Nat.le_refl _); have BA1 : W9.cell? ⟨ga, 0, none⟩ = some (.int .i64 0) := (blk_cell BA 0).trans rfl; have BA2 : W9.cell? ⟨ga, 1, none⟩ = some (.slice none 0 0) := (blk_cell BA 1).trans rfl; have BA3 := blk_frozen BA 0; have BA4 := blk_frozen BA 1; replace HKO := HKO.below hb9; replace HKL := HKL.below hb9; replace FO := Kd.F_below FO hb9; replace FL := Kd.F_below FL hb9; replace hVa := fun h0 => Kd.V_below (hVa h0) hb9; replace BK := blk_below BK hb9; replace HB := HB.trans (hb9.mono HB.size); clear k0_ z0_ k1_ z1_; have k0_ : W9.cell? ⟨gb, 0, none⟩ = some (.int .i64 a0_0) := (blk_cell BK 0).trans rfl; have z0_ := blk_frozen BK 0; have k1_ : W9.cell? ⟨gb, 1, none⟩ = some (.slice A0_1 l0_1.length c0_1) := (blk_cell BK 1).trans rfl; have z1_ := blk_frozen BK 1; clear hb9) | ((with_reducible refine gate_store (t := 24) (p := 13) rfl ?_); refine store_event (t := 24) (p := 13) (v := ?voa_) (w1 := ((W9.setCell ⟨ga, 0, none⟩ (.int .i64 r1)).setCell ⟨ga, 1, none⟩ (.slice Aa r2.length ca))) ?hg ?ho ?hn ?hr ?_; (case ho => rfl); (case hg => rfl); (case hn => rfl); (case hr => first | (go_simp; done) | (go_simp; rfl)); intro W10 hw; have BA10 := (by rw [hw]; exact bp2_ BA : W10.heap[ga]? = some (.cells #[.int .i64 r1, .slice Aa r2.length ca] 24 (0, 0))); have BK10 := (by rw [hw]; exact bf2_ BK (Nat.ne_of_lt lba) : W10.heap[gb]? = some (.cells #[.int .i64 a0_0, .slice A0_1 l0_1.length c0_1] 24 (0, 0))); have HKO10 := (by rw [hw]; exact (HKO.far (p := ⟨ga, 0, none⟩) (Nat.ne_of_lt lOa) _).far (p := ⟨ga, 1, none⟩) (Nat.ne_of_lt lOa) _ : kk.Blk W10 gO 25 (capO * 1)); have HKL10 := (by rw [hw]; exact (HKL.far (p := ⟨ga, 0, none⟩) (Nat.ne_of_lt lLa) _).far (p := ⟨ga, 1, none⟩) (Nat.ne_of_lt lLa) _ : kk.Blk W10 gL 43 (capL * 4)); have FO10 := (by rw [hw]; exact Kd.F_far (p := ⟨ga, 1, none⟩) (Kd.F_far (p := ⟨ga, 0, none⟩) FO (fun k hk => Nat.ne_of_lt (Nat.lt_of_lt_of_le hk (Nat.le_of_eq HGA.out.symm))) _) (fun k hk => Nat.ne_of_lt (Nat.lt_of_lt_of_le hk (Nat.le_of_eq HGA.out.symm))) _ : Kd.F (Kd.int .u32) W10 (fun k => k < m8) (some ⟨gO, 0, none⟩) l4.length l4); have FL10 := (by rw [hw]; exact Kd.F_far (p := ⟨ga, 1, none⟩) (Kd.F_far (p := ⟨ga, 0, none⟩) FL (fun k hk => Nat.ne_of_lt (Nat.lt_of_lt_of_le hk (Nat.le_of_eq HGA.out.symm))) _) (fun k hk => Nat.ne_of_lt (Nat.lt_of_lt_of_le hk (Nat.le_of_eq HGA.out.symm))) _ : Kd.F k43 W10 (fun k => k < m8) (some ⟨gL, 0, none⟩) l0_1.length l0_1); have hVa10 := (fun h0 => by rw [hw]; exact Kd.V_mono (Kd.V_far (p := ⟨ga, 1, none⟩) (Kd.V_far (p := ⟨ga, 0, none⟩) (hVa h0) (fun k hk => Nat.ne_of_lt (Nat.lt_of_lt_of_le hk.2 (Nat.le_of_eq HGA.out.symm))) _) (fun k hk => Nat.ne_of_lt (Nat.lt_of_lt_of_le hk.2 (Nat.le_of_eq HGA.out.symm))) _) (fun k hk => ⟨hk.1.1, hk.1.2, Nat.ne_of_lt (Nat.lt_of_lt_of_le hk.2 (Nat.le_of_eq HGA.out.symm))⟩) : r3 = 0 → Kd.V k43 43 W10 0 (fun k => k ≠ gO ∧ k ≠ gL ∧ k ≠ ga) (.slice Aa r2.length ca) r2); have HB10 := (by rw [hw]; exact below_set (below_set HB wga) wga : Below w.heap.size w W10); clear hw HGA BA BK HKO HKL FO FL hVa HB BA1 BA2 BA3 BA4; have BA := BA10; have BK := BK10; have HKO := HKO10; have HKL := HKL10; have FO := FO10; have FL := FL10; have hVa := hVa10; have HB := HB10; clear BA10 BK10 HKO10 HKL10 FO10 FL10 hVa10 HB10; clear k0_ z0_ k1_ z1_; have k0_ : W10.cell? ⟨gb, 0, none⟩ = some (.int .i64 a0_0) := (blk_cell BK 0).trans rfl; have z0_ := blk_frozen BK 0; have k1_ : W10.cell? ⟨gb, 1, none⟩ = some (.slice A0_1 l0_1.length c0_1) := (blk_cell BK 1).trans rfl; have z1_ := blk_frozen BK 1; have ka0_ : W10.cell? ⟨ga, 0, none⟩ = some (.int .i64 r1) := (blk_cell BA 0).trans rfl; have za0_ := blk_frozen BA 0; have ka1_ : W10.cell? ⟨ga, 1, none⟩ = some (.slice Aa r2.length ca) := (blk_cell BA 1).trans rfl; have za1_ := blk_frozen BA 1) | (go_at_call 17; (with_reducible refine (chamberlainref01_Same.calls 300 _ _ l4 _ _ l4 true _ (Kd.F_now FO) hcO (Kd.F_now (Kd.F_below F4 HB)) hc4 AS4.out).mono ?_); rintro e W11 ⟨rfl, hd11⟩; have hb11 := hd11.below; clear hd11 FO; replace BA := blk_below BA hb11; replace HKO := HKO.below hb11; replace HKL := HKL.below hb11; replace FL := Kd.F_below FL hb11; replace hVa := fun h0 => Kd.V_below (hVa h0) hb11; clear ka0_ za0_ ka1_ za1_; have ka0_ : W11.cell? ⟨ga, 0, none⟩ = some (.int .i64 r1) := (blk_cell BA 0).trans rfl; have za0_ := blk_frozen BA 0; have ka1_ : W11.cell? ⟨ga, 1, none⟩ = some (.slice Aa r2.length ca) := (blk_cell BA 1).trans rfl; have za1_ := blk_frozen BA 1; replace BK := blk_below BK hb11; replace HB := HB.trans (hb11.mono HB.size); clear k0_ z0_ k1_ z1_; have k0_ : W11.cell? ⟨gb, 0, none⟩ = some (.int .i64 a0_0) := (blk_cell BK 0).trans rfl; have z0_ := blk_frozen BK 0; have k1_ : W11.cell? ⟨gb, 1, none⟩ = some (.slice A0_1 l0_1.length c0_1) := (blk_cell BK 1).trans rfl; have z1_ := blk_frozen BK 1; clear hb11) | (go_at_call 16; (with_reducible refine (chamberlainref07_Same.calls 2000 a0_0 _ capL l0_1 a0_0 _ _ l0_1 true _ (Kd.F_now FL) hcL (Kd.F_now (Kd.F_below F0 HB)) hc0_1 ASl.out).mono ?_); rintro e W12 ⟨rfl, hb12⟩; replace BA := blk_below BA hb12; replace HKO := HKO.below hb12; replace HKL := HKL.below hb12; replace FL := Kd.F_below FL hb12; replace hVa := fun h0 => Kd.V_below (hVa h0) hb12; clear ka0_ za0_ ka1_ za1_; have ka0_ : W12.cell? ⟨ga, 0, none⟩ = some (.int .i64 r1) := (blk_cell BA 0).trans rfl; have za0_ := blk_frozen BA 0; have ka1_ : W12.cell? ⟨ga, 1, none⟩ = some (.slice Aa r2.length ca) := (blk_cell BA 1).trans rfl; have za1_ := blk_frozen BA 1; replace BK := blk_below BK hb12; replace HB := HB.trans (hb12.mono HB.size); clear k0_ z0_ k1_ z1_; have k0_ : W12.cell? ⟨gb, 0, none⟩ = some (.int .i64 a0_0) := (blk_cell BK 0).trans rfl; have z0_ := blk_frozen BK 0; have k1_ : W12.cell? ⟨gb, 1, none⟩ = some (.slice A0_1 l0_1.length c0_1) := (blk_cell BK 1).trans rfl; have z1_ := blk_frozen BK 1; clear hb12; clear FL))
  go_loopg [15] (l4.length + 1) (fun kq v15 w' => ∃ (i : Nat), v15 = .int .i64 (i : Int) ∧ Aside0 (i + kq = l4.length + 1) ∧ Aside0 (i ≤ l4.length) ∧ Aside0 (kk.Blk w' gO 25 (capO * 1)) ∧ Aside0 (kk.Blk w' gL 43 (capL * 4)) ∧ Aside0 (w'.heap[gb]? = some (.cells #[.int .i64 a0_0, .slice A0_1 l0_1.length c0_1] 24 (0, 0))) ∧ Aside0 (w'.heap[ga]? = some (.cells #[.int .i64 r1, .slice Aa r2.length ca] 24 (0, 0))) ∧ Aside0 (r3 = 0 → Kd.V k43 43 w' 0 (fun k => k ≠ gO ∧ k ≠ gL ∧ k ≠ ga) (.slice Aa r2.length ca) r2) ∧ Aside0 (Below w.heap.size w w'))
  case atStart => exact ⟨0, rfl, ⟨Nat.zero_add _⟩, ⟨Nat.zero_le _⟩, ⟨HKO⟩, ⟨HKL⟩, ⟨BK⟩, ⟨BA⟩, ⟨hVa⟩, ⟨HB⟩⟩
  case round =>
    clear k0_ z0_ k1_ z1_
    clear ka0_ za0_ ka1_ za1_
    clear HKO HKL BK BA hVa HB
    obtain ⟨i, rfl, HA, HI, HKO, HKL, BK, BA, HVa, HB⟩ := hrel
    cases gk with
    | zero => have := HA.out; have := HI.out; omega
    | succ k2 =>
      by_cases c : i < l4.length
      · have A1 : i + 1 + k2 = l4.length + 1 := by have := HA.out; omega
        have A2 : i + 1 ≤ l4.length := by omega
        have A4 : k2 < k2 + 1 := Nat.lt_succ_self _
        have ic : i < capO * 1 := by omega
        have cb : decide ((i : Int) < (l4.length : Int)) = true := decide_eq_true (by omega)
        have p1 : (0 ≤ (i : Int)) = True := eq_true (by omega)
        have p2 : ((i : Int) < (l4.length : Int)) = True := eq_true (by omega)
        obtain ⟨u0_, i0_, j0_⟩ := HKO.out.cell i ic
        clear ic
        have w58 : Value.int .i64 (wrap64 ((i : Int) + 1)) = Value.int .i64 ((i + 1 : Nat) : Int) := by rw [uk.w64 (by omega) (by omega)]; rfl
        go_wp2_with (first | ((with_reducible refine gate_store (t := 25) (p := 77) rfl ?_); refine store_event (t := 25) (p := 77) (v := ?vo77_) (w1 := (wr.setCell ⟨gO, i, none⟩ (.int .u32 77))) ?hg ?ho ?hn ?hr ?_; (case ho => rfl); (case hg => rfl); (case hn => rfl); (case hr => first | (go_simp; done) | (go_simp; rfl)); intro w7 hw; have M7 := (by rw [hw]; exact (HKO.out.set (i) _) : kk.Blk w7 gO 25 (capO * 1)); have O7 := (by rw [hw]; exact (kk.Blk.far (p := ⟨gO, i, none⟩) HKL.out hOL.symm _) : kk.Blk w7 gL 43 (capL * 4)); have BK7 := (by rw [hw]; exact (blk_far (p := ⟨gO, i, none⟩) BK.out (Nat.ne_of_lt lO) _) : w7.heap[gb]? = some (.cells #[.int .i64 a0_0, .slice A0_1 l0_1.length c0_1] 24 (0, 0))); have BA7 := (by rw [hw]; exact (blk_far (p := ⟨gO, i, none⟩) BA.out (Nat.ne_of_gt lOa) _) : w7.heap[ga]? = some (.cells #[.int .i64 r1, .slice Aa r2.length ca] 24 (0, 0))); have HVa7 := (fun h0 => by rw [hw]; exact (Kd.V_far (p := ⟨gO, i, none⟩) (HVa.out h0) (fun k hk => hk.1) _) : r3 = 0 → Kd.V k43 43 w7 0 (fun k => k ≠ gO ∧ k ≠ gL ∧ k ≠ ga) (.slice Aa r2.length ca) r2); have HB7 := (by rw [hw]; exact (below_set (g := gO) (j := i) (v := .int .u32 77) HB.out bO) : Below w.heap.size w w7); clear hw i0_ j0_))
        go_roundg k2
        case measure => exact A4
        case rel => exact ⟨i + 1, (by first | exact w58 | rfl), ⟨A1⟩, ⟨A2⟩, ⟨M7⟩, ⟨O7⟩, ⟨BK7⟩, ⟨BA7⟩, ⟨HVa7⟩, ⟨HB7⟩⟩
      · have cb : decide ((i : Int) < (l4.length : Int)) = false := decide_eq_false (by omega)
        go_wp2_with fail
        clear cb c HA HI
        go_loopg [16] (l0_1.length + 1) (fun kq v16 w' => ∃ (i : Nat), v16 = .int .i64 (i : Int) ∧ Aside0 (i + kq = l0_1.length + 1) ∧ Aside0 (i ≤ l0_1.length) ∧ Aside0 (kk.Blk w' gO 25 (capO * 1)) ∧ Aside0 (kk.Blk w' gL 43 (capL * 4)) ∧ Aside0 (w'.heap[gb]? = some (.cells #[.int .i64 a0_0, .slice A0_1 l0_1.length c0_1] 24 (0, 0))) ∧ Aside0 (w'.heap[ga]? = some (.cells #[.int .i64 r1, .slice Aa r2.length ca] 24 (0, 0))) ∧ Aside0 (r3 = 0 → Kd.V k43 43 w' 0 (fun k => k ≠ gO ∧ k ≠ gL ∧ k ≠ ga) (.slice Aa r2.length ca) r2) ∧ Aside0 (Below w.heap.size w w'))
        case atStart => exact ⟨0, rfl, ⟨Nat.zero_add _⟩, ⟨Nat.zero_le _⟩, HKO, HKL, BK, BA, HVa, HB⟩
        case round =>
          clear HKO HKL BK BA HVa HB
          obtain ⟨i, rfl, HA, HI, HKO, HKL, BK, BA, HVa, HB⟩ := hrel
          cases gk with
          | zero => have := HA.out; have := HI.out; omega
          | succ k3 =>
            by_cases c : i < l0_1.length
            · have A1 : i + 1 + k3 = l0_1.length + 1 := by have := HA.out; omega
              have A2 : i + 1 ≤ l0_1.length := by omega
              have A4 : k3 < k3 + 1 := Nat.lt_succ_self _
              have ic : i * 4 + 4 ≤ capL * 4 := by omega
              have cb : decide ((i : Int) < (l0_1.length : Int)) = true := decide_eq_true (by omega)
              have p1 : (0 ≤ (i : Int)) = True := eq_true (by omega)
              have p2 : ((i : Int) < (l0_1.length : Int)) = True := eq_true (by omega)
              obtain ⟨u0_, i0_, j0_⟩ := HKL.out.cell (i * 4) (by omega)
              obtain ⟨u1_, i1_, j1_⟩ := HKL.out.cell (i * 4 + 1) (by omega)
              obtain ⟨u2_, i2_, j2_⟩ := HKL.out.cell (i * 4 + 2) (by omega)
              obtain ⟨u3_, i3_, j3_⟩ := HKL.out.cell (i * 4 + 3) (by omega)
              clear ic
              have w58 : Value.int .i64 (wrap64 ((i : Int) + 1)) = Value.int .i64 ((i + 1 : Nat) : Int) := by rw [uk.w64 (by omega) (by omega)]; rfl
              go_wp2_with (first | ((with_reducible refine gate_store (t := 43) (p := 87) rfl ?_); refine store_event (t := 43) (p := 87) (v := ?vo87_) (w1 := ((((wr.setCell ⟨gL, i * 4, none⟩ (.int .u32 0)).setCell ⟨gL, i * 4 + 1, none⟩ (.int .u32 0)).setCell ⟨gL, i * 4 + 2, none⟩ (.int .u32 0)).setCell ⟨gL, i * 4 + 3, none⟩ (.slice none 0 0))) ?hg ?ho ?hn ?hr ?_; (case ho => rfl); (case hg => rfl); (case hn => rfl); (case hr => first | (go_simp; done) | (go_simp; rfl)); intro w7 hw; have M7 := (by rw [hw]; exact ((((HKL.out.set (i * 4) _).set (i * 4 + 1) _).set (i * 4 + 2) _).set (i * 4 + 3) _) : kk.Blk w7 gL 43 (capL * 4)); have O7 := (by rw [hw]; exact (kk.Blk.far (p := ⟨gL, i * 4 + 3, none⟩) (kk.Blk.far (p := ⟨gL, i * 4 + 2, none⟩) (kk.Blk.far (p := ⟨gL, i * 4 + 1, none⟩) (kk.Blk.far (p := ⟨gL, i * 4, none⟩) HKO.out hOL _) hOL _) hOL _) hOL _) : kk.Blk w7 gO 25 (capO * 1)); have BK7 := (by rw [hw]; exact (blk_far (p := ⟨gL, i * 4 + 3, none⟩) (blk_far (p := ⟨gL, i * 4 + 2, none⟩) (blk_far (p := ⟨gL, i * 4 + 1, none⟩) (blk_far (p := ⟨gL, i * 4, none⟩) BK.out (Nat.ne_of_lt lL) _) (Nat.ne_of_lt lL) _) (Nat.ne_of_lt lL) _) (Nat.ne_of_lt lL) _) : w7.heap[gb]? = some (.cells #[.int .i64 a0_0, .slice A0_1 l0_1.length c0_1] 24 (0, 0))); have BA7 := (by rw [hw]; exact (blk_far (p := ⟨gL, i * 4 + 3, none⟩) (blk_far (p := ⟨gL, i * 4 + 2, none⟩) (blk_far (p := ⟨gL, i * 4 + 1, none⟩) (blk_far (p := ⟨gL, i * 4, none⟩) BA.out (Nat.ne_of_gt lLa) _) (Nat.ne_of_gt lLa) _) (Nat.ne_of_gt lLa) _) (Nat.ne_of_gt lLa) _) : w7.heap[ga]? = some (.cells #[.int .i64 r1, .slice Aa r2.length ca] 24 (0, 0))); have HVa7 := (fun h0 => by rw [hw]; exact (Kd.V_far (p := ⟨gL, i * 4 + 3, none⟩) (Kd.V_far (p := ⟨gL, i * 4 + 2, none⟩) (Kd.V_far (p := ⟨gL, i * 4 + 1, none⟩) (Kd.V_far (p := ⟨gL, i * 4, none⟩) (HVa.out h0) (fun k hk => hk.2.1) _) (fun k hk => hk.2.1) _) (fun k hk => hk.2.1) _) (fun k hk => hk.2.1) _) : r3 = 0 → Kd.V k43 43 w7 0 (fun k => k ≠ gO ∧ k ≠ gL ∧ k ≠ ga) (.slice Aa r2.length ca) r2); have HB7 := (by rw [hw]; exact (below_set (g := gL) (j := i * 4 + 3) (v := .slice none 0 0) (below_set (g := gL) (j := i * 4 + 2) (v := .int .u32 0) (below_set (g := gL) (j := i * 4 + 1) (v := .int .u32 0) (below_set (g := gL) (j := i * 4) (v := .int .u32 0) HB.out bL) bL) bL) bL) : Below w.heap.size w w7); clear hw i0_ j0_ i1_ j1_ i2_ j2_ i3_ j3_))
              go_roundg k3
              case measure => exact A4
              case rel => exact ⟨i + 1, (by first | exact w58 | rfl), ⟨A1⟩, ⟨A2⟩, ⟨O7⟩, ⟨M7⟩, ⟨BK7⟩, ⟨BA7⟩, ⟨HVa7⟩, ⟨HB7⟩⟩
            · have cb : decide ((i : Int) < (l0_1.length : Int)) = false := decide_eq_false (by omega)
              have HB := HB.out
              have HVa := HVa.out
              have BK := BK.out
              have BA := BA.out
              clear HKO HKL HA HI
              by_cases e0 : r3 = 0
              rotate_left
              · have z1 : (r3 != 0) = true := bne_iff_ne.mpr e0
                have z2 : (r3 == 0) = false := beq_eq_false_iff_ne.mpr e0
                clear e0
                go_wp2_with fail
                go_ret
                exact ⟨by first | rfl | (simp; done) | (simp [*]; done), HB⟩
              replace AO := Aside0.mk (AO.out e0)
              have hVa := HVa e0
              clear HVa
              subst e0
              have k0_ : wr.cell? ⟨gb, 0, none⟩ = some (.int .i64 a0_0) := (blk_cell BK 0).trans rfl
              have z0_ := blk_frozen BK 0
              have k1_ : wr.cell? ⟨gb, 1, none⟩ = some (.slice A0_1 l0_1.length c0_1) := (blk_cell BK 1).trans rfl
              have z1_ := blk_frozen BK 1
              have ka0_ : wr.cell? ⟨ga, 0, none⟩ = some (.int .i64 r1) := (blk_cell BA 0).trans rfl
              have za0_ := blk_frozen BA 0
              have ka1_ : wr.cell? ⟨ga, 1, none⟩ = some (.slice Aa r2.length ca) := (blk_cell BA 1).trans rfl
              have za1_ := blk_frozen BA 1
              go_wp2_with fail
              refine (chamberlainref07_Seal.calls 2000 a0_0 (fun k => k < w.heap.size) A0_1 c0_1 l0_1 a1 a2 a3 A4 c4 l4 r1 r2 0 _ (Kd.V_mk hc0_1 (Kd.F_below F0 HB)) (Kd.F_now (Kd.F_below F4 HB)) hc4 AC.out).mono ?_
              rintro e W13 ⟨vc, rfl, hVc, hb13⟩
              obtain ⟨Ac, cc, rfl⟩ := Kd.V_slice hVc
              obtain ⟨m13, hm13⟩ : ∃ m, m = W13.heap.size := ⟨_, rfl⟩
              have HM3 := Aside0.mk hm13
              have la13 : ga < m13 := by rw [hm13]; exact Nat.lt_of_lt_of_le (blk_lt BA) hb13.size
              replace hVc : Kd.V k43 43 W13 0 (fun k => k < m13) (.slice Ac r2.length cc) r2 := by rw [hm13]; exact Kd.V_mono (Kd.V_bound hVc) (fun k hk => hk.2)
              replace hVa : Kd.V k43 43 W13 0 (fun k => k < m13) (.slice Aa r2.length ca) r2 := by rw [hm13]; exact Kd.V_mono (Kd.V_bound (Kd.V_below hVa hb13)) (fun k hk => hk.2)
              replace BA := blk_below BA hb13
              replace HB := HB.trans (hb13.mono HB.size)
              clear k0_ z0_ k1_ z1_
              clear ka0_ za0_ ka1_ za1_
              have ka0_ : W13.cell? ⟨ga, 0, none⟩ = some (.int .i64 r1) := (blk_cell BA 0).trans rfl
              have za0_ := blk_frozen BA 0
              have ka1_ : W13.cell? ⟨ga, 1, none⟩ = some (.slice Aa r2.length ca) := (blk_cell BA 1).trans rfl
              have za1_ := blk_frozen BA 1
              clear hm13 hb13 BK
              go_wp2_with (first | ((with_reducible refine gate_dst (N := 17) rfl ?_); refine box_event ?hg (N := 17) ?hd (cs := #[.int .i64 0, .slice none 0 0]) (t := 24) ?hr ?_; (case hd => rfl); (case hg => rfl); (case hr => first | (go_simp; done) | (go_simp; rfl)); intro gc hgc W14 BC hb14; replace hgc : gc = m13 := (hgc.trans HM3.out.symm); have lac : ga < gc := (by rw [hgc]; exact la13); have HGC := Aside0.mk hgc; clear hgc; have wgc : w.heap.size ≤ gc := Nat.le_trans wga (Nat.le_of_lt lac); have BC1 : W14.cell? ⟨gc, 0, none⟩ = some (.int .i64 0) := (blk_cell BC 0).trans rfl; have BC2 : W14.cell? ⟨gc, 1, none⟩ = some (.slice none 0 0) := (blk_cell BC 1).trans rfl; have BC3 := blk_frozen BC 0; have BC4 := blk_frozen BC 1; replace hVa := Kd.V_below hVa hb14; replace hVc := Kd.V_below hVc hb14; replace BA := blk_below BA hb14; replace HB := HB.trans (hb14.mono HB.size); clear hb14; clear ka0_ za0_ ka1_ za1_; have ka0_ : W14.cell? ⟨ga, 0, none⟩ = some (.int .i64 r1) := (blk_cell BA 0).trans rfl; have za0_ := blk_frozen BA 0; have ka1_ : W14.cell? ⟨ga, 1, none⟩ = some (.slice Aa r2.length ca) := (blk_cell BA 1).trans rfl; have za1_ := blk_frozen BA 1) | ((with_reducible refine gate_store (t := 24) (p := 17) rfl ?_); refine store_event (t := 24) (p := 17) (v := ?voc_) (w1 := ((W14.setCell ⟨gc, 0, none⟩ (.int .i64 r1)).setCell ⟨gc, 1, none⟩ (.slice Ac r2.length cc))) ?hg ?ho ?hn ?hr ?_; (case ho => rfl); (case hg => rfl); (case hn => rfl); (case hr => first | (go_simp; done) | (go_simp; rfl)); intro W15 hw; have BC15 := (by rw [hw]; exact bp2_ BC : W15.heap[gc]? = some (.cells #[.int .i64 r1, .slice Ac r2.length cc] 24 (0, 0))); have BA15 := (by rw [hw]; exact bf2_ BA (Nat.ne_of_lt lac) : W15.heap[ga]? = some (.cells #[.int .i64 r1, .slice Aa r2.length ca] 24 (0, 0))); have hVa15 := (by rw [hw]; exact Kd.V_far (p := ⟨gc, 1, none⟩) (Kd.V_far (p := ⟨gc, 0, none⟩) hVa (fun k hk => Nat.ne_of_lt (Nat.lt_of_lt_of_le hk (Nat.le_of_eq HGC.out.symm))) _) (fun k hk => Nat.ne_of_lt (Nat.lt_of_lt_of_le hk (Nat.le_of_eq HGC.out.symm))) _ : Kd.V k43 43 W15 0 (fun k => k < m13) (.slice Aa r2.length ca) r2); have hVc15 := (by rw [hw]; exact Kd.V_far (p := ⟨gc, 1, none⟩) (Kd.V_far (p := ⟨gc, 0, none⟩) hVc (fun k hk => Nat.ne_of_lt (Nat.lt_of_lt_of_le hk (Nat.le_of_eq HGC.out.symm))) _) (fun k hk => Nat.ne_of_lt (Nat.lt_of_lt_of_le hk (Nat.le_of_eq HGC.out.symm))) _ : Kd.V k43 43 W15 0 (fun k => k < m13) (.slice Ac r2.length cc) r2); have HB15 := (by rw [hw]; exact below_set (below_set HB wgc) wgc : Below w.heap.size w W15); clear hw BA BC hVa hVc HB BC1 BC2 BC3 BC4; have BA := BA15; have BC := BC15; have hVa := hVa15; have hVc := hVc15; have HB := HB15; clear BA15 BC15 hVa15 hVc15 HB15; clear ka0_ za0_ ka1_ za1_; have ka0_ : W15.cell? ⟨ga, 0, none⟩ = some (.int .i64 r1) := (blk_cell BA 0).trans rfl; have za0_ := blk_frozen BA 0; have ka1_ : W15.cell? ⟨ga, 1, none⟩ = some (.slice Aa r2.length ca) := (blk_cell BA 1).trans rfl; have za1_ := blk_frozen BA 1; have kc0_ : W15.cell? ⟨gc, 0, none⟩ = some (.int .i64 r1) := (blk_cell BC 0).trans rfl; have zc0_ := blk_frozen BC 0; have kc1_ : W15.cell? ⟨gc, 1, none⟩ = some (.slice Ac r2.length cc) := (blk_cell BC 1).trans rfl; have zc1_ := blk_frozen BC 1))
              refine (box_Open.calls r1 Aa ca r2 a2 a3 a1 l4 true _ (Kd.V_reads' hVa).2.2 (Kd.V_reads' hVa).2.1 AO.out).mono ?_
              rintro e W16 ⟨vx, rfl, hRx, hb16⟩
              obtain ⟨Ax, gx, cx, ev, bx, hcx, hx⟩ := kk.openZ (Kd.R_N hRx)
              subst ev
              have lcx : gc < gx := Nat.lt_of_lt_of_le (blk_lt BC) bx
              have lax : ga < gx := Nat.lt_trans lac lcx
              have m13x : m13 ≤ gx := by rw [← HGC.out]; exact Nat.le_of_lt lcx
              have wgx : w.heap.size ≤ gx := Nat.le_trans wgc (Nat.le_of_lt lcx)
              have hxA : 0 < l4.length → Ax = some ⟨gx, 0, none⟩ := fun hp => (hx hp).1
              have HX : 0 < l4.length → kk.Blk W16 gx 25 (cx * 1) := fun hp => (hx hp).2
              replace hVc := Kd.V_below hVc hb16
              replace hVa := Kd.V_below hVa hb16
              replace BA := blk_below BA hb16
              replace BC := blk_below BC hb16
              replace HB := HB.trans (hb16.mono HB.size)
              have HXA := Aside0.mk hxA
              clear ka0_ za0_ ka1_ za1_
              clear kc0_ zc0_ kc1_ zc1_
              clear hx hRx hb16 hxA bx
              go_wp2_with fail
              clear cb c
              go_loopg [21] (l4.length + 1) (fun kq v21 w' => ∃ (i : Nat), v21 = .int .i64 (i : Int) ∧ Aside0 (i + kq = l4.length + 1) ∧ Aside0 (i ≤ l4.length) ∧ Aside0 (0 < l4.length → kk.Blk w' gx 25 (cx * 1)) ∧ Aside0 (w'.heap[ga]? = some (.cells #[.int .i64 r1, .slice Aa r2.length ca] 24 (0, 0))) ∧ Aside0 (w'.heap[gc]? = some (.cells #[.int .i64 r1, .slice Ac r2.length cc] 24 (0, 0))) ∧ Aside0 (Kd.V k43 43 w' 0 (fun k => k < m13) (.slice Aa r2.length ca) r2) ∧ Aside0 (Kd.V k43 43 w' 0 (fun k => k < m13) (.slice Ac r2.length cc) r2) ∧ Aside0 (Below w.heap.size w w'))
              case atStart => exact ⟨0, rfl, ⟨Nat.zero_add _⟩, ⟨Nat.zero_le _⟩, ⟨HX⟩, ⟨BA⟩, ⟨BC⟩, ⟨hVa⟩, ⟨hVc⟩, ⟨HB⟩⟩
              case round =>
                clear HX BA BC hVa hVc HB
                obtain ⟨i, rfl, HA, HI, HX, BA, BC, HVa, HVc, HB⟩ := hrel
                cases gk with
                | zero => have := HA.out; have := HI.out; omega
                | succ k4 =>
                  by_cases c : i < l4.length
                  · obtain rfl := HXA.out (by omega)
                    have A1 : i + 1 + k4 = l4.length + 1 := by have := HA.out; omega
                    have A2 : i + 1 ≤ l4.length := by omega
                    have A4 : k4 < k4 + 1 := Nat.lt_succ_self _
                    have ic : i < cx * 1 := by omega
                    have cb : decide ((i : Int) < (l4.length : Int)) = true := decide_eq_true (by omega)
                    have p1 : (0 ≤ (i : Int)) = True := eq_true (by omega)
                    have p2 : ((i : Int) < (l4.length : Int)) = True := eq_true (by omega)
                    obtain ⟨u0_, i0_, j0_⟩ := (HX.out (by omega)).cell i ic
                    clear ic
                    have w58 : Value.int .i64 (wrap64 ((i : Int) + 1)) = Value.int .i64 ((i + 1 : Nat) : Int) := by rw [uk.w64 (by omega) (by omega)]; rfl
                    go_wp2_with (first | ((with_reducible refine gate_store (t := 25) (p := 115) rfl ?_); refine store_event (t := 25) (p := 115) (v := ?vox_) (w1 := (wr.setCell ⟨gx, i, none⟩ (.int .u32 88))) ?hg ?ho ?hn ?hr ?_; (case ho => rfl); (case hg => rfl); (case hn => rfl); (case hr => first | (go_simp; done) | (go_simp; rfl)); intro w7 hw; have M7 := (fun hp_ => by rw [hw]; exact (HX.out hp_).set i _ : 0 < l4.length → kk.Blk w7 gx 25 (cx * 1)); have BA7 := (by rw [hw]; exact blk_far (p := ⟨gx, i, none⟩) BA.out (Nat.ne_of_lt lax) _ : w7.heap[ga]? = some (.cells #[.int .i64 r1, .slice Aa r2.length ca] 24 (0, 0))); have BC7 := (by rw [hw]; exact blk_far (p := ⟨gx, i, none⟩) BC.out (Nat.ne_of_lt lcx) _ : w7.heap[gc]? = some (.cells #[.int .i64 r1, .slice Ac r2.length cc] 24 (0, 0))); have HVa7 := (by rw [hw]; exact Kd.V_far (p := ⟨gx, i, none⟩) HVa.out (fun k hk => Nat.ne_of_lt (Nat.lt_of_lt_of_le hk m13x)) _ : Kd.V k43 43 w7 0 (fun k => k < m13) (.slice Aa r2.length ca) r2); have HVc7 := (by rw [hw]; exact Kd.V_far (p := ⟨gx, i, none⟩) HVc.out (fun k hk => Nat.ne_of_lt (Nat.lt_of_lt_of_le hk m13x)) _ : Kd.V k43 43 w7 0 (fun k => k < m13) (.slice Ac r2.length cc) r2); have HB7 := (by rw [hw]; exact below_set (g := gx) (j := i) (v := .int .u32 88) HB.out wgx : Below w.heap.size w w7); clear hw i0_ j0_))
                    go_roundg k4
                    case measure => exact A4
                    case rel => exact ⟨i + 1, (by first | exact w58 | rfl), ⟨A1⟩, ⟨A2⟩, ⟨M7⟩, ⟨BA7⟩, ⟨BC7⟩, ⟨HVa7⟩, ⟨HVc7⟩, ⟨HB7⟩⟩
                  · have cb : decide ((i : Int) < (l4.length : Int)) = false := decide_eq_false (by omega)
                    have HB := HB.out
                    have hVa := HVa.out
                    have hVc := HVc.out
                    have BA := BA.out
                    have BC := BC.out
                    clear HX HA HI HVa HVc
                    have ka0_ : wr.cell? ⟨ga, 0, none⟩ = some (.int .i64 r1) := (blk_cell BA 0).trans rfl
                    have za0_ := blk_frozen BA 0
                    have ka1_ : wr.cell? ⟨ga, 1, none⟩ = some (.slice Aa r2.length ca) := (blk_cell BA 1).trans rfl
                    have za1_ := blk_frozen BA 1
                    have kc0_ : wr.cell? ⟨gc, 0, none⟩ = some (.int .i64 r1) := (blk_cell BC 0).trans rfl
                    have zc0_ := blk_frozen BC 0
                    have kc1_ : wr.cell? ⟨gc, 1, none⟩ = some (.slice Ac r2.length cc) := (blk_cell BC 1).trans rfl
                    have zc1_ := blk_frozen BC 1
                    go_wp2_with fail
                    refine (box_Open.calls r1 Aa ca r2 a2 a3 a1 l4 true _ (Kd.V_reads' hVa).2.2 (Kd.V_reads' hVa).2.1 AO.out).mono ?_
                    rintro e W17 ⟨vy, rfl, hRy, hb17⟩
                    obtain ⟨Ay, cy, rfl⟩ := Kd.R_slice hRy
                    replace hVc := Kd.V_below hVc hb17
                    replace hVa := Kd.V_below hVa hb17
                    replace BA := blk_below BA hb17
                    replace BC := blk_below BC hb17
                    replace HB := HB.trans (hb17.mono HB.size)
                    clear ka0_ za0_ ka1_ za1_
                    clear kc0_ zc0_ kc1_ zc1_
                    have ka0_ : W17.cell? ⟨ga, 0, none⟩ = some (.int .i64 r1) := (blk_cell BA 0).trans rfl
                    have za0_ := blk_frozen BA 0
                    have ka1_ : W17.cell? ⟨ga, 1, none⟩ = some (.slice Aa r2.length ca) := (blk_cell BA 1).trans rfl
                    have za1_ := blk_frozen BA 1
                    have kc0_ : W17.cell? ⟨gc, 0, none⟩ = some (.int .i64 r1) := (blk_cell BC 0).trans rfl
                    have zc0_ := blk_frozen BC 0
                    have kc1_ : W17.cell? ⟨gc, 1, none⟩ = some (.slice Ac r2.length cc) := (blk_cell BC 1).trans rfl
                    have zc1_ := blk_frozen BC 1
                    clear hb17
                    go_wp2_with (first | (go_at_call 16; (with_reducible refine (chamberlainref07_Same.calls 2000 r1 _ ca r2 r1 _ cc r2 true _ (Kd.V_reads' hVa).2.2 (Kd.V_reads' hVa).2.1 (Kd.V_reads' hVc).2.2 (Kd.V_reads' hVc).2.1 ASr.out).mono ?_); rintro e W18 ⟨rfl, hb18⟩; replace hRy := Kd.R_below hRy hb18; replace HB := HB.trans (hb18.mono HB.size); clear hb18) | (go_at_call 17; (with_reducible refine (chamberlainref01_Same.calls 300 _ _ l4 _ _ l4 true _ (Kd.R_reads' hRy).2.2 (Kd.R_reads' hRy).2.1 (Kd.F_now (Kd.F_below F4 HB)) hc4 AS4.out).mono ?_); rintro e W19 ⟨rfl, hd19⟩; have hb19 := hd19.below; replace HB := HB.trans (hb19.mono HB.size); clear hd19 hb19))
                    go_ret
                    exact ⟨by first | rfl | (simp; done) | (simp [*]; done), HB⟩

end Go.Proofs.Ytifdlpnpbicahaa.PBoxKeeps
