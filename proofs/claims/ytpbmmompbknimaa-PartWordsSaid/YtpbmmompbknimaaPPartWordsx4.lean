-- Written for this claim by wip/tools/myprint.py (print.py's forms; proofs of the faked functions by hand).
import Derived.Test.YtpbmmompbknimaaPPartWordsx0
import Derived.Test.YtpbmmompbknimaaPPartWordsx1
import Derived.Test.YtpbmmompbknimaaPPartWordsx2
import Derived.Test.YtpbmmompbknimaaPPartWordsx3
namespace Go.Proofs.Ytpbmmompbknimaa.PPartWords
open Go.RowKit Go.Proofs.YtpbmmompbknimaaW.PrintWords Go.Proofs.YtpbmmompbknimaaW.PrintLast Go.Proofs.YtpbmmompbknimaaW.PrintMore
attribute [local go_sem] max2_int min2_int max_two min_two max_three min_three max_four min_four   -- for this text's walks alone
set_option linter.unusedVariables false
set_option linter.unusedSimpArgs false

attribute [local go_sem high] eqA24
/-! ### chamberlainlaw11_PartWords: function 7 -/
mutual
def chamberlainlaw11_PartWords.j0 : Nat → Int → List Int → Int → Int → Int → Bool → Option (Bool)
  | 0, _, _, _, _, _, _ => none
  | k + 1, x0, x1, x2, x3, x4, x24 => if x24 = true then ((chamberlainlaw11_awake.f k).bind fun t163 => (some t163)) else ((part_Get.f x0 x1).bind fun bt164 => (if bt164.2.2.2.2.2.2.2 = 0 then (chamberlainlaw11_PartWords.j1 k x0 x1 x2 x3 x4 ((x1.length : Int) == 0) bt164.1 bt164.2.1 bt164.2.2.1 bt164.2.2.2.1 bt164.2.2.2.2.1 bt164.2.2.2.2.2.1 bt164.2.2.2.2.2.2.1) else (chamberlainlaw11_PartWords.j1 k x0 x1 x2 x3 x4 true bt164.1 bt164.2.1 bt164.2.2.1 bt164.2.2.2.1 bt164.2.2.2.2.1 bt164.2.2.2.2.2.1 bt164.2.2.2.2.2.2.1)))
def chamberlainlaw11_PartWords.j1 : Nat → Int → List Int → Int → Int → Int → Bool → Int → Int → Int → Int → Int → Int → Int → Option (Bool)
  | 0, _, _, _, _, _, _, _, _, _, _, _, _, _ => none
  | k + 1, x0, x1, x2, x3, x4, x38, x173000, x173001, x173002, x173003, x173004, x173005, x173006 => if x38 = true then (some true) else ((some (([] : List Int) : List Int)).bind fun y173 => (if y173.length + x1.length < 35184372088832 then ((some (y173 ++ x1 : List Int)).bind fun y176 => (if (x1.length : Int) = 0 then (none) else (if 0 ≤ (Int.tmod (wrap64 (x2)) (x1.length : Int)) then (if (Int.tmod (wrap64 (x2)) (x1.length : Int)) < (y176.length : Int) then ((part_Get.f x0 (y176.set ((Int.tmod (wrap64 (x2)) (x1.length : Int)) : Int).toNat x3)).bind fun bt180 => ((part_Get.f x4 x1).bind fun bt189 => (if bt180.2.2.2.2.2.2.2 = 0 then (if (Int.tmod (wrap64 (x2)) (x1.length : Int)) < (x1.length : Int) then (if ((x173000 == bt180.1 && (x173001 == bt180.2.1 && (x173002 == bt180.2.2.1 && (x173003 == bt180.2.2.2.1 && (x173004 == bt180.2.2.2.2.1 && (x173005 == bt180.2.2.2.2.2.1 && (x173006 == bt180.2.2.2.2.2.2.1))))))) == ((rd x1 (Int.tmod (wrap64 (x2)) (x1.length : Int))) == x3)) = true then ((part_Size.f x4).bind fun t199 => ((part_Size.f x0).bind fun t200 => (some ((bt189.2.2.2.2.2.2.2 == 0) == (t199 == t200))))) else (some false)) else (none)) else (some false)))) else (none)) else (none)))) else (none)))
end
def chamberlainlaw11_PartWords.f (k : Nat) (a0 : Int) (l1 : List Int) (a2 : Int) (a3 : Int) (a4 : Int) : Option (Bool) := (chamberlainlaw11_awake.f k).bind fun t162 => (if t162 = true then (chamberlainlaw11_PartWords.j0 k a0 l1 a2 a3 a4 (decide ((l1.length : Int) > 100))) else (chamberlainlaw11_PartWords.j0 k a0 l1 a2 a3 a4 true))
theorem chamberlainlaw11_PartWords.mono_l : ∀ k, (∀ y0 y1 y2 y3 y4 y5, LeO (chamberlainlaw11_PartWords.j0 k y0 y1 y2 y3 y4 y5) (chamberlainlaw11_PartWords.j0 (k + 1) y0 y1 y2 y3 y4 y5)) ∧ (∀ y0 y1 y2 y3 y4 y5 y6 y7 y8 y9 y10 y11 y12, LeO (chamberlainlaw11_PartWords.j1 k y0 y1 y2 y3 y4 y5 y6 y7 y8 y9 y10 y11 y12) (chamberlainlaw11_PartWords.j1 (k + 1) y0 y1 y2 y3 y4 y5 y6 y7 y8 y9 y10 y11 y12))
  | 0 => ⟨fun _ _ _ _ _ _ r h => by simp [chamberlainlaw11_PartWords.j0] at h, fun _ _ _ _ _ _ _ _ _ _ _ _ _ r h => by simp [chamberlainlaw11_PartWords.j1] at h⟩
  | k + 1 => by
    obtain ⟨ih0, ih1⟩ := chamberlainlaw11_PartWords.mono_l k
    refine ⟨?_, ?_⟩
    · intro y0 y1 y2 y3 y4 y5
      unfold chamberlainlaw11_PartWords.j0
      repeat' first
      | (with_reducible exact ih0 _ _ _ _ _ _)
      | (with_reducible exact ih1 _ _ _ _ _ _ _ _ _ _ _ _ _)
      | (with_reducible exact chamberlainlaw11_awake.mono _)
      | (with_reducible exact LeO.refl _)
      | (with_reducible exact LeO.none _)
      | (with_reducible refine LeO.ite ?_ ?_)
      | (with_reducible refine LeO.bind ?_ (fun _ => ?_))
      | exact ih0 _ _ _ _ _ _
      | exact ih1 _ _ _ _ _ _ _ _ _ _ _ _ _
      | exact chamberlainlaw11_awake.mono _
      | exact LeO.none _
      | refine LeO.ite ?_ ?_
      | refine LeO.bind ?_ (fun _ => ?_)
    · intro y0 y1 y2 y3 y4 y5 y6 y7 y8 y9 y10 y11 y12
      unfold chamberlainlaw11_PartWords.j1
      repeat' first
      | (with_reducible exact ih0 _ _ _ _ _ _)
      | (with_reducible exact ih1 _ _ _ _ _ _ _ _ _ _ _ _ _)
      | (with_reducible exact chamberlainlaw11_awake.mono _)
      | (with_reducible exact LeO.refl _)
      | (with_reducible exact LeO.none _)
      | (with_reducible refine LeO.ite ?_ ?_)
      | (with_reducible refine LeO.bind ?_ (fun _ => ?_))
      | exact ih0 _ _ _ _ _ _
      | exact ih1 _ _ _ _ _ _ _ _ _ _ _ _ _
      | exact chamberlainlaw11_awake.mono _
      | exact LeO.none _
      | refine LeO.ite ?_ ?_
      | refine LeO.bind ?_ (fun _ => ?_)
theorem chamberlainlaw11_PartWords.mono : ∀ a0 a1 a2 a3 a4 k, LeO (chamberlainlaw11_PartWords.f k a0 a1 a2 a3 a4) (chamberlainlaw11_PartWords.f (k + 1) a0 a1 a2 a3 a4) := by
  intro a0 a1 a2 a3 a4 k
  obtain ⟨ih0, ih1⟩ := chamberlainlaw11_PartWords.mono_l k
  unfold chamberlainlaw11_PartWords.f
  repeat' first
      | (with_reducible exact ih0 _ _ _ _ _ _)
      | (with_reducible exact ih1 _ _ _ _ _ _ _ _ _ _ _ _ _)
      | (with_reducible exact chamberlainlaw11_awake.mono _)
      | (with_reducible exact LeO.refl _)
      | (with_reducible exact LeO.none _)
      | (with_reducible refine LeO.ite ?_ ?_)
      | (with_reducible refine LeO.bind ?_ (fun _ => ?_))
      | exact ih0 _ _ _ _ _ _
      | exact ih1 _ _ _ _ _ _ _ _ _ _ _ _ _
      | exact chamberlainlaw11_awake.mono _
      | exact LeO.none _
      | refine LeO.ite ?_ ?_
      | refine LeO.bind ?_ (fun _ => ?_)
def chamberlainlaw11_PartWords.T10 : Bool × List (List Nat × List Nat) := (true, [([], []), ([0], [0]), ([1], [1]), ([2], [2]), ([2], [2]), ([3, 4, 2], [2, 3, 4]), ([2], [2]), ([2], [2]), ([7, 2], [2, 7]), ([2], [2]), ([9, 2], [2, 9]), ([8, 10, 2], [2, 8, 10]), ([6, 11, 2], [2, 6, 11]), ([12, 2], [2, 12]), ([2], [2]), ([13, 14, 2], [2, 13, 14]), ([5, 15, 2], [2, 5, 15]), ([2, 16], [2, 16]), ([17, 2], [17]), ([18], [18]), ([19, 18], [18, 19]), ([18], [18]), ([21, 18, 18], [18, 21]), ([18], [18]), ([23, 22, 18], [18, 23]), ([22, 24, 18], [18, 22, 24]), ([20, 25, 18], [18, 20, 25]), ([18, 26], [18, 26]), ([27, 24, 0, 1, 2, 3, 4, 5, 6, 7, 8, 9, 10, 11, 12, 13, 14, 15, 16, 17, 18, 19, 20, 21, 22, 23, 24, 25, 26, 27], [27])])
def chamberlainlaw11_PartWords.B10 : List Nat := [0, 1, 3, 7, 7, 31, 7, 7, 135, 7, 519, 1927, 4039, 8135, 7, 32711, 65535, 131071, 262143, 524287, 1048575, 524287, 2621439, 524287, 15204351, 31981567, 67108863, 134217727, 268435455]
theorem chamberlainlaw11_PartWords.tab10 : rtab .any (opsOf Try.f7 10) = chamberlainlaw11_PartWords.T10 := by kernel_rfl
theorem chamberlainlaw11_PartWords.bits10 : waitsOk chamberlainlaw11_PartWords.T10.2 chamberlainlaw11_PartWords.B10 = true := by kernel_rfl
set_option maxHeartbeats 8000000 in
set_option maxRecDepth 100000 in
theorem chamberlainlaw11_PartWords.calls (k : Nat) (a0 : Int) (A1 : Option Addr) (c1 : Nat) (l1 : List Int) (a2 : Int) (a3 : Int) (a4 : Int) (r : Bool) (w : World) (hr1 : Kd.C (Kd.int .u32) w A1 l1.length l1) (hc1 : l1.length ≤ c1) (h : chamberlainlaw11_PartWords.f k a0 l1 a2 a3 a4 = some r) (hT0 : r = true) :
    Calls Try.prog 7 #[.int .u32 a0, .slice A1 l1.length c1, .int .u8 a2, .int .u32 a3, .int .u32 a4] w fun e w' => e = .returned (.bool r) ∧ Below w.heap.size w w' := by
  have hT := Aside0.mk hT0
  clear hT0
  have hu24 := Try.underlying24
  have HR1 := Aside0.mk hr1
  have HC1 := Aside0.mk hc1
  clear hr1 hc1
  have HB := Aside0.mk (Below.refl w.heap.size w)
  have H : ((chamberlainlaw11_awake.f k).bind fun t162 => (if t162 = true then (chamberlainlaw11_PartWords.j0 k a0 l1 a2 a3 a4 (decide ((l1.length : Int) > 100))) else (chamberlainlaw11_PartWords.j0 k a0 l1 a2 a3 a4 true))) = some r := h
  clear h
  have HC6 := Aside0.mk H
  clear H
  go_enter Try.func7, Try.ntmps7
  go_upto_region 1 with (fail)
  go_cut [24] (fun v24 wc => ∃ (kq : Nat) (x24_5 : Bool), v24 = .bool x24_5 ∧ Aside0 (chamberlainlaw11_PartWords.j0 kq a0 l1 a2 a3 a4 x24_5 = some r) ∧ Aside0 (kq ≤ k) ∧ Aside0 (Below w.heap.size w wc))
  case first =>
    have H := HC6.out
    clear HC6
    replace H := Option.bind_eq_some_iff.mp H
    obtain ⟨t162, A70, H⟩ := H
    replace H : (if t162 = true then (chamberlainlaw11_PartWords.j0 k a0 l1 a2 a3 a4 (decide ((l1.length : Int) > 100))) else (chamberlainlaw11_PartWords.j0 k a0 l1 a2 a3 a4 true)) = some r := H
    have A7 := Aside0.mk A70
    clear A70
    by_cases c8 : t162 = true
    · subst c8
      have H1 : (chamberlainlaw11_PartWords.j0 k a0 l1 a2 a3 a4 (decide ((l1.length : Int) > 100))) = some r := by rw [if_pos rfl] at H; exact H
      clear H
      have H := H1
      clear H1
      have H' := Aside0.mk H
      clear H
      go_wp2_with (first | ((with_reducible refine gate_callee (f := 8) rfl ?_); refine goesL_ (some 18) rfl rfl Try.func8 (by kernel_rfl) rfl #[] rfl (by (try simp only [List.map_toArray, List.map_cons, List.map_nil]); first | done | rfl | (simp only [List.length_drop, List.length_take]; rfl)) ?_; (with_reducible refine (chamberlainlaw11_awake.calls k  true _ A7.out).mono ?_); rintro e w9 ⟨rfl, hb⟩; refine ⟨_, rfl, ?_⟩; have n0_ := Aside0.mk (below_step (by repeat (first | (with_reducible first | exact HB.out | apply below_alloc | apply pw_below_drewN | apply below_drew1) | exact HB.out)) hb); clear HB; have HB := n0_; clear n0_; (try clear hb); (try clear hb2); (try clear hk); (try clear hi)))
      go_meet
      case rel => exact ⟨_, (decide ((l1.length : Int) > 100)), (by first | rfl | (simp; done) | (simp [*]; done)), H', ⟨by first | omega | exact Nat.le_refl _⟩, ⟨by repeat (first | (with_reducible first | exact HB.out | apply below_alloc | apply pw_below_drewN | apply below_drew1) | exact HB.out)⟩⟩
    · replace c8 := Bool.eq_false_iff.mpr c8
      subst c8
      have H1 : (chamberlainlaw11_PartWords.j0 k a0 l1 a2 a3 a4 true) = some r := by rw [if_neg (show ¬ (false = true) by decide)] at H; exact H
      clear H
      have H := H1
      clear H1
      have H' := Aside0.mk H
      clear H
      go_wp2_with (first | ((with_reducible refine gate_callee (f := 8) rfl ?_); refine goesL_ (some 18) rfl rfl Try.func8 (by kernel_rfl) rfl #[] rfl (by (try simp only [List.map_toArray, List.map_cons, List.map_nil]); first | done | rfl | (simp only [List.length_drop, List.length_take]; rfl)) ?_; (with_reducible refine (chamberlainlaw11_awake.calls k  false _ A7.out).mono ?_); rintro e w10 ⟨rfl, hb⟩; refine ⟨_, rfl, ?_⟩; have n0_ := Aside0.mk (below_step (by repeat (first | (with_reducible first | exact HB.out | apply below_alloc | apply pw_below_drewN | apply below_drew1) | exact HB.out)) hb); clear HB; have HB := n0_; clear n0_; (try clear hb); (try clear hb2); (try clear hk); (try clear hi)))
      go_meet
      case rel => exact ⟨_, (true), (by first | rfl | (simp; done) | (simp [*]; done)), H', ⟨by first | omega | exact Nat.le_refl _⟩, ⟨by repeat (first | (with_reducible first | exact HB.out | apply below_alloc | apply pw_below_drewN | apply below_drew1) | exact HB.out)⟩⟩
  case rest =>
    clear HC6
    try clear c1
    try clear p2
    try clear c7
    try clear c8
    obtain ⟨kq, x24_5, rfl, HA, HJ5, HB⟩ := hcut
    cases kq with
    | zero => exact absurd HA.out (by simp [chamberlainlaw11_PartWords.j0])
    | succ kj5 =>
      have H := HA.out
      clear HA
      simp only [chamberlainlaw11_PartWords.j0] at H
      by_cases c11 : x24_5 = true
      · subst c11
        have H1 : ((chamberlainlaw11_awake.f kj5).bind fun t163 => (some t163)) = some r := by rw [if_pos rfl] at H; exact H
        clear H
        have H := H1
        clear H1
        replace H := Option.bind_eq_some_iff.mp H
        obtain ⟨t163, A120, H⟩ := H
        replace H : (some t163) = some r := H
        have A12 := Aside0.mk A120
        clear A120
        obtain rfl := Option.some.inj H
        go_wp2_with (first | ((with_reducible refine gate_callee (f := 8) rfl ?_); refine goesL_ (some 25) rfl rfl Try.func8 (by kernel_rfl) rfl #[] rfl (by (try simp only [List.map_toArray, List.map_cons, List.map_nil]); first | done | rfl | (simp only [List.length_drop, List.length_take]; rfl)) ?_; (with_reducible refine (chamberlainlaw11_awake.calls kj5  t163 _ A12.out).mono ?_); rintro e w13 ⟨rfl, hb⟩; refine ⟨_, rfl, ?_⟩; have n0_ := Aside0.mk (below_step (by repeat (first | (with_reducible first | exact HB.out | apply below_alloc | apply pw_below_drewN | apply below_drew1) | exact HB.out)) hb); clear HB; have HB := n0_; clear n0_; (try clear hb); (try clear hb2); (try clear hk); (try clear hi)))
        go_ret
        exact ⟨by first | rfl | (simp [errW_none, errW_some] <;> rfl) | (simp [*, errW_none, errW_some] <;> rfl), by repeat (first | (with_reducible first | exact HB.out | apply below_alloc | apply pw_below_drewN | apply below_drew1) | exact HB.out)⟩
      · replace c11 := Bool.eq_false_iff.mpr c11
        subst c11
        have H1 : ((part_Get.f a0 l1).bind fun bt164 => (if bt164.2.2.2.2.2.2.2 = 0 then (chamberlainlaw11_PartWords.j1 kj5 a0 l1 a2 a3 a4 ((l1.length : Int) == 0) bt164.1 bt164.2.1 bt164.2.2.1 bt164.2.2.2.1 bt164.2.2.2.2.1 bt164.2.2.2.2.2.1 bt164.2.2.2.2.2.2.1) else (chamberlainlaw11_PartWords.j1 kj5 a0 l1 a2 a3 a4 true bt164.1 bt164.2.1 bt164.2.2.1 bt164.2.2.2.1 bt164.2.2.2.2.1 bt164.2.2.2.2.2.1 bt164.2.2.2.2.2.2.1))) = some r := by rw [if_neg (show ¬ (false = true) by decide)] at H; exact H
        clear H
        have H := H1
        clear H1
        replace H := Option.bind_eq_some_iff.mp H
        obtain ⟨⟨t164, t165, t166, t167, t168, t169, t170, t171⟩, A140, H⟩ := H
        replace H : (if t171 = 0 then (chamberlainlaw11_PartWords.j1 kj5 a0 l1 a2 a3 a4 ((l1.length : Int) == 0) t164 t165 t166 t167 t168 t169 t170) else (chamberlainlaw11_PartWords.j1 kj5 a0 l1 a2 a3 a4 true t164 t165 t166 t167 t168 t169 t170)) = some r := H
        have A14 := Aside0.mk A140
        clear A140
        have HC15 := Aside0.mk H
        clear H
        go_upto_region 4 with (first | ((with_reducible refine gate_callee (f := 15) rfl ?_); refine goesL_ (some 29) rfl rfl Try.func15 (by kernel_rfl) rfl #[.int .u32 a0, .slice A1 l1.length c1] rfl (by (try simp only [List.map_toArray, List.map_cons, List.map_nil]); first | done | rfl | (simp only [List.length_drop, List.length_take]; rfl)) ?_; (with_reducible refine (part_Get.calls a0 _ _ l1 t164 t165 t166 t167 t168 t169 t170 t171 _ ?side1 ?side2 A14.out).mono ?_); (case side1 => repeat (first | exact (Kd.C_below HR1.out HB.out) | (with_reducible refine Kd.C_alloc ?_ _) | (with_reducible refine Kd.C_drewN ?_ _) | (with_reducible refine Kd.C_drew ?_))); (case side2 => exact HC1.out); rintro e w16 ⟨rfl, hb⟩; refine ⟨_, rfl, ?_⟩; have n0_ := Aside0.mk (below_step (by repeat (first | (with_reducible first | exact HB.out | apply below_alloc | apply pw_below_drewN | apply below_drew1) | exact HB.out)) hb); clear HB; have HB := n0_; clear n0_; (try clear hb); (try clear hb2); (try clear hk); (try clear hi)) | ((with_reducible refine gate_dst (N := 11) rfl ?_); (try (refine gate_guard (by rfl) ?_; dsimp only)); refine box_event ?hg (N := 11) ?hd (cs := #[.int .u32 0, .int .u32 0, .int .u32 0, .int .u32 0, .int .u32 0, .int .u32 0, .int .u32 0]) (t := 24) ?hr ?_; (case hd => rfl); (case hg => rfl); (case hr => first | (go_simp; done) | (go_simp; rfl)); intro gb172 hg w17 hbox hb; have n0_ := Aside0.mk (below_step (by repeat (first | (with_reducible first | exact HB.out | apply below_alloc | apply pw_below_drewN | apply below_drew1) | exact HB.out)) hb); have n1_ := Aside0.mk (hbox); have n2_ := Aside0.mk ((by rw [hg]; exact (below_size (by repeat (first | (with_reducible first | exact HB.out | apply below_alloc | apply pw_below_drewN | apply below_drew1) | exact HB.out))) : w.heap.size ≤ gb172)); have n3_ := Aside0.mk ((by rw [hg]; exact (below_size (by repeat (first | (with_reducible first | exact HB.out | apply below_alloc | apply pw_below_drewN | apply below_drew1) | exact HB.out))) : w.heap.size ≤ gb172)); clear HB; have HB := n0_; have BK172 := n1_; have GW172 := n2_; have GE172 := n3_; clear n0_ n1_ n2_ n3_; clear hb hbox hg; have hcz18_0 : w17.cell? ⟨gb172, 0, none⟩ = some (.int .u32 0) := (blk_cell BK172.out 0).trans rfl; have hcz18_1 : w17.cell? ⟨gb172, 1, none⟩ = some (.int .u32 0) := (blk_cell BK172.out 1).trans rfl; have hcz18_2 : w17.cell? ⟨gb172, 2, none⟩ = some (.int .u32 0) := (blk_cell BK172.out 2).trans rfl; have hcz18_3 : w17.cell? ⟨gb172, 3, none⟩ = some (.int .u32 0) := (blk_cell BK172.out 3).trans rfl; have hcz18_4 : w17.cell? ⟨gb172, 4, none⟩ = some (.int .u32 0) := (blk_cell BK172.out 4).trans rfl; have hcz18_5 : w17.cell? ⟨gb172, 5, none⟩ = some (.int .u32 0) := (blk_cell BK172.out 5).trans rfl; have hcz18_6 : w17.cell? ⟨gb172, 6, none⟩ = some (.int .u32 0) := (blk_cell BK172.out 6).trans rfl; have hfz18_0 := blk_frozen BK172.out 0; have hfz18_1 := blk_frozen BK172.out 1; have hfz18_2 := blk_frozen BK172.out 2; have hfz18_3 := blk_frozen BK172.out 3; have hfz18_4 := blk_frozen BK172.out 4; have hfz18_5 := blk_frozen BK172.out 5; have hfz18_6 := blk_frozen BK172.out 6))
        (try simp only [Act.put, List.setIfInBounds_toArray, List.set_cons_zero, List.set_cons_succ])
        go_cut [38] (fun v38 wc => ∃ (kq : Nat) (x38_14 : Bool), v38 = .bool x38_14 ∧ Aside0 (chamberlainlaw11_PartWords.j1 kq a0 l1 a2 a3 a4 x38_14 t164 t165 t166 t167 t168 t169 t170 = some r) ∧ Aside0 (kq ≤ kj5) ∧ Aside0 (wc.heap[gb172]? = some (.cells #[.int .u32 t164, .int .u32 t165, .int .u32 t166, .int .u32 t167, .int .u32 t168, .int .u32 t169, .int .u32 t170] 24 (0, 0))) ∧ Aside0 (Below w.heap.size w wc))
        case first =>
          have H := HC15.out
          clear HC15
          by_cases c19 : t171 = 0
          · rw [if_pos c19] at H
            have c19b0 : (t171 == 0) = true := beq_iff_eq.mpr c19
            have c19b1 : (t171 != 0) = false := bne_eq_false_iff_eq.mpr c19
            clear c19
            (first | rw [c19b0] | (simp only [i64_w, i32_w]; rw [c19b0]) | skip)
            have H' := Aside0.mk H
            clear H
            go_wp2
            go_meet
            case rel => exact ⟨_, (((l1.length : Int) == 0)), (by first | rfl | (simp; done) | (simp [*]; done)), H', ⟨by have := HJ5.out; first | omega | exact Nat.le_refl _⟩, ⟨by (with_reducible repeat (first | refine blk_drewN ?_ _ | refine blk_drew ?_ | refine blk_alloc ?_ _)); refine blk_put (cs := #[.int .u32 t164, .int .u32 t165, .int .u32 t166, .int .u32 t167, .int .u32 t168, .int .u32 t169, .int .u32 0]) ?_ 6 _ rfl; (with_reducible repeat (first | refine blk_drewN ?_ _ | refine blk_drew ?_ | refine blk_alloc ?_ _)); refine blk_put (cs := #[.int .u32 t164, .int .u32 t165, .int .u32 t166, .int .u32 t167, .int .u32 t168, .int .u32 0, .int .u32 0]) ?_ 5 _ rfl; (with_reducible repeat (first | refine blk_drewN ?_ _ | refine blk_drew ?_ | refine blk_alloc ?_ _)); refine blk_put (cs := #[.int .u32 t164, .int .u32 t165, .int .u32 t166, .int .u32 t167, .int .u32 0, .int .u32 0, .int .u32 0]) ?_ 4 _ rfl; (with_reducible repeat (first | refine blk_drewN ?_ _ | refine blk_drew ?_ | refine blk_alloc ?_ _)); refine blk_put (cs := #[.int .u32 t164, .int .u32 t165, .int .u32 t166, .int .u32 0, .int .u32 0, .int .u32 0, .int .u32 0]) ?_ 3 _ rfl; (with_reducible repeat (first | refine blk_drewN ?_ _ | refine blk_drew ?_ | refine blk_alloc ?_ _)); refine blk_put (cs := #[.int .u32 t164, .int .u32 t165, .int .u32 0, .int .u32 0, .int .u32 0, .int .u32 0, .int .u32 0]) ?_ 2 _ rfl; (with_reducible repeat (first | refine blk_drewN ?_ _ | refine blk_drew ?_ | refine blk_alloc ?_ _)); refine blk_put (cs := #[.int .u32 t164, .int .u32 0, .int .u32 0, .int .u32 0, .int .u32 0, .int .u32 0, .int .u32 0]) ?_ 1 _ rfl; (with_reducible repeat (first | refine blk_drewN ?_ _ | refine blk_drew ?_ | refine blk_alloc ?_ _)); refine blk_put (cs := #[.int .u32 0, .int .u32 0, .int .u32 0, .int .u32 0, .int .u32 0, .int .u32 0, .int .u32 0]) ?_ 0 _ rfl; (with_reducible repeat (first | refine blk_drewN ?_ _ | refine blk_drew ?_ | refine blk_alloc ?_ _)); exact BK172.out⟩, ⟨by repeat (first | (with_reducible first | exact HB.out | apply below_alloc | apply pw_below_drewN | apply below_drew1 | refine below_set ?_ GE172.out) | exact HB.out)⟩⟩
          · rw [if_neg c19] at H
            have c19b0 : (t171 == 0) = false := beq_eq_false_iff_ne.mpr c19
            have c19b1 : (t171 != 0) = true := bne_iff_ne.mpr c19
            (first | rw [c19b0] | (simp only [i64_w, i32_w]; rw [c19b0]) | skip)
            have H' := Aside0.mk H
            clear H
            go_wp2
            go_meet
            case rel => exact ⟨_, (true), (by first | rfl | (simp; done) | (simp [*]; done)), H', ⟨by have := HJ5.out; first | omega | exact Nat.le_refl _⟩, ⟨by (with_reducible repeat (first | refine blk_drewN ?_ _ | refine blk_drew ?_ | refine blk_alloc ?_ _)); refine blk_put (cs := #[.int .u32 t164, .int .u32 t165, .int .u32 t166, .int .u32 t167, .int .u32 t168, .int .u32 t169, .int .u32 0]) ?_ 6 _ rfl; (with_reducible repeat (first | refine blk_drewN ?_ _ | refine blk_drew ?_ | refine blk_alloc ?_ _)); refine blk_put (cs := #[.int .u32 t164, .int .u32 t165, .int .u32 t166, .int .u32 t167, .int .u32 t168, .int .u32 0, .int .u32 0]) ?_ 5 _ rfl; (with_reducible repeat (first | refine blk_drewN ?_ _ | refine blk_drew ?_ | refine blk_alloc ?_ _)); refine blk_put (cs := #[.int .u32 t164, .int .u32 t165, .int .u32 t166, .int .u32 t167, .int .u32 0, .int .u32 0, .int .u32 0]) ?_ 4 _ rfl; (with_reducible repeat (first | refine blk_drewN ?_ _ | refine blk_drew ?_ | refine blk_alloc ?_ _)); refine blk_put (cs := #[.int .u32 t164, .int .u32 t165, .int .u32 t166, .int .u32 0, .int .u32 0, .int .u32 0, .int .u32 0]) ?_ 3 _ rfl; (with_reducible repeat (first | refine blk_drewN ?_ _ | refine blk_drew ?_ | refine blk_alloc ?_ _)); refine blk_put (cs := #[.int .u32 t164, .int .u32 t165, .int .u32 0, .int .u32 0, .int .u32 0, .int .u32 0, .int .u32 0]) ?_ 2 _ rfl; (with_reducible repeat (first | refine blk_drewN ?_ _ | refine blk_drew ?_ | refine blk_alloc ?_ _)); refine blk_put (cs := #[.int .u32 t164, .int .u32 0, .int .u32 0, .int .u32 0, .int .u32 0, .int .u32 0, .int .u32 0]) ?_ 1 _ rfl; (with_reducible repeat (first | refine blk_drewN ?_ _ | refine blk_drew ?_ | refine blk_alloc ?_ _)); refine blk_put (cs := #[.int .u32 0, .int .u32 0, .int .u32 0, .int .u32 0, .int .u32 0, .int .u32 0, .int .u32 0]) ?_ 0 _ rfl; (with_reducible repeat (first | refine blk_drewN ?_ _ | refine blk_drew ?_ | refine blk_alloc ?_ _)); exact BK172.out⟩, ⟨by repeat (first | (with_reducible first | exact HB.out | apply below_alloc | apply pw_below_drewN | apply below_drew1 | refine below_set ?_ GE172.out) | exact HB.out)⟩⟩
        case rest =>
          clear HC15
          try clear c1
          try clear p2
          try clear c7
          try clear c8
          try clear c11
          try clear c15
          try clear c19
          try clear c19b0
          try clear c19b1
          try clear hcz18_0
          try clear hcz18_1
          try clear hcz18_2
          try clear hcz18_3
          try clear hcz18_4
          try clear hcz18_5
          try clear hcz18_6
          try clear hfz18_0
          try clear hfz18_1
          try clear hfz18_2
          try clear hfz18_3
          try clear hfz18_4
          try clear hfz18_5
          try clear hfz18_6
          try clear p2
          obtain ⟨kq, x38_14, rfl, HA, HJ14, BK172, HB⟩ := hcut
          cases kq with
          | zero => exact absurd HA.out (by simp [chamberlainlaw11_PartWords.j1])
          | succ kj14 =>
            have H := HA.out
            clear HA
            simp only [chamberlainlaw11_PartWords.j1] at H
            by_cases c20 : x38_14 = true
            · subst c20
              have H1 : (some true) = some r := by rw [if_pos rfl] at H; exact H
              clear H
              have H := H1
              clear H1
              obtain rfl := Option.some.inj H
              go_wp2
              go_ret
              exact ⟨by first | rfl | (simp [errW_none, errW_some] <;> rfl) | (simp [*, errW_none, errW_some] <;> rfl), by repeat (first | (with_reducible first | exact HB.out | apply below_alloc | apply pw_below_drewN | apply below_drew1 | refine below_set ?_ GE172.out) | exact HB.out)⟩
            · replace c20 := Bool.eq_false_iff.mpr c20
              subst c20
              have H1 : ((some (([] : List Int) : List Int)).bind fun y173 => (if y173.length + l1.length < 35184372088832 then ((some (y173 ++ l1 : List Int)).bind fun y176 => (if (l1.length : Int) = 0 then (none) else (if 0 ≤ (Int.tmod (wrap64 (a2)) (l1.length : Int)) then (if (Int.tmod (wrap64 (a2)) (l1.length : Int)) < (y176.length : Int) then ((part_Get.f a0 (y176.set ((Int.tmod (wrap64 (a2)) (l1.length : Int)) : Int).toNat a3)).bind fun bt180 => ((part_Get.f a4 l1).bind fun bt189 => (if bt180.2.2.2.2.2.2.2 = 0 then (if (Int.tmod (wrap64 (a2)) (l1.length : Int)) < (l1.length : Int) then (if ((t164 == bt180.1 && (t165 == bt180.2.1 && (t166 == bt180.2.2.1 && (t167 == bt180.2.2.2.1 && (t168 == bt180.2.2.2.2.1 && (t169 == bt180.2.2.2.2.2.1 && (t170 == bt180.2.2.2.2.2.2.1))))))) == ((rd l1 (Int.tmod (wrap64 (a2)) (l1.length : Int))) == a3)) = true then ((part_Size.f a4).bind fun t199 => ((part_Size.f a0).bind fun t200 => (some ((bt189.2.2.2.2.2.2.2 == 0) == (t199 == t200))))) else (some false)) else (none)) else (some false)))) else (none)) else (none)))) else (none))) = some r := by rw [if_neg (show ¬ (false = true) by decide)] at H; exact H
              clear H
              have H := H1
              clear H1
              obtain ⟨y173, hy173⟩ : ∃ y_ : List Int, y_ = (([] : List Int)) := ⟨_, rfl⟩
              replace H : (if y173.length + l1.length < 35184372088832 then ((some (y173 ++ l1 : List Int)).bind fun y176 => (if (l1.length : Int) = 0 then (none) else (if 0 ≤ (Int.tmod (wrap64 (a2)) (l1.length : Int)) then (if (Int.tmod (wrap64 (a2)) (l1.length : Int)) < (y176.length : Int) then ((part_Get.f a0 (y176.set ((Int.tmod (wrap64 (a2)) (l1.length : Int)) : Int).toNat a3)).bind fun bt180 => ((part_Get.f a4 l1).bind fun bt189 => (if bt180.2.2.2.2.2.2.2 = 0 then (if (Int.tmod (wrap64 (a2)) (l1.length : Int)) < (l1.length : Int) then (if ((t164 == bt180.1 && (t165 == bt180.2.1 && (t166 == bt180.2.2.1 && (t167 == bt180.2.2.2.1 && (t168 == bt180.2.2.2.2.1 && (t169 == bt180.2.2.2.2.2.1 && (t170 == bt180.2.2.2.2.2.2.1))))))) == ((rd l1 (Int.tmod (wrap64 (a2)) (l1.length : Int))) == a3)) = true then ((part_Size.f a4).bind fun t199 => ((part_Size.f a0).bind fun t200 => (some ((bt189.2.2.2.2.2.2.2 == 0) == (t199 == t200))))) else (some false)) else (none)) else (some false)))) else (none)) else (none)))) else (none)) = some r := by first | (rw [hy173]; with_reducible exact H) | (have H2_ := (Option.bind_some _ _).symm.trans H; rw [hy173]; with_reducible exact H2_) | (have H2_ := (Option.bind_some _ _).symm.trans H; with_reducible exact H2_) | with_reducible exact H | (rw [hy173]; exact H) | exact H
              have Ny173 := Aside0.mk hy173
              clear hy173
              by_cases c21 : y173.length + l1.length < 35184372088832
              · rw [if_pos c21] at H
                have LMc21 := Aside0.mk c21
                clear c21
                obtain ⟨y176, hy176⟩ : ∃ y_ : List Int, y_ = (y173 ++ l1) := ⟨_, rfl⟩
                replace H : (if (l1.length : Int) = 0 then (none) else (if 0 ≤ (Int.tmod (wrap64 (a2)) (l1.length : Int)) then (if (Int.tmod (wrap64 (a2)) (l1.length : Int)) < (y176.length : Int) then ((part_Get.f a0 (y176.set ((Int.tmod (wrap64 (a2)) (l1.length : Int)) : Int).toNat a3)).bind fun bt180 => ((part_Get.f a4 l1).bind fun bt189 => (if bt180.2.2.2.2.2.2.2 = 0 then (if (Int.tmod (wrap64 (a2)) (l1.length : Int)) < (l1.length : Int) then (if ((t164 == bt180.1 && (t165 == bt180.2.1 && (t166 == bt180.2.2.1 && (t167 == bt180.2.2.2.1 && (t168 == bt180.2.2.2.2.1 && (t169 == bt180.2.2.2.2.2.1 && (t170 == bt180.2.2.2.2.2.2.1))))))) == ((rd l1 (Int.tmod (wrap64 (a2)) (l1.length : Int))) == a3)) = true then ((part_Size.f a4).bind fun t199 => ((part_Size.f a0).bind fun t200 => (some ((bt189.2.2.2.2.2.2.2 == 0) == (t199 == t200))))) else (some false)) else (none)) else (some false)))) else (none)) else (none))) = some r := by first | (rw [hy176]; with_reducible exact H) | (have H2_ := (Option.bind_some _ _).symm.trans H; rw [hy176]; with_reducible exact H2_) | (have H2_ := (Option.bind_some _ _).symm.trans H; with_reducible exact H2_) | with_reducible exact H | (rw [hy176]; exact H) | exact H
                have Ny176 := Aside0.mk hy176
                clear hy176
                by_cases c22 : (l1.length : Int) = 0
                · rw [if_pos c22] at H
                  exact absurd H (by simp)
                · rw [if_neg c22] at H
                  have c22b0 : ((l1.length : Int) == 0) = false := beq_eq_false_iff_ne.mpr c22
                  have c22b1 : ((l1.length : Int) != 0) = true := bne_iff_ne.mpr c22
                  have c22b2 : ¬ (l1 = []) := fun h_ => c22 (by rw [h_]; rfl)
                  obtain ⟨ji23, hji23⟩ : ∃ j_ : Int, (Int.tmod (wrap64 (a2)) (l1.length : Int)) = j_ := ⟨_, rfl⟩
                  replace H : (if 0 ≤ (ji23) then (if (ji23) < (y176.length : Int) then ((part_Get.f a0 (y176.set ((ji23) : Int).toNat a3)).bind fun bt180 => ((part_Get.f a4 l1).bind fun bt189 => (if bt180.2.2.2.2.2.2.2 = 0 then (if (ji23) < (l1.length : Int) then (if ((t164 == bt180.1 && (t165 == bt180.2.1 && (t166 == bt180.2.2.1 && (t167 == bt180.2.2.2.1 && (t168 == bt180.2.2.2.2.1 && (t169 == bt180.2.2.2.2.2.1 && (t170 == bt180.2.2.2.2.2.2.1))))))) == ((rd l1 (ji23)) == a3)) = true then ((part_Size.f a4).bind fun t199 => ((part_Size.f a0).bind fun t200 => (some ((bt189.2.2.2.2.2.2.2 == 0) == (t199 == t200))))) else (some false)) else (none)) else (some false)))) else (none)) else (none)) = some r := by first | (rw [hji23] at H; exact H) | (simp only [hji23] at H ⊢; exact H)
                  by_cases c24 : 0 ≤ (ji23)
                  · rw [if_pos c24] at H
                    have c24b0 : decide (0 ≤ (ji23)) = true := decide_eq_true c24
                    clear c24
                    by_cases c25 : (ji23) < (y176.length : Int)
                    · rw [if_pos c25] at H
                      have c25b0 : decide ((ji23) < (y176.length : Int)) = true := decide_eq_true c25
                      clear c25
                      obtain ⟨y179, hy179⟩ : ∃ y_ : List Int, y_ = (y176.set ((ji23) : Int).toNat a3) := ⟨_, rfl⟩
                      replace H : ((part_Get.f a0 y179).bind fun bt180 => ((part_Get.f a4 l1).bind fun bt189 => (if bt180.2.2.2.2.2.2.2 = 0 then (if (ji23) < (l1.length : Int) then (if ((t164 == bt180.1 && (t165 == bt180.2.1 && (t166 == bt180.2.2.1 && (t167 == bt180.2.2.2.1 && (t168 == bt180.2.2.2.2.1 && (t169 == bt180.2.2.2.2.2.1 && (t170 == bt180.2.2.2.2.2.2.1))))))) == ((rd l1 (ji23)) == a3)) = true then ((part_Size.f a4).bind fun t199 => ((part_Size.f a0).bind fun t200 => (some ((bt189.2.2.2.2.2.2.2 == 0) == (t199 == t200))))) else (some false)) else (none)) else (some false)))) = some r := by first | (rw [hy179]; with_reducible exact H) | (have H2_ := (Option.bind_some _ _).symm.trans H; rw [hy179]; with_reducible exact H2_) | (have H2_ := (Option.bind_some _ _).symm.trans H; with_reducible exact H2_) | with_reducible exact H | (rw [hy179]; exact H) | exact H
                      have Ny179 := Aside0.mk hy179
                      clear hy179
                      replace H := Option.bind_eq_some_iff.mp H
                      obtain ⟨⟨t180, t181, t182, t183, t184, t185, t186, t187⟩, A270, H⟩ := H
                      replace H : ((part_Get.f a4 l1).bind fun bt189 => (if t187 = 0 then (if (ji23) < (l1.length : Int) then (if ((t164 == t180 && (t165 == t181 && (t166 == t182 && (t167 == t183 && (t168 == t184 && (t169 == t185 && (t170 == t186))))))) == ((rd l1 (ji23)) == a3)) = true then ((part_Size.f a4).bind fun t199 => ((part_Size.f a0).bind fun t200 => (some ((bt189.2.2.2.2.2.2.2 == 0) == (t199 == t200))))) else (some false)) else (none)) else (some false))) = some r := H
                      have A27 := Aside0.mk A270
                      clear A270
                      replace H := Option.bind_eq_some_iff.mp H
                      obtain ⟨⟨t189, t190, t191, t192, t193, t194, t195, t196⟩, A280, H⟩ := H
                      replace H : (if t187 = 0 then (if (ji23) < (l1.length : Int) then (if ((t164 == t180 && (t165 == t181 && (t166 == t182 && (t167 == t183 && (t168 == t184 && (t169 == t185 && (t170 == t186))))))) == ((rd l1 (ji23)) == a3)) = true then ((part_Size.f a4).bind fun t199 => ((part_Size.f a0).bind fun t200 => (some ((t196 == 0) == (t199 == t200))))) else (some false)) else (none)) else (some false)) = some r := H
                      have A28 := Aside0.mk A280
                      clear A280
                      by_cases c29 : t187 = 0
                      · rw [if_pos c29] at H
                        have c29b0 : (t187 == 0) = true := beq_iff_eq.mpr c29
                        have c29b1 : (t187 != 0) = false := bne_eq_false_iff_eq.mpr c29
                        clear c29
                        by_cases c30 : (ji23) < (l1.length : Int)
                        · rw [if_pos c30] at H
                          have c30b0 : decide ((ji23) < (l1.length : Int)) = true := decide_eq_true c30
                          clear c30
                          by_cases c31 : ((t164 == t180 && (t165 == t181 && (t166 == t182 && (t167 == t183 && (t168 == t184 && (t169 == t185 && (t170 == t186))))))) == ((rd l1 (ji23)) == a3)) = true
                          · rw [if_pos c31] at H
                            have c31b0 : ((t164 == t180 && (t165 == t181 && (t166 == t182 && (t167 == t183 && (t168 == t184 && (t169 == t185 && (t170 == t186))))))) == ((rd l1 (ji23)) == a3)) = true := c31
                            (try (have c31b1 : decide ((t164 == t180 && (t165 == t181 && (t166 == t182 && (t167 == t183 && (t168 == t184 && (t169 == t185 && (t170 == t186))))))) = ((rd l1 (ji23)) == a3)) = true := by simpa using c31))
                            (try (have c31b2 : ((t164 == t180 && (t165 == t181 && (t166 == t182 && (t167 == t183 && (t168 == t184 && (t169 == t185 && (t170 == t186))))))) == ((rd l1 (ji23)) == a3)) = true := by simpa using c31))
                            clear c31
                            replace H := Option.bind_eq_some_iff.mp H
                            obtain ⟨t199, A320, H⟩ := H
                            replace H : ((part_Size.f a0).bind fun t200 => (some ((t196 == 0) == (t199 == t200)))) = some r := H
                            have A32 := Aside0.mk A320
                            clear A320
                            replace H := Option.bind_eq_some_iff.mp H
                            obtain ⟨t200, A330, H⟩ := H
                            replace H : (some ((t196 == 0) == (t199 == t200))) = some r := H
                            have A33 := Aside0.mk A330
                            clear A330
                            obtain rfl := Option.some.inj H
                            try go_wp2_with (first | ((with_reducible refine gate_dst (N := 39) rfl ?_); (try (refine gate_guard (by rfl) ?_; dsimp only)); refine Kd.R_lit (Kd.int .u32) _ 22 ?hg (N := 39) ?hd (xs := ([] : List Int)) (inner := []) (ok := fun _ => True) (okp := fun _ => True) ?hr ?hp (fun _ hk => hk) trivial (Below.refl _ _) (Nat.le_refl _) (by simp) ?_; (case hd => rfl); (case hg => rfl); (case hr => first | (go_simp; done) | (go_simp; rfl)); (case hp => exact (Reps.none _ _)); intro v174 w34 ho35 hb hg_ hnew_; clear hg_ hnew_; (first | rw [← Ny173.out] at ho35 | (simp only [Int.reduceToNat] at ho35; rw [← Ny173.out] at ho35)); have n0_ := Aside0.mk (Kd.R_lower ho35 (below_size (by repeat (first | (with_reducible first | exact HB.out | apply below_alloc | apply pw_below_drewN | apply below_drew1 | refine below_set ?_ GE172.out) | exact HB.out)))); have n1_ := Aside0.mk (blk_below (g := gb172) (o := .cells #[.int .u32 t164, .int .u32 t165, .int .u32 t166, .int .u32 t167, .int .u32 t168, .int .u32 t169, .int .u32 t170] 24 (0, 0)) (by (with_reducible repeat (first | refine blk_drewN ?_ _ | refine blk_drew ?_ | refine blk_alloc ?_ _)); exact BK172.out) hb); have n2_ := Aside0.mk (below_step (by repeat (first | (with_reducible first | exact HB.out | apply below_alloc | apply pw_below_drewN | apply below_drew1 | refine below_set ?_ GE172.out) | exact HB.out)) hb); clear BK172; clear HB; have HO175 := n0_; have BK172 := n1_; have HB := n2_; clear n0_ n1_ n2_; clear hb ho35) | ((with_reducible refine gate_builtin (b := .append) (xs := #[.tmp 39, .tmp 40]) rfl ?_); (try (refine gate_guard (by rfl) ?_; dsimp only)); at_builtin; refine Kd.R_append_rows (Kd.int .u32) (w0 := w) w.heap.size rfl (.tmp 39) (.tmp 40) 26 22 (.int .u32 0) 4 rfl Try.underlying26 info22 rfl (by decide) (by omega) v174 y173 l1 _ _ _ (fun _ => True) (fun _ => False) rfl rfl ?aO ?aR (fun _ _ h => h) (fun _ h => h.elim) ?aF ?aB ?aS ?aL ?_; (case aR => repeat (first | exact (Kd.C_below HR1.out HB.out) | (with_reducible refine Kd.C_alloc ?_ _) | (with_reducible refine Kd.C_drewN ?_ _) | (with_reducible refine Kd.C_drew ?_))); (case aB => exact (by repeat (first | (with_reducible first | exact HB.out | apply below_alloc | apply pw_below_drewN | apply below_drew1 | refine below_set ?_ GE172.out) | exact HB.out))); (case aF => exact (fun _ _ => trivial)); (case aO => exact (by (with_reducible repeat (first | apply Kd.R_alloc | apply Kd.R_drewN | apply Kd.R_drew)); exact HO175.out)); (case aS => exact (below_size (by repeat (first | (with_reducible first | exact HB.out | apply below_alloc | apply pw_below_drewN | apply below_drew1 | refine below_set ?_ GE172.out) | exact HB.out)))); (case aL => have := LMc21.out; omega); intro v177 w36 ho hb hg hat; rw [← Ny176.out] at ho; have n0_ := Aside0.mk (blk_grown (g := gb172) (o := .cells #[.int .u32 t164, .int .u32 t165, .int .u32 t166, .int .u32 t167, .int .u32 t168, .int .u32 t169, .int .u32 t170] 24 (0, 0)) (by (with_reducible repeat (first | refine blk_drewN ?_ _ | refine blk_drew ?_ | refine blk_alloc ?_ _)); exact BK172.out) hg (Kd.R_ne HO175.out BK172.out (by decide))); have n1_ := Aside0.mk (hb); have n2_ := Aside0.mk (ho); clear BK172; clear HB; clear HO175; have BK172 := n0_; have HB := n1_; have HO178 := n2_; clear n0_ n1_ n2_; clear ho hb hg hat; have p26 : 0 ≤ ((ji23) : Int) := of_decide_eq_true (by first | (with_reducible assumption) | assumption); have q26 : ((ji23) : Int) < ((y176.length : Int) : Int) := of_decide_eq_true (by first | (with_reducible assumption) | assumption); obtain ⟨go26, co26, eo26, gb26, gl26, cl26, HG26⟩ := Kd.R_form HO178.out (by omega); (first | cases eo26 | (injection eo26 with ea_ en_ ec_; (first | subst ea_ | (injection ea_ with ea_; subst ea_)); subst ec_; clear en_)); have GB26 := Aside0.mk gb26; have GG26 := Aside0.mk HG26; clear gb26 gl26 HG26; obtain ⟨hx26_0, hf26_0⟩ := Kd.R_celln 0 HO178.out ((ji23) : Int) p26 q26; replace p26 := eq_true p26; replace q26 := eq_true q26; obtain ⟨hy37_, hz37_⟩ := Kd.R_celln 0 HO178.out ((ji23) : Int) (of_decide_eq_true (by first | (with_reducible assumption) | assumption)) (of_decide_eq_true (by first | (with_reducible assumption) | assumption)); have HP37 := Kd.R_putg HO178.out ((ji23) : Int) a3) | ((with_reducible refine gate_store (t := 22) (p := 49) rfl ?_); refine store_event (t := 22) (p := 49) (v := ?vo_w38) (w1 := (w36.setCell ⟨go26, ((ji23) : Int).toNat, none⟩ (.int .u32 a3))) ?hg ?ho ?hn ?hr ?_; (case ho => rfl); (case hg => rfl); (case hn => rfl); (case hr => first | (go_simp; done) | (go_simp; rfl)); intro w38 hw; have hg : w36.grownBy w38 (some go26) := (by rw [hw]; exact HP37.2); have hp_ : Kd.R (Kd.int .u32) 22 w38 w.heap.size (fun _ => True) (.slice (some ⟨go26, 0, none⟩) y176.length co26) y179 := (by rw [hw, Ny179.out]; exact HP37.1); clear HP37; have n0_ := Aside0.mk (blk_grown (g := gb172) (o := .cells #[.int .u32 t164, .int .u32 t165, .int .u32 t166, .int .u32 t167, .int .u32 t168, .int .u32 t169, .int .u32 t170] 24 (0, 0)) (by (with_reducible repeat (first | refine blk_drewN ?_ _ | refine blk_drew ?_ | refine blk_alloc ?_ _)); exact BK172.out) hg (Kd.R_ne HO178.out BK172.out (by decide))); have n1_ := Aside0.mk (hp_); have n2_ := Aside0.mk ((by rw [hw]; exact below_set (HB.out) GB26.out : Below w.heap.size w w38)); clear BK172; clear HO178; clear HB; have BK172 := n0_; have HO178 := n1_; have HB := n2_; clear n0_ n1_ n2_; clear hg hw hp_) | ((with_reducible refine gate_callee (f := 15) rfl ?_); refine goesL_ (some 53) rfl rfl Try.func15 (by kernel_rfl) rfl #[.int .u32 a0, .slice (some ⟨go26, 0, none⟩) y179.length co26] rfl (by (try simp only [List.map_toArray, List.map_cons, List.map_nil]); first | done | (rw [show y179.length = y176.length from (Kd.R_reads' HO178.out).1.symm] <;> rfl) | rfl | (simp only [List.length_drop, List.length_take]; rfl)) ?_; (with_reducible refine (part_Get.calls a0 _ _ y179 t180 t181 t182 t183 t184 t185 t186 t187 _ ?side1 ?side2 A27.out).mono ?_); (case side1 => repeat (first | exact (Kd.R_reads' HO178.out).2.2 | (with_reducible refine Kd.C_alloc ?_ _) | (with_reducible refine Kd.C_drewN ?_ _) | (with_reducible refine Kd.C_drew ?_))); (case side2 => rw [show y179.length = y176.length from (Kd.R_reads' HO178.out).1.symm]; exact (Kd.R_reads' HO178.out).2.1); rintro e w39 ⟨rfl, hb⟩; refine ⟨_, rfl, ?_⟩; have n0_ := Aside0.mk (Kd.R_below (by (with_reducible repeat (first | apply Kd.R_alloc | apply Kd.R_drewN | apply Kd.R_drew)); exact HO178.out) hb); have n1_ := Aside0.mk (blk_below (g := gb172) (o := .cells #[.int .u32 t164, .int .u32 t165, .int .u32 t166, .int .u32 t167, .int .u32 t168, .int .u32 t169, .int .u32 t170] 24 (0, 0)) (by (with_reducible repeat (first | refine blk_drewN ?_ _ | refine blk_drew ?_ | refine blk_alloc ?_ _)); exact BK172.out) hb); have n2_ := Aside0.mk (below_step (by repeat (first | (with_reducible first | exact HB.out | apply below_alloc | apply pw_below_drewN | apply below_drew1 | refine below_set ?_ GE172.out) | exact HB.out)) hb); clear HO178; clear BK172; clear HB; have HO178 := n0_; have BK172 := n1_; have HB := n2_; clear n0_ n1_ n2_; (try clear hb); (try clear hb2); (try clear hk); (try clear hi)) | ((with_reducible refine gate_dst (N := 14) rfl ?_); (try (refine gate_guard (by rfl) ?_; dsimp only)); refine box_event ?hg (N := 14) ?hd (cs := #[.int .u32 0, .int .u32 0, .int .u32 0, .int .u32 0, .int .u32 0, .int .u32 0, .int .u32 0]) (t := 24) ?hr ?_; (case hd => rfl); (case hg => rfl); (case hr => first | (go_simp; done) | (go_simp; rfl)); intro gb188 hg w40 hbox hb; have n0_ := Aside0.mk (Kd.R_below (by (with_reducible repeat (first | apply Kd.R_alloc | apply Kd.R_drewN | apply Kd.R_drew)); exact HO178.out) hb); have n1_ := Aside0.mk (blk_below (g := gb172) (o := .cells #[.int .u32 t164, .int .u32 t165, .int .u32 t166, .int .u32 t167, .int .u32 t168, .int .u32 t169, .int .u32 t170] 24 (0, 0)) (by (with_reducible repeat (first | refine blk_drewN ?_ _ | refine blk_drew ?_ | refine blk_alloc ?_ _)); exact BK172.out) hb); have n2_ := Aside0.mk (below_step (by repeat (first | (with_reducible first | exact HB.out | apply below_alloc | apply pw_below_drewN | apply below_drew1 | refine below_set ?_ GE172.out) | exact HB.out)) hb); have n3_ := Aside0.mk (hbox); have n4_ := Aside0.mk ((by rw [hg]; exact (below_size (by repeat (first | (with_reducible first | exact HB.out | apply below_alloc | apply pw_below_drewN | apply below_drew1 | refine below_set ?_ GE172.out) | exact HB.out))) : w.heap.size ≤ gb188)); have n5_ := Aside0.mk ((by rw [hg]; exact (below_size (by repeat (first | (with_reducible first | exact HB.out | apply below_alloc | apply pw_below_drewN | apply below_drew1 | refine below_set ?_ GE172.out) | exact HB.out))) : w.heap.size ≤ gb188)); have n6_ := Aside0.mk ((by rw [hg]; exact Nat.ne_of_lt (blk_lt (g := gb172) (o := .cells #[.int .u32 t164, .int .u32 t165, .int .u32 t166, .int .u32 t167, .int .u32 t168, .int .u32 t169, .int .u32 t170] 24 (0, 0)) (by (with_reducible repeat (first | refine blk_drewN ?_ _ | refine blk_drew ?_ | refine blk_alloc ?_ _)); exact BK172.out)) : gb172 ≠ gb188)); have n7_ := Aside0.mk ((by rw [hg]; exact Nat.ne_of_gt (blk_lt (g := gb172) (o := .cells #[.int .u32 t164, .int .u32 t165, .int .u32 t166, .int .u32 t167, .int .u32 t168, .int .u32 t169, .int .u32 t170] 24 (0, 0)) (by (with_reducible repeat (first | refine blk_drewN ?_ _ | refine blk_drew ?_ | refine blk_alloc ?_ _)); exact BK172.out)) : gb188 ≠ gb172)); clear HO178; clear BK172; clear HB; have HO178 := n0_; have BK172 := n1_; have HB := n2_; have BK188 := n3_; have GW188 := n4_; have GE188 := n5_; have NB172_188 := n6_; have NB188_172 := n7_; clear n0_ n1_ n2_ n3_ n4_ n5_ n6_ n7_; clear hb hbox hg; have hnb41 := NB188_172.out; have hnc41 := NB172_188.out; have hcz42_0 : w40.cell? ⟨gb188, 0, none⟩ = some (.int .u32 0) := (blk_cell BK188.out 0).trans rfl; have hcz42_1 : w40.cell? ⟨gb188, 1, none⟩ = some (.int .u32 0) := (blk_cell BK188.out 1).trans rfl; have hcz42_2 : w40.cell? ⟨gb188, 2, none⟩ = some (.int .u32 0) := (blk_cell BK188.out 2).trans rfl; have hcz42_3 : w40.cell? ⟨gb188, 3, none⟩ = some (.int .u32 0) := (blk_cell BK188.out 3).trans rfl; have hcz42_4 : w40.cell? ⟨gb188, 4, none⟩ = some (.int .u32 0) := (blk_cell BK188.out 4).trans rfl; have hcz42_5 : w40.cell? ⟨gb188, 5, none⟩ = some (.int .u32 0) := (blk_cell BK188.out 5).trans rfl; have hcz42_6 : w40.cell? ⟨gb188, 6, none⟩ = some (.int .u32 0) := (blk_cell BK188.out 6).trans rfl; have hfz42_0 := blk_frozen BK188.out 0; have hfz42_1 := blk_frozen BK188.out 1; have hfz42_2 := blk_frozen BK188.out 2; have hfz42_3 := blk_frozen BK188.out 3; have hfz42_4 := blk_frozen BK188.out 4; have hfz42_5 := blk_frozen BK188.out 5; have hfz42_6 := blk_frozen BK188.out 6) | ((with_reducible refine gate_callee (f := 15) rfl ?_); refine goesL_ (some 59) rfl rfl Try.func15 (by kernel_rfl) rfl #[.int .u32 a4, .slice A1 l1.length c1] rfl (by (try simp only [List.map_toArray, List.map_cons, List.map_nil]); first | done | rfl | (simp only [List.length_drop, List.length_take]; rfl)) ?_; (with_reducible refine (part_Get.calls a4 _ _ l1 t189 t190 t191 t192 t193 t194 t195 t196 _ ?side1 ?side2 A28.out).mono ?_); (case side1 => exact Kd.C_below HR1.out (by repeat (first | (with_reducible first | exact HB.out | apply below_alloc | apply pw_below_drewN | apply below_drew1 | refine below_set ?_ GE172.out | refine below_set ?_ GE188.out) | exact HB.out))); (case side2 => exact HC1.out); rintro e w43 ⟨rfl, hb⟩; refine ⟨_, rfl, ?_⟩; have n0_ := Aside0.mk (Kd.R_below (by (with_reducible repeat (first | apply Kd.R_alloc | apply Kd.R_drewN | apply Kd.R_drew)); exact (Kd.R_mono (Kd.R_far (p := ⟨gb188, 6, none⟩) (Kd.R_far (p := ⟨gb188, 5, none⟩) (Kd.R_far (p := ⟨gb188, 4, none⟩) (Kd.R_far (p := ⟨gb188, 3, none⟩) (Kd.R_far (p := ⟨gb188, 2, none⟩) (Kd.R_far (p := ⟨gb188, 1, none⟩) (Kd.R_far (p := ⟨gb188, 0, none⟩) (Kd.R_types HO178.out BK188.out (by decide)) (fun _ hk => hk.2) (.int .u32 t180)) (fun _ hk => hk.2) (.int .u32 t181)) (fun _ hk => hk.2) (.int .u32 t182)) (fun _ hk => hk.2) (.int .u32 t183)) (fun _ hk => hk.2) (.int .u32 t184)) (fun _ hk => hk.2) (.int .u32 t185)) (fun _ hk => hk.2) (.int .u32 t186)) (fun _ h_ => h_.1))) hb); have n1_ := Aside0.mk (blk_below (g := gb172) (o := .cells #[.int .u32 t164, .int .u32 t165, .int .u32 t166, .int .u32 t167, .int .u32 t168, .int .u32 t169, .int .u32 t170] 24 (0, 0)) (by (with_reducible repeat (first | refine blk_drewN ?_ _ | refine blk_drew ?_ | refine blk_alloc ?_ _)); refine blk_far ?_ NB172_188.out _; (with_reducible repeat (first | refine blk_drewN ?_ _ | refine blk_drew ?_ | refine blk_alloc ?_ _)); refine blk_far ?_ NB172_188.out _; (with_reducible repeat (first | refine blk_drewN ?_ _ | refine blk_drew ?_ | refine blk_alloc ?_ _)); refine blk_far ?_ NB172_188.out _; (with_reducible repeat (first | refine blk_drewN ?_ _ | refine blk_drew ?_ | refine blk_alloc ?_ _)); refine blk_far ?_ NB172_188.out _; (with_reducible repeat (first | refine blk_drewN ?_ _ | refine blk_drew ?_ | refine blk_alloc ?_ _)); refine blk_far ?_ NB172_188.out _; (with_reducible repeat (first | refine blk_drewN ?_ _ | refine blk_drew ?_ | refine blk_alloc ?_ _)); refine blk_far ?_ NB172_188.out _; (with_reducible repeat (first | refine blk_drewN ?_ _ | refine blk_drew ?_ | refine blk_alloc ?_ _)); refine blk_far ?_ NB172_188.out _; (with_reducible repeat (first | refine blk_drewN ?_ _ | refine blk_drew ?_ | refine blk_alloc ?_ _)); exact BK172.out) hb); have n2_ := Aside0.mk (blk_below (g := gb188) (o := .cells #[.int .u32 t180, .int .u32 t181, .int .u32 t182, .int .u32 t183, .int .u32 t184, .int .u32 t185, .int .u32 t186] 24 (0, 0)) (by (with_reducible repeat (first | refine blk_drewN ?_ _ | refine blk_drew ?_ | refine blk_alloc ?_ _)); refine blk_put (cs := #[.int .u32 t180, .int .u32 t181, .int .u32 t182, .int .u32 t183, .int .u32 t184, .int .u32 t185, .int .u32 0]) ?_ 6 _ rfl; (with_reducible repeat (first | refine blk_drewN ?_ _ | refine blk_drew ?_ | refine blk_alloc ?_ _)); refine blk_put (cs := #[.int .u32 t180, .int .u32 t181, .int .u32 t182, .int .u32 t183, .int .u32 t184, .int .u32 0, .int .u32 0]) ?_ 5 _ rfl; (with_reducible repeat (first | refine blk_drewN ?_ _ | refine blk_drew ?_ | refine blk_alloc ?_ _)); refine blk_put (cs := #[.int .u32 t180, .int .u32 t181, .int .u32 t182, .int .u32 t183, .int .u32 0, .int .u32 0, .int .u32 0]) ?_ 4 _ rfl; (with_reducible repeat (first | refine blk_drewN ?_ _ | refine blk_drew ?_ | refine blk_alloc ?_ _)); refine blk_put (cs := #[.int .u32 t180, .int .u32 t181, .int .u32 t182, .int .u32 0, .int .u32 0, .int .u32 0, .int .u32 0]) ?_ 3 _ rfl; (with_reducible repeat (first | refine blk_drewN ?_ _ | refine blk_drew ?_ | refine blk_alloc ?_ _)); refine blk_put (cs := #[.int .u32 t180, .int .u32 t181, .int .u32 0, .int .u32 0, .int .u32 0, .int .u32 0, .int .u32 0]) ?_ 2 _ rfl; (with_reducible repeat (first | refine blk_drewN ?_ _ | refine blk_drew ?_ | refine blk_alloc ?_ _)); refine blk_put (cs := #[.int .u32 t180, .int .u32 0, .int .u32 0, .int .u32 0, .int .u32 0, .int .u32 0, .int .u32 0]) ?_ 1 _ rfl; (with_reducible repeat (first | refine blk_drewN ?_ _ | refine blk_drew ?_ | refine blk_alloc ?_ _)); refine blk_put (cs := #[.int .u32 0, .int .u32 0, .int .u32 0, .int .u32 0, .int .u32 0, .int .u32 0, .int .u32 0]) ?_ 0 _ rfl; (with_reducible repeat (first | refine blk_drewN ?_ _ | refine blk_drew ?_ | refine blk_alloc ?_ _)); exact BK188.out) hb); have n3_ := Aside0.mk (below_step (by repeat (first | (with_reducible first | exact HB.out | apply below_alloc | apply pw_below_drewN | apply below_drew1 | refine below_set ?_ GE172.out | refine below_set ?_ GE188.out) | exact HB.out)) hb); clear HO178; clear BK172; clear BK188; clear HB; have HO178 := n0_; have BK172 := n1_; have BK188 := n2_; have HB := n3_; clear n0_ n1_ n2_ n3_; (try clear hb); (try clear hb2); (try clear hk); (try clear hi)) | ((with_reducible refine gate_dst (N := 16) rfl ?_); (try (refine gate_guard (by rfl) ?_; dsimp only)); refine box_event ?hg (N := 16) ?hd (cs := #[.int .u32 0, .int .u32 0, .int .u32 0, .int .u32 0, .int .u32 0, .int .u32 0, .int .u32 0]) (t := 24) ?hr ?_; (case hd => rfl); (case hg => rfl); (case hr => first | (go_simp; done) | (go_simp; rfl)); intro gb197 hg w44 hbox hb; have n0_ := Aside0.mk (Kd.R_below (by (with_reducible repeat (first | apply Kd.R_alloc | apply Kd.R_drewN | apply Kd.R_drew)); exact HO178.out) hb); have n1_ := Aside0.mk (blk_below (g := gb172) (o := .cells #[.int .u32 t164, .int .u32 t165, .int .u32 t166, .int .u32 t167, .int .u32 t168, .int .u32 t169, .int .u32 t170] 24 (0, 0)) (by (with_reducible repeat (first | refine blk_drewN ?_ _ | refine blk_drew ?_ | refine blk_alloc ?_ _)); exact BK172.out) hb); have n2_ := Aside0.mk (blk_below (g := gb188) (o := .cells #[.int .u32 t180, .int .u32 t181, .int .u32 t182, .int .u32 t183, .int .u32 t184, .int .u32 t185, .int .u32 t186] 24 (0, 0)) (by (with_reducible repeat (first | refine blk_drewN ?_ _ | refine blk_drew ?_ | refine blk_alloc ?_ _)); exact BK188.out) hb); have n3_ := Aside0.mk (below_step (by repeat (first | (with_reducible first | exact HB.out | apply below_alloc | apply pw_below_drewN | apply below_drew1 | refine below_set ?_ GE172.out | refine below_set ?_ GE188.out) | exact HB.out)) hb); have n4_ := Aside0.mk (hbox); have n5_ := Aside0.mk ((by rw [hg]; exact (below_size (by repeat (first | (with_reducible first | exact HB.out | apply below_alloc | apply pw_below_drewN | apply below_drew1 | refine below_set ?_ GE172.out | refine below_set ?_ GE188.out) | exact HB.out))) : w.heap.size ≤ gb197)); have n6_ := Aside0.mk ((by rw [hg]; exact (below_size (by repeat (first | (with_reducible first | exact HB.out | apply below_alloc | apply pw_below_drewN | apply below_drew1 | refine below_set ?_ GE172.out | refine below_set ?_ GE188.out) | exact HB.out))) : w.heap.size ≤ gb197)); have n7_ := Aside0.mk ((by rw [hg]; exact Nat.ne_of_lt (blk_lt (g := gb172) (o := .cells #[.int .u32 t164, .int .u32 t165, .int .u32 t166, .int .u32 t167, .int .u32 t168, .int .u32 t169, .int .u32 t170] 24 (0, 0)) (by (with_reducible repeat (first | refine blk_drewN ?_ _ | refine blk_drew ?_ | refine blk_alloc ?_ _)); exact BK172.out)) : gb172 ≠ gb197)); have n8_ := Aside0.mk ((by rw [hg]; exact Nat.ne_of_gt (blk_lt (g := gb172) (o := .cells #[.int .u32 t164, .int .u32 t165, .int .u32 t166, .int .u32 t167, .int .u32 t168, .int .u32 t169, .int .u32 t170] 24 (0, 0)) (by (with_reducible repeat (first | refine blk_drewN ?_ _ | refine blk_drew ?_ | refine blk_alloc ?_ _)); exact BK172.out)) : gb197 ≠ gb172)); have n9_ := Aside0.mk ((by rw [hg]; exact Nat.ne_of_lt (blk_lt (g := gb188) (o := .cells #[.int .u32 t180, .int .u32 t181, .int .u32 t182, .int .u32 t183, .int .u32 t184, .int .u32 t185, .int .u32 t186] 24 (0, 0)) (by (with_reducible repeat (first | refine blk_drewN ?_ _ | refine blk_drew ?_ | refine blk_alloc ?_ _)); exact BK188.out)) : gb188 ≠ gb197)); have n10_ := Aside0.mk ((by rw [hg]; exact Nat.ne_of_gt (blk_lt (g := gb188) (o := .cells #[.int .u32 t180, .int .u32 t181, .int .u32 t182, .int .u32 t183, .int .u32 t184, .int .u32 t185, .int .u32 t186] 24 (0, 0)) (by (with_reducible repeat (first | refine blk_drewN ?_ _ | refine blk_drew ?_ | refine blk_alloc ?_ _)); exact BK188.out)) : gb197 ≠ gb188)); clear HO178; clear BK172; clear BK188; clear HB; have HO178 := n0_; have BK172 := n1_; have BK188 := n2_; have HB := n3_; have BK197 := n4_; have GW197 := n5_; have GE197 := n6_; have NB172_197 := n7_; have NB197_172 := n8_; have NB188_197 := n9_; have NB197_188 := n10_; clear n0_ n1_ n2_ n3_ n4_ n5_ n6_ n7_ n8_ n9_ n10_; clear hb hbox hg; have hnb45 := NB197_172.out; have hnc45 := NB172_197.out; have hnb46 := NB197_188.out; have hnc46 := NB188_197.out; have hcz47_0 : w44.cell? ⟨gb197, 0, none⟩ = some (.int .u32 0) := (blk_cell BK197.out 0).trans rfl; have hcz47_1 : w44.cell? ⟨gb197, 1, none⟩ = some (.int .u32 0) := (blk_cell BK197.out 1).trans rfl; have hcz47_2 : w44.cell? ⟨gb197, 2, none⟩ = some (.int .u32 0) := (blk_cell BK197.out 2).trans rfl; have hcz47_3 : w44.cell? ⟨gb197, 3, none⟩ = some (.int .u32 0) := (blk_cell BK197.out 3).trans rfl; have hcz47_4 : w44.cell? ⟨gb197, 4, none⟩ = some (.int .u32 0) := (blk_cell BK197.out 4).trans rfl; have hcz47_5 : w44.cell? ⟨gb197, 5, none⟩ = some (.int .u32 0) := (blk_cell BK197.out 5).trans rfl; have hcz47_6 : w44.cell? ⟨gb197, 6, none⟩ = some (.int .u32 0) := (blk_cell BK197.out 6).trans rfl; have hfz47_0 := blk_frozen BK197.out 0; have hfz47_1 := blk_frozen BK197.out 1; have hfz47_2 := blk_frozen BK197.out 2; have hfz47_3 := blk_frozen BK197.out 3; have hfz47_4 := blk_frozen BK197.out 4; have hfz47_5 := blk_frozen BK197.out 5; have hfz47_6 := blk_frozen BK197.out 6))
                            have n0_ : Aside0 (Kd.R (Kd.int .u32) 22 (((((((w44.setCell ⟨gb197, 0, none⟩ (.int .u32 t189)).setCell ⟨gb197, 1, none⟩ (.int .u32 t190)).setCell ⟨gb197, 2, none⟩ (.int .u32 t191)).setCell ⟨gb197, 3, none⟩ (.int .u32 t192)).setCell ⟨gb197, 4, none⟩ (.int .u32 t193)).setCell ⟨gb197, 5, none⟩ (.int .u32 t194)).setCell ⟨gb197, 6, none⟩ (.int .u32 t195)) w.heap.size (fun _ => True) (.slice (some ⟨go26, 0, none⟩) y176.length co26) y179) := ⟨by (with_reducible repeat (first | apply Kd.R_alloc | apply Kd.R_drewN | apply Kd.R_drew)); exact Kd.R_mono (Kd.R_far (p := ⟨gb197, 6, none⟩) (Kd.R_far (p := ⟨gb197, 5, none⟩) (Kd.R_far (p := ⟨gb197, 4, none⟩) (Kd.R_far (p := ⟨gb197, 3, none⟩) (Kd.R_far (p := ⟨gb197, 2, none⟩) (Kd.R_far (p := ⟨gb197, 1, none⟩) (Kd.R_far (p := ⟨gb197, 0, none⟩) (Kd.R_types HO178.out BK197.out (by decide)) (fun _ hk => hk.2) (.int .u32 t189)) (fun _ hk => hk.2) (.int .u32 t190)) (fun _ hk => hk.2) (.int .u32 t191)) (fun _ hk => hk.2) (.int .u32 t192)) (fun _ hk => hk.2) (.int .u32 t193)) (fun _ hk => hk.2) (.int .u32 t194)) (fun _ hk => hk.2) (.int .u32 t195)) (fun _ hk => trivial)⟩
                            have n1_ : Aside0 ((((((((w44.setCell ⟨gb197, 0, none⟩ (.int .u32 t189)).setCell ⟨gb197, 1, none⟩ (.int .u32 t190)).setCell ⟨gb197, 2, none⟩ (.int .u32 t191)).setCell ⟨gb197, 3, none⟩ (.int .u32 t192)).setCell ⟨gb197, 4, none⟩ (.int .u32 t193)).setCell ⟨gb197, 5, none⟩ (.int .u32 t194)).setCell ⟨gb197, 6, none⟩ (.int .u32 t195)).heap[gb172]? = some (.cells #[.int .u32 t164, .int .u32 t165, .int .u32 t166, .int .u32 t167, .int .u32 t168, .int .u32 t169, .int .u32 t170] 24 (0, 0))) := ⟨by (with_reducible repeat (first | refine blk_drewN ?_ _ | refine blk_drew ?_ | refine blk_alloc ?_ _)); refine blk_far ?_ NB172_197.out _; (with_reducible repeat (first | refine blk_drewN ?_ _ | refine blk_drew ?_ | refine blk_alloc ?_ _)); refine blk_far ?_ NB172_197.out _; (with_reducible repeat (first | refine blk_drewN ?_ _ | refine blk_drew ?_ | refine blk_alloc ?_ _)); refine blk_far ?_ NB172_197.out _; (with_reducible repeat (first | refine blk_drewN ?_ _ | refine blk_drew ?_ | refine blk_alloc ?_ _)); refine blk_far ?_ NB172_197.out _; (with_reducible repeat (first | refine blk_drewN ?_ _ | refine blk_drew ?_ | refine blk_alloc ?_ _)); refine blk_far ?_ NB172_197.out _; (with_reducible repeat (first | refine blk_drewN ?_ _ | refine blk_drew ?_ | refine blk_alloc ?_ _)); refine blk_far ?_ NB172_197.out _; (with_reducible repeat (first | refine blk_drewN ?_ _ | refine blk_drew ?_ | refine blk_alloc ?_ _)); refine blk_far ?_ NB172_197.out _; (with_reducible repeat (first | refine blk_drewN ?_ _ | refine blk_drew ?_ | refine blk_alloc ?_ _)); exact BK172.out⟩
                            have n2_ : Aside0 ((((((((w44.setCell ⟨gb197, 0, none⟩ (.int .u32 t189)).setCell ⟨gb197, 1, none⟩ (.int .u32 t190)).setCell ⟨gb197, 2, none⟩ (.int .u32 t191)).setCell ⟨gb197, 3, none⟩ (.int .u32 t192)).setCell ⟨gb197, 4, none⟩ (.int .u32 t193)).setCell ⟨gb197, 5, none⟩ (.int .u32 t194)).setCell ⟨gb197, 6, none⟩ (.int .u32 t195)).heap[gb188]? = some (.cells #[.int .u32 t180, .int .u32 t181, .int .u32 t182, .int .u32 t183, .int .u32 t184, .int .u32 t185, .int .u32 t186] 24 (0, 0))) := ⟨by (with_reducible repeat (first | refine blk_drewN ?_ _ | refine blk_drew ?_ | refine blk_alloc ?_ _)); refine blk_far ?_ NB188_197.out _; (with_reducible repeat (first | refine blk_drewN ?_ _ | refine blk_drew ?_ | refine blk_alloc ?_ _)); refine blk_far ?_ NB188_197.out _; (with_reducible repeat (first | refine blk_drewN ?_ _ | refine blk_drew ?_ | refine blk_alloc ?_ _)); refine blk_far ?_ NB188_197.out _; (with_reducible repeat (first | refine blk_drewN ?_ _ | refine blk_drew ?_ | refine blk_alloc ?_ _)); refine blk_far ?_ NB188_197.out _; (with_reducible repeat (first | refine blk_drewN ?_ _ | refine blk_drew ?_ | refine blk_alloc ?_ _)); refine blk_far ?_ NB188_197.out _; (with_reducible repeat (first | refine blk_drewN ?_ _ | refine blk_drew ?_ | refine blk_alloc ?_ _)); refine blk_far ?_ NB188_197.out _; (with_reducible repeat (first | refine blk_drewN ?_ _ | refine blk_drew ?_ | refine blk_alloc ?_ _)); refine blk_far ?_ NB188_197.out _; (with_reducible repeat (first | refine blk_drewN ?_ _ | refine blk_drew ?_ | refine blk_alloc ?_ _)); exact BK188.out⟩
                            have n3_ : Aside0 ((((((((w44.setCell ⟨gb197, 0, none⟩ (.int .u32 t189)).setCell ⟨gb197, 1, none⟩ (.int .u32 t190)).setCell ⟨gb197, 2, none⟩ (.int .u32 t191)).setCell ⟨gb197, 3, none⟩ (.int .u32 t192)).setCell ⟨gb197, 4, none⟩ (.int .u32 t193)).setCell ⟨gb197, 5, none⟩ (.int .u32 t194)).setCell ⟨gb197, 6, none⟩ (.int .u32 t195)).heap[gb197]? = some (.cells #[.int .u32 t189, .int .u32 t190, .int .u32 t191, .int .u32 t192, .int .u32 t193, .int .u32 t194, .int .u32 t195] 24 (0, 0))) := ⟨by (with_reducible repeat (first | refine blk_drewN ?_ _ | refine blk_drew ?_ | refine blk_alloc ?_ _)); refine blk_put (cs := #[.int .u32 t189, .int .u32 t190, .int .u32 t191, .int .u32 t192, .int .u32 t193, .int .u32 t194, .int .u32 0]) ?_ 6 _ rfl; (with_reducible repeat (first | refine blk_drewN ?_ _ | refine blk_drew ?_ | refine blk_alloc ?_ _)); refine blk_put (cs := #[.int .u32 t189, .int .u32 t190, .int .u32 t191, .int .u32 t192, .int .u32 t193, .int .u32 0, .int .u32 0]) ?_ 5 _ rfl; (with_reducible repeat (first | refine blk_drewN ?_ _ | refine blk_drew ?_ | refine blk_alloc ?_ _)); refine blk_put (cs := #[.int .u32 t189, .int .u32 t190, .int .u32 t191, .int .u32 t192, .int .u32 0, .int .u32 0, .int .u32 0]) ?_ 4 _ rfl; (with_reducible repeat (first | refine blk_drewN ?_ _ | refine blk_drew ?_ | refine blk_alloc ?_ _)); refine blk_put (cs := #[.int .u32 t189, .int .u32 t190, .int .u32 t191, .int .u32 0, .int .u32 0, .int .u32 0, .int .u32 0]) ?_ 3 _ rfl; (with_reducible repeat (first | refine blk_drewN ?_ _ | refine blk_drew ?_ | refine blk_alloc ?_ _)); refine blk_put (cs := #[.int .u32 t189, .int .u32 t190, .int .u32 0, .int .u32 0, .int .u32 0, .int .u32 0, .int .u32 0]) ?_ 2 _ rfl; (with_reducible repeat (first | refine blk_drewN ?_ _ | refine blk_drew ?_ | refine blk_alloc ?_ _)); refine blk_put (cs := #[.int .u32 t189, .int .u32 0, .int .u32 0, .int .u32 0, .int .u32 0, .int .u32 0, .int .u32 0]) ?_ 1 _ rfl; (with_reducible repeat (first | refine blk_drewN ?_ _ | refine blk_drew ?_ | refine blk_alloc ?_ _)); refine blk_put (cs := #[.int .u32 0, .int .u32 0, .int .u32 0, .int .u32 0, .int .u32 0, .int .u32 0, .int .u32 0]) ?_ 0 _ rfl; (with_reducible repeat (first | refine blk_drewN ?_ _ | refine blk_drew ?_ | refine blk_alloc ?_ _)); exact BK197.out⟩
                            have n4_ : Aside0 (Below w.heap.size w (((((((w44.setCell ⟨gb197, 0, none⟩ (.int .u32 t189)).setCell ⟨gb197, 1, none⟩ (.int .u32 t190)).setCell ⟨gb197, 2, none⟩ (.int .u32 t191)).setCell ⟨gb197, 3, none⟩ (.int .u32 t192)).setCell ⟨gb197, 4, none⟩ (.int .u32 t193)).setCell ⟨gb197, 5, none⟩ (.int .u32 t194)).setCell ⟨gb197, 6, none⟩ (.int .u32 t195))) := ⟨by repeat (first | (with_reducible first | exact HB.out | apply below_alloc | apply pw_below_drewN | apply below_drew1 | refine below_set ?_ GE172.out | refine below_set ?_ GE188.out | refine below_set ?_ GE197.out) | exact HB.out)⟩
                            (try clear HO178)
                            (try clear BK172)
                            (try clear BK188)
                            (try clear BK197)
                            (try clear HB)
                            generalize (((((((w44.setCell ⟨gb197, 0, none⟩ (.int .u32 t189)).setCell ⟨gb197, 1, none⟩ (.int .u32 t190)).setCell ⟨gb197, 2, none⟩ (.int .u32 t191)).setCell ⟨gb197, 3, none⟩ (.int .u32 t192)).setCell ⟨gb197, 4, none⟩ (.int .u32 t193)).setCell ⟨gb197, 5, none⟩ (.int .u32 t194)).setCell ⟨gb197, 6, none⟩ (.int .u32 t195)) = w48 at n0_ n1_ n2_ n3_ n4_ ⊢
                            have HO178 := n0_
                            have BK172 := n1_
                            have BK188 := n2_
                            have BK197 := n3_
                            have HB := n4_
                            clear n0_ n1_ n2_ n3_ n4_
                            have n0_ := Aside0.mk (Kd.R_drew HO178.out)
                            have n1_ := Aside0.mk (blk_drew BK172.out)
                            have n2_ := Aside0.mk (blk_drew BK188.out)
                            have n3_ := Aside0.mk (blk_drew BK197.out)
                            have n4_ := Aside0.mk (below_drew1 HB.out)
                            clear HO178
                            clear BK172
                            clear BK188
                            clear BK197
                            clear HB
                            have HO178 := n0_
                            have BK172 := n1_
                            have BK188 := n2_
                            have BK197 := n3_
                            have HB := n4_
                            clear n0_ n1_ n2_ n3_ n4_
                            have p198 : 0 ≤ ((ji23) : Int) := of_decide_eq_true (by first | (with_reducible assumption) | assumption)
                            have q198 : (ji23) < (l1.length : Int) := of_decide_eq_true (by first | (with_reducible assumption) | assumption)
                            obtain ⟨ad198, e198, hx198_0⟩ := Kd.at_int HR1.out (ji23) p198 q198
                            have hw198_0 := hx198_0
                            cases e198
                            replace hx198_0 := (HB.out.cell (World.block_lt_of_cell? w _ hx198_0)).trans hx198_0
                            replace p198 := eq_true p198
                            replace q198 := eq_true q198
                            refine start_ (n := 29) (S := fun w' => w'.cell? ⟨gb172, 0, none⟩ = some (.int .u32 t164) ∧ w'.cell? ⟨gb172, 1, none⟩ = some (.int .u32 t165) ∧ w'.cell? ⟨gb172, 2, none⟩ = some (.int .u32 t166) ∧ w'.cell? ⟨gb172, 3, none⟩ = some (.int .u32 t167) ∧ w'.cell? ⟨gb172, 4, none⟩ = some (.int .u32 t168) ∧ w'.cell? ⟨gb172, 5, none⟩ = some (.int .u32 t169) ∧ w'.cell? ⟨gb172, 6, none⟩ = some (.int .u32 t170) ∧ w'.cell? ⟨gb188, 0, none⟩ = some (.int .u32 t180) ∧ w'.cell? ⟨gb188, 1, none⟩ = some (.int .u32 t181) ∧ w'.cell? ⟨gb188, 2, none⟩ = some (.int .u32 t182) ∧ w'.cell? ⟨gb188, 3, none⟩ = some (.int .u32 t183) ∧ w'.cell? ⟨gb188, 4, none⟩ = some (.int .u32 t184) ∧ w'.cell? ⟨gb188, 5, none⟩ = some (.int .u32 t185) ∧ w'.cell? ⟨gb188, 6, none⟩ = some (.int .u32 t186) ∧ w'.cell? (ad198.add ((ji23)).toNat) = some (.int .u32 (rd l1 (ji23)))) (ds := []) #[false, false, false, false, false, false, false, false, false, false, false, false, false, false, false, false, false, false, false, false, false, false, false, false, false, false, false, false, false] (by kernel_rfl) rfl rfl ⟨(blk_cell BK172.out 0).trans rfl, (blk_cell BK172.out 1).trans rfl, (blk_cell BK172.out 2).trans rfl, (blk_cell BK172.out 3).trans rfl, (blk_cell BK172.out 4).trans rfl, (blk_cell BK172.out 5).trans rfl, (blk_cell BK172.out 6).trans rfl, (blk_cell BK188.out 0).trans rfl, (blk_cell BK188.out 1).trans rfl, (blk_cell BK188.out 2).trans rfl, (blk_cell BK188.out 3).trans rfl, (blk_cell BK188.out 4).trans rfl, (blk_cell BK188.out 5).trans rfl, (blk_cell BK188.out 6).trans rfl, ((HB.out.cell (World.block_lt_of_cell? w _ hw198_0)).trans hw198_0)⟩ (fun hHeld => ?_); refine with_tabW chamberlainlaw11_PartWords.tab10 chamberlainlaw11_PartWords.bits10 (fun HT_ HW_ => ?_)
                            generalize w48.drew = w49 at HO178 BK172 BK188 BK197 HB hx198_0 hHeld ⊢
                            refine pure_ (i := 0) (N := some 62) (v := ?_) (a' := ?_) #[true, false, false, false, false, false, false, false, false, false, false, false, false, false, false, false, false, false, false, false, false, false, false, false, false, false, false, false, false] rfl rfl (any_of HT_.out (by kernel_rfl)) (fun _ _ _ h => h) (Or.inl ⟨by rfl, ?_⟩) ?_ ?_
                            rotate_left
                            · intro w'
                              go_simp
                              with_reducible rfl
                            rotate_left
                            · simp only [Act.put, List.setIfInBounds_toArray, List.set_cons_zero, List.set_cons_succ, i64_w, i32_w]
                              rfl
                            refine pure_ (i := 1) (N := some 63) (v := ?_) (a' := ?_) #[true, true, false, false, false, false, false, false, false, false, false, false, false, false, false, false, false, false, false, false, false, false, false, false, false, false, false, false, false] rfl rfl (any_of HT_.out (by kernel_rfl)) (fun _ _ _ h => h) (Or.inl ⟨by rfl, ?_⟩) ?_ ?_
                            rotate_left
                            · intro w'
                              go_simp
                              with_reducible rfl
                            rotate_left
                            · simp only [Act.put, List.setIfInBounds_toArray, List.set_cons_zero, List.set_cons_succ, i64_w, i32_w]
                              rfl
                            refine pure_ (i := 2) (N := some 64) (v := ?_) (a' := ?_) #[true, true, true, false, false, false, false, false, false, false, false, false, false, false, false, false, false, false, false, false, false, false, false, false, false, false, false, false, false] rfl rfl (any_of HT_.out (by kernel_rfl)) (fun _ _ _ h => h) (Or.inl ⟨by rfl, ?_⟩) ?_ ?_
                            rotate_left
                            · intro w'
                              go_simp
                              with_reducible rfl
                            rotate_left
                            · simp only [Act.put, List.setIfInBounds_toArray, List.set_cons_zero, List.set_cons_succ, i64_w, i32_w]
                              rfl
                            refine pure_ (i := 6) (N := some 68) (v := ?_) (a' := ?_) #[true, true, true, false, false, false, true, false, false, false, false, false, false, false, false, false, false, false, false, false, false, false, false, false, false, false, false, false, false] rfl rfl (any_of HT_.out (by kernel_rfl)) (fun _ _ _ h => h) (Or.inl ⟨by rfl, ?_⟩) ?_ ?_
                            rotate_left
                            · intro w'
                              go_simp
                              with_reducible rfl
                            rotate_left
                            · simp only [Act.put, List.setIfInBounds_toArray, List.set_cons_zero, List.set_cons_succ, i64_w, i32_w]
                              rfl
                            refine pure_ (i := 7) (N := some 69) (v := ?_) (a' := ?_) #[true, true, true, false, false, false, true, true, false, false, false, false, false, false, false, false, false, false, false, false, false, false, false, false, false, false, false, false, false] rfl rfl (any_of HT_.out (by kernel_rfl)) (fun _ _ _ h => h) (Or.inl ⟨by rfl, ?_⟩) ?_ ?_
                            rotate_left
                            · intro w'
                              go_simp
                              with_reducible rfl
                            rotate_left
                            · simp only [Act.put, List.setIfInBounds_toArray, List.set_cons_zero, List.set_cons_succ, i64_w, i32_w]
                              rfl
                            refine pure_ (i := 8) (N := some 70) (v := ?_) (a' := ?_) #[true, true, true, false, false, false, true, true, true, false, false, false, false, false, false, false, false, false, false, false, false, false, false, false, false, false, false, false, false] rfl rfl (any_of HT_.out (by kernel_rfl)) (fun _ _ _ h => h) (Or.inl ⟨by rfl, ?_⟩) ?_ ?_
                            rotate_left
                            · intro w'
                              go_simp
                              with_reducible rfl
                            rotate_left
                            · simp only [Act.put, List.setIfInBounds_toArray, List.set_cons_zero, List.set_cons_succ, i64_w, i32_w]
                              rfl
                            refine pure_ (i := 9) (N := some 71) (v := ?_) (a' := ?_) #[true, true, true, false, false, false, true, true, true, true, false, false, false, false, false, false, false, false, false, false, false, false, false, false, false, false, false, false, false] rfl rfl (any_of HT_.out (by kernel_rfl)) (fun _ _ _ h => h) (Or.inl ⟨by rfl, ?_⟩) ?_ ?_
                            rotate_left
                            · intro w'
                              go_simp
                              with_reducible rfl
                            rotate_left
                            · simp only [Act.put, List.setIfInBounds_toArray, List.set_cons_zero, List.set_cons_succ, i64_w, i32_w]
                              rfl
                            refine pure_ (i := 10) (N := some 72) (v := ?_) (a' := ?_) #[true, true, true, false, false, false, true, true, true, true, true, false, false, false, false, false, false, false, false, false, false, false, false, false, false, false, false, false, false] rfl rfl (any_of HT_.out (by kernel_rfl)) (fun _ _ _ h => h) (Or.inl ⟨by rfl, ?_⟩) ?_ ?_
                            rotate_left
                            · intro w'
                              go_simp
                              with_reducible rfl
                            rotate_left
                            · simp only [Act.put, List.setIfInBounds_toArray, List.set_cons_zero, List.set_cons_succ, i64_w, i32_w]
                              rfl
                            refine pure_ (i := 11) (N := some 73) (v := ?_) (a' := ?_) #[true, true, true, false, false, false, true, true, true, true, true, true, false, false, false, false, false, false, false, false, false, false, false, false, false, false, false, false, false] rfl rfl (any_of HT_.out (by kernel_rfl)) (fun _ _ _ h => h) (Or.inl ⟨by rfl, ?_⟩) ?_ ?_
                            rotate_left
                            · intro w'
                              go_simp
                              with_reducible rfl
                            rotate_left
                            · simp only [Act.put, List.setIfInBounds_toArray, List.set_cons_zero, List.set_cons_succ, i64_w, i32_w]
                              rfl
                            refine pure_ (i := 12) (N := some 74) (v := ?_) (a' := ?_) #[true, true, true, false, false, false, true, true, true, true, true, true, true, false, false, false, false, false, false, false, false, false, false, false, false, false, false, false, false] rfl rfl (any_of HT_.out (by kernel_rfl)) (fun _ _ _ h => h) (Or.inl ⟨by rfl, ?_⟩) ?_ ?_
                            rotate_left
                            · intro w'
                              go_simp
                              with_reducible rfl
                            rotate_left
                            · simp only [Act.put, List.setIfInBounds_toArray, List.set_cons_zero, List.set_cons_succ, i64_w, i32_w]
                              rfl
                            refine pure_ (i := 14) (N := some 76) (v := ?_) (a' := ?_) #[true, true, true, false, false, false, true, true, true, true, true, true, true, false, true, false, false, false, false, false, false, false, false, false, false, false, false, false, false] rfl rfl (any_of HT_.out (by kernel_rfl)) (fun _ _ _ h => h) (Or.inl ⟨by rfl, ?_⟩) ?_ ?_
                            rotate_left
                            · intro w'
                              go_simp
                              with_reducible rfl
                            rotate_left
                            · simp only [Act.put, List.setIfInBounds_toArray, List.set_cons_zero, List.set_cons_succ, i64_w, i32_w]
                              rfl
                            refine take_ (i := 3) (N := some 65) (v := ?_) (a' := ?_) #[true, true, true, true, false, false, true, true, true, true, true, true, true, false, true, false, false, false, false, false, false, false, false, false, false, false, false, false, false] rfl rfl (take_ofW HT_.out HW_.out (by kernel_rfl)) (fun _ _ _ h => h) (Or.inl ⟨by rfl, ?_⟩) hHeld ?_ ?_
                            rotate_left
                            · rintro w' ⟨s0, s1, s2, s3, s4, s5, s6, s7, s8, s9, s10, s11, s12, s13, s14⟩
                              go_simp
                              with_reducible rfl
                            rotate_left
                            · simp only [Act.put, List.setIfInBounds_toArray, List.set_cons_zero, List.set_cons_succ, i64_w, i32_w]
                              rfl
                            refine take_ (i := 4) (N := some 66) (v := ?_) (a' := ?_) #[true, true, true, true, true, false, true, true, true, true, true, true, true, false, true, false, false, false, false, false, false, false, false, false, false, false, false, false, false] rfl rfl (take_ofW HT_.out HW_.out (by kernel_rfl)) (fun _ _ _ h => h) (Or.inl ⟨by rfl, ?_⟩) hHeld ?_ ?_
                            rotate_left
                            · rintro w' ⟨s0, s1, s2, s3, s4, s5, s6, s7, s8, s9, s10, s11, s12, s13, s14⟩
                              go_simp
                              with_reducible rfl
                            rotate_left
                            · simp only [Act.put, List.setIfInBounds_toArray, List.set_cons_zero, List.set_cons_succ, i64_w, i32_w]
                              rfl
                            refine pure_ (i := 5) (N := some 67) (v := ?_) (a' := ?_) #[true, true, true, true, true, true, true, true, true, true, true, true, true, false, true, false, false, false, false, false, false, false, false, false, false, false, false, false, false] rfl rfl (any_of HT_.out (by kernel_rfl)) (fun _ _ _ h => h) (Or.inl ⟨by rfl, ?_⟩) ?_ ?_
                            rotate_left
                            · intro w'
                              go_simp
                              with_reducible rfl
                            rotate_left
                            · simp only [Act.put, List.setIfInBounds_toArray, List.set_cons_zero, List.set_cons_succ, i64_w, i32_w]
                              rfl
                            refine take_ (i := 13) (N := some 75) (v := ?_) (a' := ?_) #[true, true, true, true, true, true, true, true, true, true, true, true, true, true, true, false, false, false, false, false, false, false, false, false, false, false, false, false, false] rfl rfl (take_ofW HT_.out HW_.out (by kernel_rfl)) (fun _ _ _ h => h) (Or.inl ⟨by rfl, ?_⟩) hHeld ?_ ?_
                            rotate_left
                            · rintro w' ⟨s0, s1, s2, s3, s4, s5, s6, s7, s8, s9, s10, s11, s12, s13, s14⟩
                              go_simp
                              with_reducible rfl
                            rotate_left
                            · simp only [Act.put, List.setIfInBounds_toArray, List.set_cons_zero, List.set_cons_succ, i64_w, i32_w]
                              rfl
                            refine pure_ (i := 15) (N := some 77) (v := ?_) (a' := ?_) #[true, true, true, true, true, true, true, true, true, true, true, true, true, true, true, true, false, false, false, false, false, false, false, false, false, false, false, false, false] rfl rfl (any_of HT_.out (by kernel_rfl)) (fun _ _ _ h => h) (Or.inl ⟨by rfl, ?_⟩) ?_ ?_
                            rotate_left
                            · intro w'
                              go_simp
                              with_reducible rfl
                            rotate_left
                            · simp only [Act.put, List.setIfInBounds_toArray, List.set_cons_zero, List.set_cons_succ, i64_w, i32_w]
                              rfl
                            refine pure_ (i := 16) (N := some 78) (v := ?_) (a' := ?_) #[true, true, true, true, true, true, true, true, true, true, true, true, true, true, true, true, true, false, false, false, false, false, false, false, false, false, false, false, false] rfl rfl (any_of HT_.out (by kernel_rfl)) (fun _ _ _ h => h) (Or.inl ⟨by rfl, ?_⟩) ?_ ?_
                            rotate_left
                            · intro w'
                              go_simp
                              with_reducible rfl
                            rotate_left
                            · simp only [Act.put, List.setIfInBounds_toArray, List.set_cons_zero, List.set_cons_succ, i64_w, i32_w]
                              rfl
                            refine pure_ (i := 17) (N := some 79) (v := ?_) (a' := ?_) #[true, true, true, true, true, true, true, true, true, true, true, true, true, true, true, true, true, true, false, false, false, false, false, false, false, false, false, false, false] rfl rfl (any_of HT_.out (by kernel_rfl)) (fun _ _ _ h => h) (Or.inl ⟨by rfl, ?_⟩) ?_ ?_
                            rotate_left
                            · intro w'
                              go_simp
                              with_reducible rfl
                            rotate_left
                            · simp only [Act.put, List.setIfInBounds_toArray, List.set_cons_zero, List.set_cons_succ, i64_w, i32_w]
                              rfl
                            refine pure_ (i := 18) (N := some 80) (v := ?_) (a' := ?_) #[true, true, true, true, true, true, true, true, true, true, true, true, true, true, true, true, true, true, true, false, false, false, false, false, false, false, false, false, false] rfl rfl (any_of HT_.out (by kernel_rfl)) (fun _ _ _ h => h) (Or.inl ⟨by rfl, ?_⟩) ?_ ?_
                            rotate_left
                            · intro w'
                              go_simp
                              with_reducible rfl
                            rotate_left
                            · simp only [Act.put, List.setIfInBounds_toArray, List.set_cons_zero, List.set_cons_succ, i64_w, i32_w]
                              rfl
                            refine pure_ (i := 19) (N := some 81) (v := ?_) (a' := ?_) #[true, true, true, true, true, true, true, true, true, true, true, true, true, true, true, true, true, true, true, true, false, false, false, false, false, false, false, false, false] rfl rfl (any_of HT_.out (by kernel_rfl)) (fun _ _ _ h => h) (Or.inl ⟨by rfl, ?_⟩) ?_ ?_
                            rotate_left
                            · intro w'
                              go_simp
                              with_reducible rfl
                            rotate_left
                            · simp only [Act.put, List.setIfInBounds_toArray, List.set_cons_zero, List.set_cons_succ, i64_w, i32_w]
                              rfl
                            refine pure_ (i := 20) (N := some 82) (v := ?_) (a' := ?_) #[true, true, true, true, true, true, true, true, true, true, true, true, true, true, true, true, true, true, true, true, true, false, false, false, false, false, false, false, false] rfl rfl (any_of HT_.out (by kernel_rfl)) (fun _ _ _ h => h) (Or.inl ⟨by rfl, ?_⟩) ?_ ?_
                            rotate_left
                            · intro w'
                              go_simp
                              with_reducible rfl
                            rotate_left
                            · simp only [Act.put, List.setIfInBounds_toArray, List.set_cons_zero, List.set_cons_succ, i64_w, i32_w]
                              rfl
                            refine pure_ (i := 21) (N := some 83) (v := ?_) (a' := ?_) #[true, true, true, true, true, true, true, true, true, true, true, true, true, true, true, true, true, true, true, true, true, true, false, false, false, false, false, false, false] rfl rfl (any_of HT_.out (by kernel_rfl)) (fun _ _ _ h => h) (Or.inl ⟨by rfl, ?_⟩) ?_ ?_
                            rotate_left
                            · intro w'
                              go_simp
                              with_reducible rfl
                            rotate_left
                            · simp only [Act.put, List.setIfInBounds_toArray, List.set_cons_zero, List.set_cons_succ, i64_w, i32_w]
                              rfl
                            refine pure_ (i := 23) (N := some 85) (v := ?_) (a' := ?_) #[true, true, true, true, true, true, true, true, true, true, true, true, true, true, true, true, true, true, true, true, true, true, false, true, false, false, false, false, false] rfl rfl (any_of HT_.out (by kernel_rfl)) (fun _ _ _ h => h) (Or.inl ⟨by rfl, ?_⟩) ?_ ?_
                            rotate_left
                            · intro w'
                              go_simp
                              with_reducible rfl
                            rotate_left
                            · simp only [Act.put, List.setIfInBounds_toArray, List.set_cons_zero, List.set_cons_succ, i64_w, i32_w]
                              rfl
                            refine one_ (i := 22) (N := some 84) #[true, true, true, true, true, true, true, true, true, true, true, true, true, true, true, true, true, true, true, true, true, true, true, true, false, false, false, false, false] rfl rfl (one_of HT_.out (by kernel_rfl)) (by decide) (fun K hK => ?_)
                            refine goes_ Try.func13 (by kernel_rfl) rfl #[.int .u32 a4] (by rfl) rfl rfl (by (try simp only [List.map_toArray, List.map_cons, List.map_nil]); first | done | rfl | (simp only [List.length_drop, List.length_take]; rfl)) ?_
                            with_reducible refine (part_Size.calls a4 t199 _ A32.out).mono ?_
                            rintro e w50 ⟨rfl, hb⟩
                            refine ⟨_, rfl, ?_⟩
                            have n0_ := Aside0.mk (Kd.R_below (by (with_reducible repeat (first | apply Kd.R_alloc | apply Kd.R_drewN | apply Kd.R_drew)); exact HO178.out) hb)
                            have n1_ := Aside0.mk (blk_below (g := gb172) (o := .cells #[.int .u32 t164, .int .u32 t165, .int .u32 t166, .int .u32 t167, .int .u32 t168, .int .u32 t169, .int .u32 t170] 24 (0, 0)) (by (with_reducible repeat (first | refine blk_drewN ?_ _ | refine blk_drew ?_ | refine blk_alloc ?_ _)); exact BK172.out) hb)
                            have n2_ := Aside0.mk (blk_below (g := gb188) (o := .cells #[.int .u32 t180, .int .u32 t181, .int .u32 t182, .int .u32 t183, .int .u32 t184, .int .u32 t185, .int .u32 t186] 24 (0, 0)) (by (with_reducible repeat (first | refine blk_drewN ?_ _ | refine blk_drew ?_ | refine blk_alloc ?_ _)); exact BK188.out) hb)
                            have n3_ := Aside0.mk (blk_below (g := gb197) (o := .cells #[.int .u32 t189, .int .u32 t190, .int .u32 t191, .int .u32 t192, .int .u32 t193, .int .u32 t194, .int .u32 t195] 24 (0, 0)) (by (with_reducible repeat (first | refine blk_drewN ?_ _ | refine blk_drew ?_ | refine blk_alloc ?_ _)); exact BK197.out) hb)
                            have n4_ := Aside0.mk (below_step (by repeat (first | (with_reducible first | exact HB.out | apply below_alloc | apply pw_below_drewN | apply below_drew1 | refine below_set ?_ GE172.out | refine below_set ?_ GE188.out | refine below_set ?_ GE197.out) | exact HB.out)) hb)
                            clear HO178
                            clear BK172
                            clear BK188
                            clear BK197
                            clear HB
                            have HO178 := n0_
                            have BK172 := n1_
                            have BK188 := n2_
                            have BK197 := n3_
                            have HB := n4_
                            clear n0_ n1_ n2_ n3_ n4_
                            (try clear hb)
                            (try clear hb2)
                            (try clear hk)
                            (try clear hi)
                            refine hK.out _ _ ⟨(blk_cell BK172.out 0).trans rfl, (blk_cell BK172.out 1).trans rfl, (blk_cell BK172.out 2).trans rfl, (blk_cell BK172.out 3).trans rfl, (blk_cell BK172.out 4).trans rfl, (blk_cell BK172.out 5).trans rfl, (blk_cell BK172.out 6).trans rfl, (blk_cell BK188.out 0).trans rfl, (blk_cell BK188.out 1).trans rfl, (blk_cell BK188.out 2).trans rfl, (blk_cell BK188.out 3).trans rfl, (blk_cell BK188.out 4).trans rfl, (blk_cell BK188.out 5).trans rfl, (blk_cell BK188.out 6).trans rfl, ((HB.out.cell (World.block_lt_of_cell? w _ hw198_0)).trans hw198_0)⟩ (fun hHeld => ?_)
                            clear hK K
                            refine norm_ (a' := ?_) ?_ ?_
                            rotate_left
                            · show Act.put _ (some 84) _ = _
                              simp only [Act.put, List.setIfInBounds_toArray, List.set_cons_zero, List.set_cons_succ, i64_w, i32_w]
                              rfl
                            refine one_ (i := 24) (N := some 86) #[true, true, true, true, true, true, true, true, true, true, true, true, true, true, true, true, true, true, true, true, true, true, true, true, true, false, false, false, false] rfl rfl (one_of HT_.out (by kernel_rfl)) (by decide) (fun K hK => ?_)
                            refine goes_ Try.func13 (by kernel_rfl) rfl #[.int .u32 a0] (by rfl) rfl rfl (by (try simp only [List.map_toArray, List.map_cons, List.map_nil]); first | done | rfl | (simp only [List.length_drop, List.length_take]; rfl)) ?_
                            with_reducible refine (part_Size.calls a0 t200 _ A33.out).mono ?_
                            rintro e w51 ⟨rfl, hb⟩
                            refine ⟨_, rfl, ?_⟩
                            have n0_ := Aside0.mk (Kd.R_below (by (with_reducible repeat (first | apply Kd.R_alloc | apply Kd.R_drewN | apply Kd.R_drew)); exact HO178.out) hb)
                            have n1_ := Aside0.mk (blk_below (g := gb172) (o := .cells #[.int .u32 t164, .int .u32 t165, .int .u32 t166, .int .u32 t167, .int .u32 t168, .int .u32 t169, .int .u32 t170] 24 (0, 0)) (by (with_reducible repeat (first | refine blk_drewN ?_ _ | refine blk_drew ?_ | refine blk_alloc ?_ _)); exact BK172.out) hb)
                            have n2_ := Aside0.mk (blk_below (g := gb188) (o := .cells #[.int .u32 t180, .int .u32 t181, .int .u32 t182, .int .u32 t183, .int .u32 t184, .int .u32 t185, .int .u32 t186] 24 (0, 0)) (by (with_reducible repeat (first | refine blk_drewN ?_ _ | refine blk_drew ?_ | refine blk_alloc ?_ _)); exact BK188.out) hb)
                            have n3_ := Aside0.mk (blk_below (g := gb197) (o := .cells #[.int .u32 t189, .int .u32 t190, .int .u32 t191, .int .u32 t192, .int .u32 t193, .int .u32 t194, .int .u32 t195] 24 (0, 0)) (by (with_reducible repeat (first | refine blk_drewN ?_ _ | refine blk_drew ?_ | refine blk_alloc ?_ _)); exact BK197.out) hb)
                            have n4_ := Aside0.mk (below_step (by repeat (first | (with_reducible first | exact HB.out | apply below_alloc | apply pw_below_drewN | apply below_drew1 | refine below_set ?_ GE172.out | refine below_set ?_ GE188.out | refine below_set ?_ GE197.out) | exact HB.out)) hb)
                            clear HO178
                            clear BK172
                            clear BK188
                            clear BK197
                            clear HB
                            have HO178 := n0_
                            have BK172 := n1_
                            have BK188 := n2_
                            have BK197 := n3_
                            have HB := n4_
                            clear n0_ n1_ n2_ n3_ n4_
                            (try clear hb)
                            (try clear hb2)
                            (try clear hk)
                            (try clear hi)
                            refine hK.out _ _ ⟨(blk_cell BK172.out 0).trans rfl, (blk_cell BK172.out 1).trans rfl, (blk_cell BK172.out 2).trans rfl, (blk_cell BK172.out 3).trans rfl, (blk_cell BK172.out 4).trans rfl, (blk_cell BK172.out 5).trans rfl, (blk_cell BK172.out 6).trans rfl, (blk_cell BK188.out 0).trans rfl, (blk_cell BK188.out 1).trans rfl, (blk_cell BK188.out 2).trans rfl, (blk_cell BK188.out 3).trans rfl, (blk_cell BK188.out 4).trans rfl, (blk_cell BK188.out 5).trans rfl, (blk_cell BK188.out 6).trans rfl, ((HB.out.cell (World.block_lt_of_cell? w _ hw198_0)).trans hw198_0)⟩ (fun hHeld => ?_)
                            clear hK K
                            refine norm_ (a' := ?_) ?_ ?_
                            rotate_left
                            · show Act.put _ (some 86) _ = _
                              simp only [Act.put, List.setIfInBounds_toArray, List.set_cons_zero, List.set_cons_succ, i64_w, i32_w]
                              rfl
                            refine pure_ (i := 25) (N := some 87) (v := ?_) (a' := ?_) #[true, true, true, true, true, true, true, true, true, true, true, true, true, true, true, true, true, true, true, true, true, true, true, true, true, true, false, false, false] rfl rfl (any_of HT_.out (by kernel_rfl)) (fun _ _ _ h => h) (Or.inl ⟨by rfl, ?_⟩) ?_ ?_
                            rotate_left
                            · intro w'
                              go_simp
                              with_reducible rfl
                            rotate_left
                            · simp only [Act.put, List.setIfInBounds_toArray, List.set_cons_zero, List.set_cons_succ, i64_w, i32_w]
                              rfl
                            refine pure_ (i := 26) (N := some 88) (v := ?_) (a' := ?_) #[true, true, true, true, true, true, true, true, true, true, true, true, true, true, true, true, true, true, true, true, true, true, true, true, true, true, true, false, false] rfl rfl (any_of HT_.out (by kernel_rfl)) (fun _ _ _ h => h) (Or.inl ⟨by rfl, ?_⟩) ?_ ?_
                            rotate_left
                            · intro w'
                              go_simp
                              with_reducible rfl
                            rotate_left
                            · simp only [Act.put, List.setIfInBounds_toArray, List.set_cons_zero, List.set_cons_succ, i64_w, i32_w]
                              rfl
                            refine pure_ (i := 27) (N := some 89) (v := ?_) (a' := ?_) #[true, true, true, true, true, true, true, true, true, true, true, true, true, true, true, true, true, true, true, true, true, true, true, true, true, true, true, true, false] rfl rfl (any_of HT_.out (by kernel_rfl)) (fun _ _ _ h => h) (Or.inl ⟨by rfl, ?_⟩) ?_ ?_
                            rotate_left
                            · intro w'
                              go_simp
                              with_reducible rfl
                            rotate_left
                            · simp only [Act.put, List.setIfInBounds_toArray, List.set_cons_zero, List.set_cons_succ, i64_w, i32_w]
                              rfl
                            refine pure_ (i := 28) (N := some 10) (v := ?_) (a' := ?_) #[true, true, true, true, true, true, true, true, true, true, true, true, true, true, true, true, true, true, true, true, true, true, true, true, true, true, true, true, true] rfl rfl (any_of HT_.out (by kernel_rfl)) (fun _ _ _ h => h) (Or.inl ⟨by rfl, ?_⟩) ?_ ?_
                            rotate_left
                            · intro w'
                              go_simp
                              with_reducible rfl
                            rotate_left
                            · simp only [Act.put, List.setIfInBounds_toArray, List.set_cons_zero, List.set_cons_succ, i64_w, i32_w]
                              rfl
                            refine done_ (done_of HT_.out (by kernel_rfl)) ?_
                            try go_wp2
                            go_ret
                            exact ⟨by first | rfl | (simp [errW_none, errW_some] <;> rfl) | (simp only [← hji23]; first | rfl | (simp [errW_none, errW_some] <;> rfl)) | (simp [*, errW_none, errW_some] <;> rfl), by repeat (first | (with_reducible first | exact HB.out | apply below_alloc | apply pw_below_drewN | apply below_drew1 | refine below_set ?_ GE172.out | refine below_set ?_ GE188.out | refine below_set ?_ GE197.out) | exact HB.out)⟩
                          · rw [if_neg c31] at H
                            have c31b0 : ((t164 == t180 && (t165 == t181 && (t166 == t182 && (t167 == t183 && (t168 == t184 && (t169 == t185 && (t170 == t186))))))) == ((rd l1 (ji23)) == a3)) = false := by simpa using c31
                            (try (have c31b1 : decide ((t164 == t180 && (t165 == t181 && (t166 == t182 && (t167 == t183 && (t168 == t184 && (t169 == t185 && (t170 == t186))))))) = ((rd l1 (ji23)) == a3)) = false := by simpa using c31))
                            (try (have c31b2 : ((t164 == t180 && (t165 == t181 && (t166 == t182 && (t167 == t183 && (t168 == t184 && (t169 == t185 && (t170 == t186))))))) == ((rd l1 (ji23)) == a3)) = false := by simpa using c31))
                            (try (have c31b3 : ¬ ((t164 == t180 && (t165 == t181 && (t166 == t182 && (t167 == t183 && (t168 == t184 && (t169 == t185 && (t170 == t186))))))) = ((rd l1 (ji23)) == a3)) := by simpa using c31))
                            clear c31
                            exact absurd (hT.out.symm.trans (Option.some.inj H).symm) (by decide)
                        · rw [if_neg c30] at H
                          exact absurd H (by simp)
                      · rw [if_neg c29] at H
                        have c29b0 : (t187 == 0) = false := beq_eq_false_iff_ne.mpr c29
                        have c29b1 : (t187 != 0) = true := bne_iff_ne.mpr c29
                        exact absurd (hT.out.symm.trans (Option.some.inj H).symm) (by decide)
                    · rw [if_neg c25] at H
                      exact absurd H (by simp)
                  · rw [if_neg c24] at H
                    exact absurd H (by simp)
              · rw [if_neg c21] at H
                exact absurd H (by simp)

/-- THE ONE PURE STATEMENT of chamberlainlaw11_PartWords: yours. -/
def chamberlainlaw11_PartWords.Pure : Prop := ∀ (a0 : Int) (l1 : List Int) (a2 : Int) (a3 : Int) (a4 : Int), (Lit.int .u32 a0).wf = true → l1.length ≤ maxLen → l1.length * 4 ≤ 140737488351232 → (∀ x ∈ l1, (Lit.int .u32 x).wf = true) → (Lit.int .u8 a2).wf = true → (Lit.int .u32 a3).wf = true → (Lit.int .u32 a4).wf = true → ∃ k, chamberlainlaw11_PartWords.f k a0 l1 a2 a3 a4 = some true
theorem chamberlainlaw11_PartWords.walk (P : chamberlainlaw11_PartWords.Pure) (a0 : Int) (a1 : Option Addr) (len1 cap1 : Nat) (z1 : List Int) (a2 : Int) (a3 : Int) (a4 : Int) (w : World) (w0 : (Lit.int .u32 a0).wf = true) (w1 : (a1 = none ∧ len1 = 0 ∧ cap1 = 0 ∧ z1 = []) ∨ ∃ x, a1 = some x ∧ len1 ≤ cap1 ∧ cap1 ≤ maxLen ∧ z1.length = cap1 ∧ (∀ i, i < z1.length → w.cell? (x.add i) = some (.int .u32 (z1.getD i 0))) ∧ ∀ n ∈ z1, (Lit.int .u32 n).wf = true) (y1 : len1 * 4 ≤ 140737488351232) (w2 : (Lit.int .u8 a2).wf = true) (w3 : (Lit.int .u32 a3).wf = true) (w4 : (Lit.int .u32 a4).wf = true) :
    Calls Try.prog 7 #[.int .u32 a0, .slice a1 len1 cap1, .int .u8 a2, .int .u32 a3, .int .u32 a4] w fun e w' => e = .returned (.bool true) ∧ Below w.heap.size w w' := by
  obtain ⟨l1, rfl, hr1, hm1, hw1, hc1⟩ := ReadsInt.ofRowC w1
  obtain ⟨k, h⟩ := P a0 l1 a2 a3 a4 w0 hm1 y1 hw1 w2 w3 w4
  refine (chamberlainlaw11_PartWords.calls k a0 _ _ l1 a2 a3 a4 true w (Kd.C_of_reads (d := (0 : Int)) (h1 := fun _ => rfl) hr1) hc1 h rfl).mono ?_
  rintro e w' ⟨rfl, hd⟩
  exact ⟨rfl, hd⟩

end Go.Proofs.Ytpbmmompbknimaa.PPartWords
