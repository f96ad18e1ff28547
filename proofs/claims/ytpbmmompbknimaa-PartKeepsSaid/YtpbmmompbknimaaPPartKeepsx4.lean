-- Written for this claim by wip/tools/myprint.py (print.py's forms; proofs of the faked functions by hand).
import Derived.Test.YtpbmmompbknimaaPPartKeepsx0
import Derived.Test.YtpbmmompbknimaaPPartKeepsx2
import Derived.Test.YtpbmmompbknimaaPPartKeepsx3
namespace Go.Proofs.Ytpbmmompbknimaa.PPartKeeps
open Go.RowKit Go.Proofs.YtpbmmompbknimaaW.PrintWords Go.Proofs.YtpbmmompbknimaaW.PrintLast Go.Proofs.YtpbmmompbknimaaW.PrintMore
attribute [local go_sem] max2_int min2_int max_two min_two max_three min_three max_four min_four   -- for this text's walks alone
set_option linter.unusedVariables false
set_option linter.unusedSimpArgs false

/-! ### chamberlainlaw11_PartKeeps: function 6 -/
mutual
def chamberlainlaw11_PartKeeps.j0 : Nat → Int → List Int → Bool → Option (Bool)
  | 0, _, _, _ => none
  | k + 1, x0, x1, x19 => if x19 = true then ((chamberlainlaw11_awake.f k).bind fun t163 => (some t163)) else ((some (([] : List Int) : List Int)).bind fun y164 => (if y164.length + x1.length < 35184372088832 then ((some (y164 ++ x1 : List Int)).bind fun y167 => ((part_Get.f x0 y167).bind fun bt170 => ((chamberlainref01_Same.f k y167 x1).bind fun t179 => (if t179 = true then (chamberlainlaw11_PartKeeps.j1 k x0 x1 y167 (bt170.2.2.2.2.2.2.2 != 0) bt170.1 bt170.2.1 bt170.2.2.1 bt170.2.2.2.1 bt170.2.2.2.2.1 bt170.2.2.2.2.2.1 bt170.2.2.2.2.2.2.1) else (chamberlainlaw11_PartKeeps.j1 k x0 x1 y167 true bt170.1 bt170.2.1 bt170.2.2.1 bt170.2.2.2.1 bt170.2.2.2.2.1 bt170.2.2.2.2.2.1 bt170.2.2.2.2.2.2.1))))) else (none)))
def chamberlainlaw11_PartKeeps.j1 : Nat → Int → List Int → List Int → Bool → Int → Int → Int → Int → Int → Int → Int → Option (Bool)
  | 0, _, _, _, _, _, _, _, _, _, _, _ => none
  | k + 1, x0, x1, x5, x37, x179000, x179001, x179002, x179003, x179004, x179005, x179006 => if x37 = true then ((chamberlainref01_Same.f k x5 x1).bind fun t180 => (some t180)) else ((part_Put.f x0 x179000 x179001 x179002 x179003 x179004 x179005 x179006).bind fun bt181 => (chamberlainlaw11_PartKeeps.l0 k x0 x1 bt181.1 0 x179000 x179001 x179002 x179003 x179004 x179005 x179006))
def chamberlainlaw11_PartKeeps.l0 : Nat → Int → List Int → List Int → Int → Int → Int → Int → Int → Int → Int → Int → Option (Bool)
  | 0, _, _, _, _, _, _, _, _, _, _, _ => none
  | k + 1, x0, x1, x8, x10, x179000, x179001, x179002, x179003, x179004, x179005, x179006 => if x10 < (x8.length : Int) then (if 0 ≤ x10 then (chamberlainlaw11_PartKeeps.l0 k x0 x1 (x8.set (x10 : Int).toNat 4) (wrap64 (x10 + 1)) x179000 x179001 x179002 x179003 x179004 x179005 x179006) else (none)) else ((part_Put.f x0 x179000 x179001 x179002 x179003 x179004 x179005 x179006).bind fun bt186 => (if bt186.2 = 0 then ((chamberlainref01_Same.f k bt186.1 x1).bind fun t190 => (some t190)) else (some false)))
end
def chamberlainlaw11_PartKeeps.f (k : Nat) (a0 : Int) (l1 : List Int) : Option (Bool) := (chamberlainlaw11_awake.f k).bind fun t162 => (if t162 = true then (chamberlainlaw11_PartKeeps.j0 k a0 l1 (decide ((l1.length : Int) > 100))) else (chamberlainlaw11_PartKeeps.j0 k a0 l1 true))
theorem chamberlainlaw11_PartKeeps.mono_l : ∀ k, (∀ y0 y1 y2, LeO (chamberlainlaw11_PartKeeps.j0 k y0 y1 y2) (chamberlainlaw11_PartKeeps.j0 (k + 1) y0 y1 y2)) ∧ (∀ y0 y1 y2 y3 y4 y5 y6 y7 y8 y9 y10, LeO (chamberlainlaw11_PartKeeps.j1 k y0 y1 y2 y3 y4 y5 y6 y7 y8 y9 y10) (chamberlainlaw11_PartKeeps.j1 (k + 1) y0 y1 y2 y3 y4 y5 y6 y7 y8 y9 y10)) ∧ (∀ y0 y1 y2 y3 y4 y5 y6 y7 y8 y9 y10, LeO (chamberlainlaw11_PartKeeps.l0 k y0 y1 y2 y3 y4 y5 y6 y7 y8 y9 y10) (chamberlainlaw11_PartKeeps.l0 (k + 1) y0 y1 y2 y3 y4 y5 y6 y7 y8 y9 y10))
  | 0 => ⟨fun _ _ _ r h => by simp [chamberlainlaw11_PartKeeps.j0] at h, fun _ _ _ _ _ _ _ _ _ _ _ r h => by simp [chamberlainlaw11_PartKeeps.j1] at h, fun _ _ _ _ _ _ _ _ _ _ _ r h => by simp [chamberlainlaw11_PartKeeps.l0] at h⟩
  | k + 1 => by
    obtain ⟨ih0, ih1, ih2⟩ := chamberlainlaw11_PartKeeps.mono_l k
    refine ⟨?_, ?_, ?_⟩
    · intro y0 y1 y2
      unfold chamberlainlaw11_PartKeeps.j0
      repeat' first
      | (with_reducible exact ih0 _ _ _)
      | (with_reducible exact ih1 _ _ _ _ _ _ _ _ _ _ _)
      | (with_reducible exact ih2 _ _ _ _ _ _ _ _ _ _ _)
      | (with_reducible exact chamberlainlaw11_awake.mono _)
      | (with_reducible exact chamberlainref01_Same.mono _ _ _)
      | (with_reducible exact LeO.refl _)
      | (with_reducible exact LeO.none _)
      | (with_reducible refine LeO.ite ?_ ?_)
      | (with_reducible refine LeO.bind ?_ (fun _ => ?_))
      | exact ih0 _ _ _
      | exact ih1 _ _ _ _ _ _ _ _ _ _ _
      | exact ih2 _ _ _ _ _ _ _ _ _ _ _
      | exact chamberlainlaw11_awake.mono _
      | exact chamberlainref01_Same.mono _ _ _
      | exact LeO.none _
      | refine LeO.ite ?_ ?_
      | refine LeO.bind ?_ (fun _ => ?_)
    · intro y0 y1 y2 y3 y4 y5 y6 y7 y8 y9 y10
      unfold chamberlainlaw11_PartKeeps.j1
      repeat' first
      | (with_reducible exact ih0 _ _ _)
      | (with_reducible exact ih1 _ _ _ _ _ _ _ _ _ _ _)
      | (with_reducible exact ih2 _ _ _ _ _ _ _ _ _ _ _)
      | (with_reducible exact chamberlainlaw11_awake.mono _)
      | (with_reducible exact chamberlainref01_Same.mono _ _ _)
      | (with_reducible exact LeO.refl _)
      | (with_reducible exact LeO.none _)
      | (with_reducible refine LeO.ite ?_ ?_)
      | (with_reducible refine LeO.bind ?_ (fun _ => ?_))
      | exact ih0 _ _ _
      | exact ih1 _ _ _ _ _ _ _ _ _ _ _
      | exact ih2 _ _ _ _ _ _ _ _ _ _ _
      | exact chamberlainlaw11_awake.mono _
      | exact chamberlainref01_Same.mono _ _ _
      | exact LeO.none _
      | refine LeO.ite ?_ ?_
      | refine LeO.bind ?_ (fun _ => ?_)
    · intro y0 y1 y2 y3 y4 y5 y6 y7 y8 y9 y10
      unfold chamberlainlaw11_PartKeeps.l0
      repeat' first
      | (with_reducible exact ih0 _ _ _)
      | (with_reducible exact ih1 _ _ _ _ _ _ _ _ _ _ _)
      | (with_reducible exact ih2 _ _ _ _ _ _ _ _ _ _ _)
      | (with_reducible exact chamberlainlaw11_awake.mono _)
      | (with_reducible exact chamberlainref01_Same.mono _ _ _)
      | (with_reducible exact LeO.refl _)
      | (with_reducible exact LeO.none _)
      | (with_reducible refine LeO.ite ?_ ?_)
      | (with_reducible refine LeO.bind ?_ (fun _ => ?_))
      | exact ih0 _ _ _
      | exact ih1 _ _ _ _ _ _ _ _ _ _ _
      | exact ih2 _ _ _ _ _ _ _ _ _ _ _
      | exact chamberlainlaw11_awake.mono _
      | exact chamberlainref01_Same.mono _ _ _
      | exact LeO.none _
      | refine LeO.ite ?_ ?_
      | refine LeO.bind ?_ (fun _ => ?_)
theorem chamberlainlaw11_PartKeeps.mono : ∀ a0 a1 k, LeO (chamberlainlaw11_PartKeeps.f k a0 a1) (chamberlainlaw11_PartKeeps.f (k + 1) a0 a1) := by
  intro a0 a1 k
  obtain ⟨ih0, ih1, ih2⟩ := chamberlainlaw11_PartKeeps.mono_l k
  unfold chamberlainlaw11_PartKeeps.f
  repeat' first
      | (with_reducible exact ih0 _ _ _)
      | (with_reducible exact ih1 _ _ _ _ _ _ _ _ _ _ _)
      | (with_reducible exact ih2 _ _ _ _ _ _ _ _ _ _ _)
      | (with_reducible exact chamberlainlaw11_awake.mono _)
      | (with_reducible exact chamberlainref01_Same.mono _ _ _)
      | (with_reducible exact LeO.refl _)
      | (with_reducible exact LeO.none _)
      | (with_reducible refine LeO.ite ?_ ?_)
      | (with_reducible refine LeO.bind ?_ (fun _ => ?_))
      | exact ih0 _ _ _
      | exact ih1 _ _ _ _ _ _ _ _ _ _ _
      | exact ih2 _ _ _ _ _ _ _ _ _ _ _
      | exact chamberlainlaw11_awake.mono _
      | exact chamberlainref01_Same.mono _ _ _
      | exact LeO.none _
      | refine LeO.ite ?_ ?_
      | refine LeO.bind ?_ (fun _ => ?_)
set_option maxHeartbeats 8000000 in
set_option maxRecDepth 100000 in
theorem chamberlainlaw11_PartKeeps.calls (k : Nat) (a0 : Int) (A1 : Option Addr) (c1 : Nat) (l1 : List Int) (r : Bool) (w : World) (hr1 : Kd.C (Kd.int .u32) w A1 l1.length l1) (hc1 : l1.length ≤ c1) (h : chamberlainlaw11_PartKeeps.f k a0 l1 = some r) (hT0 : r = true) :
    Calls Try.prog 6 #[.int .u32 a0, .slice A1 l1.length c1] w fun e w' => e = .returned (.bool r) ∧ Below w.heap.size w w' := by
  have hT := Aside0.mk hT0
  clear hT0
  have hu24 := Try.underlying24
  have HR1 := Aside0.mk hr1
  have HC1 := Aside0.mk hc1
  clear hr1 hc1
  have HB := Aside0.mk (Below.refl w.heap.size w)
  have H : ((chamberlainlaw11_awake.f k).bind fun t162 => (if t162 = true then (chamberlainlaw11_PartKeeps.j0 k a0 l1 (decide ((l1.length : Int) > 100))) else (chamberlainlaw11_PartKeeps.j0 k a0 l1 true))) = some r := h
  clear h
  have HC3 := Aside0.mk H
  clear H
  go_enter Try.func6, Try.ntmps6
  go_upto_region 1 with (fail)
  go_cut [19] (fun v19 wc => ∃ (kq : Nat) (x19_2 : Bool), v19 = .bool x19_2 ∧ Aside0 (chamberlainlaw11_PartKeeps.j0 kq a0 l1 x19_2 = some r) ∧ Aside0 (kq ≤ k) ∧ Aside0 (Below w.heap.size w wc))
  case first =>
    have H := HC3.out
    clear HC3
    replace H := Option.bind_eq_some_iff.mp H
    obtain ⟨t162, A40, H⟩ := H
    replace H : (if t162 = true then (chamberlainlaw11_PartKeeps.j0 k a0 l1 (decide ((l1.length : Int) > 100))) else (chamberlainlaw11_PartKeeps.j0 k a0 l1 true)) = some r := H
    have A4 := Aside0.mk A40
    clear A40
    by_cases c5 : t162 = true
    · subst c5
      have H1 : (chamberlainlaw11_PartKeeps.j0 k a0 l1 (decide ((l1.length : Int) > 100))) = some r := by rw [if_pos rfl] at H; exact H
      clear H
      have H := H1
      clear H1
      have H' := Aside0.mk H
      clear H
      go_wp2_with (first | ((with_reducible refine gate_callee (f := 8) rfl ?_); refine goesL_ (some 13) rfl rfl Try.func8 (by kernel_rfl) rfl #[] rfl (by (try simp only [List.map_toArray, List.map_cons, List.map_nil]); first | done | rfl | (simp only [List.length_drop, List.length_take]; rfl)) ?_; (with_reducible refine (chamberlainlaw11_awake.calls k  true _ A4.out).mono ?_); rintro e w6 ⟨rfl, hb⟩; refine ⟨_, rfl, ?_⟩; have n0_ := Aside0.mk (below_step (by repeat (first | (with_reducible first | exact HB.out | apply below_alloc | apply pw_below_drewN | apply below_drew1) | exact HB.out)) hb); clear HB; have HB := n0_; clear n0_; (try clear hb); (try clear hb2); (try clear hk); (try clear hi)))
      go_meet
      case rel => exact ⟨_, (decide ((l1.length : Int) > 100)), (by first | rfl | (simp; done) | (simp [*]; done)), H', ⟨by first | omega | exact Nat.le_refl _⟩, ⟨by repeat (first | (with_reducible first | exact HB.out | apply below_alloc | apply pw_below_drewN | apply below_drew1) | exact HB.out)⟩⟩
    · replace c5 := Bool.eq_false_iff.mpr c5
      subst c5
      have H1 : (chamberlainlaw11_PartKeeps.j0 k a0 l1 true) = some r := by rw [if_neg (show ¬ (false = true) by decide)] at H; exact H
      clear H
      have H := H1
      clear H1
      have H' := Aside0.mk H
      clear H
      go_wp2_with (first | ((with_reducible refine gate_callee (f := 8) rfl ?_); refine goesL_ (some 13) rfl rfl Try.func8 (by kernel_rfl) rfl #[] rfl (by (try simp only [List.map_toArray, List.map_cons, List.map_nil]); first | done | rfl | (simp only [List.length_drop, List.length_take]; rfl)) ?_; (with_reducible refine (chamberlainlaw11_awake.calls k  false _ A4.out).mono ?_); rintro e w7 ⟨rfl, hb⟩; refine ⟨_, rfl, ?_⟩; have n0_ := Aside0.mk (below_step (by repeat (first | (with_reducible first | exact HB.out | apply below_alloc | apply pw_below_drewN | apply below_drew1) | exact HB.out)) hb); clear HB; have HB := n0_; clear n0_; (try clear hb); (try clear hb2); (try clear hk); (try clear hi)))
      go_meet
      case rel => exact ⟨_, (true), (by first | rfl | (simp; done) | (simp [*]; done)), H', ⟨by first | omega | exact Nat.le_refl _⟩, ⟨by repeat (first | (with_reducible first | exact HB.out | apply below_alloc | apply pw_below_drewN | apply below_drew1) | exact HB.out)⟩⟩
  case rest =>
    clear HC3
    try clear c1
    try clear p2
    try clear c5
    try clear c6
    obtain ⟨kq, x19_2, rfl, HA, HJ2, HB⟩ := hcut
    cases kq with
    | zero => exact absurd HA.out (by simp [chamberlainlaw11_PartKeeps.j0])
    | succ kj2 =>
      have H := HA.out
      clear HA
      simp only [chamberlainlaw11_PartKeeps.j0] at H
      by_cases c8 : x19_2 = true
      · subst c8
        have H1 : ((chamberlainlaw11_awake.f kj2).bind fun t163 => (some t163)) = some r := by rw [if_pos rfl] at H; exact H
        clear H
        have H := H1
        clear H1
        replace H := Option.bind_eq_some_iff.mp H
        obtain ⟨t163, A90, H⟩ := H
        replace H : (some t163) = some r := H
        have A9 := Aside0.mk A90
        clear A90
        obtain rfl := Option.some.inj H
        go_wp2_with (first | ((with_reducible refine gate_callee (f := 8) rfl ?_); refine goesL_ (some 20) rfl rfl Try.func8 (by kernel_rfl) rfl #[] rfl (by (try simp only [List.map_toArray, List.map_cons, List.map_nil]); first | done | rfl | (simp only [List.length_drop, List.length_take]; rfl)) ?_; (with_reducible refine (chamberlainlaw11_awake.calls kj2  t163 _ A9.out).mono ?_); rintro e w10 ⟨rfl, hb⟩; refine ⟨_, rfl, ?_⟩; have n0_ := Aside0.mk (below_step (by repeat (first | (with_reducible first | exact HB.out | apply below_alloc | apply pw_below_drewN | apply below_drew1) | exact HB.out)) hb); clear HB; have HB := n0_; clear n0_; (try clear hb); (try clear hb2); (try clear hk); (try clear hi)))
        go_ret
        exact ⟨by first | rfl | (simp [errW_none, errW_some] <;> rfl) | (simp [*, errW_none, errW_some] <;> rfl), by repeat (first | (with_reducible first | exact HB.out | apply below_alloc | apply pw_below_drewN | apply below_drew1) | exact HB.out)⟩
      · replace c8 := Bool.eq_false_iff.mpr c8
        subst c8
        have H1 : ((some (([] : List Int) : List Int)).bind fun y164 => (if y164.length + l1.length < 35184372088832 then ((some (y164 ++ l1 : List Int)).bind fun y167 => ((part_Get.f a0 y167).bind fun bt170 => ((chamberlainref01_Same.f kj2 y167 l1).bind fun t179 => (if t179 = true then (chamberlainlaw11_PartKeeps.j1 kj2 a0 l1 y167 (bt170.2.2.2.2.2.2.2 != 0) bt170.1 bt170.2.1 bt170.2.2.1 bt170.2.2.2.1 bt170.2.2.2.2.1 bt170.2.2.2.2.2.1 bt170.2.2.2.2.2.2.1) else (chamberlainlaw11_PartKeeps.j1 kj2 a0 l1 y167 true bt170.1 bt170.2.1 bt170.2.2.1 bt170.2.2.2.1 bt170.2.2.2.2.1 bt170.2.2.2.2.2.1 bt170.2.2.2.2.2.2.1))))) else (none))) = some r := by rw [if_neg (show ¬ (false = true) by decide)] at H; exact H
        clear H
        have H := H1
        clear H1
        obtain ⟨y164, hy164⟩ : ∃ y_ : List Int, y_ = (([] : List Int)) := ⟨_, rfl⟩
        replace H : (if y164.length + l1.length < 35184372088832 then ((some (y164 ++ l1 : List Int)).bind fun y167 => ((part_Get.f a0 y167).bind fun bt170 => ((chamberlainref01_Same.f kj2 y167 l1).bind fun t179 => (if t179 = true then (chamberlainlaw11_PartKeeps.j1 kj2 a0 l1 y167 (bt170.2.2.2.2.2.2.2 != 0) bt170.1 bt170.2.1 bt170.2.2.1 bt170.2.2.2.1 bt170.2.2.2.2.1 bt170.2.2.2.2.2.1 bt170.2.2.2.2.2.2.1) else (chamberlainlaw11_PartKeeps.j1 kj2 a0 l1 y167 true bt170.1 bt170.2.1 bt170.2.2.1 bt170.2.2.2.1 bt170.2.2.2.2.1 bt170.2.2.2.2.2.1 bt170.2.2.2.2.2.2.1))))) else (none)) = some r := by first | (rw [hy164]; with_reducible exact H) | (have H2_ := (Option.bind_some _ _).symm.trans H; rw [hy164]; with_reducible exact H2_) | (have H2_ := (Option.bind_some _ _).symm.trans H; with_reducible exact H2_) | with_reducible exact H | (rw [hy164]; exact H) | exact H
        have Ny164 := Aside0.mk hy164
        clear hy164
        by_cases c11 : y164.length + l1.length < 35184372088832
        · rw [if_pos c11] at H
          have LMc11 := Aside0.mk c11
          clear c11
          obtain ⟨y167, hy167⟩ : ∃ y_ : List Int, y_ = (y164 ++ l1) := ⟨_, rfl⟩
          replace H : ((part_Get.f a0 y167).bind fun bt170 => ((chamberlainref01_Same.f kj2 y167 l1).bind fun t179 => (if t179 = true then (chamberlainlaw11_PartKeeps.j1 kj2 a0 l1 y167 (bt170.2.2.2.2.2.2.2 != 0) bt170.1 bt170.2.1 bt170.2.2.1 bt170.2.2.2.1 bt170.2.2.2.2.1 bt170.2.2.2.2.2.1 bt170.2.2.2.2.2.2.1) else (chamberlainlaw11_PartKeeps.j1 kj2 a0 l1 y167 true bt170.1 bt170.2.1 bt170.2.2.1 bt170.2.2.2.1 bt170.2.2.2.2.1 bt170.2.2.2.2.2.1 bt170.2.2.2.2.2.2.1)))) = some r := by first | (rw [hy167]; with_reducible exact H) | (have H2_ := (Option.bind_some _ _).symm.trans H; rw [hy167]; with_reducible exact H2_) | (have H2_ := (Option.bind_some _ _).symm.trans H; with_reducible exact H2_) | with_reducible exact H | (rw [hy167]; exact H) | exact H
          have Ny167 := Aside0.mk hy167
          clear hy167
          replace H := Option.bind_eq_some_iff.mp H
          obtain ⟨⟨t170, t171, t172, t173, t174, t175, t176, t177⟩, A120, H⟩ := H
          replace H : ((chamberlainref01_Same.f kj2 y167 l1).bind fun t179 => (if t179 = true then (chamberlainlaw11_PartKeeps.j1 kj2 a0 l1 y167 (t177 != 0) t170 t171 t172 t173 t174 t175 t176) else (chamberlainlaw11_PartKeeps.j1 kj2 a0 l1 y167 true t170 t171 t172 t173 t174 t175 t176))) = some r := H
          have A12 := Aside0.mk A120
          clear A120
          have HC13 := Aside0.mk H
          clear H
          go_upto_region 5 with (first | ((with_reducible refine gate_dst (N := 21) rfl ?_); (try (refine gate_guard (by rfl) ?_; dsimp only)); refine Kd.R_lit (Kd.int .u32) _ 22 ?hg (N := 21) ?hd (xs := ([] : List Int)) (inner := []) (ok := fun _ => True) (okp := fun _ => True) ?hr ?hp (fun _ hk => hk) trivial (Below.refl _ _) (Nat.le_refl _) (by simp) ?_; (case hd => rfl); (case hg => rfl); (case hr => first | (go_simp; done) | (go_simp; rfl)); (case hp => exact (Reps.none _ _)); intro v165 w14 ho15 hb hg_ hnew_; clear hg_ hnew_; (first | rw [← Ny164.out] at ho15 | (simp only [Int.reduceToNat] at ho15; rw [← Ny164.out] at ho15)); have n0_ := Aside0.mk (Kd.R_lower ho15 (below_size (by repeat (first | (with_reducible first | exact HB.out | apply below_alloc | apply pw_below_drewN | apply below_drew1) | exact HB.out)))); have n1_ := Aside0.mk (below_step (by repeat (first | (with_reducible first | exact HB.out | apply below_alloc | apply pw_below_drewN | apply below_drew1) | exact HB.out)) hb); clear HB; have HO166 := n0_; have HB := n1_; clear n0_ n1_; clear hb ho15) | ((with_reducible refine gate_builtin (b := .append) (xs := #[.tmp 21, .tmp 22]) rfl ?_); (try (refine gate_guard (by rfl) ?_; dsimp only)); at_builtin; refine Kd.R_append_rows (Kd.int .u32) (w0 := w) w.heap.size rfl (.tmp 21) (.tmp 22) 26 22 (.int .u32 0) 4 rfl Try.underlying26 info22 rfl (by decide) (by omega) v165 y164 l1 _ _ _ (fun _ => True) (fun _ => False) rfl rfl ?aO ?aR (fun _ _ h => h) (fun _ h => h.elim) ?aF ?aB ?aS ?aL ?_; (case aR => repeat (first | exact (Kd.C_below HR1.out HB.out) | (with_reducible refine Kd.C_alloc ?_ _) | (with_reducible refine Kd.C_drewN ?_ _) | (with_reducible refine Kd.C_drew ?_))); (case aB => exact (by repeat (first | (with_reducible first | exact HB.out | apply below_alloc | apply pw_below_drewN | apply below_drew1) | exact HB.out))); (case aF => exact (fun _ _ => trivial)); (case aO => exact (by (with_reducible repeat (first | apply Kd.R_alloc | apply Kd.R_drewN | apply Kd.R_drew)); exact HO166.out)); (case aS => exact (below_size (by repeat (first | (with_reducible first | exact HB.out | apply below_alloc | apply pw_below_drewN | apply below_drew1) | exact HB.out)))); (case aL => have := LMc11.out; omega); intro v168 w16 ho hb hg hat; rw [← Ny167.out] at ho; have n0_ := Aside0.mk (hb); have n1_ := Aside0.mk (ho); clear HB; clear HO166; have HB := n0_; have HO169 := n1_; clear n0_ n1_; clear ho hb hg hat; obtain ⟨Ao17, co17, eo17⟩ := Kd.R_slice HO169.out; subst eo17) | ((with_reducible refine gate_callee (f := 15) rfl ?_); refine goesL_ (some 27) rfl rfl Try.func15 (by kernel_rfl) rfl #[.int .u32 a0, .slice Ao17 y167.length co17] rfl (by (try simp only [List.map_toArray, List.map_cons, List.map_nil]); first | done | rfl | (simp only [List.length_drop, List.length_take]; rfl)) ?_; (with_reducible refine (part_Get.calls a0 _ _ y167 t170 t171 t172 t173 t174 t175 t176 t177 _ ?side1 ?side2 A12.out).mono ?_); (case side1 => repeat (first | exact (Kd.R_reads' HO169.out).2.2 | (with_reducible refine Kd.C_alloc ?_ _) | (with_reducible refine Kd.C_drewN ?_ _) | (with_reducible refine Kd.C_drew ?_))); (case side2 => exact (Kd.R_reads' HO169.out).2.1); rintro e w18 ⟨rfl, hb⟩; refine ⟨_, rfl, ?_⟩; have n0_ := Aside0.mk (Kd.R_below (by (with_reducible repeat (first | apply Kd.R_alloc | apply Kd.R_drewN | apply Kd.R_drew)); exact HO169.out) hb); have n1_ := Aside0.mk (below_step (by repeat (first | (with_reducible first | exact HB.out | apply below_alloc | apply pw_below_drewN | apply below_drew1) | exact HB.out)) hb); clear HO169; clear HB; have HO169 := n0_; have HB := n1_; clear n0_ n1_; (try clear hb); (try clear hb2); (try clear hk); (try clear hi)) | ((with_reducible refine gate_dst (N := 6) rfl ?_); (try (refine gate_guard (by rfl) ?_; dsimp only)); refine box_event ?hg (N := 6) ?hd (cs := #[.int .u32 0, .int .u32 0, .int .u32 0, .int .u32 0, .int .u32 0, .int .u32 0, .int .u32 0]) (t := 24) ?hr ?_; (case hd => rfl); (case hg => rfl); (case hr => first | (go_simp; done) | (go_simp; rfl)); intro gb178 hg w19 hbox hb; have n0_ := Aside0.mk (Kd.R_below (by (with_reducible repeat (first | apply Kd.R_alloc | apply Kd.R_drewN | apply Kd.R_drew)); exact HO169.out) hb); have n1_ := Aside0.mk (below_step (by repeat (first | (with_reducible first | exact HB.out | apply below_alloc | apply pw_below_drewN | apply below_drew1) | exact HB.out)) hb); have n2_ := Aside0.mk (hbox); have n3_ := Aside0.mk ((by rw [hg]; exact (below_size (by repeat (first | (with_reducible first | exact HB.out | apply below_alloc | apply pw_below_drewN | apply below_drew1) | exact HB.out))) : w.heap.size ≤ gb178)); have n4_ := Aside0.mk ((by rw [hg]; exact (below_size (by repeat (first | (with_reducible first | exact HB.out | apply below_alloc | apply pw_below_drewN | apply below_drew1) | exact HB.out))) : w.heap.size ≤ gb178)); clear HO169; clear HB; have HO169 := n0_; have HB := n1_; have BK178 := n2_; have GW178 := n3_; have GE178 := n4_; clear n0_ n1_ n2_ n3_ n4_; clear hb hbox hg; have hcz20_0 : w19.cell? ⟨gb178, 0, none⟩ = some (.int .u32 0) := (blk_cell BK178.out 0).trans rfl; have hcz20_1 : w19.cell? ⟨gb178, 1, none⟩ = some (.int .u32 0) := (blk_cell BK178.out 1).trans rfl; have hcz20_2 : w19.cell? ⟨gb178, 2, none⟩ = some (.int .u32 0) := (blk_cell BK178.out 2).trans rfl; have hcz20_3 : w19.cell? ⟨gb178, 3, none⟩ = some (.int .u32 0) := (blk_cell BK178.out 3).trans rfl; have hcz20_4 : w19.cell? ⟨gb178, 4, none⟩ = some (.int .u32 0) := (blk_cell BK178.out 4).trans rfl; have hcz20_5 : w19.cell? ⟨gb178, 5, none⟩ = some (.int .u32 0) := (blk_cell BK178.out 5).trans rfl; have hcz20_6 : w19.cell? ⟨gb178, 6, none⟩ = some (.int .u32 0) := (blk_cell BK178.out 6).trans rfl; have hfz20_0 := blk_frozen BK178.out 0; have hfz20_1 := blk_frozen BK178.out 1; have hfz20_2 := blk_frozen BK178.out 2; have hfz20_3 := blk_frozen BK178.out 3; have hfz20_4 := blk_frozen BK178.out 4; have hfz20_5 := blk_frozen BK178.out 5; have hfz20_6 := blk_frozen BK178.out 6))
          (try simp only [Act.put, List.setIfInBounds_toArray, List.set_cons_zero, List.set_cons_succ])
          go_cut [37] (fun v37 wc => ∃ (kq : Nat) (x37_12 : Bool), v37 = .bool x37_12 ∧ Aside0 (chamberlainlaw11_PartKeeps.j1 kq a0 l1 y167 x37_12 t170 t171 t172 t173 t174 t175 t176 = some r) ∧ Aside0 (kq ≤ kj2) ∧ Aside0 (Kd.R (Kd.int .u32) 22 wc w.heap.size (fun _ => True) (.slice Ao17 y167.length co17) y167) ∧ Aside0 (wc.heap[gb178]? = some (.cells #[.int .u32 t170, .int .u32 t171, .int .u32 t172, .int .u32 t173, .int .u32 t174, .int .u32 t175, .int .u32 t176] 24 (0, 0))) ∧ Aside0 (Below w.heap.size w wc))
          case first =>
            have H := HC13.out
            clear HC13
            replace H := Option.bind_eq_some_iff.mp H
            obtain ⟨t179, A210, H⟩ := H
            replace H : (if t179 = true then (chamberlainlaw11_PartKeeps.j1 kj2 a0 l1 y167 (t177 != 0) t170 t171 t172 t173 t174 t175 t176) else (chamberlainlaw11_PartKeeps.j1 kj2 a0 l1 y167 true t170 t171 t172 t173 t174 t175 t176)) = some r := H
            have A21 := Aside0.mk A210
            clear A210
            by_cases c22 : t179 = true
            · subst c22
              have H1 : (chamberlainlaw11_PartKeeps.j1 kj2 a0 l1 y167 (t177 != 0) t170 t171 t172 t173 t174 t175 t176) = some r := by rw [if_pos rfl] at H; exact H
              clear H
              have H := H1
              clear H1
              have H' := Aside0.mk H
              clear H
              go_wp2_with (first | ((with_reducible refine gate_callee (f := 11) rfl ?_); refine goesL_ (some 32) rfl rfl Try.func11 (by kernel_rfl) rfl #[.slice Ao17 y167.length co17, .slice A1 l1.length c1] rfl (by (try simp only [List.map_toArray, List.map_cons, List.map_nil]); first | done | rfl | (simp only [List.length_drop, List.length_take]; rfl)) ?_; (with_reducible refine (chamberlainref01_Same.calls kj2 _ _ y167 _ _ l1 true _ ?side1 ?side2 ?side3 ?side4 A21.out).mono ?_); (case side1 => refine (Kd.R_reads' (e := 22) (base := w.heap.size) (ok := fun k_ => True) (n := y167.length) (c := co17) ?_).2.2; exact (by (with_reducible repeat (first | apply Kd.R_alloc | apply Kd.R_drewN | apply Kd.R_drew)); exact (Kd.R_mono (Kd.R_far (p := ⟨gb178, 6, none⟩) (Kd.R_far (p := ⟨gb178, 5, none⟩) (Kd.R_far (p := ⟨gb178, 4, none⟩) (Kd.R_far (p := ⟨gb178, 3, none⟩) (Kd.R_far (p := ⟨gb178, 2, none⟩) (Kd.R_far (p := ⟨gb178, 1, none⟩) (Kd.R_far (p := ⟨gb178, 0, none⟩) (Kd.R_types HO169.out BK178.out (by decide)) (fun _ hk => hk.2) (.int .u32 t170)) (fun _ hk => hk.2) (.int .u32 t171)) (fun _ hk => hk.2) (.int .u32 t172)) (fun _ hk => hk.2) (.int .u32 t173)) (fun _ hk => hk.2) (.int .u32 t174)) (fun _ hk => hk.2) (.int .u32 t175)) (fun _ hk => hk.2) (.int .u32 t176)) (fun _ h_ => h_.1)))); (case side2 => exact (Kd.R_reads' HO169.out).2.1); (case side3 => exact Kd.C_below HR1.out (by repeat (first | (with_reducible first | exact HB.out | apply below_alloc | apply pw_below_drewN | apply below_drew1 | refine below_set ?_ GE178.out) | exact HB.out))); (case side4 => exact HC1.out); rintro e w' ⟨rfl, ⟨nd, rfl⟩⟩; refine ⟨_, rfl, ?_⟩))
              go_meet
              case rel => exact ⟨_, ((t177 != 0)), (by first | rfl | (simp; done) | (simp [*]; done)), H', ⟨by have := HJ2.out; first | omega | exact Nat.le_refl _⟩, ⟨by (with_reducible repeat (first | apply Kd.R_alloc | apply Kd.R_drewN | apply Kd.R_drew)); exact Kd.R_mono (Kd.R_far (p := ⟨gb178, 6, none⟩) (Kd.R_far (p := ⟨gb178, 5, none⟩) (Kd.R_far (p := ⟨gb178, 4, none⟩) (Kd.R_far (p := ⟨gb178, 3, none⟩) (Kd.R_far (p := ⟨gb178, 2, none⟩) (Kd.R_far (p := ⟨gb178, 1, none⟩) (Kd.R_far (p := ⟨gb178, 0, none⟩) (Kd.R_types HO169.out BK178.out (by decide)) (fun _ hk => hk.2) (.int .u32 t170)) (fun _ hk => hk.2) (.int .u32 t171)) (fun _ hk => hk.2) (.int .u32 t172)) (fun _ hk => hk.2) (.int .u32 t173)) (fun _ hk => hk.2) (.int .u32 t174)) (fun _ hk => hk.2) (.int .u32 t175)) (fun _ hk => hk.2) (.int .u32 t176)) (fun _ hk => trivial)⟩, ⟨by (with_reducible repeat (first | refine blk_drewN ?_ _ | refine blk_drew ?_ | refine blk_alloc ?_ _)); refine blk_put (cs := #[.int .u32 t170, .int .u32 t171, .int .u32 t172, .int .u32 t173, .int .u32 t174, .int .u32 t175, .int .u32 0]) ?_ 6 _ rfl; (with_reducible repeat (first | refine blk_drewN ?_ _ | refine blk_drew ?_ | refine blk_alloc ?_ _)); refine blk_put (cs := #[.int .u32 t170, .int .u32 t171, .int .u32 t172, .int .u32 t173, .int .u32 t174, .int .u32 0, .int .u32 0]) ?_ 5 _ rfl; (with_reducible repeat (first | refine blk_drewN ?_ _ | refine blk_drew ?_ | refine blk_alloc ?_ _)); refine blk_put (cs := #[.int .u32 t170, .int .u32 t171, .int .u32 t172, .int .u32 t173, .int .u32 0, .int .u32 0, .int .u32 0]) ?_ 4 _ rfl; (with_reducible repeat (first | refine blk_drewN ?_ _ | refine blk_drew ?_ | refine blk_alloc ?_ _)); refine blk_put (cs := #[.int .u32 t170, .int .u32 t171, .int .u32 t172, .int .u32 0, .int .u32 0, .int .u32 0, .int .u32 0]) ?_ 3 _ rfl; (with_reducible repeat (first | refine blk_drewN ?_ _ | refine blk_drew ?_ | refine blk_alloc ?_ _)); refine blk_put (cs := #[.int .u32 t170, .int .u32 t171, .int .u32 0, .int .u32 0, .int .u32 0, .int .u32 0, .int .u32 0]) ?_ 2 _ rfl; (with_reducible repeat (first | refine blk_drewN ?_ _ | refine blk_drew ?_ | refine blk_alloc ?_ _)); refine blk_put (cs := #[.int .u32 t170, .int .u32 0, .int .u32 0, .int .u32 0, .int .u32 0, .int .u32 0, .int .u32 0]) ?_ 1 _ rfl; (with_reducible repeat (first | refine blk_drewN ?_ _ | refine blk_drew ?_ | refine blk_alloc ?_ _)); refine blk_put (cs := #[.int .u32 0, .int .u32 0, .int .u32 0, .int .u32 0, .int .u32 0, .int .u32 0, .int .u32 0]) ?_ 0 _ rfl; (with_reducible repeat (first | refine blk_drewN ?_ _ | refine blk_drew ?_ | refine blk_alloc ?_ _)); exact BK178.out⟩, ⟨by repeat (first | (with_reducible first | exact HB.out | apply below_alloc | apply pw_below_drewN | apply below_drew1 | refine below_set ?_ GE178.out) | exact HB.out)⟩⟩
            · replace c22 := Bool.eq_false_iff.mpr c22
              subst c22
              have H1 : (chamberlainlaw11_PartKeeps.j1 kj2 a0 l1 y167 true t170 t171 t172 t173 t174 t175 t176) = some r := by rw [if_neg (show ¬ (false = true) by decide)] at H; exact H
              clear H
              have H := H1
              clear H1
              have H' := Aside0.mk H
              clear H
              go_wp2_with (first | ((with_reducible refine gate_callee (f := 11) rfl ?_); refine goesL_ (some 32) rfl rfl Try.func11 (by kernel_rfl) rfl #[.slice Ao17 y167.length co17, .slice A1 l1.length c1] rfl (by (try simp only [List.map_toArray, List.map_cons, List.map_nil]); first | done | rfl | (simp only [List.length_drop, List.length_take]; rfl)) ?_; (with_reducible refine (chamberlainref01_Same.calls kj2 _ _ y167 _ _ l1 false _ ?side1 ?side2 ?side3 ?side4 A21.out).mono ?_); (case side1 => refine (Kd.R_reads' (e := 22) (base := w.heap.size) (ok := fun k_ => True) (n := y167.length) (c := co17) ?_).2.2; exact (by (with_reducible repeat (first | apply Kd.R_alloc | apply Kd.R_drewN | apply Kd.R_drew)); exact (Kd.R_mono (Kd.R_far (p := ⟨gb178, 6, none⟩) (Kd.R_far (p := ⟨gb178, 5, none⟩) (Kd.R_far (p := ⟨gb178, 4, none⟩) (Kd.R_far (p := ⟨gb178, 3, none⟩) (Kd.R_far (p := ⟨gb178, 2, none⟩) (Kd.R_far (p := ⟨gb178, 1, none⟩) (Kd.R_far (p := ⟨gb178, 0, none⟩) (Kd.R_types HO169.out BK178.out (by decide)) (fun _ hk => hk.2) (.int .u32 t170)) (fun _ hk => hk.2) (.int .u32 t171)) (fun _ hk => hk.2) (.int .u32 t172)) (fun _ hk => hk.2) (.int .u32 t173)) (fun _ hk => hk.2) (.int .u32 t174)) (fun _ hk => hk.2) (.int .u32 t175)) (fun _ hk => hk.2) (.int .u32 t176)) (fun _ h_ => h_.1)))); (case side2 => exact (Kd.R_reads' HO169.out).2.1); (case side3 => exact Kd.C_below HR1.out (by repeat (first | (with_reducible first | exact HB.out | apply below_alloc | apply pw_below_drewN | apply below_drew1 | refine below_set ?_ GE178.out) | exact HB.out))); (case side4 => exact HC1.out); rintro e w' ⟨rfl, ⟨nd, rfl⟩⟩; refine ⟨_, rfl, ?_⟩))
              go_meet
              case rel => exact ⟨_, (true), (by first | rfl | (simp; done) | (simp [*]; done)), H', ⟨by have := HJ2.out; first | omega | exact Nat.le_refl _⟩, ⟨by (with_reducible repeat (first | apply Kd.R_alloc | apply Kd.R_drewN | apply Kd.R_drew)); exact Kd.R_mono (Kd.R_far (p := ⟨gb178, 6, none⟩) (Kd.R_far (p := ⟨gb178, 5, none⟩) (Kd.R_far (p := ⟨gb178, 4, none⟩) (Kd.R_far (p := ⟨gb178, 3, none⟩) (Kd.R_far (p := ⟨gb178, 2, none⟩) (Kd.R_far (p := ⟨gb178, 1, none⟩) (Kd.R_far (p := ⟨gb178, 0, none⟩) (Kd.R_types HO169.out BK178.out (by decide)) (fun _ hk => hk.2) (.int .u32 t170)) (fun _ hk => hk.2) (.int .u32 t171)) (fun _ hk => hk.2) (.int .u32 t172)) (fun _ hk => hk.2) (.int .u32 t173)) (fun _ hk => hk.2) (.int .u32 t174)) (fun _ hk => hk.2) (.int .u32 t175)) (fun _ hk => hk.2) (.int .u32 t176)) (fun _ hk => trivial)⟩, ⟨by (with_reducible repeat (first | refine blk_drewN ?_ _ | refine blk_drew ?_ | refine blk_alloc ?_ _)); refine blk_put (cs := #[.int .u32 t170, .int .u32 t171, .int .u32 t172, .int .u32 t173, .int .u32 t174, .int .u32 t175, .int .u32 0]) ?_ 6 _ rfl; (with_reducible repeat (first | refine blk_drewN ?_ _ | refine blk_drew ?_ | refine blk_alloc ?_ _)); refine blk_put (cs := #[.int .u32 t170, .int .u32 t171, .int .u32 t172, .int .u32 t173, .int .u32 t174, .int .u32 0, .int .u32 0]) ?_ 5 _ rfl; (with_reducible repeat (first | refine blk_drewN ?_ _ | refine blk_drew ?_ | refine blk_alloc ?_ _)); refine blk_put (cs := #[.int .u32 t170, .int .u32 t171, .int .u32 t172, .int .u32 t173, .int .u32 0, .int .u32 0, .int .u32 0]) ?_ 4 _ rfl; (with_reducible repeat (first | refine blk_drewN ?_ _ | refine blk_drew ?_ | refine blk_alloc ?_ _)); refine blk_put (cs := #[.int .u32 t170, .int .u32 t171, .int .u32 t172, .int .u32 0, .int .u32 0, .int .u32 0, .int .u32 0]) ?_ 3 _ rfl; (with_reducible repeat (first | refine blk_drewN ?_ _ | refine blk_drew ?_ | refine blk_alloc ?_ _)); refine blk_put (cs := #[.int .u32 t170, .int .u32 t171, .int .u32 0, .int .u32 0, .int .u32 0, .int .u32 0, .int .u32 0]) ?_ 2 _ rfl; (with_reducible repeat (first | refine blk_drewN ?_ _ | refine blk_drew ?_ | refine blk_alloc ?_ _)); refine blk_put (cs := #[.int .u32 t170, .int .u32 0, .int .u32 0, .int .u32 0, .int .u32 0, .int .u32 0, .int .u32 0]) ?_ 1 _ rfl; (with_reducible repeat (first | refine blk_drewN ?_ _ | refine blk_drew ?_ | refine blk_alloc ?_ _)); refine blk_put (cs := #[.int .u32 0, .int .u32 0, .int .u32 0, .int .u32 0, .int .u32 0, .int .u32 0, .int .u32 0]) ?_ 0 _ rfl; (with_reducible repeat (first | refine blk_drewN ?_ _ | refine blk_drew ?_ | refine blk_alloc ?_ _)); exact BK178.out⟩, ⟨by repeat (first | (with_reducible first | exact HB.out | apply below_alloc | apply pw_below_drewN | apply below_drew1 | refine below_set ?_ GE178.out) | exact HB.out)⟩⟩
          case rest =>
            clear HC13
            try clear c1
            try clear c2
            try clear p2
            try clear c5
            try clear c6
            try clear c8
            try clear c11
            try clear c15
            try clear c22
            try clear hcz20_0
            try clear hcz20_1
            try clear hcz20_2
            try clear hcz20_3
            try clear hcz20_4
            try clear hcz20_5
            try clear hcz20_6
            try clear hfz20_0
            try clear hfz20_1
            try clear hfz20_2
            try clear hfz20_3
            try clear hfz20_4
            try clear hfz20_5
            try clear hfz20_6
            try clear p2
            obtain ⟨kq, x37_12, rfl, HA, HJ12, HO_5, BK178, HB⟩ := hcut
            cases kq with
            | zero => exact absurd HA.out (by simp [chamberlainlaw11_PartKeeps.j1])
            | succ kj12 =>
              have H := HA.out
              clear HA
              simp only [chamberlainlaw11_PartKeeps.j1] at H
              by_cases c23 : x37_12 = true
              · subst c23
                have H1 : ((chamberlainref01_Same.f kj12 y167 l1).bind fun t180 => (some t180)) = some r := by rw [if_pos rfl] at H; exact H
                clear H
                have H := H1
                clear H1
                replace H := Option.bind_eq_some_iff.mp H
                obtain ⟨t180, A240, H⟩ := H
                replace H : (some t180) = some r := H
                have A24 := Aside0.mk A240
                clear A240
                obtain rfl := Option.some.inj H
                go_wp2_with (first | ((with_reducible refine gate_callee (f := 11) rfl ?_); refine goesL_ (some 40) rfl rfl Try.func11 (by kernel_rfl) rfl #[.slice Ao17 y167.length co17, .slice A1 l1.length c1] rfl (by (try simp only [List.map_toArray, List.map_cons, List.map_nil]); first | done | rfl | (simp only [List.length_drop, List.length_take]; rfl)) ?_; (with_reducible refine (chamberlainref01_Same.calls kj12 _ _ y167 _ _ l1 t180 _ ?side1 ?side2 ?side3 ?side4 A24.out).mono ?_); (case side1 => repeat (first | exact (Kd.R_reads' HO_5.out).2.2 | (with_reducible refine Kd.C_alloc ?_ _) | (with_reducible refine Kd.C_drewN ?_ _) | (with_reducible refine Kd.C_drew ?_))); (case side2 => exact (Kd.R_reads' HO_5.out).2.1); (case side3 => repeat (first | exact (Kd.C_below HR1.out HB.out) | (with_reducible refine Kd.C_alloc ?_ _) | (with_reducible refine Kd.C_drewN ?_ _) | (with_reducible refine Kd.C_drew ?_))); (case side4 => exact HC1.out); rintro e w' ⟨rfl, ⟨nd, rfl⟩⟩; refine ⟨_, rfl, ?_⟩))
                go_ret
                exact ⟨by first | rfl | (simp [errW_none, errW_some] <;> rfl) | (simp [*, errW_none, errW_some] <;> rfl), by repeat (first | (with_reducible first | exact HB.out | apply below_alloc | apply pw_below_drewN | apply below_drew1 | refine below_set ?_ GE178.out) | exact HB.out)⟩
              · replace c23 := Bool.eq_false_iff.mpr c23
                subst c23
                have H1 : ((part_Put.f a0 t170 t171 t172 t173 t174 t175 t176).bind fun bt181 => (chamberlainlaw11_PartKeeps.l0 kj12 a0 l1 bt181.1 0 t170 t171 t172 t173 t174 t175 t176)) = some r := by rw [if_neg (show ¬ (false = true) by decide)] at H; exact H
                clear H
                have H := H1
                clear H1
                replace H := Option.bind_eq_some_iff.mp H
                obtain ⟨⟨t181, t184⟩, A250, H⟩ := H
                replace H : (chamberlainlaw11_PartKeeps.l0 kj12 a0 l1 t181 0 t170 t171 t172 t173 t174 t175 t176) = some r := H
                have A25 := Aside0.mk A250
                clear A250
                have H' := Aside0.mk H
                clear H
                have hcz26_0 : wc.cell? ⟨gb178, 0, none⟩ = some (.int .u32 t170) := (blk_cell BK178.out 0).trans rfl
                have hcz26_1 : wc.cell? ⟨gb178, 1, none⟩ = some (.int .u32 t171) := (blk_cell BK178.out 1).trans rfl
                have hcz26_2 : wc.cell? ⟨gb178, 2, none⟩ = some (.int .u32 t172) := (blk_cell BK178.out 2).trans rfl
                have hcz26_3 : wc.cell? ⟨gb178, 3, none⟩ = some (.int .u32 t173) := (blk_cell BK178.out 3).trans rfl
                have hcz26_4 : wc.cell? ⟨gb178, 4, none⟩ = some (.int .u32 t174) := (blk_cell BK178.out 4).trans rfl
                have hcz26_5 : wc.cell? ⟨gb178, 5, none⟩ = some (.int .u32 t175) := (blk_cell BK178.out 5).trans rfl
                have hcz26_6 : wc.cell? ⟨gb178, 6, none⟩ = some (.int .u32 t176) := (blk_cell BK178.out 6).trans rfl
                have hfz26_0 := blk_frozen BK178.out 0
                have hfz26_1 := blk_frozen BK178.out 1
                have hfz26_2 := blk_frozen BK178.out 2
                have hfz26_3 := blk_frozen BK178.out 3
                have hfz26_4 := blk_frozen BK178.out 4
                have hfz26_5 := blk_frozen BK178.out 5
                have hfz26_6 := blk_frozen BK178.out 6
                go_wp2_with (first | ((with_reducible refine gate_callee (f := 9) rfl ?_); refine goesL_ (some 44) rfl rfl Try.func9 (by kernel_rfl) rfl #[.int .u32 a0, .agg #[.int .u32 t170, .int .u32 t171, .int .u32 t172, .int .u32 t173, .int .u32 t174, .int .u32 t175, .int .u32 t176]] rfl (by (try simp only [List.map_toArray, List.map_cons, List.map_nil]); first | done | rfl | (simp only [List.length_drop, List.length_take]; rfl)) ?_; (with_reducible refine (part_Put.calls a0 t170 t171 t172 t173 t174 t175 t176 t181 t184 _ A25.out).mono ?_); rintro e w27 ⟨v182, rfl, ho0, hb⟩; refine ⟨_, rfl, ?_⟩; have n0_ := Aside0.mk (Kd.R_elder' (by (with_reducible repeat (first | apply Kd.R_alloc | apply Kd.R_drewN | apply Kd.R_drew)); exact HO_5.out) (Kd.R_base ho0) hb); have n1_ := Aside0.mk (Kd.R_lower (Kd.R_new' ho0 (Kd.R_lt (by (with_reducible repeat (first | apply Kd.R_alloc | apply Kd.R_drewN | apply Kd.R_drew)); exact HO_5.out))) (below_size (by repeat (first | (with_reducible first | exact HB.out | apply below_alloc | apply pw_below_drewN | apply below_drew1 | refine below_set ?_ GE178.out) | exact HB.out)))); have n2_ := Aside0.mk (blk_below (g := gb178) (o := .cells #[.int .u32 t170, .int .u32 t171, .int .u32 t172, .int .u32 t173, .int .u32 t174, .int .u32 t175, .int .u32 t176] 24 (0, 0)) (by (with_reducible repeat (first | refine blk_drewN ?_ _ | refine blk_drew ?_ | refine blk_alloc ?_ _)); exact BK178.out) hb); have n3_ := Aside0.mk (below_step (by repeat (first | (with_reducible first | exact HB.out | apply below_alloc | apply pw_below_drewN | apply below_drew1 | refine below_set ?_ GE178.out) | exact HB.out)) hb); clear HO_5; clear BK178; clear HB; have HO_5 := n0_; have HO183 := n1_; have BK178 := n2_; have HB := n3_; clear n0_ n1_ n2_ n3_; (try clear hb); (try clear hb2); (try clear hk); (try clear hi); (try clear ho0)))
                go_loopg [10] kj12 (fun kq v10 w' => ∃ (x8_3 : List Int) (x10_3 : Int), v10 = .int .i64 x10_3 ∧ Aside0 (chamberlainlaw11_PartKeeps.l0 kq a0 l1 x8_3 x10_3 t170 t171 t172 t173 t174 t175 t176 = some r) ∧ Aside0 (kq ≤ kj12) ∧ Aside0 (Kd.R (Kd.int .u32) 22 w' w.heap.size (fun _ => True) v182 x8_3) ∧ Aside0 (w'.heap[gb178]? = some (.cells #[.int .u32 t170, .int .u32 t171, .int .u32 t172, .int .u32 t173, .int .u32 t174, .int .u32 t175, .int .u32 t176] 24 (0, 0))) ∧ Aside0 (Below w.heap.size w w'))
                case atStart => exact ⟨(t181), (0), (by first | rfl | (simp; done) | (simp [*]; done)), H', ⟨Nat.le_refl _⟩, ⟨by (with_reducible repeat (first | apply Kd.R_alloc | apply Kd.R_drewN | apply Kd.R_drew)); exact Kd.R_mono HO183.out (fun _ hk => trivial)⟩, ⟨by (with_reducible repeat (first | refine blk_drewN ?_ _ | refine blk_drew ?_ | refine blk_alloc ?_ _)); exact BK178.out⟩, ⟨by repeat (first | (with_reducible first | exact HB.out | apply below_alloc | apply pw_below_drewN | apply below_drew1 | refine below_set ?_ GE178.out) | exact HB.out)⟩⟩
                case round =>
                  clear H'
                  try clear c1
                  try clear c2
                  try clear p2
                  try clear c5
                  try clear c6
                  try clear c8
                  try clear c9
                  try clear c11
                  try clear c15
                  try clear c22
                  try clear c23
                  try clear hcz20_0
                  try clear hcz20_1
                  try clear hcz20_2
                  try clear hcz20_3
                  try clear hcz20_4
                  try clear hcz20_5
                  try clear hcz20_6
                  try clear hcz26_0
                  try clear hcz26_1
                  try clear hcz26_2
                  try clear hcz26_3
                  try clear hcz26_4
                  try clear hcz26_5
                  try clear hcz26_6
                  try clear hfz20_0
                  try clear hfz20_1
                  try clear hfz20_2
                  try clear hfz20_3
                  try clear hfz20_4
                  try clear hfz20_5
                  try clear hfz20_6
                  try clear hfz26_0
                  try clear hfz26_1
                  try clear hfz26_2
                  try clear hfz26_3
                  try clear hfz26_4
                  try clear hfz26_5
                  try clear hfz26_6
                  try clear p2
                  obtain ⟨x8_3, x10_3, rfl, HA, HK3, HO_8, BK178, HB⟩ := hrel
                  cases gk with
                  | zero => exact absurd HA.out (by simp [chamberlainlaw11_PartKeeps.l0])
                  | succ k3 =>
                    have H := HA.out
                    clear HA
                    simp only [chamberlainlaw11_PartKeeps.l0] at H
                    by_cases c28 : x10_3 < (x8_3.length : Int)
                    · rw [if_pos c28] at H
                      have c28b0 : decide (x10_3 < (x8_3.length : Int)) = true := decide_eq_true c28
                      clear c28
                      by_cases c29 : 0 ≤ x10_3
                      · rw [if_pos c29] at H
                        have c29b0 : decide (0 ≤ x10_3) = true := decide_eq_true c29
                        clear c29
                        obtain ⟨y185, hy185⟩ : ∃ y_ : List Int, y_ = (x8_3.set (x10_3 : Int).toNat 4) := ⟨_, rfl⟩
                        replace H : (chamberlainlaw11_PartKeeps.l0 k3 a0 l1 y185 (wrap64 (x10_3 + 1)) t170 t171 t172 t173 t174 t175 t176) = some r := by first | (rw [hy185]; with_reducible exact H) | (have H2_ := (Option.bind_some _ _).symm.trans H; rw [hy185]; with_reducible exact H2_) | (have H2_ := (Option.bind_some _ _).symm.trans H; with_reducible exact H2_) | with_reducible exact H | (rw [hy185]; exact H) | exact H
                        have Ny185 := Aside0.mk hy185
                        clear hy185
                        have H' := Aside0.mk H
                        clear H
                        obtain ⟨Ao31, co31, eo31⟩ := Kd.R_slice HO_8.out
                        subst eo31
                        have p30 : 0 ≤ (x10_3 : Int) := of_decide_eq_true (by first | (with_reducible assumption) | assumption)
                        have q30 : (x10_3 : Int) < ((x8_3.length : Int) : Int) := of_decide_eq_true (by first | (with_reducible assumption) | assumption)
                        obtain ⟨go30, co30, eo30, gb30, gl30, cl30, HG30⟩ := Kd.R_form HO_8.out (by omega)
                        (first | cases eo30 | (injection eo30 with ea_ en_ ec_; (first | subst ea_ | (injection ea_ with ea_; subst ea_)); subst ec_; clear en_))
                        have GB30 := Aside0.mk gb30
                        have GG30 := Aside0.mk HG30
                        clear gb30 gl30 HG30
                        obtain ⟨hx30_0, hf30_0⟩ := Kd.R_celln 0 HO_8.out (x10_3 : Int) p30 q30
                        replace p30 := eq_true p30
                        replace q30 := eq_true q30
                        have HP32 := Kd.R_putg HO_8.out (x10_3 : Int) 4
                        go_wp2_with (first | ((with_reducible refine gate_store (t := 22) (p := 55) rfl ?_); refine store_event (t := 22) (p := 55) (v := ?vo_w33) (w1 := (wr.setCell ⟨go30, (x10_3 : Int).toNat, none⟩ (.int .u32 4))) ?hg ?ho ?hn ?hr ?_; (case ho => rfl); (case hg => rfl); (case hn => rfl); (case hr => first | (go_simp; done) | (go_simp; rfl)); intro w33 hw; have hg : wr.grownBy w33 (some go30) := (by rw [hw]; exact HP32.2); have hp_ : Kd.R (Kd.int .u32) 22 w33 w.heap.size (fun _ => True) (.slice (some ⟨go30, 0, none⟩) x8_3.length co31) y185 := (by rw [hw, Ny185.out]; exact HP32.1); clear HP32; have n0_ := Aside0.mk (hp_); have n1_ := Aside0.mk (blk_grown (g := gb178) (o := .cells #[.int .u32 t170, .int .u32 t171, .int .u32 t172, .int .u32 t173, .int .u32 t174, .int .u32 t175, .int .u32 t176] 24 (0, 0)) (by (with_reducible repeat (first | refine blk_drewN ?_ _ | refine blk_drew ?_ | refine blk_alloc ?_ _)); exact BK178.out) hg (Kd.R_ne HO_8.out BK178.out (by decide))); have n2_ := Aside0.mk ((by rw [hw]; exact below_set (HB.out) GB30.out : Below w.heap.size w w33)); clear HO_8; clear BK178; clear HB; have HO_8 := n0_; have BK178 := n1_; have HB := n2_; clear n0_ n1_ n2_; clear hg hw hp_))
                        go_roundg k3
                        case measure => have := HJ2.out; have := HJ12.out; have := HK3.out; omega
                        case rel => exact ⟨(y185), (wrap64 (x10_3 + 1)), (by first | rfl | (simp; done) | (simp [*]; done)), H', ⟨by have := HJ2.out; have := HJ12.out; have := HK3.out; omega⟩, ⟨by (with_reducible repeat (first | apply Kd.R_alloc | apply Kd.R_drewN | apply Kd.R_drew)); exact HO_8.out⟩, ⟨by (with_reducible repeat (first | refine blk_drewN ?_ _ | refine blk_drew ?_ | refine blk_alloc ?_ _)); exact BK178.out⟩, ⟨by repeat (first | (with_reducible first | exact HB.out | apply below_alloc | apply pw_below_drewN | apply below_drew1 | refine below_set ?_ GE178.out) | exact HB.out)⟩⟩
                      · rw [if_neg c29] at H
                        exact absurd H (by simp)
                    · rw [if_neg c28] at H
                      have c28b0 : decide (x10_3 < (x8_3.length : Int)) = false := decide_eq_false c28
                      clear c28
                      replace H := Option.bind_eq_some_iff.mp H
                      obtain ⟨⟨t186, t189⟩, A340, H⟩ := H
                      replace H : (if t189 = 0 then ((chamberlainref01_Same.f k3 t186 l1).bind fun t190 => (some t190)) else (some false)) = some r := H
                      have A34 := Aside0.mk A340
                      clear A340
                      by_cases c35 : t189 = 0
                      · rw [if_pos c35] at H
                        have c35b0 : (t189 == 0) = true := beq_iff_eq.mpr c35
                        have c35b1 : (t189 != 0) = false := bne_eq_false_iff_eq.mpr c35
                        clear c35
                        replace H := Option.bind_eq_some_iff.mp H
                        obtain ⟨t190, A360, H⟩ := H
                        replace H : (some t190) = some r := H
                        have A36 := Aside0.mk A360
                        clear A360
                        obtain rfl := Option.some.inj H
                        obtain ⟨Ao37, co37, eo37⟩ := Kd.R_slice HO_8.out
                        subst eo37
                        have hcz38_0 : wr.cell? ⟨gb178, 0, none⟩ = some (.int .u32 t170) := (blk_cell BK178.out 0).trans rfl
                        have hcz38_1 : wr.cell? ⟨gb178, 1, none⟩ = some (.int .u32 t171) := (blk_cell BK178.out 1).trans rfl
                        have hcz38_2 : wr.cell? ⟨gb178, 2, none⟩ = some (.int .u32 t172) := (blk_cell BK178.out 2).trans rfl
                        have hcz38_3 : wr.cell? ⟨gb178, 3, none⟩ = some (.int .u32 t173) := (blk_cell BK178.out 3).trans rfl
                        have hcz38_4 : wr.cell? ⟨gb178, 4, none⟩ = some (.int .u32 t174) := (blk_cell BK178.out 4).trans rfl
                        have hcz38_5 : wr.cell? ⟨gb178, 5, none⟩ = some (.int .u32 t175) := (blk_cell BK178.out 5).trans rfl
                        have hcz38_6 : wr.cell? ⟨gb178, 6, none⟩ = some (.int .u32 t176) := (blk_cell BK178.out 6).trans rfl
                        have hfz38_0 := blk_frozen BK178.out 0
                        have hfz38_1 := blk_frozen BK178.out 1
                        have hfz38_2 := blk_frozen BK178.out 2
                        have hfz38_3 := blk_frozen BK178.out 3
                        have hfz38_4 := blk_frozen BK178.out 4
                        have hfz38_5 := blk_frozen BK178.out 5
                        have hfz38_6 := blk_frozen BK178.out 6
                        go_wp2_with (first | ((with_reducible refine gate_callee (f := 9) rfl ?_); refine goesL_ (some 59) rfl rfl Try.func9 (by kernel_rfl) rfl #[.int .u32 a0, .agg #[.int .u32 t170, .int .u32 t171, .int .u32 t172, .int .u32 t173, .int .u32 t174, .int .u32 t175, .int .u32 t176]] rfl (by (try simp only [List.map_toArray, List.map_cons, List.map_nil]); first | done | rfl | (simp only [List.length_drop, List.length_take]; rfl)) ?_; (with_reducible refine (part_Put.calls a0 t170 t171 t172 t173 t174 t175 t176 t186 t189 _ A34.out).mono ?_); rintro e w39 ⟨v187, rfl, ho0, hb⟩; refine ⟨_, rfl, ?_⟩; have n0_ := Aside0.mk (Kd.R_elder' (by (with_reducible repeat (first | apply Kd.R_alloc | apply Kd.R_drewN | apply Kd.R_drew)); exact HO_8.out) (Kd.R_base ho0) hb); have n1_ := Aside0.mk (Kd.R_lower (Kd.R_new' ho0 (Kd.R_lt (by (with_reducible repeat (first | apply Kd.R_alloc | apply Kd.R_drewN | apply Kd.R_drew)); exact HO_8.out))) (below_size (by repeat (first | (with_reducible first | exact HB.out | apply below_alloc | apply pw_below_drewN | apply below_drew1 | refine below_set ?_ GE178.out) | exact HB.out)))); have n2_ := Aside0.mk (blk_below (g := gb178) (o := .cells #[.int .u32 t170, .int .u32 t171, .int .u32 t172, .int .u32 t173, .int .u32 t174, .int .u32 t175, .int .u32 t176] 24 (0, 0)) (by (with_reducible repeat (first | refine blk_drewN ?_ _ | refine blk_drew ?_ | refine blk_alloc ?_ _)); exact BK178.out) hb); have n3_ := Aside0.mk (below_step (by repeat (first | (with_reducible first | exact HB.out | apply below_alloc | apply pw_below_drewN | apply below_drew1 | refine below_set ?_ GE178.out) | exact HB.out)) hb); clear HO_8; clear BK178; clear HB; have HO_8 := n0_; have HO188 := n1_; have BK178 := n2_; have HB := n3_; clear n0_ n1_ n2_ n3_; (try clear hb); (try clear hb2); (try clear hk); (try clear hi); (try clear ho0); obtain ⟨Ao40, co40, eo40⟩ := Kd.R_slice HO188.out; subst eo40) | (go_at_call 11; (with_reducible refine (chamberlainref01_Same.calls k3 _ _ t186 _ _ l1 t190 _ ?side1 ?side2 ?side3 ?side4 A36.out).mono ?_); (case side1 => repeat (first | exact (Kd.R_reads' HO188.out).2.2 | (with_reducible refine Kd.C_alloc ?_ _) | (with_reducible refine Kd.C_drewN ?_ _) | (with_reducible refine Kd.C_drew ?_))); (case side2 => exact (Kd.R_reads' HO188.out).2.1); (case side3 => repeat (first | exact (Kd.C_below HR1.out HB.out) | (with_reducible refine Kd.C_alloc ?_ _) | (with_reducible refine Kd.C_drewN ?_ _) | (with_reducible refine Kd.C_drew ?_))); (case side4 => exact HC1.out); rintro e w' ⟨rfl, ⟨nd, rfl⟩⟩))
                        go_ret
                        exact ⟨by first | rfl | (simp [errW_none, errW_some] <;> rfl) | (simp [*, errW_none, errW_some] <;> rfl), by repeat (first | (with_reducible first | exact HB.out | apply below_alloc | apply pw_below_drewN | apply below_drew1 | refine below_set ?_ GE178.out) | exact HB.out)⟩
                      · rw [if_neg c35] at H
                        have c35b0 : (t189 == 0) = false := beq_eq_false_iff_ne.mpr c35
                        have c35b1 : (t189 != 0) = true := bne_iff_ne.mpr c35
                        exact absurd (hT.out.symm.trans (Option.some.inj H).symm) (by decide)
        · rw [if_neg c11] at H
          exact absurd H (by simp)

/-- THE ONE PURE STATEMENT of chamberlainlaw11_PartKeeps: yours. -/
def chamberlainlaw11_PartKeeps.Pure : Prop := ∀ (a0 : Int) (l1 : List Int), (Lit.int .u32 a0).wf = true → l1.length ≤ maxLen → l1.length * 4 ≤ 140737488351232 → (∀ x ∈ l1, (Lit.int .u32 x).wf = true) → ∃ k, chamberlainlaw11_PartKeeps.f k a0 l1 = some true
theorem chamberlainlaw11_PartKeeps.walk (P : chamberlainlaw11_PartKeeps.Pure) (a0 : Int) (a1 : Option Addr) (len1 cap1 : Nat) (z1 : List Int) (w : World) (w0 : (Lit.int .u32 a0).wf = true) (w1 : (a1 = none ∧ len1 = 0 ∧ cap1 = 0 ∧ z1 = []) ∨ ∃ x, a1 = some x ∧ len1 ≤ cap1 ∧ cap1 ≤ maxLen ∧ z1.length = cap1 ∧ (∀ i, i < z1.length → w.cell? (x.add i) = some (.int .u32 (z1.getD i 0))) ∧ ∀ n ∈ z1, (Lit.int .u32 n).wf = true) (y1 : len1 * 4 ≤ 140737488351232) :
    Calls Try.prog 6 #[.int .u32 a0, .slice a1 len1 cap1] w fun e w' => e = .returned (.bool true) ∧ Below w.heap.size w w' := by
  obtain ⟨l1, rfl, hr1, hm1, hw1, hc1⟩ := ReadsInt.ofRowC w1
  obtain ⟨k, h⟩ := P a0 l1 w0 hm1 y1 hw1
  refine (chamberlainlaw11_PartKeeps.calls k a0 _ _ l1 true w (Kd.C_of_reads (d := (0 : Int)) (h1 := fun _ => rfl) hr1) hc1 h rfl).mono ?_
  rintro e w' ⟨rfl, hd⟩
  exact ⟨rfl, hd⟩

end Go.Proofs.Ytpbmmompbknimaa.PPartKeeps
