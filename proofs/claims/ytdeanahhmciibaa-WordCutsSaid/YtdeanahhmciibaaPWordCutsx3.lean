-- Written for this claim by wip/tools/myprint.py (print.py's forms; proofs of the faked functions by hand).
import Derived.Test.YtdeanahhmciibaaPWordCutsx0
import Derived.Test.YtdeanahhmciibaaPWordCutsx1
import Derived.Test.YtdeanahhmciibaaPWordCutsx2
namespace Go.Proofs.Ytdeanahhmciibaa.PWordCuts
open Go.RowKit Go.Proofs.YtdeanahhmciibaaW.PrintWords Go.Proofs.YtdeanahhmciibaaW.PrintLast Go.Proofs.YtdeanahhmciibaaW.PrintMore
attribute [local go_sem] max2_int min2_int max_two min_two max_three min_three max_four min_four   -- for this text's walks alone
set_option linter.unusedVariables false
set_option linter.unusedSimpArgs false

/-! ### chamberlainlaw01_WordCuts: function 6 -/
mutual
def chamberlainlaw01_WordCuts.j0 : Nat → List Int → Int → Int → Bool → Option (Bool)
  | 0, _, _, _, _ => none
  | k + 1, x0, x1, x2, x25 => if x25 = true then ((chamberlainlaw01_awake.f k).bind fun t153 => (some t153)) else (if (wrap64 ((x0.length : Int) + 1)) = 0 then (none) else (if (wrap64 ((wrap64 ((x0.length : Int) - (Int.tmod (wrap64 (x1)) (wrap64 ((x0.length : Int) + 1))))) + 1)) = 0 then (none) else ((word_Cut.f x0 0 (Int.tmod (wrap64 (x1)) (wrap64 ((x0.length : Int) + 1)))).bind fun bt154 => ((word_Cut.f x0 (Int.tmod (wrap64 (x1)) (wrap64 ((x0.length : Int) + 1))) (wrap64 ((Int.tmod (wrap64 (x1)) (wrap64 ((x0.length : Int) + 1))) + (Int.tmod (wrap64 (x2)) (wrap64 ((wrap64 ((x0.length : Int) - (Int.tmod (wrap64 (x1)) (wrap64 ((x0.length : Int) + 1))))) + 1)))))).bind fun bt158 => ((word_Cut.f x0 (wrap64 ((Int.tmod (wrap64 (x1)) (wrap64 ((x0.length : Int) + 1))) + (Int.tmod (wrap64 (x2)) (wrap64 ((wrap64 ((x0.length : Int) - (Int.tmod (wrap64 (x1)) (wrap64 ((x0.length : Int) + 1))))) + 1))))) (x0.length : Int)).bind fun bt162 => (if bt154.2 = true then (if bt158.2 = true then (if bt162.2 = true then ((some (([] : List Int) : List Int)).bind fun y166 => (if y166.length + bt154.1.length < 35184372088832 then ((some (y166 ++ bt154.1 : List Int)).bind fun y169 => (if y169.length + bt158.1.length < 35184372088832 then ((some (y169 ++ bt158.1 : List Int)).bind fun y172 => (if y172.length + bt162.1.length < 35184372088832 then ((chamberlainref01_Same.f k (y172 ++ bt162.1) x0).bind fun t178 => (chamberlainlaw01_WordCuts.j1 k x0 (Int.tmod (wrap64 (x1)) (wrap64 ((x0.length : Int) + 1))) (wrap64 ((Int.tmod (wrap64 (x1)) (wrap64 ((x0.length : Int) + 1))) + (Int.tmod (wrap64 (x2)) (wrap64 ((wrap64 ((x0.length : Int) - (Int.tmod (wrap64 (x1)) (wrap64 ((x0.length : Int) + 1))))) + 1))))) bt158.1 (!t178))) else (none))) else (none))) else (none))) else (chamberlainlaw01_WordCuts.j1 k x0 (Int.tmod (wrap64 (x1)) (wrap64 ((x0.length : Int) + 1))) (wrap64 ((Int.tmod (wrap64 (x1)) (wrap64 ((x0.length : Int) + 1))) + (Int.tmod (wrap64 (x2)) (wrap64 ((wrap64 ((x0.length : Int) - (Int.tmod (wrap64 (x1)) (wrap64 ((x0.length : Int) + 1))))) + 1))))) bt158.1 true)) else (chamberlainlaw01_WordCuts.j1 k x0 (Int.tmod (wrap64 (x1)) (wrap64 ((x0.length : Int) + 1))) (wrap64 ((Int.tmod (wrap64 (x1)) (wrap64 ((x0.length : Int) + 1))) + (Int.tmod (wrap64 (x2)) (wrap64 ((wrap64 ((x0.length : Int) - (Int.tmod (wrap64 (x1)) (wrap64 ((x0.length : Int) + 1))))) + 1))))) bt158.1 true)) else (chamberlainlaw01_WordCuts.j1 k x0 (Int.tmod (wrap64 (x1)) (wrap64 ((x0.length : Int) + 1))) (wrap64 ((Int.tmod (wrap64 (x1)) (wrap64 ((x0.length : Int) + 1))) + (Int.tmod (wrap64 (x2)) (wrap64 ((wrap64 ((x0.length : Int) - (Int.tmod (wrap64 (x1)) (wrap64 ((x0.length : Int) + 1))))) + 1))))) bt158.1 true)))))))
def chamberlainlaw01_WordCuts.j1 : Nat → List Int → Int → Int → List Int → Bool → Option (Bool)
  | 0, _, _, _, _, _ => none
  | k + 1, x0, x7, x8, x11, x85 => if x85 = true then (some false) else ((word_Cut.f x0 x7 (x0.length : Int)).bind fun bt179 => ((word_Cut.f bt179.1 0 (wrap64 (x8 - x7))).bind fun bt183 => (if bt179.2 = true then (if bt183.2 = true then ((chamberlainref01_Same.f k bt183.1 x11).bind fun t187 => (some t187)) else (some false)) else (some false))))
end
def chamberlainlaw01_WordCuts.f (k : Nat) (l0 : List Int) (a1 : Int) (a2 : Int) : Option (Bool) := (chamberlainlaw01_awake.f k).bind fun t152 => (if t152 = true then (chamberlainlaw01_WordCuts.j0 k l0 a1 a2 (decide ((l0.length : Int) > 200))) else (chamberlainlaw01_WordCuts.j0 k l0 a1 a2 true))
theorem chamberlainlaw01_WordCuts.mono_l : ∀ k, (∀ y0 y1 y2 y3, LeO (chamberlainlaw01_WordCuts.j0 k y0 y1 y2 y3) (chamberlainlaw01_WordCuts.j0 (k + 1) y0 y1 y2 y3)) ∧ (∀ y0 y1 y2 y3 y4, LeO (chamberlainlaw01_WordCuts.j1 k y0 y1 y2 y3 y4) (chamberlainlaw01_WordCuts.j1 (k + 1) y0 y1 y2 y3 y4))
  | 0 => ⟨fun _ _ _ _ r h => by simp [chamberlainlaw01_WordCuts.j0] at h, fun _ _ _ _ _ r h => by simp [chamberlainlaw01_WordCuts.j1] at h⟩
  | k + 1 => by
    obtain ⟨ih0, ih1⟩ := chamberlainlaw01_WordCuts.mono_l k
    refine ⟨?_, ?_⟩
    · intro y0 y1 y2 y3
      unfold chamberlainlaw01_WordCuts.j0
      repeat' first
      | (with_reducible exact ih0 _ _ _ _)
      | (with_reducible exact ih1 _ _ _ _ _)
      | (with_reducible exact chamberlainlaw01_awake.mono _)
      | (with_reducible exact chamberlainref01_Same.mono _ _ _)
      | (with_reducible exact LeO.refl _)
      | (with_reducible exact LeO.none _)
      | (with_reducible refine LeO.ite ?_ ?_)
      | (with_reducible refine LeO.bind ?_ (fun _ => ?_))
      | exact ih0 _ _ _ _
      | exact ih1 _ _ _ _ _
      | exact chamberlainlaw01_awake.mono _
      | exact chamberlainref01_Same.mono _ _ _
      | exact LeO.none _
      | refine LeO.ite ?_ ?_
      | refine LeO.bind ?_ (fun _ => ?_)
    · intro y0 y1 y2 y3 y4
      unfold chamberlainlaw01_WordCuts.j1
      repeat' first
      | (with_reducible exact ih0 _ _ _ _)
      | (with_reducible exact ih1 _ _ _ _ _)
      | (with_reducible exact chamberlainlaw01_awake.mono _)
      | (with_reducible exact chamberlainref01_Same.mono _ _ _)
      | (with_reducible exact LeO.refl _)
      | (with_reducible exact LeO.none _)
      | (with_reducible refine LeO.ite ?_ ?_)
      | (with_reducible refine LeO.bind ?_ (fun _ => ?_))
      | exact ih0 _ _ _ _
      | exact ih1 _ _ _ _ _
      | exact chamberlainlaw01_awake.mono _
      | exact chamberlainref01_Same.mono _ _ _
      | exact LeO.none _
      | refine LeO.ite ?_ ?_
      | refine LeO.bind ?_ (fun _ => ?_)
theorem chamberlainlaw01_WordCuts.mono : ∀ a0 a1 a2 k, LeO (chamberlainlaw01_WordCuts.f k a0 a1 a2) (chamberlainlaw01_WordCuts.f (k + 1) a0 a1 a2) := by
  intro a0 a1 a2 k
  obtain ⟨ih0, ih1⟩ := chamberlainlaw01_WordCuts.mono_l k
  unfold chamberlainlaw01_WordCuts.f
  repeat' first
      | (with_reducible exact ih0 _ _ _ _)
      | (with_reducible exact ih1 _ _ _ _ _)
      | (with_reducible exact chamberlainlaw01_awake.mono _)
      | (with_reducible exact chamberlainref01_Same.mono _ _ _)
      | (with_reducible exact LeO.refl _)
      | (with_reducible exact LeO.none _)
      | (with_reducible refine LeO.ite ?_ ?_)
      | (with_reducible refine LeO.bind ?_ (fun _ => ?_))
      | exact ih0 _ _ _ _
      | exact ih1 _ _ _ _ _
      | exact chamberlainlaw01_awake.mono _
      | exact chamberlainref01_Same.mono _ _ _
      | exact LeO.none _
      | refine LeO.ite ?_ ?_
      | refine LeO.bind ?_ (fun _ => ?_)
set_option maxHeartbeats 8000000 in
set_option maxRecDepth 100000 in
theorem chamberlainlaw01_WordCuts.calls (k : Nat) (A0 : Option Addr) (c0 : Nat) (l0 : List Int) (a1 : Int) (a2 : Int) (r : Bool) (w : World) (hr0 : Kd.C (Kd.int .u32) w A0 l0.length l0) (hc0 : l0.length ≤ c0) (h : chamberlainlaw01_WordCuts.f k l0 a1 a2 = some r) :
    Calls Try.prog 6 #[.slice A0 l0.length c0, .int .u8 a1, .int .u8 a2] w fun e w' => e = .returned (.bool r) ∧ Below w.heap.size w w' := by
  have HR0 := Aside0.mk hr0
  have HC0 := Aside0.mk hc0
  clear hr0 hc0
  have HB := Aside0.mk (Below.refl w.heap.size w)
  have H : ((chamberlainlaw01_awake.f k).bind fun t152 => (if t152 = true then (chamberlainlaw01_WordCuts.j0 k l0 a1 a2 (decide ((l0.length : Int) > 200))) else (chamberlainlaw01_WordCuts.j0 k l0 a1 a2 true))) = some r := h
  clear h
  have HC4 := Aside0.mk H
  clear H
  go_enter Try.func6, Try.ntmps6
  go_upto_region 1 with (fail)
  go_cut [25] (fun v25 wc => ∃ (kq : Nat) (x25_3 : Bool), v25 = .bool x25_3 ∧ Aside0 (chamberlainlaw01_WordCuts.j0 kq l0 a1 a2 x25_3 = some r) ∧ Aside0 (kq ≤ k) ∧ Aside0 (Below w.heap.size w wc))
  case first =>
    have H := HC4.out
    clear HC4
    replace H := Option.bind_eq_some_iff.mp H
    obtain ⟨t152, A50, H⟩ := H
    replace H : (if t152 = true then (chamberlainlaw01_WordCuts.j0 k l0 a1 a2 (decide ((l0.length : Int) > 200))) else (chamberlainlaw01_WordCuts.j0 k l0 a1 a2 true)) = some r := H
    have A5 := Aside0.mk A50
    clear A50
    by_cases c6 : t152 = true
    · subst c6
      have H1 : (chamberlainlaw01_WordCuts.j0 k l0 a1 a2 (decide ((l0.length : Int) > 200))) = some r := by rw [if_pos rfl] at H; exact H
      clear H
      have H := H1
      clear H1
      have H' := Aside0.mk H
      clear H
      go_wp2_with (first | ((with_reducible refine gate_callee (f := 8) rfl ?_); refine goesL_ (some 19) rfl rfl Try.func8 (by kernel_rfl) rfl #[] rfl (by (try simp only [List.map_toArray, List.map_cons, List.map_nil]); first | done | rfl | (simp only [List.length_drop, List.length_take]; rfl)) ?_; (with_reducible refine (chamberlainlaw01_awake.calls k  true _ A5.out).mono ?_); rintro e w7 ⟨rfl, hb⟩; refine ⟨_, rfl, ?_⟩; have n0_ := Aside0.mk (below_step (by repeat (first | (with_reducible first | exact HB.out | apply below_alloc | apply pw_below_drewN | apply below_drew1) | exact HB.out)) hb); clear HB; have HB := n0_; clear n0_; (try clear hb); (try clear hb2); (try clear hk); (try clear hi)))
      go_meet
      case rel => exact ⟨_, (decide ((l0.length : Int) > 200)), (by first | rfl | (simp; done) | (simp [*]; done)), H', ⟨by first | omega | exact Nat.le_refl _⟩, ⟨by repeat (first | (with_reducible first | exact HB.out | apply below_alloc | apply pw_below_drewN | apply below_drew1) | exact HB.out)⟩⟩
    · replace c6 := Bool.eq_false_iff.mpr c6
      subst c6
      have H1 : (chamberlainlaw01_WordCuts.j0 k l0 a1 a2 true) = some r := by rw [if_neg (show ¬ (false = true) by decide)] at H; exact H
      clear H
      have H := H1
      clear H1
      have H' := Aside0.mk H
      clear H
      go_wp2_with (first | ((with_reducible refine gate_callee (f := 8) rfl ?_); refine goesL_ (some 19) rfl rfl Try.func8 (by kernel_rfl) rfl #[] rfl (by (try simp only [List.map_toArray, List.map_cons, List.map_nil]); first | done | rfl | (simp only [List.length_drop, List.length_take]; rfl)) ?_; (with_reducible refine (chamberlainlaw01_awake.calls k  false _ A5.out).mono ?_); rintro e w8 ⟨rfl, hb⟩; refine ⟨_, rfl, ?_⟩; have n0_ := Aside0.mk (below_step (by repeat (first | (with_reducible first | exact HB.out | apply below_alloc | apply pw_below_drewN | apply below_drew1) | exact HB.out)) hb); clear HB; have HB := n0_; clear n0_; (try clear hb); (try clear hb2); (try clear hk); (try clear hi)))
      go_meet
      case rel => exact ⟨_, (true), (by first | rfl | (simp; done) | (simp [*]; done)), H', ⟨by first | omega | exact Nat.le_refl _⟩, ⟨by repeat (first | (with_reducible first | exact HB.out | apply below_alloc | apply pw_below_drewN | apply below_drew1) | exact HB.out)⟩⟩
  case rest =>
    clear HC4
    try clear p2
    try clear c6
    try clear c8
    obtain ⟨kq, x25_3, rfl, HA, HJ3, HB⟩ := hcut
    cases kq with
    | zero => exact absurd HA.out (by simp [chamberlainlaw01_WordCuts.j0])
    | succ kj3 =>
      have H := HA.out
      clear HA
      simp only [chamberlainlaw01_WordCuts.j0] at H
      by_cases c9 : x25_3 = true
      · subst c9
        have H1 : ((chamberlainlaw01_awake.f kj3).bind fun t153 => (some t153)) = some r := by rw [if_pos rfl] at H; exact H
        clear H
        have H := H1
        clear H1
        replace H := Option.bind_eq_some_iff.mp H
        obtain ⟨t153, A100, H⟩ := H
        replace H : (some t153) = some r := H
        have A10 := Aside0.mk A100
        clear A100
        obtain rfl := Option.some.inj H
        go_wp2_with (first | ((with_reducible refine gate_callee (f := 8) rfl ?_); refine goesL_ (some 26) rfl rfl Try.func8 (by kernel_rfl) rfl #[] rfl (by (try simp only [List.map_toArray, List.map_cons, List.map_nil]); first | done | rfl | (simp only [List.length_drop, List.length_take]; rfl)) ?_; (with_reducible refine (chamberlainlaw01_awake.calls kj3  t153 _ A10.out).mono ?_); rintro e w11 ⟨rfl, hb⟩; refine ⟨_, rfl, ?_⟩; have n0_ := Aside0.mk (below_step (by repeat (first | (with_reducible first | exact HB.out | apply below_alloc | apply pw_below_drewN | apply below_drew1) | exact HB.out)) hb); clear HB; have HB := n0_; clear n0_; (try clear hb); (try clear hb2); (try clear hk); (try clear hi)))
        go_ret
        exact ⟨by first | rfl | (simp [errW_none, errW_some] <;> rfl) | (simp [*, errW_none, errW_some] <;> rfl), by repeat (first | (with_reducible first | exact HB.out | apply below_alloc | apply pw_below_drewN | apply below_drew1) | exact HB.out)⟩
      · replace c9 := Bool.eq_false_iff.mpr c9
        subst c9
        have H1 : (if (wrap64 ((l0.length : Int) + 1)) = 0 then (none) else (if (wrap64 ((wrap64 ((l0.length : Int) - (Int.tmod (wrap64 (a1)) (wrap64 ((l0.length : Int) + 1))))) + 1)) = 0 then (none) else ((word_Cut.f l0 0 (Int.tmod (wrap64 (a1)) (wrap64 ((l0.length : Int) + 1)))).bind fun bt154 => ((word_Cut.f l0 (Int.tmod (wrap64 (a1)) (wrap64 ((l0.length : Int) + 1))) (wrap64 ((Int.tmod (wrap64 (a1)) (wrap64 ((l0.length : Int) + 1))) + (Int.tmod (wrap64 (a2)) (wrap64 ((wrap64 ((l0.length : Int) - (Int.tmod (wrap64 (a1)) (wrap64 ((l0.length : Int) + 1))))) + 1)))))).bind fun bt158 => ((word_Cut.f l0 (wrap64 ((Int.tmod (wrap64 (a1)) (wrap64 ((l0.length : Int) + 1))) + (Int.tmod (wrap64 (a2)) (wrap64 ((wrap64 ((l0.length : Int) - (Int.tmod (wrap64 (a1)) (wrap64 ((l0.length : Int) + 1))))) + 1))))) (l0.length : Int)).bind fun bt162 => (if bt154.2 = true then (if bt158.2 = true then (if bt162.2 = true then ((some (([] : List Int) : List Int)).bind fun y166 => (if y166.length + bt154.1.length < 35184372088832 then ((some (y166 ++ bt154.1 : List Int)).bind fun y169 => (if y169.length + bt158.1.length < 35184372088832 then ((some (y169 ++ bt158.1 : List Int)).bind fun y172 => (if y172.length + bt162.1.length < 35184372088832 then ((chamberlainref01_Same.f kj3 (y172 ++ bt162.1) l0).bind fun t178 => (chamberlainlaw01_WordCuts.j1 kj3 l0 (Int.tmod (wrap64 (a1)) (wrap64 ((l0.length : Int) + 1))) (wrap64 ((Int.tmod (wrap64 (a1)) (wrap64 ((l0.length : Int) + 1))) + (Int.tmod (wrap64 (a2)) (wrap64 ((wrap64 ((l0.length : Int) - (Int.tmod (wrap64 (a1)) (wrap64 ((l0.length : Int) + 1))))) + 1))))) bt158.1 (!t178))) else (none))) else (none))) else (none))) else (chamberlainlaw01_WordCuts.j1 kj3 l0 (Int.tmod (wrap64 (a1)) (wrap64 ((l0.length : Int) + 1))) (wrap64 ((Int.tmod (wrap64 (a1)) (wrap64 ((l0.length : Int) + 1))) + (Int.tmod (wrap64 (a2)) (wrap64 ((wrap64 ((l0.length : Int) - (Int.tmod (wrap64 (a1)) (wrap64 ((l0.length : Int) + 1))))) + 1))))) bt158.1 true)) else (chamberlainlaw01_WordCuts.j1 kj3 l0 (Int.tmod (wrap64 (a1)) (wrap64 ((l0.length : Int) + 1))) (wrap64 ((Int.tmod (wrap64 (a1)) (wrap64 ((l0.length : Int) + 1))) + (Int.tmod (wrap64 (a2)) (wrap64 ((wrap64 ((l0.length : Int) - (Int.tmod (wrap64 (a1)) (wrap64 ((l0.length : Int) + 1))))) + 1))))) bt158.1 true)) else (chamberlainlaw01_WordCuts.j1 kj3 l0 (Int.tmod (wrap64 (a1)) (wrap64 ((l0.length : Int) + 1))) (wrap64 ((Int.tmod (wrap64 (a1)) (wrap64 ((l0.length : Int) + 1))) + (Int.tmod (wrap64 (a2)) (wrap64 ((wrap64 ((l0.length : Int) - (Int.tmod (wrap64 (a1)) (wrap64 ((l0.length : Int) + 1))))) + 1))))) bt158.1 true))))))) = some r := by rw [if_neg (show ¬ (false = true) by decide)] at H; exact H
        clear H
        have H := H1
        clear H1
        by_cases c12 : (wrap64 ((l0.length : Int) + 1)) = 0
        · rw [if_pos c12] at H
          exact absurd H (by simp)
        · rw [if_neg c12] at H
          have c12b0 : ((wrap64 ((l0.length : Int) + 1)) == 0) = false := beq_eq_false_iff_ne.mpr c12
          have c12b1 : ((wrap64 ((l0.length : Int) + 1)) != 0) = true := bne_iff_ne.mpr c12
          by_cases c13 : (wrap64 ((wrap64 ((l0.length : Int) - (Int.tmod (wrap64 (a1)) (wrap64 ((l0.length : Int) + 1))))) + 1)) = 0
          · rw [if_pos c13] at H
            exact absurd H (by simp)
          · rw [if_neg c13] at H
            have c13b0 : ((wrap64 ((wrap64 ((l0.length : Int) - (Int.tmod (wrap64 (a1)) (wrap64 ((l0.length : Int) + 1))))) + 1)) == 0) = false := beq_eq_false_iff_ne.mpr c13
            have c13b1 : ((wrap64 ((wrap64 ((l0.length : Int) - (Int.tmod (wrap64 (a1)) (wrap64 ((l0.length : Int) + 1))))) + 1)) != 0) = true := bne_iff_ne.mpr c13
            replace H := Option.bind_eq_some_iff.mp H
            obtain ⟨⟨t154, t155⟩, A140, H⟩ := H
            replace H : ((word_Cut.f l0 (Int.tmod (wrap64 (a1)) (wrap64 ((l0.length : Int) + 1))) (wrap64 ((Int.tmod (wrap64 (a1)) (wrap64 ((l0.length : Int) + 1))) + (Int.tmod (wrap64 (a2)) (wrap64 ((wrap64 ((l0.length : Int) - (Int.tmod (wrap64 (a1)) (wrap64 ((l0.length : Int) + 1))))) + 1)))))).bind fun bt158 => ((word_Cut.f l0 (wrap64 ((Int.tmod (wrap64 (a1)) (wrap64 ((l0.length : Int) + 1))) + (Int.tmod (wrap64 (a2)) (wrap64 ((wrap64 ((l0.length : Int) - (Int.tmod (wrap64 (a1)) (wrap64 ((l0.length : Int) + 1))))) + 1))))) (l0.length : Int)).bind fun bt162 => (if t155 = true then (if bt158.2 = true then (if bt162.2 = true then ((some (([] : List Int) : List Int)).bind fun y166 => (if y166.length + t154.length < 35184372088832 then ((some (y166 ++ t154 : List Int)).bind fun y169 => (if y169.length + bt158.1.length < 35184372088832 then ((some (y169 ++ bt158.1 : List Int)).bind fun y172 => (if y172.length + bt162.1.length < 35184372088832 then ((chamberlainref01_Same.f kj3 (y172 ++ bt162.1) l0).bind fun t178 => (chamberlainlaw01_WordCuts.j1 kj3 l0 (Int.tmod (wrap64 (a1)) (wrap64 ((l0.length : Int) + 1))) (wrap64 ((Int.tmod (wrap64 (a1)) (wrap64 ((l0.length : Int) + 1))) + (Int.tmod (wrap64 (a2)) (wrap64 ((wrap64 ((l0.length : Int) - (Int.tmod (wrap64 (a1)) (wrap64 ((l0.length : Int) + 1))))) + 1))))) bt158.1 (!t178))) else (none))) else (none))) else (none))) else (chamberlainlaw01_WordCuts.j1 kj3 l0 (Int.tmod (wrap64 (a1)) (wrap64 ((l0.length : Int) + 1))) (wrap64 ((Int.tmod (wrap64 (a1)) (wrap64 ((l0.length : Int) + 1))) + (Int.tmod (wrap64 (a2)) (wrap64 ((wrap64 ((l0.length : Int) - (Int.tmod (wrap64 (a1)) (wrap64 ((l0.length : Int) + 1))))) + 1))))) bt158.1 true)) else (chamberlainlaw01_WordCuts.j1 kj3 l0 (Int.tmod (wrap64 (a1)) (wrap64 ((l0.length : Int) + 1))) (wrap64 ((Int.tmod (wrap64 (a1)) (wrap64 ((l0.length : Int) + 1))) + (Int.tmod (wrap64 (a2)) (wrap64 ((wrap64 ((l0.length : Int) - (Int.tmod (wrap64 (a1)) (wrap64 ((l0.length : Int) + 1))))) + 1))))) bt158.1 true)) else (chamberlainlaw01_WordCuts.j1 kj3 l0 (Int.tmod (wrap64 (a1)) (wrap64 ((l0.length : Int) + 1))) (wrap64 ((Int.tmod (wrap64 (a1)) (wrap64 ((l0.length : Int) + 1))) + (Int.tmod (wrap64 (a2)) (wrap64 ((wrap64 ((l0.length : Int) - (Int.tmod (wrap64 (a1)) (wrap64 ((l0.length : Int) + 1))))) + 1))))) bt158.1 true)))) = some r := H
            have A14 := Aside0.mk A140
            clear A140
            replace H := Option.bind_eq_some_iff.mp H
            obtain ⟨⟨t158, t159⟩, A150, H⟩ := H
            replace H : ((word_Cut.f l0 (wrap64 ((Int.tmod (wrap64 (a1)) (wrap64 ((l0.length : Int) + 1))) + (Int.tmod (wrap64 (a2)) (wrap64 ((wrap64 ((l0.length : Int) - (Int.tmod (wrap64 (a1)) (wrap64 ((l0.length : Int) + 1))))) + 1))))) (l0.length : Int)).bind fun bt162 => (if t155 = true then (if t159 = true then (if bt162.2 = true then ((some (([] : List Int) : List Int)).bind fun y166 => (if y166.length + t154.length < 35184372088832 then ((some (y166 ++ t154 : List Int)).bind fun y169 => (if y169.length + t158.length < 35184372088832 then ((some (y169 ++ t158 : List Int)).bind fun y172 => (if y172.length + bt162.1.length < 35184372088832 then ((chamberlainref01_Same.f kj3 (y172 ++ bt162.1) l0).bind fun t178 => (chamberlainlaw01_WordCuts.j1 kj3 l0 (Int.tmod (wrap64 (a1)) (wrap64 ((l0.length : Int) + 1))) (wrap64 ((Int.tmod (wrap64 (a1)) (wrap64 ((l0.length : Int) + 1))) + (Int.tmod (wrap64 (a2)) (wrap64 ((wrap64 ((l0.length : Int) - (Int.tmod (wrap64 (a1)) (wrap64 ((l0.length : Int) + 1))))) + 1))))) t158 (!t178))) else (none))) else (none))) else (none))) else (chamberlainlaw01_WordCuts.j1 kj3 l0 (Int.tmod (wrap64 (a1)) (wrap64 ((l0.length : Int) + 1))) (wrap64 ((Int.tmod (wrap64 (a1)) (wrap64 ((l0.length : Int) + 1))) + (Int.tmod (wrap64 (a2)) (wrap64 ((wrap64 ((l0.length : Int) - (Int.tmod (wrap64 (a1)) (wrap64 ((l0.length : Int) + 1))))) + 1))))) t158 true)) else (chamberlainlaw01_WordCuts.j1 kj3 l0 (Int.tmod (wrap64 (a1)) (wrap64 ((l0.length : Int) + 1))) (wrap64 ((Int.tmod (wrap64 (a1)) (wrap64 ((l0.length : Int) + 1))) + (Int.tmod (wrap64 (a2)) (wrap64 ((wrap64 ((l0.length : Int) - (Int.tmod (wrap64 (a1)) (wrap64 ((l0.length : Int) + 1))))) + 1))))) t158 true)) else (chamberlainlaw01_WordCuts.j1 kj3 l0 (Int.tmod (wrap64 (a1)) (wrap64 ((l0.length : Int) + 1))) (wrap64 ((Int.tmod (wrap64 (a1)) (wrap64 ((l0.length : Int) + 1))) + (Int.tmod (wrap64 (a2)) (wrap64 ((wrap64 ((l0.length : Int) - (Int.tmod (wrap64 (a1)) (wrap64 ((l0.length : Int) + 1))))) + 1))))) t158 true))) = some r := H
            have A15 := Aside0.mk A150
            clear A150
            replace H := Option.bind_eq_some_iff.mp H
            obtain ⟨⟨t162, t163⟩, A160, H⟩ := H
            replace H : (if t155 = true then (if t159 = true then (if t163 = true then ((some (([] : List Int) : List Int)).bind fun y166 => (if y166.length + t154.length < 35184372088832 then ((some (y166 ++ t154 : List Int)).bind fun y169 => (if y169.length + t158.length < 35184372088832 then ((some (y169 ++ t158 : List Int)).bind fun y172 => (if y172.length + t162.length < 35184372088832 then ((chamberlainref01_Same.f kj3 (y172 ++ t162) l0).bind fun t178 => (chamberlainlaw01_WordCuts.j1 kj3 l0 (Int.tmod (wrap64 (a1)) (wrap64 ((l0.length : Int) + 1))) (wrap64 ((Int.tmod (wrap64 (a1)) (wrap64 ((l0.length : Int) + 1))) + (Int.tmod (wrap64 (a2)) (wrap64 ((wrap64 ((l0.length : Int) - (Int.tmod (wrap64 (a1)) (wrap64 ((l0.length : Int) + 1))))) + 1))))) t158 (!t178))) else (none))) else (none))) else (none))) else (chamberlainlaw01_WordCuts.j1 kj3 l0 (Int.tmod (wrap64 (a1)) (wrap64 ((l0.length : Int) + 1))) (wrap64 ((Int.tmod (wrap64 (a1)) (wrap64 ((l0.length : Int) + 1))) + (Int.tmod (wrap64 (a2)) (wrap64 ((wrap64 ((l0.length : Int) - (Int.tmod (wrap64 (a1)) (wrap64 ((l0.length : Int) + 1))))) + 1))))) t158 true)) else (chamberlainlaw01_WordCuts.j1 kj3 l0 (Int.tmod (wrap64 (a1)) (wrap64 ((l0.length : Int) + 1))) (wrap64 ((Int.tmod (wrap64 (a1)) (wrap64 ((l0.length : Int) + 1))) + (Int.tmod (wrap64 (a2)) (wrap64 ((wrap64 ((l0.length : Int) - (Int.tmod (wrap64 (a1)) (wrap64 ((l0.length : Int) + 1))))) + 1))))) t158 true)) else (chamberlainlaw01_WordCuts.j1 kj3 l0 (Int.tmod (wrap64 (a1)) (wrap64 ((l0.length : Int) + 1))) (wrap64 ((Int.tmod (wrap64 (a1)) (wrap64 ((l0.length : Int) + 1))) + (Int.tmod (wrap64 (a2)) (wrap64 ((wrap64 ((l0.length : Int) - (Int.tmod (wrap64 (a1)) (wrap64 ((l0.length : Int) + 1))))) + 1))))) t158 true)) = some r := H
            have A16 := Aside0.mk A160
            clear A160
            have HC17 := Aside0.mk H
            clear H
            go_upto_region 8 with (first | ((with_reducible refine gate_callee (f := 14) rfl ?_); refine goesL_ (some 46) rfl rfl Try.func14 (by kernel_rfl) rfl #[.slice A0 l0.length c0, .int .i64 0, .int .i64 (Int.tmod (wrap64 (a1)) (wrap64 ((l0.length : Int) + 1)))] rfl (by (try simp only [List.map_toArray, List.map_cons, List.map_nil]); first | done | rfl | (simp only [List.length_drop, List.length_take]; rfl)) ?_; (with_reducible refine (word_Cut.calls _ _ l0 0 (Int.tmod (wrap64 (a1)) (wrap64 ((l0.length : Int) + 1))) t154 t155 _ ?side1 ?side2 A14.out).mono ?_); (case side1 => repeat (first | exact (Kd.C_below HR0.out HB.out) | (with_reducible refine Kd.C_alloc ?_ _) | (with_reducible refine Kd.C_drewN ?_ _) | (with_reducible refine Kd.C_drew ?_))); (case side2 => exact HC0.out); rintro e w18 ⟨v156, rfl, ho0, hb⟩; refine ⟨_, rfl, ?_⟩; have n0_ := Aside0.mk (Kd.R_lower ho0 (below_size (by repeat (first | (with_reducible first | exact HB.out | apply below_alloc | apply pw_below_drewN | apply below_drew1) | exact HB.out)))); have n1_ := Aside0.mk (below_step (by repeat (first | (with_reducible first | exact HB.out | apply below_alloc | apply pw_below_drewN | apply below_drew1) | exact HB.out)) hb); clear HB; have HO157 := n0_; have HB := n1_; clear n0_ n1_; (try clear hb); (try clear hb2); (try clear hk); (try clear hi); (try clear ho0)) | ((with_reducible refine gate_callee (f := 14) rfl ?_); refine goesL_ (some 53) rfl rfl Try.func14 (by kernel_rfl) rfl #[.slice A0 l0.length c0, .int .i64 (Int.tmod (wrap64 (a1)) (wrap64 ((l0.length : Int) + 1))), .int .i64 (wrap64 ((Int.tmod (wrap64 (a1)) (wrap64 ((l0.length : Int) + 1))) + (Int.tmod (wrap64 (a2)) (wrap64 ((wrap64 ((l0.length : Int) - (Int.tmod (wrap64 (a1)) (wrap64 ((l0.length : Int) + 1))))) + 1)))))] rfl (by (try simp only [List.map_toArray, List.map_cons, List.map_nil]); first | done | rfl | (simp only [List.length_drop, List.length_take]; rfl)) ?_; (with_reducible refine (word_Cut.calls _ _ l0 (Int.tmod (wrap64 (a1)) (wrap64 ((l0.length : Int) + 1))) (wrap64 ((Int.tmod (wrap64 (a1)) (wrap64 ((l0.length : Int) + 1))) + (Int.tmod (wrap64 (a2)) (wrap64 ((wrap64 ((l0.length : Int) - (Int.tmod (wrap64 (a1)) (wrap64 ((l0.length : Int) + 1))))) + 1))))) t158 t159 _ ?side1 ?side2 A15.out).mono ?_); (case side1 => repeat (first | exact (Kd.C_below HR0.out HB.out) | (with_reducible refine Kd.C_alloc ?_ _) | (with_reducible refine Kd.C_drewN ?_ _) | (with_reducible refine Kd.C_drew ?_))); (case side2 => exact HC0.out); rintro e w19 ⟨v160, rfl, ho0, hb⟩; refine ⟨_, rfl, ?_⟩; have n0_ := Aside0.mk (Kd.R_elder' (by (with_reducible repeat (first | apply Kd.R_alloc | apply Kd.R_drewN | apply Kd.R_drew)); exact HO157.out) (Kd.R_base ho0) hb); have n1_ := Aside0.mk (Kd.R_lower (Kd.R_new' ho0 (Kd.R_lt (by (with_reducible repeat (first | apply Kd.R_alloc | apply Kd.R_drewN | apply Kd.R_drew)); exact HO157.out))) (below_size (by repeat (first | (with_reducible first | exact HB.out | apply below_alloc | apply pw_below_drewN | apply below_drew1) | exact HB.out)))); have n2_ := Aside0.mk (below_step (by repeat (first | (with_reducible first | exact HB.out | apply below_alloc | apply pw_below_drewN | apply below_drew1) | exact HB.out)) hb); clear HO157; clear HB; have HO157 := n0_; have HO161 := n1_; have HB := n2_; clear n0_ n1_ n2_; (try clear hb); (try clear hb2); (try clear hk); (try clear hi); (try clear ho0)) | ((with_reducible refine gate_callee (f := 14) rfl ?_); refine goesL_ (some 61) rfl rfl Try.func14 (by kernel_rfl) rfl #[.slice A0 l0.length c0, .int .i64 (wrap64 ((Int.tmod (wrap64 (a1)) (wrap64 ((l0.length : Int) + 1))) + (Int.tmod (wrap64 (a2)) (wrap64 ((wrap64 ((l0.length : Int) - (Int.tmod (wrap64 (a1)) (wrap64 ((l0.length : Int) + 1))))) + 1))))), .int .i64 (l0.length : Int)] rfl (by (try simp only [List.map_toArray, List.map_cons, List.map_nil]); first | done | rfl | (simp only [List.length_drop, List.length_take]; rfl)) ?_; (with_reducible refine (word_Cut.calls _ _ l0 (wrap64 ((Int.tmod (wrap64 (a1)) (wrap64 ((l0.length : Int) + 1))) + (Int.tmod (wrap64 (a2)) (wrap64 ((wrap64 ((l0.length : Int) - (Int.tmod (wrap64 (a1)) (wrap64 ((l0.length : Int) + 1))))) + 1))))) (l0.length : Int) t162 t163 _ ?side1 ?side2 A16.out).mono ?_); (case side1 => repeat (first | exact (Kd.C_below HR0.out HB.out) | (with_reducible refine Kd.C_alloc ?_ _) | (with_reducible refine Kd.C_drewN ?_ _) | (with_reducible refine Kd.C_drew ?_))); (case side2 => exact HC0.out); rintro e w20 ⟨v164, rfl, ho0, hb⟩; refine ⟨_, rfl, ?_⟩; have n0_ := Aside0.mk (Kd.R_elder' (by (with_reducible repeat (first | apply Kd.R_alloc | apply Kd.R_drewN | apply Kd.R_drew)); exact HO157.out) (Kd.R_base ho0) hb); have n1_ := Aside0.mk (Kd.R_elder' (by (with_reducible repeat (first | apply Kd.R_alloc | apply Kd.R_drewN | apply Kd.R_drew)); exact HO161.out) (Kd.R_base ho0) hb); have n2_ := Aside0.mk (Kd.R_lower (Kd.R_new' (Kd.R_new' ho0 (Kd.R_lt (by (with_reducible repeat (first | apply Kd.R_alloc | apply Kd.R_drewN | apply Kd.R_drew)); exact HO157.out))) (Kd.R_lt (by (with_reducible repeat (first | apply Kd.R_alloc | apply Kd.R_drewN | apply Kd.R_drew)); exact HO161.out))) (below_size (by repeat (first | (with_reducible first | exact HB.out | apply below_alloc | apply pw_below_drewN | apply below_drew1) | exact HB.out)))); have n3_ := Aside0.mk (below_step (by repeat (first | (with_reducible first | exact HB.out | apply below_alloc | apply pw_below_drewN | apply below_drew1) | exact HB.out)) hb); clear HO157; clear HO161; clear HB; have HO157 := n0_; have HO161 := n1_; have HO165 := n2_; have HB := n3_; clear n0_ n1_ n2_ n3_; (try clear hb); (try clear hb2); (try clear hk); (try clear hi); (try clear ho0)))
            (try simp only [Act.put, List.setIfInBounds_toArray, List.set_cons_zero, List.set_cons_succ])
            go_cut [85] (fun v85 wc => ∃ (kq : Nat) (x85_16 : Bool), v85 = .bool x85_16 ∧ Aside0 (chamberlainlaw01_WordCuts.j1 kq l0 (Int.tmod (wrap64 (a1)) (wrap64 ((l0.length : Int) + 1))) (wrap64 ((Int.tmod (wrap64 (a1)) (wrap64 ((l0.length : Int) + 1))) + (Int.tmod (wrap64 (a2)) (wrap64 ((wrap64 ((l0.length : Int) - (Int.tmod (wrap64 (a1)) (wrap64 ((l0.length : Int) + 1))))) + 1))))) t158 x85_16 = some r) ∧ Aside0 (kq ≤ kj3) ∧ Aside0 (Kd.R (Kd.int .u32) 22 wc w.heap.size (fun _ => True) v160 t158) ∧ Aside0 (Below w.heap.size w wc))
            case first =>
              have H := HC17.out
              clear HC17
              by_cases c21 : t155 = true
              · subst c21
                have H1 : (if t159 = true then (if t163 = true then ((some (([] : List Int) : List Int)).bind fun y166 => (if y166.length + t154.length < 35184372088832 then ((some (y166 ++ t154 : List Int)).bind fun y169 => (if y169.length + t158.length < 35184372088832 then ((some (y169 ++ t158 : List Int)).bind fun y172 => (if y172.length + t162.length < 35184372088832 then ((chamberlainref01_Same.f kj3 (y172 ++ t162) l0).bind fun t178 => (chamberlainlaw01_WordCuts.j1 kj3 l0 (Int.tmod (wrap64 (a1)) (wrap64 ((l0.length : Int) + 1))) (wrap64 ((Int.tmod (wrap64 (a1)) (wrap64 ((l0.length : Int) + 1))) + (Int.tmod (wrap64 (a2)) (wrap64 ((wrap64 ((l0.length : Int) - (Int.tmod (wrap64 (a1)) (wrap64 ((l0.length : Int) + 1))))) + 1))))) t158 (!t178))) else (none))) else (none))) else (none))) else (chamberlainlaw01_WordCuts.j1 kj3 l0 (Int.tmod (wrap64 (a1)) (wrap64 ((l0.length : Int) + 1))) (wrap64 ((Int.tmod (wrap64 (a1)) (wrap64 ((l0.length : Int) + 1))) + (Int.tmod (wrap64 (a2)) (wrap64 ((wrap64 ((l0.length : Int) - (Int.tmod (wrap64 (a1)) (wrap64 ((l0.length : Int) + 1))))) + 1))))) t158 true)) else (chamberlainlaw01_WordCuts.j1 kj3 l0 (Int.tmod (wrap64 (a1)) (wrap64 ((l0.length : Int) + 1))) (wrap64 ((Int.tmod (wrap64 (a1)) (wrap64 ((l0.length : Int) + 1))) + (Int.tmod (wrap64 (a2)) (wrap64 ((wrap64 ((l0.length : Int) - (Int.tmod (wrap64 (a1)) (wrap64 ((l0.length : Int) + 1))))) + 1))))) t158 true)) = some r := by rw [if_pos rfl] at H; exact H
                clear H
                have H := H1
                clear H1
                by_cases c22 : t159 = true
                · subst c22
                  have H1 : (if t163 = true then ((some (([] : List Int) : List Int)).bind fun y166 => (if y166.length + t154.length < 35184372088832 then ((some (y166 ++ t154 : List Int)).bind fun y169 => (if y169.length + t158.length < 35184372088832 then ((some (y169 ++ t158 : List Int)).bind fun y172 => (if y172.length + t162.length < 35184372088832 then ((chamberlainref01_Same.f kj3 (y172 ++ t162) l0).bind fun t178 => (chamberlainlaw01_WordCuts.j1 kj3 l0 (Int.tmod (wrap64 (a1)) (wrap64 ((l0.length : Int) + 1))) (wrap64 ((Int.tmod (wrap64 (a1)) (wrap64 ((l0.length : Int) + 1))) + (Int.tmod (wrap64 (a2)) (wrap64 ((wrap64 ((l0.length : Int) - (Int.tmod (wrap64 (a1)) (wrap64 ((l0.length : Int) + 1))))) + 1))))) t158 (!t178))) else (none))) else (none))) else (none))) else (chamberlainlaw01_WordCuts.j1 kj3 l0 (Int.tmod (wrap64 (a1)) (wrap64 ((l0.length : Int) + 1))) (wrap64 ((Int.tmod (wrap64 (a1)) (wrap64 ((l0.length : Int) + 1))) + (Int.tmod (wrap64 (a2)) (wrap64 ((wrap64 ((l0.length : Int) - (Int.tmod (wrap64 (a1)) (wrap64 ((l0.length : Int) + 1))))) + 1))))) t158 true)) = some r := by rw [if_pos rfl] at H; exact H
                  clear H
                  have H := H1
                  clear H1
                  by_cases c23 : t163 = true
                  · subst c23
                    have H1 : ((some (([] : List Int) : List Int)).bind fun y166 => (if y166.length + t154.length < 35184372088832 then ((some (y166 ++ t154 : List Int)).bind fun y169 => (if y169.length + t158.length < 35184372088832 then ((some (y169 ++ t158 : List Int)).bind fun y172 => (if y172.length + t162.length < 35184372088832 then ((chamberlainref01_Same.f kj3 (y172 ++ t162) l0).bind fun t178 => (chamberlainlaw01_WordCuts.j1 kj3 l0 (Int.tmod (wrap64 (a1)) (wrap64 ((l0.length : Int) + 1))) (wrap64 ((Int.tmod (wrap64 (a1)) (wrap64 ((l0.length : Int) + 1))) + (Int.tmod (wrap64 (a2)) (wrap64 ((wrap64 ((l0.length : Int) - (Int.tmod (wrap64 (a1)) (wrap64 ((l0.length : Int) + 1))))) + 1))))) t158 (!t178))) else (none))) else (none))) else (none))) = some r := by rw [if_pos rfl] at H; exact H
                    clear H
                    have H := H1
                    clear H1
                    obtain ⟨y166, hy166⟩ : ∃ y_ : List Int, y_ = (([] : List Int)) := ⟨_, rfl⟩
                    replace H : (if y166.length + t154.length < 35184372088832 then ((some (y166 ++ t154 : List Int)).bind fun y169 => (if y169.length + t158.length < 35184372088832 then ((some (y169 ++ t158 : List Int)).bind fun y172 => (if y172.length + t162.length < 35184372088832 then ((chamberlainref01_Same.f kj3 (y172 ++ t162) l0).bind fun t178 => (chamberlainlaw01_WordCuts.j1 kj3 l0 (Int.tmod (wrap64 (a1)) (wrap64 ((l0.length : Int) + 1))) (wrap64 ((Int.tmod (wrap64 (a1)) (wrap64 ((l0.length : Int) + 1))) + (Int.tmod (wrap64 (a2)) (wrap64 ((wrap64 ((l0.length : Int) - (Int.tmod (wrap64 (a1)) (wrap64 ((l0.length : Int) + 1))))) + 1))))) t158 (!t178))) else (none))) else (none))) else (none)) = some r := by first | (rw [hy166]; with_reducible exact H) | (have H2_ := (Option.bind_some _ _).symm.trans H; rw [hy166]; with_reducible exact H2_) | (have H2_ := (Option.bind_some _ _).symm.trans H; with_reducible exact H2_) | with_reducible exact H | (rw [hy166]; exact H) | exact H
                    have Ny166 := Aside0.mk hy166
                    clear hy166
                    by_cases c24 : y166.length + t154.length < 35184372088832
                    · rw [if_pos c24] at H
                      have LMc24 := Aside0.mk c24
                      clear c24
                      obtain ⟨y169, hy169⟩ : ∃ y_ : List Int, y_ = (y166 ++ t154) := ⟨_, rfl⟩
                      replace H : (if y169.length + t158.length < 35184372088832 then ((some (y169 ++ t158 : List Int)).bind fun y172 => (if y172.length + t162.length < 35184372088832 then ((chamberlainref01_Same.f kj3 (y172 ++ t162) l0).bind fun t178 => (chamberlainlaw01_WordCuts.j1 kj3 l0 (Int.tmod (wrap64 (a1)) (wrap64 ((l0.length : Int) + 1))) (wrap64 ((Int.tmod (wrap64 (a1)) (wrap64 ((l0.length : Int) + 1))) + (Int.tmod (wrap64 (a2)) (wrap64 ((wrap64 ((l0.length : Int) - (Int.tmod (wrap64 (a1)) (wrap64 ((l0.length : Int) + 1))))) + 1))))) t158 (!t178))) else (none))) else (none)) = some r := by first | (rw [hy169]; with_reducible exact H) | (have H2_ := (Option.bind_some _ _).symm.trans H; rw [hy169]; with_reducible exact H2_) | (have H2_ := (Option.bind_some _ _).symm.trans H; with_reducible exact H2_) | with_reducible exact H | (rw [hy169]; exact H) | exact H
                      have Ny169 := Aside0.mk hy169
                      clear hy169
                      by_cases c25 : y169.length + t158.length < 35184372088832
                      · rw [if_pos c25] at H
                        have LMc25 := Aside0.mk c25
                        clear c25
                        obtain ⟨y172, hy172⟩ : ∃ y_ : List Int, y_ = (y169 ++ t158) := ⟨_, rfl⟩
                        replace H : (if y172.length + t162.length < 35184372088832 then ((chamberlainref01_Same.f kj3 (y172 ++ t162) l0).bind fun t178 => (chamberlainlaw01_WordCuts.j1 kj3 l0 (Int.tmod (wrap64 (a1)) (wrap64 ((l0.length : Int) + 1))) (wrap64 ((Int.tmod (wrap64 (a1)) (wrap64 ((l0.length : Int) + 1))) + (Int.tmod (wrap64 (a2)) (wrap64 ((wrap64 ((l0.length : Int) - (Int.tmod (wrap64 (a1)) (wrap64 ((l0.length : Int) + 1))))) + 1))))) t158 (!t178))) else (none)) = some r := by first | (rw [hy172]; with_reducible exact H) | (have H2_ := (Option.bind_some _ _).symm.trans H; rw [hy172]; with_reducible exact H2_) | (have H2_ := (Option.bind_some _ _).symm.trans H; with_reducible exact H2_) | with_reducible exact H | (rw [hy172]; exact H) | exact H
                        have Ny172 := Aside0.mk hy172
                        clear hy172
                        by_cases c26 : y172.length + t162.length < 35184372088832
                        · rw [if_pos c26] at H
                          have LMc26 := Aside0.mk c26
                          clear c26
                          obtain ⟨y175, hy175⟩ : ∃ y_ : List Int, y_ = (y172 ++ t162) := ⟨_, rfl⟩
                          replace H : ((chamberlainref01_Same.f kj3 y175 l0).bind fun t178 => (chamberlainlaw01_WordCuts.j1 kj3 l0 (Int.tmod (wrap64 (a1)) (wrap64 ((l0.length : Int) + 1))) (wrap64 ((Int.tmod (wrap64 (a1)) (wrap64 ((l0.length : Int) + 1))) + (Int.tmod (wrap64 (a2)) (wrap64 ((wrap64 ((l0.length : Int) - (Int.tmod (wrap64 (a1)) (wrap64 ((l0.length : Int) + 1))))) + 1))))) t158 (!t178))) = some r := by first | (rw [hy175]; with_reducible exact H) | (have H2_ := (Option.bind_some _ _).symm.trans H; rw [hy175]; with_reducible exact H2_) | (have H2_ := (Option.bind_some _ _).symm.trans H; with_reducible exact H2_) | with_reducible exact H | (rw [hy175]; exact H) | exact H
                          have Ny175 := Aside0.mk hy175
                          clear hy175
                          replace H := Option.bind_eq_some_iff.mp H
                          obtain ⟨t178, A270, H⟩ := H
                          replace H : (chamberlainlaw01_WordCuts.j1 kj3 l0 (Int.tmod (wrap64 (a1)) (wrap64 ((l0.length : Int) + 1))) (wrap64 ((Int.tmod (wrap64 (a1)) (wrap64 ((l0.length : Int) + 1))) + (Int.tmod (wrap64 (a2)) (wrap64 ((wrap64 ((l0.length : Int) - (Int.tmod (wrap64 (a1)) (wrap64 ((l0.length : Int) + 1))))) + 1))))) t158 (!t178)) = some r := H
                          have A27 := Aside0.mk A270
                          clear A270
                          have H' := Aside0.mk H
                          clear H
                          go_wp2_with (first | ((with_reducible refine gate_dst (N := 75) rfl ?_); (try (refine gate_guard (by rfl) ?_; dsimp only)); refine Kd.R_lit (Kd.int .u32) _ 22 ?hg (N := 75) ?hd (xs := ([] : List Int)) (inner := []) (ok := fun _ => True) (okp := fun _ => True) ?hr ?hp (fun _ hk => hk) trivial (Below.refl _ _) (Nat.le_refl _) (by simp) ?_; (case hd => rfl); (case hg => rfl); (case hr => first | (go_simp; done) | (go_simp; rfl)); (case hp => exact (Reps.none _ _)); intro v167 w28 ho29 hb hg_ hnew_; clear hg_ hnew_; (first | rw [← Ny166.out] at ho29 | (simp only [Int.reduceToNat] at ho29; rw [← Ny166.out] at ho29)); have n0_ := Aside0.mk (Kd.R_elder' (by (with_reducible repeat (first | apply Kd.R_alloc | apply Kd.R_drewN | apply Kd.R_drew)); exact HO157.out) (Kd.R_base ho29) hb); have n1_ := Aside0.mk (Kd.R_elder' (by (with_reducible repeat (first | apply Kd.R_alloc | apply Kd.R_drewN | apply Kd.R_drew)); exact HO161.out) (Kd.R_base ho29) hb); have n2_ := Aside0.mk (Kd.R_elder' (by (with_reducible repeat (first | apply Kd.R_alloc | apply Kd.R_drewN | apply Kd.R_drew)); exact HO165.out) (Kd.R_base ho29) hb); have n3_ := Aside0.mk (Kd.R_lower (Kd.R_new' (Kd.R_new' (Kd.R_new' ho29 (Kd.R_lt (by (with_reducible repeat (first | apply Kd.R_alloc | apply Kd.R_drewN | apply Kd.R_drew)); exact HO157.out))) (Kd.R_lt (by (with_reducible repeat (first | apply Kd.R_alloc | apply Kd.R_drewN | apply Kd.R_drew)); exact HO161.out))) (Kd.R_lt (by (with_reducible repeat (first | apply Kd.R_alloc | apply Kd.R_drewN | apply Kd.R_drew)); exact HO165.out))) (below_size (by repeat (first | (with_reducible first | exact HB.out | apply below_alloc | apply pw_below_drewN | apply below_drew1) | exact HB.out)))); have n4_ := Aside0.mk (below_step (by repeat (first | (with_reducible first | exact HB.out | apply below_alloc | apply pw_below_drewN | apply below_drew1) | exact HB.out)) hb); clear HO157; clear HO161; clear HO165; clear HB; have HO157 := n0_; have HO161 := n1_; have HO165 := n2_; have HO168 := n3_; have HB := n4_; clear n0_ n1_ n2_ n3_ n4_; clear hb ho29; obtain ⟨Ao31, co31, eo31⟩ := Kd.R_slice HO157.out; subst eo31) | ((with_reducible refine gate_builtin (b := .append) (xs := #[.tmp 75, .tmp 76]) rfl ?_); (try (refine gate_guard (by rfl) ?_; dsimp only)); at_builtin; refine Kd.R_append_rows (Kd.int .u32) (w0 := w) w.heap.size rfl (.tmp 75) (.tmp 76) 26 22 (.int .u32 0) 4 rfl Try.underlying26 info22 rfl (by decide) (by omega) v167 y166 t154 _ _ _ (fun k_ => some k_ ≠ (.slice Ao31 t154.length co31 : Value).ownBlock ∧ some k_ ≠ (v160 : Value).ownBlock ∧ some k_ ≠ (v164 : Value).ownBlock) (fun _ => False) rfl rfl ?aO ?aR (fun _ _ h => h) (fun _ h => h.elim) ?aF ?aB ?aS ?aL ?_; (case aR => repeat (first | exact (Kd.R_reads' HO157.out).2.2 | (with_reducible refine Kd.C_alloc ?_ _) | (with_reducible refine Kd.C_drewN ?_ _) | (with_reducible refine Kd.C_drew ?_))); (case aB => exact (by repeat (first | (with_reducible first | exact HB.out | apply below_alloc | apply pw_below_drewN | apply below_drew1) | exact HB.out))); (case aF => exact (fun k_ hk => ⟨Kd.fresh' (Kd.R_lt (by (with_reducible repeat (first | apply Kd.R_alloc | apply Kd.R_drewN | apply Kd.R_drew)); exact HO157.out)) k_ hk, Kd.fresh' (Kd.R_lt (by (with_reducible repeat (first | apply Kd.R_alloc | apply Kd.R_drewN | apply Kd.R_drew)); exact HO161.out)) k_ hk, Kd.fresh' (Kd.R_lt (by (with_reducible repeat (first | apply Kd.R_alloc | apply Kd.R_drewN | apply Kd.R_drew)); exact HO165.out)) k_ hk⟩)); (case aO => exact (by (with_reducible repeat (first | apply Kd.R_alloc | apply Kd.R_drewN | apply Kd.R_drew)); exact Kd.R_mono HO168.out (fun _ hk => ⟨hk.1.1.2, ⟨hk.1.2, hk.2⟩⟩))); (case aS => exact (below_size (by repeat (first | (with_reducible first | exact HB.out | apply below_alloc | apply pw_below_drewN | apply below_drew1) | exact HB.out)))); (case aL => have := LMc24.out; omega); intro v170 w30 ho hb hg hat; rw [← Ny169.out] at ho; have n0_ := Aside0.mk (Kd.R_after (ok := (fun k_ => some k_ ≠ (v160 : Value).ownBlock ∧ some k_ ≠ (v164 : Value).ownBlock)) (by (with_reducible repeat (first | apply Kd.R_alloc | apply Kd.R_drewN | apply Kd.R_drew)); exact Kd.R_mono HO157.out (fun _ hk => ⟨⟨hk.1.1.2, hk.1.2⟩, hk.2⟩)) hg hat); have n1_ := Aside0.mk (Kd.R_after (ok := (fun k_ => some k_ ≠ (.slice Ao31 t154.length co31 : Value).ownBlock ∧ some k_ ≠ (v164 : Value).ownBlock)) (by (with_reducible repeat (first | apply Kd.R_alloc | apply Kd.R_drewN | apply Kd.R_drew)); exact Kd.R_mono HO161.out (fun _ hk => ⟨⟨hk.1.1.2, hk.1.2⟩, hk.2⟩)) hg hat); have n2_ := Aside0.mk (Kd.R_after (ok := (fun k_ => some k_ ≠ (.slice Ao31 t154.length co31 : Value).ownBlock ∧ some k_ ≠ (v160 : Value).ownBlock)) (by (with_reducible repeat (first | apply Kd.R_alloc | apply Kd.R_drewN | apply Kd.R_drew)); exact Kd.R_mono HO165.out (fun _ hk => ⟨⟨hk.1.1.2, hk.1.2⟩, hk.2⟩)) hg hat); have n3_ := Aside0.mk (hb); have n4_ := Aside0.mk (ho); clear HO157; clear HO161; clear HO165; clear HB; clear HO168; have HO157 := n0_; have HO161 := n1_; have HO165 := n2_; have HB := n3_; have HO171 := n4_; clear n0_ n1_ n2_ n3_ n4_; clear ho hb hg hat; obtain ⟨Ao33, co33, eo33⟩ := Kd.R_slice HO161.out; subst eo33) | ((with_reducible refine gate_builtin (b := .append) (xs := #[.tmp 77, .tmp 78]) rfl ?_); (try (refine gate_guard (by rfl) ?_; dsimp only)); at_builtin; refine Kd.R_append_rows (Kd.int .u32) (w0 := w) w.heap.size rfl (.tmp 77) (.tmp 78) 26 22 (.int .u32 0) 4 rfl Try.underlying26 info22 rfl (by decide) (by omega) v170 y169 t158 _ _ _ (fun k_ => some k_ ≠ (.slice Ao31 t154.length co31 : Value).ownBlock ∧ some k_ ≠ (.slice Ao33 t158.length co33 : Value).ownBlock ∧ some k_ ≠ (v164 : Value).ownBlock) (fun _ => False) rfl rfl ?aO ?aR (fun _ _ h => h) (fun _ h => h.elim) ?aF ?aB ?aS ?aL ?_; (case aR => repeat (first | exact (Kd.R_reads' HO161.out).2.2 | (with_reducible refine Kd.C_alloc ?_ _) | (with_reducible refine Kd.C_drewN ?_ _) | (with_reducible refine Kd.C_drew ?_))); (case aB => exact (by repeat (first | (with_reducible first | exact HB.out | apply below_alloc | apply pw_below_drewN | apply below_drew1) | exact HB.out))); (case aF => exact (fun k_ hk => ⟨Kd.fresh' (Kd.R_lt (by (with_reducible repeat (first | apply Kd.R_alloc | apply Kd.R_drewN | apply Kd.R_drew)); exact HO157.out)) k_ hk, Kd.fresh' (Kd.R_lt (by (with_reducible repeat (first | apply Kd.R_alloc | apply Kd.R_drewN | apply Kd.R_drew)); exact HO161.out)) k_ hk, Kd.fresh' (Kd.R_lt (by (with_reducible repeat (first | apply Kd.R_alloc | apply Kd.R_drewN | apply Kd.R_drew)); exact HO165.out)) k_ hk⟩)); (case aO => exact (by (with_reducible repeat (first | apply Kd.R_alloc | apply Kd.R_drewN | apply Kd.R_drew)); exact HO171.out)); (case aS => exact (below_size (by repeat (first | (with_reducible first | exact HB.out | apply below_alloc | apply pw_below_drewN | apply below_drew1) | exact HB.out)))); (case aL => have := LMc25.out; omega); intro v173 w32 ho hb hg hat; rw [← Ny172.out] at ho; have n0_ := Aside0.mk (Kd.R_after (ok := (fun k_ => some k_ ≠ (.slice Ao33 t158.length co33 : Value).ownBlock ∧ some k_ ≠ (v164 : Value).ownBlock)) (by (with_reducible repeat (first | apply Kd.R_alloc | apply Kd.R_drewN | apply Kd.R_drew)); exact HO157.out) hg hat); have n1_ := Aside0.mk (Kd.R_after (ok := (fun k_ => some k_ ≠ (.slice Ao31 t154.length co31 : Value).ownBlock ∧ some k_ ≠ (v164 : Value).ownBlock)) (by (with_reducible repeat (first | apply Kd.R_alloc | apply Kd.R_drewN | apply Kd.R_drew)); exact HO161.out) hg hat); have n2_ := Aside0.mk (Kd.R_after (ok := (fun k_ => some k_ ≠ (.slice Ao31 t154.length co31 : Value).ownBlock ∧ some k_ ≠ (.slice Ao33 t158.length co33 : Value).ownBlock)) (by (with_reducible repeat (first | apply Kd.R_alloc | apply Kd.R_drewN | apply Kd.R_drew)); exact HO165.out) hg hat); have n3_ := Aside0.mk (hb); have n4_ := Aside0.mk (ho); clear HO157; clear HO161; clear HO165; clear HB; clear HO171; have HO157 := n0_; have HO161 := n1_; have HO165 := n2_; have HB := n3_; have HO174 := n4_; clear n0_ n1_ n2_ n3_ n4_; clear ho hb hg hat; obtain ⟨Ao35, co35, eo35⟩ := Kd.R_slice HO165.out; subst eo35) | ((with_reducible refine gate_builtin (b := .append) (xs := #[.tmp 79, .tmp 80]) rfl ?_); (try (refine gate_guard (by rfl) ?_; dsimp only)); at_builtin; refine Kd.R_append_rows (Kd.int .u32) (w0 := w) w.heap.size rfl (.tmp 79) (.tmp 80) 26 22 (.int .u32 0) 4 rfl Try.underlying26 info22 rfl (by decide) (by omega) v173 y172 t162 _ _ _ (fun k_ => some k_ ≠ (.slice Ao31 t154.length co31 : Value).ownBlock ∧ some k_ ≠ (.slice Ao33 t158.length co33 : Value).ownBlock ∧ some k_ ≠ (.slice Ao35 t162.length co35 : Value).ownBlock) (fun _ => False) rfl rfl ?aO ?aR (fun _ _ h => h) (fun _ h => h.elim) ?aF ?aB ?aS ?aL ?_; (case aR => repeat (first | exact (Kd.R_reads' HO165.out).2.2 | (with_reducible refine Kd.C_alloc ?_ _) | (with_reducible refine Kd.C_drewN ?_ _) | (with_reducible refine Kd.C_drew ?_))); (case aB => exact (by repeat (first | (with_reducible first | exact HB.out | apply below_alloc | apply pw_below_drewN | apply below_drew1) | exact HB.out))); (case aF => exact (fun k_ hk => ⟨Kd.fresh' (Kd.R_lt (by (with_reducible repeat (first | apply Kd.R_alloc | apply Kd.R_drewN | apply Kd.R_drew)); exact HO157.out)) k_ hk, Kd.fresh' (Kd.R_lt (by (with_reducible repeat (first | apply Kd.R_alloc | apply Kd.R_drewN | apply Kd.R_drew)); exact HO161.out)) k_ hk, Kd.fresh' (Kd.R_lt (by (with_reducible repeat (first | apply Kd.R_alloc | apply Kd.R_drewN | apply Kd.R_drew)); exact HO165.out)) k_ hk⟩)); (case aO => exact (by (with_reducible repeat (first | apply Kd.R_alloc | apply Kd.R_drewN | apply Kd.R_drew)); exact HO174.out)); (case aS => exact (below_size (by repeat (first | (with_reducible first | exact HB.out | apply below_alloc | apply pw_below_drewN | apply below_drew1) | exact HB.out)))); (case aL => have := LMc26.out; omega); intro v176 w34 ho hb hg hat; rw [← Ny175.out] at ho; have n0_ := Aside0.mk (Kd.R_after (ok := (fun k_ => some k_ ≠ (.slice Ao33 t158.length co33 : Value).ownBlock ∧ some k_ ≠ (.slice Ao35 t162.length co35 : Value).ownBlock)) (by (with_reducible repeat (first | apply Kd.R_alloc | apply Kd.R_drewN | apply Kd.R_drew)); exact HO157.out) hg hat); have n1_ := Aside0.mk (Kd.R_after (ok := (fun k_ => some k_ ≠ (.slice Ao31 t154.length co31 : Value).ownBlock ∧ some k_ ≠ (.slice Ao35 t162.length co35 : Value).ownBlock)) (by (with_reducible repeat (first | apply Kd.R_alloc | apply Kd.R_drewN | apply Kd.R_drew)); exact HO161.out) hg hat); have n2_ := Aside0.mk (Kd.R_after (ok := (fun k_ => some k_ ≠ (.slice Ao31 t154.length co31 : Value).ownBlock ∧ some k_ ≠ (.slice Ao33 t158.length co33 : Value).ownBlock)) (by (with_reducible repeat (first | apply Kd.R_alloc | apply Kd.R_drewN | apply Kd.R_drew)); exact HO165.out) hg hat); have n3_ := Aside0.mk (hb); have n4_ := Aside0.mk (ho); clear HO157; clear HO161; clear HO165; clear HB; clear HO174; have HO157 := n0_; have HO161 := n1_; have HO165 := n2_; have HB := n3_; have HO177 := n4_; clear n0_ n1_ n2_ n3_ n4_; clear ho hb hg hat; obtain ⟨Ao36, co36, eo36⟩ := Kd.R_slice HO177.out; subst eo36) | (go_at_call 16; (with_reducible refine (chamberlainref01_Same.calls kj3 _ _ y175 _ _ l0 t178 _ ?side1 ?side2 ?side3 ?side4 A27.out).mono ?_); (case side1 => repeat (first | exact (Kd.R_reads' HO177.out).2.2 | (with_reducible refine Kd.C_alloc ?_ _) | (with_reducible refine Kd.C_drewN ?_ _) | (with_reducible refine Kd.C_drew ?_))); (case side2 => exact (Kd.R_reads' HO177.out).2.1); (case side3 => repeat (first | exact (Kd.C_below HR0.out HB.out) | (with_reducible refine Kd.C_alloc ?_ _) | (with_reducible refine Kd.C_drewN ?_ _) | (with_reducible refine Kd.C_drew ?_))); (case side4 => exact HC0.out); rintro e w' ⟨rfl, ⟨nd, rfl⟩⟩))
                          go_meet
                          case rel => exact ⟨_, (!t178), (by first | rfl | (simp; done) | (simp [*]; done)), H', ⟨by have := HJ3.out; first | omega | exact Nat.le_refl _⟩, ⟨by (with_reducible repeat (first | apply Kd.R_alloc | apply Kd.R_drewN | apply Kd.R_drew)); exact Kd.R_mono HO161.out (fun _ hk => trivial)⟩, ⟨by repeat (first | (with_reducible first | exact HB.out | apply below_alloc | apply pw_below_drewN | apply below_drew1) | exact HB.out)⟩⟩
                        · rw [if_neg c26] at H
                          exact absurd H (by simp)
                      · rw [if_neg c25] at H
                        exact absurd H (by simp)
                    · rw [if_neg c24] at H
                      exact absurd H (by simp)
                  · replace c23 := Bool.eq_false_iff.mpr c23
                    subst c23
                    have H1 : (chamberlainlaw01_WordCuts.j1 kj3 l0 (Int.tmod (wrap64 (a1)) (wrap64 ((l0.length : Int) + 1))) (wrap64 ((Int.tmod (wrap64 (a1)) (wrap64 ((l0.length : Int) + 1))) + (Int.tmod (wrap64 (a2)) (wrap64 ((wrap64 ((l0.length : Int) - (Int.tmod (wrap64 (a1)) (wrap64 ((l0.length : Int) + 1))))) + 1))))) t158 true) = some r := by rw [if_neg (show ¬ (false = true) by decide)] at H; exact H
                    clear H
                    have H := H1
                    clear H1
                    have H' := Aside0.mk H
                    clear H
                    go_wp2
                    go_meet
                    case rel => exact ⟨_, (true), (by first | rfl | (simp; done) | (simp [*]; done)), H', ⟨by have := HJ3.out; first | omega | exact Nat.le_refl _⟩, ⟨by (with_reducible repeat (first | apply Kd.R_alloc | apply Kd.R_drewN | apply Kd.R_drew)); exact Kd.R_mono HO161.out (fun _ hk => trivial)⟩, ⟨by repeat (first | (with_reducible first | exact HB.out | apply below_alloc | apply pw_below_drewN | apply below_drew1) | exact HB.out)⟩⟩
                · replace c22 := Bool.eq_false_iff.mpr c22
                  subst c22
                  have H1 : (chamberlainlaw01_WordCuts.j1 kj3 l0 (Int.tmod (wrap64 (a1)) (wrap64 ((l0.length : Int) + 1))) (wrap64 ((Int.tmod (wrap64 (a1)) (wrap64 ((l0.length : Int) + 1))) + (Int.tmod (wrap64 (a2)) (wrap64 ((wrap64 ((l0.length : Int) - (Int.tmod (wrap64 (a1)) (wrap64 ((l0.length : Int) + 1))))) + 1))))) t158 true) = some r := by rw [if_neg (show ¬ (false = true) by decide)] at H; exact H
                  clear H
                  have H := H1
                  clear H1
                  have H' := Aside0.mk H
                  clear H
                  go_wp2
                  go_meet
                  case rel => exact ⟨_, (true), (by first | rfl | (simp; done) | (simp [*]; done)), H', ⟨by have := HJ3.out; first | omega | exact Nat.le_refl _⟩, ⟨by (with_reducible repeat (first | apply Kd.R_alloc | apply Kd.R_drewN | apply Kd.R_drew)); exact Kd.R_mono HO161.out (fun _ hk => trivial)⟩, ⟨by repeat (first | (with_reducible first | exact HB.out | apply below_alloc | apply pw_below_drewN | apply below_drew1) | exact HB.out)⟩⟩
              · replace c21 := Bool.eq_false_iff.mpr c21
                subst c21
                have H1 : (chamberlainlaw01_WordCuts.j1 kj3 l0 (Int.tmod (wrap64 (a1)) (wrap64 ((l0.length : Int) + 1))) (wrap64 ((Int.tmod (wrap64 (a1)) (wrap64 ((l0.length : Int) + 1))) + (Int.tmod (wrap64 (a2)) (wrap64 ((wrap64 ((l0.length : Int) - (Int.tmod (wrap64 (a1)) (wrap64 ((l0.length : Int) + 1))))) + 1))))) t158 true) = some r := by rw [if_neg (show ¬ (false = true) by decide)] at H; exact H
                clear H
                have H := H1
                clear H1
                have H' := Aside0.mk H
                clear H
                go_wp2
                go_meet
                case rel => exact ⟨_, (true), (by first | rfl | (simp; done) | (simp [*]; done)), H', ⟨by have := HJ3.out; first | omega | exact Nat.le_refl _⟩, ⟨by (with_reducible repeat (first | apply Kd.R_alloc | apply Kd.R_drewN | apply Kd.R_drew)); exact Kd.R_mono HO161.out (fun _ hk => trivial)⟩, ⟨by repeat (first | (with_reducible first | exact HB.out | apply below_alloc | apply pw_below_drewN | apply below_drew1) | exact HB.out)⟩⟩
            case rest =>
              clear HC17
              try clear c1
              try clear c2
              try clear p2
              try clear c6
              try clear p6
              try clear c8
              try clear c9
              try clear c12
              try clear c12b0
              try clear c12b1
              try clear c13
              try clear c13b0
              try clear c13b1
              try clear c14
              try clear c21
              try clear c22
              try clear c23
              try clear c24
              try clear c25
              try clear c26
              try clear p2
              obtain ⟨kq, x85_16, rfl, HA, HJ16, HO_11, HB⟩ := hcut
              cases kq with
              | zero => exact absurd HA.out (by simp [chamberlainlaw01_WordCuts.j1])
              | succ kj16 =>
                have H := HA.out
                clear HA
                simp only [chamberlainlaw01_WordCuts.j1] at H
                by_cases c37 : x85_16 = true
                · subst c37
                  have H1 : (some false) = some r := by rw [if_pos rfl] at H; exact H
                  clear H
                  have H := H1
                  clear H1
                  obtain rfl := Option.some.inj H
                  go_wp2
                  go_ret
                  exact ⟨by first | rfl | (simp [errW_none, errW_some] <;> rfl) | (simp [*, errW_none, errW_some] <;> rfl), by repeat (first | (with_reducible first | exact HB.out | apply below_alloc | apply pw_below_drewN | apply below_drew1) | exact HB.out)⟩
                · replace c37 := Bool.eq_false_iff.mpr c37
                  subst c37
                  have H1 : ((word_Cut.f l0 (Int.tmod (wrap64 (a1)) (wrap64 ((l0.length : Int) + 1))) (l0.length : Int)).bind fun bt179 => ((word_Cut.f bt179.1 0 (wrap64 ((wrap64 ((Int.tmod (wrap64 (a1)) (wrap64 ((l0.length : Int) + 1))) + (Int.tmod (wrap64 (a2)) (wrap64 ((wrap64 ((l0.length : Int) - (Int.tmod (wrap64 (a1)) (wrap64 ((l0.length : Int) + 1))))) + 1))))) - (Int.tmod (wrap64 (a1)) (wrap64 ((l0.length : Int) + 1)))))).bind fun bt183 => (if bt179.2 = true then (if bt183.2 = true then ((chamberlainref01_Same.f kj16 bt183.1 t158).bind fun t187 => (some t187)) else (some false)) else (some false)))) = some r := by rw [if_neg (show ¬ (false = true) by decide)] at H; exact H
                  clear H
                  have H := H1
                  clear H1
                  replace H := Option.bind_eq_some_iff.mp H
                  obtain ⟨⟨t179, t180⟩, A380, H⟩ := H
                  replace H : ((word_Cut.f t179 0 (wrap64 ((wrap64 ((Int.tmod (wrap64 (a1)) (wrap64 ((l0.length : Int) + 1))) + (Int.tmod (wrap64 (a2)) (wrap64 ((wrap64 ((l0.length : Int) - (Int.tmod (wrap64 (a1)) (wrap64 ((l0.length : Int) + 1))))) + 1))))) - (Int.tmod (wrap64 (a1)) (wrap64 ((l0.length : Int) + 1)))))).bind fun bt183 => (if t180 = true then (if bt183.2 = true then ((chamberlainref01_Same.f kj16 bt183.1 t158).bind fun t187 => (some t187)) else (some false)) else (some false))) = some r := H
                  have A38 := Aside0.mk A380
                  clear A380
                  replace H := Option.bind_eq_some_iff.mp H
                  obtain ⟨⟨t183, t184⟩, A390, H⟩ := H
                  replace H : (if t180 = true then (if t184 = true then ((chamberlainref01_Same.f kj16 t183 t158).bind fun t187 => (some t187)) else (some false)) else (some false)) = some r := H
                  have A39 := Aside0.mk A390
                  clear A390
                  by_cases c40 : t180 = true
                  · subst c40
                    have H1 : (if t184 = true then ((chamberlainref01_Same.f kj16 t183 t158).bind fun t187 => (some t187)) else (some false)) = some r := by rw [if_pos rfl] at H; exact H
                    clear H
                    have H := H1
                    clear H1
                    by_cases c41 : t184 = true
                    · subst c41
                      have H1 : ((chamberlainref01_Same.f kj16 t183 t158).bind fun t187 => (some t187)) = some r := by rw [if_pos rfl] at H; exact H
                      clear H
                      have H := H1
                      clear H1
                      replace H := Option.bind_eq_some_iff.mp H
                      obtain ⟨t187, A420, H⟩ := H
                      replace H : (some t187) = some r := H
                      have A42 := Aside0.mk A420
                      clear A420
                      obtain rfl := Option.some.inj H
                      go_wp2_with (first | ((with_reducible refine gate_callee (f := 14) rfl ?_); refine goesL_ (some 91) rfl rfl Try.func14 (by kernel_rfl) rfl #[.slice A0 l0.length c0, .int .i64 (Int.tmod (wrap64 (a1)) (wrap64 ((l0.length : Int) + 1))), .int .i64 (l0.length : Int)] rfl (by (try simp only [List.map_toArray, List.map_cons, List.map_nil]); first | done | rfl | (simp only [List.length_drop, List.length_take]; rfl)) ?_; (with_reducible refine (word_Cut.calls _ _ l0 (Int.tmod (wrap64 (a1)) (wrap64 ((l0.length : Int) + 1))) (l0.length : Int) t179 true _ ?side1 ?side2 A38.out).mono ?_); (case side1 => repeat (first | exact (Kd.C_below HR0.out HB.out) | (with_reducible refine Kd.C_alloc ?_ _) | (with_reducible refine Kd.C_drewN ?_ _) | (with_reducible refine Kd.C_drew ?_))); (case side2 => exact HC0.out); rintro e w43 ⟨v181, rfl, ho0, hb⟩; refine ⟨_, rfl, ?_⟩; have n0_ := Aside0.mk (Kd.R_elder' (by (with_reducible repeat (first | apply Kd.R_alloc | apply Kd.R_drewN | apply Kd.R_drew)); exact HO_11.out) (Kd.R_base ho0) hb); have n1_ := Aside0.mk (Kd.R_lower (Kd.R_new' ho0 (Kd.R_lt (by (with_reducible repeat (first | apply Kd.R_alloc | apply Kd.R_drewN | apply Kd.R_drew)); exact HO_11.out))) (below_size (by repeat (first | (with_reducible first | exact HB.out | apply below_alloc | apply pw_below_drewN | apply below_drew1) | exact HB.out)))); have n2_ := Aside0.mk (below_step (by repeat (first | (with_reducible first | exact HB.out | apply below_alloc | apply pw_below_drewN | apply below_drew1) | exact HB.out)) hb); clear HO_11; clear HB; have HO_11 := n0_; have HO182 := n1_; have HB := n2_; clear n0_ n1_ n2_; (try clear hb); (try clear hb2); (try clear hk); (try clear hi); (try clear ho0); obtain ⟨Ao44, co44, eo44⟩ := Kd.R_slice HO182.out; subst eo44) | ((with_reducible refine gate_callee (f := 14) rfl ?_); refine goesL_ (some 99) rfl rfl Try.func14 (by kernel_rfl) rfl #[.slice Ao44 t179.length co44, .int .i64 0, .int .i64 (wrap64 ((wrap64 ((Int.tmod (wrap64 (a1)) (wrap64 ((l0.length : Int) + 1))) + (Int.tmod (wrap64 (a2)) (wrap64 ((wrap64 ((l0.length : Int) - (Int.tmod (wrap64 (a1)) (wrap64 ((l0.length : Int) + 1))))) + 1))))) - (Int.tmod (wrap64 (a1)) (wrap64 ((l0.length : Int) + 1)))))] rfl (by (try simp only [List.map_toArray, List.map_cons, List.map_nil]); first | done | rfl | (simp only [List.length_drop, List.length_take]; rfl)) ?_; (with_reducible refine (word_Cut.calls _ _ t179 0 (wrap64 ((wrap64 ((Int.tmod (wrap64 (a1)) (wrap64 ((l0.length : Int) + 1))) + (Int.tmod (wrap64 (a2)) (wrap64 ((wrap64 ((l0.length : Int) - (Int.tmod (wrap64 (a1)) (wrap64 ((l0.length : Int) + 1))))) + 1))))) - (Int.tmod (wrap64 (a1)) (wrap64 ((l0.length : Int) + 1))))) t183 true _ ?side1 ?side2 A39.out).mono ?_); (case side1 => repeat (first | exact (Kd.R_reads' HO182.out).2.2 | (with_reducible refine Kd.C_alloc ?_ _) | (with_reducible refine Kd.C_drewN ?_ _) | (with_reducible refine Kd.C_drew ?_))); (case side2 => exact (Kd.R_reads' HO182.out).2.1); rintro e w45 ⟨v185, rfl, ho0, hb⟩; refine ⟨_, rfl, ?_⟩; have n0_ := Aside0.mk (Kd.R_elder' (by (with_reducible repeat (first | apply Kd.R_alloc | apply Kd.R_drewN | apply Kd.R_drew)); exact HO_11.out) (Kd.R_base ho0) hb); have n1_ := Aside0.mk (Kd.R_elder' (by (with_reducible repeat (first | apply Kd.R_alloc | apply Kd.R_drewN | apply Kd.R_drew)); exact HO182.out) (Kd.R_base ho0) hb); have n2_ := Aside0.mk (Kd.R_lower (Kd.R_new' (Kd.R_new' ho0 (Kd.R_lt (by (with_reducible repeat (first | apply Kd.R_alloc | apply Kd.R_drewN | apply Kd.R_drew)); exact HO_11.out))) (Kd.R_lt (by (with_reducible repeat (first | apply Kd.R_alloc | apply Kd.R_drewN | apply Kd.R_drew)); exact HO182.out))) (below_size (by repeat (first | (with_reducible first | exact HB.out | apply below_alloc | apply pw_below_drewN | apply below_drew1) | exact HB.out)))); have n3_ := Aside0.mk (below_step (by repeat (first | (with_reducible first | exact HB.out | apply below_alloc | apply pw_below_drewN | apply below_drew1) | exact HB.out)) hb); clear HO_11; clear HO182; clear HB; have HO_11 := n0_; have HO182 := n1_; have HO186 := n2_; have HB := n3_; clear n0_ n1_ n2_ n3_; (try clear hb); (try clear hb2); (try clear hk); (try clear hi); (try clear ho0); obtain ⟨Ao46, co46, eo46⟩ := Kd.R_slice HO186.out; subst eo46; obtain ⟨Ao47, co47, eo47⟩ := Kd.R_slice HO_11.out; subst eo47) | (go_at_call 16; (with_reducible refine (chamberlainref01_Same.calls kj16 _ _ t183 _ _ t158 t187 _ ?side1 ?side2 ?side3 ?side4 A42.out).mono ?_); (case side1 => repeat (first | exact (Kd.R_reads' HO186.out).2.2 | (with_reducible refine Kd.C_alloc ?_ _) | (with_reducible refine Kd.C_drewN ?_ _) | (with_reducible refine Kd.C_drew ?_))); (case side2 => exact (Kd.R_reads' HO186.out).2.1); (case side3 => repeat (first | exact (Kd.R_reads' HO_11.out).2.2 | (with_reducible refine Kd.C_alloc ?_ _) | (with_reducible refine Kd.C_drewN ?_ _) | (with_reducible refine Kd.C_drew ?_))); (case side4 => exact (Kd.R_reads' HO_11.out).2.1); rintro e w' ⟨rfl, ⟨nd, rfl⟩⟩))
                      go_ret
                      exact ⟨by first | rfl | (simp [errW_none, errW_some] <;> rfl) | (simp [*, errW_none, errW_some] <;> rfl), by repeat (first | (with_reducible first | exact HB.out | apply below_alloc | apply pw_below_drewN | apply below_drew1) | exact HB.out)⟩
                    · replace c41 := Bool.eq_false_iff.mpr c41
                      subst c41
                      have H1 : (some false) = some r := by rw [if_neg (show ¬ (false = true) by decide)] at H; exact H
                      clear H
                      have H := H1
                      clear H1
                      obtain rfl := Option.some.inj H
                      go_wp2_with (first | ((with_reducible refine gate_callee (f := 14) rfl ?_); refine goesL_ (some 91) rfl rfl Try.func14 (by kernel_rfl) rfl #[.slice A0 l0.length c0, .int .i64 (Int.tmod (wrap64 (a1)) (wrap64 ((l0.length : Int) + 1))), .int .i64 (l0.length : Int)] rfl (by (try simp only [List.map_toArray, List.map_cons, List.map_nil]); first | done | rfl | (simp only [List.length_drop, List.length_take]; rfl)) ?_; (with_reducible refine (word_Cut.calls _ _ l0 (Int.tmod (wrap64 (a1)) (wrap64 ((l0.length : Int) + 1))) (l0.length : Int) t179 true _ ?side1 ?side2 A38.out).mono ?_); (case side1 => repeat (first | exact (Kd.C_below HR0.out HB.out) | (with_reducible refine Kd.C_alloc ?_ _) | (with_reducible refine Kd.C_drewN ?_ _) | (with_reducible refine Kd.C_drew ?_))); (case side2 => exact HC0.out); rintro e w48 ⟨v181, rfl, ho0, hb⟩; refine ⟨_, rfl, ?_⟩; have n0_ := Aside0.mk (Kd.R_elder' (by (with_reducible repeat (first | apply Kd.R_alloc | apply Kd.R_drewN | apply Kd.R_drew)); exact HO_11.out) (Kd.R_base ho0) hb); have n1_ := Aside0.mk (Kd.R_lower (Kd.R_new' ho0 (Kd.R_lt (by (with_reducible repeat (first | apply Kd.R_alloc | apply Kd.R_drewN | apply Kd.R_drew)); exact HO_11.out))) (below_size (by repeat (first | (with_reducible first | exact HB.out | apply below_alloc | apply pw_below_drewN | apply below_drew1) | exact HB.out)))); have n2_ := Aside0.mk (below_step (by repeat (first | (with_reducible first | exact HB.out | apply below_alloc | apply pw_below_drewN | apply below_drew1) | exact HB.out)) hb); clear HO_11; clear HB; have HO_11 := n0_; have HO182 := n1_; have HB := n2_; clear n0_ n1_ n2_; (try clear hb); (try clear hb2); (try clear hk); (try clear hi); (try clear ho0); obtain ⟨Ao49, co49, eo49⟩ := Kd.R_slice HO182.out; subst eo49) | ((with_reducible refine gate_callee (f := 14) rfl ?_); refine goesL_ (some 99) rfl rfl Try.func14 (by kernel_rfl) rfl #[.slice Ao49 t179.length co49, .int .i64 0, .int .i64 (wrap64 ((wrap64 ((Int.tmod (wrap64 (a1)) (wrap64 ((l0.length : Int) + 1))) + (Int.tmod (wrap64 (a2)) (wrap64 ((wrap64 ((l0.length : Int) - (Int.tmod (wrap64 (a1)) (wrap64 ((l0.length : Int) + 1))))) + 1))))) - (Int.tmod (wrap64 (a1)) (wrap64 ((l0.length : Int) + 1)))))] rfl (by (try simp only [List.map_toArray, List.map_cons, List.map_nil]); first | done | rfl | (simp only [List.length_drop, List.length_take]; rfl)) ?_; (with_reducible refine (word_Cut.calls _ _ t179 0 (wrap64 ((wrap64 ((Int.tmod (wrap64 (a1)) (wrap64 ((l0.length : Int) + 1))) + (Int.tmod (wrap64 (a2)) (wrap64 ((wrap64 ((l0.length : Int) - (Int.tmod (wrap64 (a1)) (wrap64 ((l0.length : Int) + 1))))) + 1))))) - (Int.tmod (wrap64 (a1)) (wrap64 ((l0.length : Int) + 1))))) t183 false _ ?side1 ?side2 A39.out).mono ?_); (case side1 => repeat (first | exact (Kd.R_reads' HO182.out).2.2 | (with_reducible refine Kd.C_alloc ?_ _) | (with_reducible refine Kd.C_drewN ?_ _) | (with_reducible refine Kd.C_drew ?_))); (case side2 => exact (Kd.R_reads' HO182.out).2.1); rintro e w50 ⟨v185, rfl, ho0, hb⟩; refine ⟨_, rfl, ?_⟩; have n0_ := Aside0.mk (Kd.R_elder' (by (with_reducible repeat (first | apply Kd.R_alloc | apply Kd.R_drewN | apply Kd.R_drew)); exact HO_11.out) (Kd.R_base ho0) hb); have n1_ := Aside0.mk (Kd.R_elder' (by (with_reducible repeat (first | apply Kd.R_alloc | apply Kd.R_drewN | apply Kd.R_drew)); exact HO182.out) (Kd.R_base ho0) hb); have n2_ := Aside0.mk (Kd.R_lower (Kd.R_new' (Kd.R_new' ho0 (Kd.R_lt (by (with_reducible repeat (first | apply Kd.R_alloc | apply Kd.R_drewN | apply Kd.R_drew)); exact HO_11.out))) (Kd.R_lt (by (with_reducible repeat (first | apply Kd.R_alloc | apply Kd.R_drewN | apply Kd.R_drew)); exact HO182.out))) (below_size (by repeat (first | (with_reducible first | exact HB.out | apply below_alloc | apply pw_below_drewN | apply below_drew1) | exact HB.out)))); have n3_ := Aside0.mk (below_step (by repeat (first | (with_reducible first | exact HB.out | apply below_alloc | apply pw_below_drewN | apply below_drew1) | exact HB.out)) hb); clear HO_11; clear HO182; clear HB; have HO_11 := n0_; have HO182 := n1_; have HO186 := n2_; have HB := n3_; clear n0_ n1_ n2_ n3_; (try clear hb); (try clear hb2); (try clear hk); (try clear hi); (try clear ho0)))
                      go_ret
                      exact ⟨by first | rfl | (simp [errW_none, errW_some] <;> rfl) | (simp [*, errW_none, errW_some] <;> rfl), by repeat (first | (with_reducible first | exact HB.out | apply below_alloc | apply pw_below_drewN | apply below_drew1) | exact HB.out)⟩
                  · replace c40 := Bool.eq_false_iff.mpr c40
                    subst c40
                    have H1 : (some false) = some r := by rw [if_neg (show ¬ (false = true) by decide)] at H; exact H
                    clear H
                    have H := H1
                    clear H1
                    obtain rfl := Option.some.inj H
                    go_wp2_with (first | ((with_reducible refine gate_callee (f := 14) rfl ?_); refine goesL_ (some 91) rfl rfl Try.func14 (by kernel_rfl) rfl #[.slice A0 l0.length c0, .int .i64 (Int.tmod (wrap64 (a1)) (wrap64 ((l0.length : Int) + 1))), .int .i64 (l0.length : Int)] rfl (by (try simp only [List.map_toArray, List.map_cons, List.map_nil]); first | done | rfl | (simp only [List.length_drop, List.length_take]; rfl)) ?_; (with_reducible refine (word_Cut.calls _ _ l0 (Int.tmod (wrap64 (a1)) (wrap64 ((l0.length : Int) + 1))) (l0.length : Int) t179 false _ ?side1 ?side2 A38.out).mono ?_); (case side1 => repeat (first | exact (Kd.C_below HR0.out HB.out) | (with_reducible refine Kd.C_alloc ?_ _) | (with_reducible refine Kd.C_drewN ?_ _) | (with_reducible refine Kd.C_drew ?_))); (case side2 => exact HC0.out); rintro e w51 ⟨v181, rfl, ho0, hb⟩; refine ⟨_, rfl, ?_⟩; have n0_ := Aside0.mk (Kd.R_elder' (by (with_reducible repeat (first | apply Kd.R_alloc | apply Kd.R_drewN | apply Kd.R_drew)); exact HO_11.out) (Kd.R_base ho0) hb); have n1_ := Aside0.mk (Kd.R_lower (Kd.R_new' ho0 (Kd.R_lt (by (with_reducible repeat (first | apply Kd.R_alloc | apply Kd.R_drewN | apply Kd.R_drew)); exact HO_11.out))) (below_size (by repeat (first | (with_reducible first | exact HB.out | apply below_alloc | apply pw_below_drewN | apply below_drew1) | exact HB.out)))); have n2_ := Aside0.mk (below_step (by repeat (first | (with_reducible first | exact HB.out | apply below_alloc | apply pw_below_drewN | apply below_drew1) | exact HB.out)) hb); clear HO_11; clear HB; have HO_11 := n0_; have HO182 := n1_; have HB := n2_; clear n0_ n1_ n2_; (try clear hb); (try clear hb2); (try clear hk); (try clear hi); (try clear ho0); obtain ⟨Ao52, co52, eo52⟩ := Kd.R_slice HO182.out; subst eo52) | ((with_reducible refine gate_callee (f := 14) rfl ?_); refine goesL_ (some 99) rfl rfl Try.func14 (by kernel_rfl) rfl #[.slice Ao52 t179.length co52, .int .i64 0, .int .i64 (wrap64 ((wrap64 ((Int.tmod (wrap64 (a1)) (wrap64 ((l0.length : Int) + 1))) + (Int.tmod (wrap64 (a2)) (wrap64 ((wrap64 ((l0.length : Int) - (Int.tmod (wrap64 (a1)) (wrap64 ((l0.length : Int) + 1))))) + 1))))) - (Int.tmod (wrap64 (a1)) (wrap64 ((l0.length : Int) + 1)))))] rfl (by (try simp only [List.map_toArray, List.map_cons, List.map_nil]); first | done | rfl | (simp only [List.length_drop, List.length_take]; rfl)) ?_; (with_reducible refine (word_Cut.calls _ _ t179 0 (wrap64 ((wrap64 ((Int.tmod (wrap64 (a1)) (wrap64 ((l0.length : Int) + 1))) + (Int.tmod (wrap64 (a2)) (wrap64 ((wrap64 ((l0.length : Int) - (Int.tmod (wrap64 (a1)) (wrap64 ((l0.length : Int) + 1))))) + 1))))) - (Int.tmod (wrap64 (a1)) (wrap64 ((l0.length : Int) + 1))))) t183 t184 _ ?side1 ?side2 A39.out).mono ?_); (case side1 => repeat (first | exact (Kd.R_reads' HO182.out).2.2 | (with_reducible refine Kd.C_alloc ?_ _) | (with_reducible refine Kd.C_drewN ?_ _) | (with_reducible refine Kd.C_drew ?_))); (case side2 => exact (Kd.R_reads' HO182.out).2.1); rintro e w53 ⟨v185, rfl, ho0, hb⟩; refine ⟨_, rfl, ?_⟩; have n0_ := Aside0.mk (Kd.R_elder' (by (with_reducible repeat (first | apply Kd.R_alloc | apply Kd.R_drewN | apply Kd.R_drew)); exact HO_11.out) (Kd.R_base ho0) hb); have n1_ := Aside0.mk (Kd.R_elder' (by (with_reducible repeat (first | apply Kd.R_alloc | apply Kd.R_drewN | apply Kd.R_drew)); exact HO182.out) (Kd.R_base ho0) hb); have n2_ := Aside0.mk (Kd.R_lower (Kd.R_new' (Kd.R_new' ho0 (Kd.R_lt (by (with_reducible repeat (first | apply Kd.R_alloc | apply Kd.R_drewN | apply Kd.R_drew)); exact HO_11.out))) (Kd.R_lt (by (with_reducible repeat (first | apply Kd.R_alloc | apply Kd.R_drewN | apply Kd.R_drew)); exact HO182.out))) (below_size (by repeat (first | (with_reducible first | exact HB.out | apply below_alloc | apply pw_below_drewN | apply below_drew1) | exact HB.out)))); have n3_ := Aside0.mk (below_step (by repeat (first | (with_reducible first | exact HB.out | apply below_alloc | apply pw_below_drewN | apply below_drew1) | exact HB.out)) hb); clear HO_11; clear HO182; clear HB; have HO_11 := n0_; have HO182 := n1_; have HO186 := n2_; have HB := n3_; clear n0_ n1_ n2_ n3_; (try clear hb); (try clear hb2); (try clear hk); (try clear hi); (try clear ho0)))
                    go_ret
                    exact ⟨by first | rfl | (simp [errW_none, errW_some] <;> rfl) | (simp [*, errW_none, errW_some] <;> rfl), by repeat (first | (with_reducible first | exact HB.out | apply below_alloc | apply pw_below_drewN | apply below_drew1) | exact HB.out)⟩

/-- THE ONE PURE STATEMENT of chamberlainlaw01_WordCuts: yours. -/
def chamberlainlaw01_WordCuts.Pure : Prop := ∀ (l0 : List Int) (a1 : Int) (a2 : Int), l0.length ≤ maxLen → l0.length * 4 ≤ 140737488351232 → (∀ x ∈ l0, (Lit.int .u32 x).wf = true) → (Lit.int .u8 a1).wf = true → (Lit.int .u8 a2).wf = true → ∃ k, chamberlainlaw01_WordCuts.f k l0 a1 a2 = some true
theorem chamberlainlaw01_WordCuts.walk (P : chamberlainlaw01_WordCuts.Pure) (a0 : Option Addr) (len0 cap0 : Nat) (z0 : List Int) (a1 : Int) (a2 : Int) (w : World) (w0 : (a0 = none ∧ len0 = 0 ∧ cap0 = 0 ∧ z0 = []) ∨ ∃ x, a0 = some x ∧ len0 ≤ cap0 ∧ cap0 ≤ maxLen ∧ z0.length = cap0 ∧ (∀ i, i < z0.length → w.cell? (x.add i) = some (.int .u32 (z0.getD i 0))) ∧ ∀ n ∈ z0, (Lit.int .u32 n).wf = true) (y0 : len0 * 4 ≤ 140737488351232) (w1 : (Lit.int .u8 a1).wf = true) (w2 : (Lit.int .u8 a2).wf = true) :
    Calls Try.prog 6 #[.slice a0 len0 cap0, .int .u8 a1, .int .u8 a2] w fun e w' => e = .returned (.bool true) ∧ Below w.heap.size w w' := by
  obtain ⟨l0, rfl, hr0, hm0, hw0, hc0⟩ := ReadsInt.ofRowC w0
  obtain ⟨k, h⟩ := P l0 a1 a2 hm0 y0 hw0 w1 w2
  refine (chamberlainlaw01_WordCuts.calls k _ _ l0 a1 a2 true w (Kd.C_of_reads (d := (0 : Int)) (h1 := fun _ => rfl) hr0) hc0 h).mono ?_
  rintro e w' ⟨rfl, hd⟩
  exact ⟨rfl, hd⟩

end Go.Proofs.Ytdeanahhmciibaa.PWordCuts
