-- PRINTED BY print.sh 35421559b90ae4d0a3588c463048766b98c2df88dd9212a6774a882060cdf62d: not written by this session
import Derived.Test.YteikgomepljhfaaPClockAsksx0
namespace Go.Proofs.Yteikgomepljhfaa.PClockAsks
open Go.RowKit Go.Proofs.YteikgomepljhfaaW.PrintWords Go.Proofs.YteikgomepljhfaaW.PrintLast Go.Proofs.YteikgomepljhfaaW.PrintMore
attribute [local go_sem] max2_int min2_int max_two min_two max_three min_three max_four min_four   -- for this text's walks alone
set_option linter.unusedVariables false
set_option linter.unusedSimpArgs false

/-! ### clock_sum: function 14 -/
def clock_sum.f (a0 : Int) (a1 : Int) : Option (Int) := some (IntKind.u64.wrap ((IntKind.u64.wrap (a0)) + (IntKind.u64.wrap (a1))))
set_option maxHeartbeats 8000000 in
set_option maxRecDepth 100000 in
theorem clock_sum.calls (a0 : Int) (a1 : Int) (r : Int) (w : World) (h : clock_sum.f a0 a1 = some r) :
    Calls Try.prog 14 #[.int .u32 a0, .int .u32 a1] w fun e w' => e = .returned (.int .u64 r) ∧ Drawn0 w w' := by
  have H : (some (IntKind.u64.wrap ((IntKind.u64.wrap (a0)) + (IntKind.u64.wrap (a1))))) = some r := h
  clear h
  obtain rfl := Option.some.inj H
  go_enter Try.func14, Try.ntmps14
  go_wp2
  go_ret
  exact ⟨by first | rfl | (simp; done) | (simp [*]; done), by repeat (first | exact Drawn0.refl _ | apply Drawn0.step)⟩

/-! ### clock_Tick: function 8 -/
def clock_Tick.f (a0 : Int) (a1 : Int) : Option (Int) := (clock_sum.f a0 a1).bind fun t101 => (some ((mn t101 1073741824) % 4294967296))
set_option maxHeartbeats 8000000 in
set_option maxRecDepth 100000 in
theorem clock_Tick.calls (a0 : Int) (a1 : Int) (r : Int) (w : World) (h : clock_Tick.f a0 a1 = some r) :
    Calls Try.prog 8 #[.int .u32 a0, .int .u32 a1] w fun e w' => e = .returned (.int .u32 r) ∧ Below w.heap.size w w' := by
  have HB := Aside0.mk (Below.refl w.heap.size w)
  have H : ((clock_sum.f a0 a1).bind fun t101 => (some ((mn t101 1073741824) % 4294967296))) = some r := h
  clear h
  replace H := Option.bind_eq_some_iff.mp H
  obtain ⟨t101, A30, H⟩ := H
  replace H : (some ((mn t101 1073741824) % 4294967296)) = some r := H
  have A3 := Aside0.mk A30
  clear A30
  obtain ⟨ji4, hji4⟩ : ∃ j_ : Int, (mn t101 1073741824) = j_ := ⟨_, rfl⟩
  replace H : (some ((ji4) % 4294967296)) = some r := by first | (rw [hji4] at H; exact H) | (simp only [hji4] at H ⊢; exact H)
  (try rw [hji4] at A3)
  (try (have hji4h : ji4 ≤ 1073741824 := by (rw [← hji4]; unfold mn; (repeat' split) <;> omega)))
  (try (have hji4g : ji4 ≤ 64 := by omega))
  have hji4_ : (if 1073741824 < t101 then 1073741824 else t101) = ji4 := hji4
  obtain rfl := Option.some.inj H
  go_enter Try.func8, Try.ntmps8
  go_wp2_with (first | ((with_reducible refine gate_callee (f := 14) rfl ?_); refine goesL_ (some 7) rfl rfl Try.func14 (by kernel_rfl) rfl #[.int .u32 a0, .int .u32 a1] rfl (by (try simp only [List.map_toArray, List.map_cons, List.map_nil]); first | done | rfl | (simp only [List.length_drop, List.length_take]; rfl)) ?_; (with_reducible refine (clock_sum.calls a0 a1 t101 _ A3.out).mono ?_); rintro e w' ⟨rfl, ⟨nd, rfl⟩⟩; refine ⟨_, rfl, ?_⟩))
  go_ret
  exact ⟨by first | rfl | (simp [errW_none, errW_some] <;> rfl) | (simp only [← hji4]; first | rfl | (simp [errW_none, errW_some] <;> rfl)) | (simp [*, errW_none, errW_some] <;> rfl), by repeat (first | (with_reducible first | exact HB.out | apply below_alloc | apply pw_below_drewN | apply below_drew1) | exact HB.out)⟩

/-! ### clock_Fresh: function 10 -/
def clock_Fresh.f (a0 : Int) (a1 : Int) (a2 : Int) : Option (Bool) := if a0 < 1073741824 then (if a1 < 1073741824 then ((clock_sum.f a1 a2).bind fun t102 => (if (IntKind.u64.wrap (a0)) ≤ t102 then ((clock_sum.f a0 a2).bind fun t103 => (some (decide ((IntKind.u64.wrap (a1)) ≤ t103)))) else (some false))) else (some false)) else (some false)
set_option maxHeartbeats 8000000 in
set_option maxRecDepth 100000 in
theorem clock_Fresh.calls (a0 : Int) (a1 : Int) (a2 : Int) (r : Bool) (w : World) (h : clock_Fresh.f a0 a1 a2 = some r) :
    Calls Try.prog 10 #[.int .u32 a0, .int .u32 a1, .int .u32 a2] w fun e w' => e = .returned (.bool r) ∧ Drawn0 w w' := by
  have H : (if a0 < 1073741824 then (if a1 < 1073741824 then ((clock_sum.f a1 a2).bind fun t102 => (if (IntKind.u64.wrap (a0)) ≤ t102 then ((clock_sum.f a0 a2).bind fun t103 => (some (decide ((IntKind.u64.wrap (a1)) ≤ t103)))) else (some false))) else (some false)) else (some false)) = some r := h
  clear h
  by_cases c4 : a0 < 1073741824
  · rw [if_pos c4] at H
    have c4b0 : decide (a0 < 1073741824) = true := decide_eq_true c4
    clear c4
    by_cases c5 : a1 < 1073741824
    · rw [if_pos c5] at H
      have c5b0 : decide (a1 < 1073741824) = true := decide_eq_true c5
      clear c5
      replace H := Option.bind_eq_some_iff.mp H
      obtain ⟨t102, A60, H⟩ := H
      replace H : (if (IntKind.u64.wrap (a0)) ≤ t102 then ((clock_sum.f a0 a2).bind fun t103 => (some (decide ((IntKind.u64.wrap (a1)) ≤ t103)))) else (some false)) = some r := H
      have A6 := Aside0.mk A60
      clear A60
      by_cases c7 : (IntKind.u64.wrap (a0)) ≤ t102
      · rw [if_pos c7] at H
        have c7b0 : decide ((IntKind.u64.wrap (a0)) ≤ t102) = true := decide_eq_true c7
        clear c7
        replace H := Option.bind_eq_some_iff.mp H
        obtain ⟨t103, A80, H⟩ := H
        replace H : (some (decide ((IntKind.u64.wrap (a1)) ≤ t103))) = some r := H
        have A8 := Aside0.mk A80
        clear A80
        obtain rfl := Option.some.inj H
        go_enter Try.func10, Try.ntmps10
        go_wp2_with (first | (go_at_call 14; (with_reducible refine (clock_sum.calls a1 a2 t102 _ A6.out).mono ?_); rintro e w' ⟨rfl, ⟨nd, rfl⟩⟩) | (go_at_call 14; (with_reducible refine (clock_sum.calls a0 a2 t103 _ A8.out).mono ?_); rintro e w' ⟨rfl, ⟨nd, rfl⟩⟩))
        go_ret
        exact ⟨by first | rfl | (simp; done) | (simp [*]; done), by repeat (first | exact Drawn0.refl _ | apply Drawn0.step)⟩
      · rw [if_neg c7] at H
        have c7b0 : decide ((IntKind.u64.wrap (a0)) ≤ t102) = false := decide_eq_false c7
        clear c7
        obtain rfl := Option.some.inj H
        go_enter Try.func10, Try.ntmps10
        go_wp2_with (first | (go_at_call 14; (with_reducible refine (clock_sum.calls a1 a2 t102 _ A6.out).mono ?_); rintro e w' ⟨rfl, ⟨nd, rfl⟩⟩))
        go_ret
        exact ⟨by first | rfl | (simp; done) | (simp [*]; done), by repeat (first | exact Drawn0.refl _ | apply Drawn0.step)⟩
    · rw [if_neg c5] at H
      have c5b0 : decide (a1 < 1073741824) = false := decide_eq_false c5
      clear c5
      obtain rfl := Option.some.inj H
      go_enter Try.func10, Try.ntmps10
      go_wp2
      go_ret
      exact ⟨by first | rfl | (simp; done) | (simp [*]; done), by repeat (first | exact Drawn0.refl _ | apply Drawn0.step)⟩
  · rw [if_neg c4] at H
    have c4b0 : decide (a0 < 1073741824) = false := decide_eq_false c4
    clear c4
    obtain rfl := Option.some.inj H
    go_enter Try.func10, Try.ntmps10
    go_wp2
    go_ret
    exact ⟨by first | rfl | (simp; done) | (simp [*]; done), by repeat (first | exact Drawn0.refl _ | apply Drawn0.step)⟩

/-! ### clock_Over: function 12 -/
def clock_Over.f (a0 : Int) (a1 : Int) (a2 : Int) : Option (Bool) := if a0 ≥ 1073741824 then (some true) else ((clock_sum.f a1 a2).bind fun t104 => (some (decide ((IntKind.u64.wrap (a0)) > t104))))
set_option maxHeartbeats 8000000 in
set_option maxRecDepth 100000 in
theorem clock_Over.calls (a0 : Int) (a1 : Int) (a2 : Int) (r : Bool) (w : World) (h : clock_Over.f a0 a1 a2 = some r) :
    Calls Try.prog 12 #[.int .u32 a0, .int .u32 a1, .int .u32 a2] w fun e w' => e = .returned (.bool r) ∧ Drawn0 w w' := by
  have H : (if a0 ≥ 1073741824 then (some true) else ((clock_sum.f a1 a2).bind fun t104 => (some (decide ((IntKind.u64.wrap (a0)) > t104))))) = some r := h
  clear h
  by_cases c4 : a0 ≥ 1073741824
  · rw [if_pos c4] at H
    have c4b0 : decide (1073741824 ≤ a0) = true := decide_eq_true c4
    clear c4
    obtain rfl := Option.some.inj H
    go_enter Try.func12, Try.ntmps12
    go_wp2
    go_ret
    exact ⟨by first | rfl | (simp; done) | (simp [*]; done), by repeat (first | exact Drawn0.refl _ | apply Drawn0.step)⟩
  · rw [if_neg c4] at H
    have c4b0 : decide (1073741824 ≤ a0) = false := decide_eq_false c4
    clear c4
    replace H := Option.bind_eq_some_iff.mp H
    obtain ⟨t104, A50, H⟩ := H
    replace H : (some (decide ((IntKind.u64.wrap (a0)) > t104))) = some r := H
    have A5 := Aside0.mk A50
    clear A50
    obtain rfl := Option.some.inj H
    go_enter Try.func12, Try.ntmps12
    go_wp2_with (first | (go_at_call 14; (with_reducible refine (clock_sum.calls a1 a2 t104 _ A5.out).mono ?_); rintro e w' ⟨rfl, ⟨nd, rfl⟩⟩))
    go_ret
    exact ⟨by first | rfl | (simp; done) | (simp [*]; done), by repeat (first | exact Drawn0.refl _ | apply Drawn0.step)⟩

/-! ### chamberlainlaw05_awake: function 7 -/
def chamberlainlaw05_awake.f  : Option (Bool) := (clock_Fresh.f 5 3 2).bind fun t105 => (if t105 = true then ((clock_Fresh.f 6 3 2).bind fun t106 => (if t106 = true then (some false) else ((clock_Fresh.f 1 3 2).bind fun t107 => (if t107 = true then ((clock_Fresh.f 1073741824 1073741824 9).bind fun t108 => (if t108 = true then (some false) else ((clock_Tick.f 1073741823 5).bind fun t109 => (if t109 = 1073741824 then ((clock_Tick.f 3 4).bind fun t110 => (if t110 = 7 then ((clock_Over.f 6 3 2).bind fun t111 => (if t111 = true then ((clock_Over.f 5 3 2).bind fun t112 => (if t112 = true then (some false) else ((clock_Over.f 0 9 2).bind fun t113 => (some (!t113))))) else (some false))) else (some false))) else (some false))))) else (some false))))) else (some false))
set_option maxHeartbeats 8000000 in
set_option maxRecDepth 100000 in
theorem chamberlainlaw05_awake.calls  (r : Bool) (w : World) (h : chamberlainlaw05_awake.f  = some r) :
    Calls Try.prog 7 #[] w fun e w' => e = .returned (.bool r) ∧ Below w.heap.size w w' := by
  have HB := Aside0.mk (Below.refl w.heap.size w)
  have H : ((clock_Fresh.f 5 3 2).bind fun t105 => (if t105 = true then ((clock_Fresh.f 6 3 2).bind fun t106 => (if t106 = true then (some false) else ((clock_Fresh.f 1 3 2).bind fun t107 => (if t107 = true then ((clock_Fresh.f 1073741824 1073741824 9).bind fun t108 => (if t108 = true then (some false) else ((clock_Tick.f 1073741823 5).bind fun t109 => (if t109 = 1073741824 then ((clock_Tick.f 3 4).bind fun t110 => (if t110 = 7 then ((clock_Over.f 6 3 2).bind fun t111 => (if t111 = true then ((clock_Over.f 5 3 2).bind fun t112 => (if t112 = true then (some false) else ((clock_Over.f 0 9 2).bind fun t113 => (some (!t113))))) else (some false))) else (some false))) else (some false))))) else (some false))))) else (some false))) = some r := h
  clear h
  replace H := Option.bind_eq_some_iff.mp H
  obtain ⟨t105, A10, H⟩ := H
  replace H : (if t105 = true then ((clock_Fresh.f 6 3 2).bind fun t106 => (if t106 = true then (some false) else ((clock_Fresh.f 1 3 2).bind fun t107 => (if t107 = true then ((clock_Fresh.f 1073741824 1073741824 9).bind fun t108 => (if t108 = true then (some false) else ((clock_Tick.f 1073741823 5).bind fun t109 => (if t109 = 1073741824 then ((clock_Tick.f 3 4).bind fun t110 => (if t110 = 7 then ((clock_Over.f 6 3 2).bind fun t111 => (if t111 = true then ((clock_Over.f 5 3 2).bind fun t112 => (if t112 = true then (some false) else ((clock_Over.f 0 9 2).bind fun t113 => (some (!t113))))) else (some false))) else (some false))) else (some false))))) else (some false))))) else (some false)) = some r := H
  have A1 := Aside0.mk A10
  clear A10
  by_cases c2 : t105 = true
  · subst c2
    have H1 : ((clock_Fresh.f 6 3 2).bind fun t106 => (if t106 = true then (some false) else ((clock_Fresh.f 1 3 2).bind fun t107 => (if t107 = true then ((clock_Fresh.f 1073741824 1073741824 9).bind fun t108 => (if t108 = true then (some false) else ((clock_Tick.f 1073741823 5).bind fun t109 => (if t109 = 1073741824 then ((clock_Tick.f 3 4).bind fun t110 => (if t110 = 7 then ((clock_Over.f 6 3 2).bind fun t111 => (if t111 = true then ((clock_Over.f 5 3 2).bind fun t112 => (if t112 = true then (some false) else ((clock_Over.f 0 9 2).bind fun t113 => (some (!t113))))) else (some false))) else (some false))) else (some false))))) else (some false))))) = some r := by rw [if_pos rfl] at H; exact H
    clear H
    have H := H1
    clear H1
    replace H := Option.bind_eq_some_iff.mp H
    obtain ⟨t106, A30, H⟩ := H
    replace H : (if t106 = true then (some false) else ((clock_Fresh.f 1 3 2).bind fun t107 => (if t107 = true then ((clock_Fresh.f 1073741824 1073741824 9).bind fun t108 => (if t108 = true then (some false) else ((clock_Tick.f 1073741823 5).bind fun t109 => (if t109 = 1073741824 then ((clock_Tick.f 3 4).bind fun t110 => (if t110 = 7 then ((clock_Over.f 6 3 2).bind fun t111 => (if t111 = true then ((clock_Over.f 5 3 2).bind fun t112 => (if t112 = true then (some false) else ((clock_Over.f 0 9 2).bind fun t113 => (some (!t113))))) else (some false))) else (some false))) else (some false))))) else (some false)))) = some r := H
    have A3 := Aside0.mk A30
    clear A30
    by_cases c4 : t106 = true
    · subst c4
      have H1 : (some false) = some r := by rw [if_pos rfl] at H; exact H
      clear H
      have H := H1
      clear H1
      obtain rfl := Option.some.inj H
      go_enter Try.func7, Try.ntmps7
      go_wp2_with (first | ((with_reducible refine gate_callee (f := 10) rfl ?_); refine goesL_ (some 1) rfl rfl Try.func10 (by kernel_rfl) rfl #[.int .u32 5, .int .u32 3, .int .u32 2] rfl (by (try simp only [List.map_toArray, List.map_cons, List.map_nil]); first | done | rfl | (simp only [List.length_drop, List.length_take]; rfl)) ?_; (with_reducible refine (clock_Fresh.calls 5 3 2 true _ A1.out).mono ?_); rintro e w' ⟨rfl, ⟨nd, rfl⟩⟩; refine ⟨_, rfl, ?_⟩) | (go_at_call 10; (with_reducible refine (clock_Fresh.calls 6 3 2 true _ A3.out).mono ?_); rintro e w' ⟨rfl, ⟨nd, rfl⟩⟩))
      go_ret
      exact ⟨by first | rfl | (simp [errW_none, errW_some] <;> rfl) | (simp [*, errW_none, errW_some] <;> rfl), by repeat (first | (with_reducible first | exact HB.out | apply below_alloc | apply pw_below_drewN | apply below_drew1) | exact HB.out)⟩
    · replace c4 := Bool.eq_false_iff.mpr c4
      subst c4
      have H1 : ((clock_Fresh.f 1 3 2).bind fun t107 => (if t107 = true then ((clock_Fresh.f 1073741824 1073741824 9).bind fun t108 => (if t108 = true then (some false) else ((clock_Tick.f 1073741823 5).bind fun t109 => (if t109 = 1073741824 then ((clock_Tick.f 3 4).bind fun t110 => (if t110 = 7 then ((clock_Over.f 6 3 2).bind fun t111 => (if t111 = true then ((clock_Over.f 5 3 2).bind fun t112 => (if t112 = true then (some false) else ((clock_Over.f 0 9 2).bind fun t113 => (some (!t113))))) else (some false))) else (some false))) else (some false))))) else (some false))) = some r := by rw [if_neg (show ¬ (false = true) by decide)] at H; exact H
      clear H
      have H := H1
      clear H1
      replace H := Option.bind_eq_some_iff.mp H
      obtain ⟨t107, A50, H⟩ := H
      replace H : (if t107 = true then ((clock_Fresh.f 1073741824 1073741824 9).bind fun t108 => (if t108 = true then (some false) else ((clock_Tick.f 1073741823 5).bind fun t109 => (if t109 = 1073741824 then ((clock_Tick.f 3 4).bind fun t110 => (if t110 = 7 then ((clock_Over.f 6 3 2).bind fun t111 => (if t111 = true then ((clock_Over.f 5 3 2).bind fun t112 => (if t112 = true then (some false) else ((clock_Over.f 0 9 2).bind fun t113 => (some (!t113))))) else (some false))) else (some false))) else (some false))))) else (some false)) = some r := H
      have A5 := Aside0.mk A50
      clear A50
      by_cases c6 : t107 = true
      · subst c6
        have H1 : ((clock_Fresh.f 1073741824 1073741824 9).bind fun t108 => (if t108 = true then (some false) else ((clock_Tick.f 1073741823 5).bind fun t109 => (if t109 = 1073741824 then ((clock_Tick.f 3 4).bind fun t110 => (if t110 = 7 then ((clock_Over.f 6 3 2).bind fun t111 => (if t111 = true then ((clock_Over.f 5 3 2).bind fun t112 => (if t112 = true then (some false) else ((clock_Over.f 0 9 2).bind fun t113 => (some (!t113))))) else (some false))) else (some false))) else (some false))))) = some r := by rw [if_pos rfl] at H; exact H
        clear H
        have H := H1
        clear H1
        replace H := Option.bind_eq_some_iff.mp H
        obtain ⟨t108, A70, H⟩ := H
        replace H : (if t108 = true then (some false) else ((clock_Tick.f 1073741823 5).bind fun t109 => (if t109 = 1073741824 then ((clock_Tick.f 3 4).bind fun t110 => (if t110 = 7 then ((clock_Over.f 6 3 2).bind fun t111 => (if t111 = true then ((clock_Over.f 5 3 2).bind fun t112 => (if t112 = true then (some false) else ((clock_Over.f 0 9 2).bind fun t113 => (some (!t113))))) else (some false))) else (some false))) else (some false)))) = some r := H
        have A7 := Aside0.mk A70
        clear A70
        by_cases c8 : t108 = true
        · subst c8
          have H1 : (some false) = some r := by rw [if_pos rfl] at H; exact H
          clear H
          have H := H1
          clear H1
          obtain rfl := Option.some.inj H
          go_enter Try.func7, Try.ntmps7
          go_wp2_with (first | ((with_reducible refine gate_callee (f := 10) rfl ?_); refine goesL_ (some 1) rfl rfl Try.func10 (by kernel_rfl) rfl #[.int .u32 5, .int .u32 3, .int .u32 2] rfl (by (try simp only [List.map_toArray, List.map_cons, List.map_nil]); first | done | rfl | (simp only [List.length_drop, List.length_take]; rfl)) ?_; (with_reducible refine (clock_Fresh.calls 5 3 2 true _ A1.out).mono ?_); rintro e w' ⟨rfl, ⟨nd, rfl⟩⟩; refine ⟨_, rfl, ?_⟩) | (go_at_call 10; (with_reducible refine (clock_Fresh.calls 6 3 2 false _ A3.out).mono ?_); rintro e w' ⟨rfl, ⟨nd, rfl⟩⟩) | (go_at_call 10; (with_reducible refine (clock_Fresh.calls 1 3 2 true _ A5.out).mono ?_); rintro e w' ⟨rfl, ⟨nd, rfl⟩⟩) | (go_at_call 10; (with_reducible refine (clock_Fresh.calls 1073741824 1073741824 9 true _ A7.out).mono ?_); rintro e w' ⟨rfl, ⟨nd, rfl⟩⟩))
          go_ret
          exact ⟨by first | rfl | (simp [errW_none, errW_some] <;> rfl) | (simp [*, errW_none, errW_some] <;> rfl), by repeat (first | (with_reducible first | exact HB.out | apply below_alloc | apply pw_below_drewN | apply below_drew1) | exact HB.out)⟩
        · replace c8 := Bool.eq_false_iff.mpr c8
          subst c8
          have H1 : ((clock_Tick.f 1073741823 5).bind fun t109 => (if t109 = 1073741824 then ((clock_Tick.f 3 4).bind fun t110 => (if t110 = 7 then ((clock_Over.f 6 3 2).bind fun t111 => (if t111 = true then ((clock_Over.f 5 3 2).bind fun t112 => (if t112 = true then (some false) else ((clock_Over.f 0 9 2).bind fun t113 => (some (!t113))))) else (some false))) else (some false))) else (some false))) = some r := by rw [if_neg (show ¬ (false = true) by decide)] at H; exact H
          clear H
          have H := H1
          clear H1
          replace H := Option.bind_eq_some_iff.mp H
          obtain ⟨t109, A90, H⟩ := H
          replace H : (if t109 = 1073741824 then ((clock_Tick.f 3 4).bind fun t110 => (if t110 = 7 then ((clock_Over.f 6 3 2).bind fun t111 => (if t111 = true then ((clock_Over.f 5 3 2).bind fun t112 => (if t112 = true then (some false) else ((clock_Over.f 0 9 2).bind fun t113 => (some (!t113))))) else (some false))) else (some false))) else (some false)) = some r := H
          have A9 := Aside0.mk A90
          clear A90
          by_cases c10 : t109 = 1073741824
          · rw [if_pos c10] at H
            have c10b0 : (t109 == 1073741824) = true := beq_iff_eq.mpr c10
            have c10b1 : (t109 != 1073741824) = false := bne_eq_false_iff_eq.mpr c10
            clear c10
            replace H := Option.bind_eq_some_iff.mp H
            obtain ⟨t110, A110, H⟩ := H
            replace H : (if t110 = 7 then ((clock_Over.f 6 3 2).bind fun t111 => (if t111 = true then ((clock_Over.f 5 3 2).bind fun t112 => (if t112 = true then (some false) else ((clock_Over.f 0 9 2).bind fun t113 => (some (!t113))))) else (some false))) else (some false)) = some r := H
            have A11 := Aside0.mk A110
            clear A110
            by_cases c12 : t110 = 7
            · rw [if_pos c12] at H
              have c12b0 : (t110 == 7) = true := beq_iff_eq.mpr c12
              have c12b1 : (t110 != 7) = false := bne_eq_false_iff_eq.mpr c12
              clear c12
              replace H := Option.bind_eq_some_iff.mp H
              obtain ⟨t111, A130, H⟩ := H
              replace H : (if t111 = true then ((clock_Over.f 5 3 2).bind fun t112 => (if t112 = true then (some false) else ((clock_Over.f 0 9 2).bind fun t113 => (some (!t113))))) else (some false)) = some r := H
              have A13 := Aside0.mk A130
              clear A130
              by_cases c14 : t111 = true
              · subst c14
                have H1 : ((clock_Over.f 5 3 2).bind fun t112 => (if t112 = true then (some false) else ((clock_Over.f 0 9 2).bind fun t113 => (some (!t113))))) = some r := by rw [if_pos rfl] at H; exact H
                clear H
                have H := H1
                clear H1
                replace H := Option.bind_eq_some_iff.mp H
                obtain ⟨t112, A150, H⟩ := H
                replace H : (if t112 = true then (some false) else ((clock_Over.f 0 9 2).bind fun t113 => (some (!t113)))) = some r := H
                have A15 := Aside0.mk A150
                clear A150
                by_cases c16 : t112 = true
                · subst c16
                  have H1 : (some false) = some r := by rw [if_pos rfl] at H; exact H
                  clear H
                  have H := H1
                  clear H1
                  obtain rfl := Option.some.inj H
                  go_enter Try.func7, Try.ntmps7
                  go_wp2_with (first | ((with_reducible refine gate_callee (f := 10) rfl ?_); refine goesL_ (some 1) rfl rfl Try.func10 (by kernel_rfl) rfl #[.int .u32 5, .int .u32 3, .int .u32 2] rfl (by (try simp only [List.map_toArray, List.map_cons, List.map_nil]); first | done | rfl | (simp only [List.length_drop, List.length_take]; rfl)) ?_; (with_reducible refine (clock_Fresh.calls 5 3 2 true _ A1.out).mono ?_); rintro e w' ⟨rfl, ⟨nd, rfl⟩⟩; refine ⟨_, rfl, ?_⟩) | (go_at_call 10; (with_reducible refine (clock_Fresh.calls 6 3 2 false _ A3.out).mono ?_); rintro e w' ⟨rfl, ⟨nd, rfl⟩⟩) | (go_at_call 10; (with_reducible refine (clock_Fresh.calls 1 3 2 true _ A5.out).mono ?_); rintro e w' ⟨rfl, ⟨nd, rfl⟩⟩) | (go_at_call 10; (with_reducible refine (clock_Fresh.calls 1073741824 1073741824 9 false _ A7.out).mono ?_); rintro e w' ⟨rfl, ⟨nd, rfl⟩⟩) | (go_at_call 8; (with_reducible refine (clock_Tick.calls 1073741823 5 t109 _ A9.out).mono ?_); rintro e w17 ⟨rfl, hb⟩; have n0_ := Aside0.mk (below_step (by repeat (first | (with_reducible first | exact HB.out | apply below_alloc | apply pw_below_drewN | apply below_drew1) | exact HB.out)) hb); clear HB; have HB := n0_; clear n0_; (try clear hb); (try clear hb2); (try clear hk); (try clear hi)) | (go_at_call 8; (with_reducible refine (clock_Tick.calls 3 4 t110 _ A11.out).mono ?_); rintro e w18 ⟨rfl, hb⟩; have n0_ := Aside0.mk (below_step (by repeat (first | (with_reducible first | exact HB.out | apply below_alloc | apply pw_below_drewN | apply below_drew1) | exact HB.out)) hb); clear HB; have HB := n0_; clear n0_; (try clear hb); (try clear hb2); (try clear hk); (try clear hi)) | (go_at_call 12; (with_reducible refine (clock_Over.calls 6 3 2 true _ A13.out).mono ?_); rintro e w' ⟨rfl, ⟨nd, rfl⟩⟩) | (go_at_call 12; (with_reducible refine (clock_Over.calls 5 3 2 true _ A15.out).mono ?_); rintro e w' ⟨rfl, ⟨nd, rfl⟩⟩))
                  go_ret
                  exact ⟨by first | rfl | (simp [errW_none, errW_some] <;> rfl) | (simp [*, errW_none, errW_some] <;> rfl), by repeat (first | (with_reducible first | exact HB.out | apply below_alloc | apply pw_below_drewN | apply below_drew1) | exact HB.out)⟩
                · replace c16 := Bool.eq_false_iff.mpr c16
                  subst c16
                  have H1 : ((clock_Over.f 0 9 2).bind fun t113 => (some (!t113))) = some r := by rw [if_neg (show ¬ (false = true) by decide)] at H; exact H
                  clear H
                  have H := H1
                  clear H1
                  replace H := Option.bind_eq_some_iff.mp H
                  obtain ⟨t113, A190, H⟩ := H
                  replace H : (some (!t113)) = some r := H
                  have A19 := Aside0.mk A190
                  clear A190
                  obtain rfl := Option.some.inj H
                  go_enter Try.func7, Try.ntmps7
                  go_wp2_with (first | ((with_reducible refine gate_callee (f := 10) rfl ?_); refine goesL_ (some 1) rfl rfl Try.func10 (by kernel_rfl) rfl #[.int .u32 5, .int .u32 3, .int .u32 2] rfl (by (try simp only [List.map_toArray, List.map_cons, List.map_nil]); first | done | rfl | (simp only [List.length_drop, List.length_take]; rfl)) ?_; (with_reducible refine (clock_Fresh.calls 5 3 2 true _ A1.out).mono ?_); rintro e w' ⟨rfl, ⟨nd, rfl⟩⟩; refine ⟨_, rfl, ?_⟩) | (go_at_call 10; (with_reducible refine (clock_Fresh.calls 6 3 2 false _ A3.out).mono ?_); rintro e w' ⟨rfl, ⟨nd, rfl⟩⟩) | (go_at_call 10; (with_reducible refine (clock_Fresh.calls 1 3 2 true _ A5.out).mono ?_); rintro e w' ⟨rfl, ⟨nd, rfl⟩⟩) | (go_at_call 10; (with_reducible refine (clock_Fresh.calls 1073741824 1073741824 9 false _ A7.out).mono ?_); rintro e w' ⟨rfl, ⟨nd, rfl⟩⟩) | (go_at_call 8; (with_reducible refine (clock_Tick.calls 1073741823 5 t109 _ A9.out).mono ?_); rintro e w20 ⟨rfl, hb⟩; have n0_ := Aside0.mk (below_step (by repeat (first | (with_reducible first | exact HB.out | apply below_alloc | apply pw_below_drewN | apply below_drew1) | exact HB.out)) hb); clear HB; have HB := n0_; clear n0_; (try clear hb); (try clear hb2); (try clear hk); (try clear hi)) | (go_at_call 8; (with_reducible refine (clock_Tick.calls 3 4 t110 _ A11.out).mono ?_); rintro e w21 ⟨rfl, hb⟩; have n0_ := Aside0.mk (below_step (by repeat (first | (with_reducible first | exact HB.out | apply below_alloc | apply pw_below_drewN | apply below_drew1) | exact HB.out)) hb); clear HB; have HB := n0_; clear n0_; (try clear hb); (try clear hb2); (try clear hk); (try clear hi)) | (go_at_call 12; (with_reducible refine (clock_Over.calls 6 3 2 true _ A13.out).mono ?_); rintro e w' ⟨rfl, ⟨nd, rfl⟩⟩) | (go_at_call 12; (with_reducible refine (clock_Over.calls 5 3 2 false _ A15.out).mono ?_); rintro e w' ⟨rfl, ⟨nd, rfl⟩⟩) | (go_at_call 12; (with_reducible refine (clock_Over.calls 0 9 2 t113 _ A19.out).mono ?_); rintro e w' ⟨rfl, ⟨nd, rfl⟩⟩))
                  go_ret
                  exact ⟨by first | rfl | (simp [errW_none, errW_some] <;> rfl) | (simp [*, errW_none, errW_some] <;> rfl), by repeat (first | (with_reducible first | exact HB.out | apply below_alloc | apply pw_below_drewN | apply below_drew1) | exact HB.out)⟩
              · replace c14 := Bool.eq_false_iff.mpr c14
                subst c14
                have H1 : (some false) = some r := by rw [if_neg (show ¬ (false = true) by decide)] at H; exact H
                clear H
                have H := H1
                clear H1
                obtain rfl := Option.some.inj H
                go_enter Try.func7, Try.ntmps7
                go_wp2_with (first | ((with_reducible refine gate_callee (f := 10) rfl ?_); refine goesL_ (some 1) rfl rfl Try.func10 (by kernel_rfl) rfl #[.int .u32 5, .int .u32 3, .int .u32 2] rfl (by (try simp only [List.map_toArray, List.map_cons, List.map_nil]); first | done | rfl | (simp only [List.length_drop, List.length_take]; rfl)) ?_; (with_reducible refine (clock_Fresh.calls 5 3 2 true _ A1.out).mono ?_); rintro e w' ⟨rfl, ⟨nd, rfl⟩⟩; refine ⟨_, rfl, ?_⟩) | (go_at_call 10; (with_reducible refine (clock_Fresh.calls 6 3 2 false _ A3.out).mono ?_); rintro e w' ⟨rfl, ⟨nd, rfl⟩⟩) | (go_at_call 10; (with_reducible refine (clock_Fresh.calls 1 3 2 true _ A5.out).mono ?_); rintro e w' ⟨rfl, ⟨nd, rfl⟩⟩) | (go_at_call 10; (with_reducible refine (clock_Fresh.calls 1073741824 1073741824 9 false _ A7.out).mono ?_); rintro e w' ⟨rfl, ⟨nd, rfl⟩⟩) | (go_at_call 8; (with_reducible refine (clock_Tick.calls 1073741823 5 t109 _ A9.out).mono ?_); rintro e w22 ⟨rfl, hb⟩; have n0_ := Aside0.mk (below_step (by repeat (first | (with_reducible first | exact HB.out | apply below_alloc | apply pw_below_drewN | apply below_drew1) | exact HB.out)) hb); clear HB; have HB := n0_; clear n0_; (try clear hb); (try clear hb2); (try clear hk); (try clear hi)) | (go_at_call 8; (with_reducible refine (clock_Tick.calls 3 4 t110 _ A11.out).mono ?_); rintro e w23 ⟨rfl, hb⟩; have n0_ := Aside0.mk (below_step (by repeat (first | (with_reducible first | exact HB.out | apply below_alloc | apply pw_below_drewN | apply below_drew1) | exact HB.out)) hb); clear HB; have HB := n0_; clear n0_; (try clear hb); (try clear hb2); (try clear hk); (try clear hi)) | (go_at_call 12; (with_reducible refine (clock_Over.calls 6 3 2 false _ A13.out).mono ?_); rintro e w' ⟨rfl, ⟨nd, rfl⟩⟩))
                go_ret
                exact ⟨by first | rfl | (simp [errW_none, errW_some] <;> rfl) | (simp [*, errW_none, errW_some] <;> rfl), by repeat (first | (with_reducible first | exact HB.out | apply below_alloc | apply pw_below_drewN | apply below_drew1) | exact HB.out)⟩
            · rw [if_neg c12] at H
              have c12b0 : (t110 == 7) = false := beq_eq_false_iff_ne.mpr c12
              have c12b1 : (t110 != 7) = true := bne_iff_ne.mpr c12
              obtain rfl := Option.some.inj H
              go_enter Try.func7, Try.ntmps7
              go_wp2_with (first | ((with_reducible refine gate_callee (f := 10) rfl ?_); refine goesL_ (some 1) rfl rfl Try.func10 (by kernel_rfl) rfl #[.int .u32 5, .int .u32 3, .int .u32 2] rfl (by (try simp only [List.map_toArray, List.map_cons, List.map_nil]); first | done | rfl | (simp only [List.length_drop, List.length_take]; rfl)) ?_; (with_reducible refine (clock_Fresh.calls 5 3 2 true _ A1.out).mono ?_); rintro e w' ⟨rfl, ⟨nd, rfl⟩⟩; refine ⟨_, rfl, ?_⟩) | (go_at_call 10; (with_reducible refine (clock_Fresh.calls 6 3 2 false _ A3.out).mono ?_); rintro e w' ⟨rfl, ⟨nd, rfl⟩⟩) | (go_at_call 10; (with_reducible refine (clock_Fresh.calls 1 3 2 true _ A5.out).mono ?_); rintro e w' ⟨rfl, ⟨nd, rfl⟩⟩) | (go_at_call 10; (with_reducible refine (clock_Fresh.calls 1073741824 1073741824 9 false _ A7.out).mono ?_); rintro e w' ⟨rfl, ⟨nd, rfl⟩⟩) | (go_at_call 8; (with_reducible refine (clock_Tick.calls 1073741823 5 t109 _ A9.out).mono ?_); rintro e w24 ⟨rfl, hb⟩; have n0_ := Aside0.mk (below_step (by repeat (first | (with_reducible first | exact HB.out | apply below_alloc | apply pw_below_drewN | apply below_drew1) | exact HB.out)) hb); clear HB; have HB := n0_; clear n0_; (try clear hb); (try clear hb2); (try clear hk); (try clear hi)) | (go_at_call 8; (with_reducible refine (clock_Tick.calls 3 4 t110 _ A11.out).mono ?_); rintro e w25 ⟨rfl, hb⟩; have n0_ := Aside0.mk (below_step (by repeat (first | (with_reducible first | exact HB.out | apply below_alloc | apply pw_below_drewN | apply below_drew1) | exact HB.out)) hb); clear HB; have HB := n0_; clear n0_; (try clear hb); (try clear hb2); (try clear hk); (try clear hi)))
              go_ret
              exact ⟨by first | rfl | (simp [errW_none, errW_some] <;> rfl) | (simp [*, errW_none, errW_some] <;> rfl), by repeat (first | (with_reducible first | exact HB.out | apply below_alloc | apply pw_below_drewN | apply below_drew1) | exact HB.out)⟩
          · rw [if_neg c10] at H
            have c10b0 : (t109 == 1073741824) = false := beq_eq_false_iff_ne.mpr c10
            have c10b1 : (t109 != 1073741824) = true := bne_iff_ne.mpr c10
            obtain rfl := Option.some.inj H
            go_enter Try.func7, Try.ntmps7
            go_wp2_with (first | ((with_reducible refine gate_callee (f := 10) rfl ?_); refine goesL_ (some 1) rfl rfl Try.func10 (by kernel_rfl) rfl #[.int .u32 5, .int .u32 3, .int .u32 2] rfl (by (try simp only [List.map_toArray, List.map_cons, List.map_nil]); first | done | rfl | (simp only [List.length_drop, List.length_take]; rfl)) ?_; (with_reducible refine (clock_Fresh.calls 5 3 2 true _ A1.out).mono ?_); rintro e w' ⟨rfl, ⟨nd, rfl⟩⟩; refine ⟨_, rfl, ?_⟩) | (go_at_call 10; (with_reducible refine (clock_Fresh.calls 6 3 2 false _ A3.out).mono ?_); rintro e w' ⟨rfl, ⟨nd, rfl⟩⟩) | (go_at_call 10; (with_reducible refine (clock_Fresh.calls 1 3 2 true _ A5.out).mono ?_); rintro e w' ⟨rfl, ⟨nd, rfl⟩⟩) | (go_at_call 10; (with_reducible refine (clock_Fresh.calls 1073741824 1073741824 9 false _ A7.out).mono ?_); rintro e w' ⟨rfl, ⟨nd, rfl⟩⟩) | (go_at_call 8; (with_reducible refine (clock_Tick.calls 1073741823 5 t109 _ A9.out).mono ?_); rintro e w26 ⟨rfl, hb⟩; have n0_ := Aside0.mk (below_step (by repeat (first | (with_reducible first | exact HB.out | apply below_alloc | apply pw_below_drewN | apply below_drew1) | exact HB.out)) hb); clear HB; have HB := n0_; clear n0_; (try clear hb); (try clear hb2); (try clear hk); (try clear hi)))
            go_ret
            exact ⟨by first | rfl | (simp [errW_none, errW_some] <;> rfl) | (simp [*, errW_none, errW_some] <;> rfl), by repeat (first | (with_reducible first | exact HB.out | apply below_alloc | apply pw_below_drewN | apply below_drew1) | exact HB.out)⟩
      · replace c6 := Bool.eq_false_iff.mpr c6
        subst c6
        have H1 : (some false) = some r := by rw [if_neg (show ¬ (false = true) by decide)] at H; exact H
        clear H
        have H := H1
        clear H1
        obtain rfl := Option.some.inj H
        go_enter Try.func7, Try.ntmps7
        go_wp2_with (first | ((with_reducible refine gate_callee (f := 10) rfl ?_); refine goesL_ (some 1) rfl rfl Try.func10 (by kernel_rfl) rfl #[.int .u32 5, .int .u32 3, .int .u32 2] rfl (by (try simp only [List.map_toArray, List.map_cons, List.map_nil]); first | done | rfl | (simp only [List.length_drop, List.length_take]; rfl)) ?_; (with_reducible refine (clock_Fresh.calls 5 3 2 true _ A1.out).mono ?_); rintro e w' ⟨rfl, ⟨nd, rfl⟩⟩; refine ⟨_, rfl, ?_⟩) | (go_at_call 10; (with_reducible refine (clock_Fresh.calls 6 3 2 false _ A3.out).mono ?_); rintro e w' ⟨rfl, ⟨nd, rfl⟩⟩) | (go_at_call 10; (with_reducible refine (clock_Fresh.calls 1 3 2 false _ A5.out).mono ?_); rintro e w' ⟨rfl, ⟨nd, rfl⟩⟩))
        go_ret
        exact ⟨by first | rfl | (simp [errW_none, errW_some] <;> rfl) | (simp [*, errW_none, errW_some] <;> rfl), by repeat (first | (with_reducible first | exact HB.out | apply below_alloc | apply pw_below_drewN | apply below_drew1) | exact HB.out)⟩
  · replace c2 := Bool.eq_false_iff.mpr c2
    subst c2
    have H1 : (some false) = some r := by rw [if_neg (show ¬ (false = true) by decide)] at H; exact H
    clear H
    have H := H1
    clear H1
    obtain rfl := Option.some.inj H
    go_enter Try.func7, Try.ntmps7
    go_wp2_with (first | ((with_reducible refine gate_callee (f := 10) rfl ?_); refine goesL_ (some 1) rfl rfl Try.func10 (by kernel_rfl) rfl #[.int .u32 5, .int .u32 3, .int .u32 2] rfl (by (try simp only [List.map_toArray, List.map_cons, List.map_nil]); first | done | rfl | (simp only [List.length_drop, List.length_take]; rfl)) ?_; (with_reducible refine (clock_Fresh.calls 5 3 2 false _ A1.out).mono ?_); rintro e w' ⟨rfl, ⟨nd, rfl⟩⟩; refine ⟨_, rfl, ?_⟩))
    go_ret
    exact ⟨by first | rfl | (simp [errW_none, errW_some] <;> rfl) | (simp [*, errW_none, errW_some] <;> rfl), by repeat (first | (with_reducible first | exact HB.out | apply below_alloc | apply pw_below_drewN | apply below_drew1) | exact HB.out)⟩

/-! ### chamberlainref05_Tick: function 9 -/
def chamberlainref05_Tick.f (a0 : Int) (a1 : Int) : Option (Int) := if (IntKind.u64.wrap ((IntKind.u64.wrap (a0)) + (IntKind.u64.wrap (a1)))) > 1073741824 then (some 1073741824) else (some ((IntKind.u64.wrap ((IntKind.u64.wrap (a0)) + (IntKind.u64.wrap (a1)))) % 4294967296))
set_option maxHeartbeats 8000000 in
set_option maxRecDepth 100000 in
theorem chamberlainref05_Tick.calls (a0 : Int) (a1 : Int) (r : Int) (w : World) (h : chamberlainref05_Tick.f a0 a1 = some r) :
    Calls Try.prog 9 #[.int .u32 a0, .int .u32 a1] w fun e w' => e = .returned (.int .u32 r) ∧ Drawn0 w w' := by
  have H : (if (IntKind.u64.wrap ((IntKind.u64.wrap (a0)) + (IntKind.u64.wrap (a1)))) > 1073741824 then (some 1073741824) else (some ((IntKind.u64.wrap ((IntKind.u64.wrap (a0)) + (IntKind.u64.wrap (a1)))) % 4294967296))) = some r := h
  clear h
  by_cases c3 : (IntKind.u64.wrap ((IntKind.u64.wrap (a0)) + (IntKind.u64.wrap (a1)))) > 1073741824
  · rw [if_pos c3] at H
    have c3b0 : decide (1073741824 < (IntKind.u64.wrap ((IntKind.u64.wrap (a0)) + (IntKind.u64.wrap (a1))))) = true := decide_eq_true c3
    clear c3
    obtain rfl := Option.some.inj H
    go_enter Try.func9, Try.ntmps9
    go_wp2
    go_ret
    exact ⟨by first | rfl | (simp; done) | (simp [*]; done), by repeat (first | exact Drawn0.refl _ | apply Drawn0.step)⟩
  · rw [if_neg c3] at H
    have c3b0 : decide (1073741824 < (IntKind.u64.wrap ((IntKind.u64.wrap (a0)) + (IntKind.u64.wrap (a1))))) = false := decide_eq_false c3
    clear c3
    obtain rfl := Option.some.inj H
    go_enter Try.func9, Try.ntmps9
    go_wp2
    go_ret
    exact ⟨by first | rfl | (simp; done) | (simp [*]; done), by repeat (first | exact Drawn0.refl _ | apply Drawn0.step)⟩

/-! ### chamberlainref05_Fresh: function 11 -/
def chamberlainref05_Fresh.j0 : Nat → Int → Int → Int → Bool → Option (Bool)
  | 0, _, _, _, _ => none
  | k + 1, x0, x1, x2, x13 => if x13 = true then (some false) else (if (wrap64 ((wrap64 (x0)) - (wrap64 (x1)))) < 0 then (some (decide ((wrap64 (-(wrap64 ((wrap64 (x0)) - (wrap64 (x1)))))) ≤ (wrap64 (x2))))) else (some (decide ((wrap64 ((wrap64 (x0)) - (wrap64 (x1)))) ≤ (wrap64 (x2))))))
def chamberlainref05_Fresh.f (k : Nat) (a0 : Int) (a1 : Int) (a2 : Int) : Option (Bool) := if a0 ≥ 1073741824 then (chamberlainref05_Fresh.j0 k a0 a1 a2 true) else (chamberlainref05_Fresh.j0 k a0 a1 a2 (decide (a1 ≥ 1073741824)))
theorem chamberlainref05_Fresh.mono_l : ∀ k, (∀ y0 y1 y2 y3, LeO (chamberlainref05_Fresh.j0 k y0 y1 y2 y3) (chamberlainref05_Fresh.j0 (k + 1) y0 y1 y2 y3))
  | 0 => fun _ _ _ _ r h => by simp [chamberlainref05_Fresh.j0] at h
  | k + 1 => by
    have ih0 := chamberlainref05_Fresh.mono_l k
    · intro y0 y1 y2 y3
      unfold chamberlainref05_Fresh.j0
      repeat' first
      | (with_reducible exact ih0 _ _ _ _)
      | (with_reducible exact LeO.refl _)
      | (with_reducible exact LeO.none _)
      | (with_reducible refine LeO.ite ?_ ?_)
      | (with_reducible refine LeO.bind ?_ (fun _ => ?_))
      | exact ih0 _ _ _ _
      | exact LeO.none _
      | refine LeO.ite ?_ ?_
      | refine LeO.bind ?_ (fun _ => ?_)
theorem chamberlainref05_Fresh.mono : ∀ a0 a1 a2 k, LeO (chamberlainref05_Fresh.f k a0 a1 a2) (chamberlainref05_Fresh.f (k + 1) a0 a1 a2) := by
  intro a0 a1 a2 k
  have ih0 := chamberlainref05_Fresh.mono_l k
  unfold chamberlainref05_Fresh.f
  repeat' first
      | (with_reducible exact ih0 _ _ _ _)
      | (with_reducible exact LeO.refl _)
      | (with_reducible exact LeO.none _)
      | (with_reducible refine LeO.ite ?_ ?_)
      | (with_reducible refine LeO.bind ?_ (fun _ => ?_))
      | exact ih0 _ _ _ _
      | exact LeO.none _
      | refine LeO.ite ?_ ?_
      | refine LeO.bind ?_ (fun _ => ?_)
set_option maxHeartbeats 8000000 in
set_option maxRecDepth 100000 in
theorem chamberlainref05_Fresh.calls (k : Nat) (a0 : Int) (a1 : Int) (a2 : Int) (r : Bool) (w : World) (h : chamberlainref05_Fresh.f k a0 a1 a2 = some r) :
    Calls Try.prog 11 #[.int .u32 a0, .int .u32 a1, .int .u32 a2] w fun e w' => e = .returned (.bool r) ∧ Drawn0 w w' := by
  have H : (if a0 ≥ 1073741824 then (chamberlainref05_Fresh.j0 k a0 a1 a2 true) else (chamberlainref05_Fresh.j0 k a0 a1 a2 (decide (a1 ≥ 1073741824)))) = some r := h
  clear h
  have HC4 := Aside0.mk H
  clear H
  go_enter Try.func11, Try.ntmps11
  go_upto_region 1 with (fail)
  go_cut [13] (fun v13 wc => ∃ (kq : Nat) (x13_3 : Bool), v13 = .bool x13_3 ∧ Aside0 (chamberlainref05_Fresh.j0 kq a0 a1 a2 x13_3 = some r) ∧ Aside0 (kq ≤ k) ∧ Drawn0 w wc)
  case first =>
    have H := HC4.out
    clear HC4
    by_cases c5 : a0 ≥ 1073741824
    · rw [if_pos c5] at H
      have c5b0 : decide (1073741824 ≤ a0) = true := decide_eq_true c5
      clear c5
      (first | rw [c5b0] | (simp only [i64_w, i32_w]; rw [c5b0]) | skip)
      have H' := Aside0.mk H
      clear H
      go_wp2
      go_meet
      case rel => exact ⟨_, (true), (by first | rfl | (simp; done) | (simp [*]; done)), H', ⟨by first | omega | exact Nat.le_refl _⟩, by repeat (first | exact Drawn0.refl _ | apply Drawn0.step)⟩
    · rw [if_neg c5] at H
      have c5b0 : decide (1073741824 ≤ a0) = false := decide_eq_false c5
      clear c5
      (first | rw [c5b0] | (simp only [i64_w, i32_w]; rw [c5b0]) | skip)
      have H' := Aside0.mk H
      clear H
      go_wp2
      go_meet
      case rel => exact ⟨_, (decide (a1 ≥ 1073741824)), (by first | rfl | (simp; done) | (simp [*]; done)), H', ⟨by first | omega | exact Nat.le_refl _⟩, by repeat (first | exact Drawn0.refl _ | apply Drawn0.step)⟩
  case rest =>
    clear HC4
    try clear c1
    try clear p2
    try clear c5
    try clear c5b0
    obtain ⟨kq, x13_3, rfl, HA, HJ3, ⟨mc3, rfl⟩⟩ := hcut
    cases kq with
    | zero => exact absurd HA.out (by simp [chamberlainref05_Fresh.j0])
    | succ kj3 =>
      have H := HA.out
      clear HA
      simp only [chamberlainref05_Fresh.j0] at H
      by_cases c6 : x13_3 = true
      · subst c6
        have H1 : (some false) = some r := by rw [if_pos rfl] at H; exact H
        clear H
        have H := H1
        clear H1
        obtain rfl := Option.some.inj H
        go_wp2
        go_ret
        exact ⟨by first | rfl | (simp; done) | (simp [*]; done), by repeat (first | exact Drawn0.refl _ | apply Drawn0.step)⟩
      · replace c6 := Bool.eq_false_iff.mpr c6
        subst c6
        have H1 : (if (wrap64 ((wrap64 (a0)) - (wrap64 (a1)))) < 0 then (some (decide ((wrap64 (-(wrap64 ((wrap64 (a0)) - (wrap64 (a1)))))) ≤ (wrap64 (a2))))) else (some (decide ((wrap64 ((wrap64 (a0)) - (wrap64 (a1)))) ≤ (wrap64 (a2)))))) = some r := by rw [if_neg (show ¬ (false = true) by decide)] at H; exact H
        clear H
        have H := H1
        clear H1
        by_cases c7 : (wrap64 ((wrap64 (a0)) - (wrap64 (a1)))) < 0
        · rw [if_pos c7] at H
          have c7b0 : decide ((wrap64 ((wrap64 (a0)) - (wrap64 (a1)))) < 0) = true := decide_eq_true c7
          clear c7
          obtain rfl := Option.some.inj H
          go_wp2
          go_ret
          exact ⟨by first | rfl | (simp; done) | (simp [*]; done), by repeat (first | exact Drawn0.refl _ | apply Drawn0.step)⟩
        · rw [if_neg c7] at H
          have c7b0 : decide ((wrap64 ((wrap64 (a0)) - (wrap64 (a1)))) < 0) = false := decide_eq_false c7
          clear c7
          obtain rfl := Option.some.inj H
          go_wp2
          go_ret
          exact ⟨by first | rfl | (simp; done) | (simp [*]; done), by repeat (first | exact Drawn0.refl _ | apply Drawn0.step)⟩

/-! ### chamberlainref05_Over: function 13 -/
def chamberlainref05_Over.f (a0 : Int) (a1 : Int) (a2 : Int) : Option (Bool) := if a0 ≥ 1073741824 then (some true) else (some (decide ((wrap64 (a0)) > (wrap64 ((wrap64 (a1)) + (wrap64 (a2)))))))
set_option maxHeartbeats 8000000 in
set_option maxRecDepth 100000 in
theorem chamberlainref05_Over.calls (a0 : Int) (a1 : Int) (a2 : Int) (r : Bool) (w : World) (h : chamberlainref05_Over.f a0 a1 a2 = some r) :
    Calls Try.prog 13 #[.int .u32 a0, .int .u32 a1, .int .u32 a2] w fun e w' => e = .returned (.bool r) ∧ Drawn0 w w' := by
  have H : (if a0 ≥ 1073741824 then (some true) else (some (decide ((wrap64 (a0)) > (wrap64 ((wrap64 (a1)) + (wrap64 (a2)))))))) = some r := h
  clear h
  by_cases c4 : a0 ≥ 1073741824
  · rw [if_pos c4] at H
    have c4b0 : decide (1073741824 ≤ a0) = true := decide_eq_true c4
    clear c4
    obtain rfl := Option.some.inj H
    go_enter Try.func13, Try.ntmps13
    go_wp2
    go_ret
    exact ⟨by first | rfl | (simp; done) | (simp [*]; done), by repeat (first | exact Drawn0.refl _ | apply Drawn0.step)⟩
  · rw [if_neg c4] at H
    have c4b0 : decide (1073741824 ≤ a0) = false := decide_eq_false c4
    clear c4
    obtain rfl := Option.some.inj H
    go_enter Try.func13, Try.ntmps13
    go_wp2
    go_ret
    exact ⟨by first | rfl | (simp; done) | (simp [*]; done), by repeat (first | exact Drawn0.refl _ | apply Drawn0.step)⟩

/-! ### chamberlainlaw05_ClockAsks: function 3 -/
def chamberlainlaw05_ClockAsks.f (k : Nat) (a0 : Int) (a1 : Int) (a2 : Int) : Option (Bool) := (chamberlainlaw05_awake.f).bind fun t114 => (if t114 = true then ((clock_Tick.f a0 a1).bind fun t115 => ((chamberlainref05_Tick.f a0 a1).bind fun t116 => (if t115 = t116 then ((clock_Fresh.f a0 a1 a2).bind fun t117 => ((chamberlainref05_Fresh.f k a0 a1 a2).bind fun t118 => (if (t117 == t118) = true then ((clock_Over.f a0 a1 a2).bind fun t119 => ((chamberlainref05_Over.f a0 a1 a2).bind fun t120 => (some (t119 == t120)))) else (some false)))) else (some false)))) else (some false))
theorem chamberlainlaw05_ClockAsks.mono : ∀ a0 a1 a2 k, LeO (chamberlainlaw05_ClockAsks.f k a0 a1 a2) (chamberlainlaw05_ClockAsks.f (k + 1) a0 a1 a2) := by
  intro a0 a1 a2 k
  unfold chamberlainlaw05_ClockAsks.f
  repeat' first
      | (with_reducible exact chamberlainref05_Fresh.mono _ _ _ _)
      | (with_reducible exact LeO.refl _)
      | (with_reducible exact LeO.none _)
      | (with_reducible refine LeO.ite ?_ ?_)
      | (with_reducible refine LeO.bind ?_ (fun _ => ?_))
      | exact chamberlainref05_Fresh.mono _ _ _ _
      | exact LeO.none _
      | refine LeO.ite ?_ ?_
      | refine LeO.bind ?_ (fun _ => ?_)
set_option maxHeartbeats 8000000 in
set_option maxRecDepth 100000 in
theorem chamberlainlaw05_ClockAsks.calls (k : Nat) (a0 : Int) (a1 : Int) (a2 : Int) (r : Bool) (w : World) (h : chamberlainlaw05_ClockAsks.f k a0 a1 a2 = some r) :
    Calls Try.prog 3 #[.int .u32 a0, .int .u32 a1, .int .u32 a2] w fun e w' => e = .returned (.bool r) ∧ Below w.heap.size w w' := by
  have HB := Aside0.mk (Below.refl w.heap.size w)
  have H : ((chamberlainlaw05_awake.f).bind fun t114 => (if t114 = true then ((clock_Tick.f a0 a1).bind fun t115 => ((chamberlainref05_Tick.f a0 a1).bind fun t116 => (if t115 = t116 then ((clock_Fresh.f a0 a1 a2).bind fun t117 => ((chamberlainref05_Fresh.f k a0 a1 a2).bind fun t118 => (if (t117 == t118) = true then ((clock_Over.f a0 a1 a2).bind fun t119 => ((chamberlainref05_Over.f a0 a1 a2).bind fun t120 => (some (t119 == t120)))) else (some false)))) else (some false)))) else (some false))) = some r := h
  clear h
  replace H := Option.bind_eq_some_iff.mp H
  obtain ⟨t114, A40, H⟩ := H
  replace H : (if t114 = true then ((clock_Tick.f a0 a1).bind fun t115 => ((chamberlainref05_Tick.f a0 a1).bind fun t116 => (if t115 = t116 then ((clock_Fresh.f a0 a1 a2).bind fun t117 => ((chamberlainref05_Fresh.f k a0 a1 a2).bind fun t118 => (if (t117 == t118) = true then ((clock_Over.f a0 a1 a2).bind fun t119 => ((chamberlainref05_Over.f a0 a1 a2).bind fun t120 => (some (t119 == t120)))) else (some false)))) else (some false)))) else (some false)) = some r := H
  have A4 := Aside0.mk A40
  clear A40
  by_cases c5 : t114 = true
  · subst c5
    have H1 : ((clock_Tick.f a0 a1).bind fun t115 => ((chamberlainref05_Tick.f a0 a1).bind fun t116 => (if t115 = t116 then ((clock_Fresh.f a0 a1 a2).bind fun t117 => ((chamberlainref05_Fresh.f k a0 a1 a2).bind fun t118 => (if (t117 == t118) = true then ((clock_Over.f a0 a1 a2).bind fun t119 => ((chamberlainref05_Over.f a0 a1 a2).bind fun t120 => (some (t119 == t120)))) else (some false)))) else (some false)))) = some r := by rw [if_pos rfl] at H; exact H
    clear H
    have H := H1
    clear H1
    replace H := Option.bind_eq_some_iff.mp H
    obtain ⟨t115, A60, H⟩ := H
    replace H : ((chamberlainref05_Tick.f a0 a1).bind fun t116 => (if t115 = t116 then ((clock_Fresh.f a0 a1 a2).bind fun t117 => ((chamberlainref05_Fresh.f k a0 a1 a2).bind fun t118 => (if (t117 == t118) = true then ((clock_Over.f a0 a1 a2).bind fun t119 => ((chamberlainref05_Over.f a0 a1 a2).bind fun t120 => (some (t119 == t120)))) else (some false)))) else (some false))) = some r := H
    have A6 := Aside0.mk A60
    clear A60
    replace H := Option.bind_eq_some_iff.mp H
    obtain ⟨t116, A70, H⟩ := H
    replace H : (if t115 = t116 then ((clock_Fresh.f a0 a1 a2).bind fun t117 => ((chamberlainref05_Fresh.f k a0 a1 a2).bind fun t118 => (if (t117 == t118) = true then ((clock_Over.f a0 a1 a2).bind fun t119 => ((chamberlainref05_Over.f a0 a1 a2).bind fun t120 => (some (t119 == t120)))) else (some false)))) else (some false)) = some r := H
    have A7 := Aside0.mk A70
    clear A70
    by_cases c8 : t115 = t116
    · rw [if_pos c8] at H
      have c8b0 : (t115 == t116) = true := beq_iff_eq.mpr c8
      have c8b1 : (t115 != t116) = false := bne_eq_false_iff_eq.mpr c8
      clear c8
      replace H := Option.bind_eq_some_iff.mp H
      obtain ⟨t117, A90, H⟩ := H
      replace H : ((chamberlainref05_Fresh.f k a0 a1 a2).bind fun t118 => (if (t117 == t118) = true then ((clock_Over.f a0 a1 a2).bind fun t119 => ((chamberlainref05_Over.f a0 a1 a2).bind fun t120 => (some (t119 == t120)))) else (some false))) = some r := H
      have A9 := Aside0.mk A90
      clear A90
      replace H := Option.bind_eq_some_iff.mp H
      obtain ⟨t118, A100, H⟩ := H
      replace H : (if (t117 == t118) = true then ((clock_Over.f a0 a1 a2).bind fun t119 => ((chamberlainref05_Over.f a0 a1 a2).bind fun t120 => (some (t119 == t120)))) else (some false)) = some r := H
      have A10 := Aside0.mk A100
      clear A100
      by_cases c11 : (t117 == t118) = true
      · rw [if_pos c11] at H
        have c11b0 : (t117 == t118) = true := c11
        (try (have c11b1 : decide (t117 = t118) = true := by simpa using c11))
        (try (have c11b2 : (t117 == t118) = true := by simpa using c11))
        clear c11
        replace H := Option.bind_eq_some_iff.mp H
        obtain ⟨t119, A120, H⟩ := H
        replace H : ((chamberlainref05_Over.f a0 a1 a2).bind fun t120 => (some (t119 == t120))) = some r := H
        have A12 := Aside0.mk A120
        clear A120
        replace H := Option.bind_eq_some_iff.mp H
        obtain ⟨t120, A130, H⟩ := H
        replace H : (some (t119 == t120)) = some r := H
        have A13 := Aside0.mk A130
        clear A130
        obtain rfl := Option.some.inj H
        go_enter Try.func3, Try.ntmps3
        go_wp2_with (first | ((with_reducible refine gate_callee (f := 7) rfl ?_); refine goesL_ (some 7) rfl rfl Try.func7 (by kernel_rfl) rfl #[] rfl (by (try simp only [List.map_toArray, List.map_cons, List.map_nil]); first | done | rfl | (simp only [List.length_drop, List.length_take]; rfl)) ?_; (with_reducible refine (chamberlainlaw05_awake.calls  true _ A4.out).mono ?_); rintro e w14 ⟨rfl, hb⟩; refine ⟨_, rfl, ?_⟩; have n0_ := Aside0.mk (below_step (by repeat (first | (with_reducible first | exact HB.out | apply below_alloc | apply pw_below_drewN | apply below_drew1) | exact HB.out)) hb); clear HB; have HB := n0_; clear n0_; (try clear hb); (try clear hb2); (try clear hk); (try clear hi)) | (go_at_call 8; (with_reducible refine (clock_Tick.calls a0 a1 t115 _ A6.out).mono ?_); rintro e w15 ⟨rfl, hb⟩; have n0_ := Aside0.mk (below_step (by repeat (first | (with_reducible first | exact HB.out | apply below_alloc | apply pw_below_drewN | apply below_drew1) | exact HB.out)) hb); clear HB; have HB := n0_; clear n0_; (try clear hb); (try clear hb2); (try clear hk); (try clear hi)) | (go_at_call 9; (with_reducible refine (chamberlainref05_Tick.calls a0 a1 t116 _ A7.out).mono ?_); rintro e w' ⟨rfl, ⟨nd, rfl⟩⟩) | (go_at_call 10; (with_reducible refine (clock_Fresh.calls a0 a1 a2 t117 _ A9.out).mono ?_); rintro e w' ⟨rfl, ⟨nd, rfl⟩⟩) | (go_at_call 11; (with_reducible refine (chamberlainref05_Fresh.calls k a0 a1 a2 t118 _ A10.out).mono ?_); rintro e w' ⟨rfl, ⟨nd, rfl⟩⟩) | (go_at_call 12; (with_reducible refine (clock_Over.calls a0 a1 a2 t119 _ A12.out).mono ?_); rintro e w' ⟨rfl, ⟨nd, rfl⟩⟩) | (go_at_call 13; (with_reducible refine (chamberlainref05_Over.calls a0 a1 a2 t120 _ A13.out).mono ?_); rintro e w' ⟨rfl, ⟨nd, rfl⟩⟩))
        go_ret
        exact ⟨by first | rfl | (simp [errW_none, errW_some] <;> rfl) | (simp [*, errW_none, errW_some] <;> rfl), by repeat (first | (with_reducible first | exact HB.out | apply below_alloc | apply pw_below_drewN | apply below_drew1) | exact HB.out)⟩
      · rw [if_neg c11] at H
        have c11b0 : (t117 == t118) = false := by simpa using c11
        (try (have c11b1 : decide (t117 = t118) = false := by simpa using c11))
        (try (have c11b2 : (t117 == t118) = false := by simpa using c11))
        (try (have c11b3 : ¬ (t117 = t118) := by simpa using c11))
        clear c11
        obtain rfl := Option.some.inj H
        go_enter Try.func3, Try.ntmps3
        go_wp2_with (first | ((with_reducible refine gate_callee (f := 7) rfl ?_); refine goesL_ (some 7) rfl rfl Try.func7 (by kernel_rfl) rfl #[] rfl (by (try simp only [List.map_toArray, List.map_cons, List.map_nil]); first | done | rfl | (simp only [List.length_drop, List.length_take]; rfl)) ?_; (with_reducible refine (chamberlainlaw05_awake.calls  true _ A4.out).mono ?_); rintro e w16 ⟨rfl, hb⟩; refine ⟨_, rfl, ?_⟩; have n0_ := Aside0.mk (below_step (by repeat (first | (with_reducible first | exact HB.out | apply below_alloc | apply pw_below_drewN | apply below_drew1) | exact HB.out)) hb); clear HB; have HB := n0_; clear n0_; (try clear hb); (try clear hb2); (try clear hk); (try clear hi)) | (go_at_call 8; (with_reducible refine (clock_Tick.calls a0 a1 t115 _ A6.out).mono ?_); rintro e w17 ⟨rfl, hb⟩; have n0_ := Aside0.mk (below_step (by repeat (first | (with_reducible first | exact HB.out | apply below_alloc | apply pw_below_drewN | apply below_drew1) | exact HB.out)) hb); clear HB; have HB := n0_; clear n0_; (try clear hb); (try clear hb2); (try clear hk); (try clear hi)) | (go_at_call 9; (with_reducible refine (chamberlainref05_Tick.calls a0 a1 t116 _ A7.out).mono ?_); rintro e w' ⟨rfl, ⟨nd, rfl⟩⟩) | (go_at_call 10; (with_reducible refine (clock_Fresh.calls a0 a1 a2 t117 _ A9.out).mono ?_); rintro e w' ⟨rfl, ⟨nd, rfl⟩⟩) | (go_at_call 11; (with_reducible refine (chamberlainref05_Fresh.calls k a0 a1 a2 t118 _ A10.out).mono ?_); rintro e w' ⟨rfl, ⟨nd, rfl⟩⟩))
        go_ret
        exact ⟨by first | rfl | (simp [errW_none, errW_some] <;> rfl) | (simp [*, errW_none, errW_some] <;> rfl), by repeat (first | (with_reducible first | exact HB.out | apply below_alloc | apply pw_below_drewN | apply below_drew1) | exact HB.out)⟩
    · rw [if_neg c8] at H
      have c8b0 : (t115 == t116) = false := beq_eq_false_iff_ne.mpr c8
      have c8b1 : (t115 != t116) = true := bne_iff_ne.mpr c8
      obtain rfl := Option.some.inj H
      go_enter Try.func3, Try.ntmps3
      go_wp2_with (first | ((with_reducible refine gate_callee (f := 7) rfl ?_); refine goesL_ (some 7) rfl rfl Try.func7 (by kernel_rfl) rfl #[] rfl (by (try simp only [List.map_toArray, List.map_cons, List.map_nil]); first | done | rfl | (simp only [List.length_drop, List.length_take]; rfl)) ?_; (with_reducible refine (chamberlainlaw05_awake.calls  true _ A4.out).mono ?_); rintro e w18 ⟨rfl, hb⟩; refine ⟨_, rfl, ?_⟩; have n0_ := Aside0.mk (below_step (by repeat (first | (with_reducible first | exact HB.out | apply below_alloc | apply pw_below_drewN | apply below_drew1) | exact HB.out)) hb); clear HB; have HB := n0_; clear n0_; (try clear hb); (try clear hb2); (try clear hk); (try clear hi)) | (go_at_call 8; (with_reducible refine (clock_Tick.calls a0 a1 t115 _ A6.out).mono ?_); rintro e w19 ⟨rfl, hb⟩; have n0_ := Aside0.mk (below_step (by repeat (first | (with_reducible first | exact HB.out | apply below_alloc | apply pw_below_drewN | apply below_drew1) | exact HB.out)) hb); clear HB; have HB := n0_; clear n0_; (try clear hb); (try clear hb2); (try clear hk); (try clear hi)) | (go_at_call 9; (with_reducible refine (chamberlainref05_Tick.calls a0 a1 t116 _ A7.out).mono ?_); rintro e w' ⟨rfl, ⟨nd, rfl⟩⟩))
      go_ret
      exact ⟨by first | rfl | (simp [errW_none, errW_some] <;> rfl) | (simp [*, errW_none, errW_some] <;> rfl), by repeat (first | (with_reducible first | exact HB.out | apply below_alloc | apply pw_below_drewN | apply below_drew1) | exact HB.out)⟩
  · replace c5 := Bool.eq_false_iff.mpr c5
    subst c5
    have H1 : (some false) = some r := by rw [if_neg (show ¬ (false = true) by decide)] at H; exact H
    clear H
    have H := H1
    clear H1
    obtain rfl := Option.some.inj H
    go_enter Try.func3, Try.ntmps3
    go_wp2_with (first | ((with_reducible refine gate_callee (f := 7) rfl ?_); refine goesL_ (some 7) rfl rfl Try.func7 (by kernel_rfl) rfl #[] rfl (by (try simp only [List.map_toArray, List.map_cons, List.map_nil]); first | done | rfl | (simp only [List.length_drop, List.length_take]; rfl)) ?_; (with_reducible refine (chamberlainlaw05_awake.calls  false _ A4.out).mono ?_); rintro e w20 ⟨rfl, hb⟩; refine ⟨_, rfl, ?_⟩; have n0_ := Aside0.mk (below_step (by repeat (first | (with_reducible first | exact HB.out | apply below_alloc | apply pw_below_drewN | apply below_drew1) | exact HB.out)) hb); clear HB; have HB := n0_; clear n0_; (try clear hb); (try clear hb2); (try clear hk); (try clear hi)))
    go_ret
    exact ⟨by first | rfl | (simp [errW_none, errW_some] <;> rfl) | (simp [*, errW_none, errW_some] <;> rfl), by repeat (first | (with_reducible first | exact HB.out | apply below_alloc | apply pw_below_drewN | apply below_drew1) | exact HB.out)⟩

/-- THE ONE PURE STATEMENT of chamberlainlaw05_ClockAsks: yours. -/
def chamberlainlaw05_ClockAsks.Pure : Prop := ∀ (a0 : Int) (a1 : Int) (a2 : Int), (Lit.int .u32 a0).wf = true → (Lit.int .u32 a1).wf = true → (Lit.int .u32 a2).wf = true → ∃ k, chamberlainlaw05_ClockAsks.f k a0 a1 a2 = some true
theorem chamberlainlaw05_ClockAsks.walk (P : chamberlainlaw05_ClockAsks.Pure) (a0 : Int) (a1 : Int) (a2 : Int) (w : World) (w0 : (Lit.int .u32 a0).wf = true) (w1 : (Lit.int .u32 a1).wf = true) (w2 : (Lit.int .u32 a2).wf = true) :
    Calls Try.prog 3 #[.int .u32 a0, .int .u32 a1, .int .u32 a2] w fun e w' => e = .returned (.bool true) ∧ Below w.heap.size w w' := by
  obtain ⟨k, h⟩ := P a0 a1 a2 w0 w1 w2
  refine (chamberlainlaw05_ClockAsks.calls k a0 a1 a2 true w h).mono ?_
  rintro e w' ⟨rfl, hd⟩
  exact ⟨rfl, hd⟩

end Go.Proofs.Yteikgomepljhfaa.PClockAsks
