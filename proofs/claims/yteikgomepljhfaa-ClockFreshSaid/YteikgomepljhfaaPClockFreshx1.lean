-- PRINTED BY print.sh 35421559b90ae4d0a3588c463048766b98c2df88dd9212a6774a882060cdf62d: not written by this session
import Derived.Test.YteikgomepljhfaaPClockFreshx0
namespace Go.Proofs.Yteikgomepljhfaa.PClockFresh
open Go.RowKit Go.Proofs.YteikgomepljhfaaW.PrintWords Go.Proofs.YteikgomepljhfaaW.PrintLast Go.Proofs.YteikgomepljhfaaW.PrintMore
attribute [local go_sem] max2_int min2_int max_two min_two max_three min_three max_four min_four   -- for this text's walks alone
set_option linter.unusedVariables false
set_option linter.unusedSimpArgs false

/-! ### clock_sum: function 14 -/
def clock_sum.f (a0 : Int) (a1 : Int) : Option (Int) := some (IntKind.u64.wrap ((IntKind.u64.wrap (a0)) + (IntKind.u64.wrap (a1))))
set_option maxHeartbeats 8000000 in
set_option maxRecDepth 100000 in
theorem clock_sum.calls (a0 : Int) (a1 : Int) (r : Int) (w : World) (h : clock_sum.f a0 a1 = some r) :
    Calls Try.prog 14 #[.int .u32 a0, .int .u32 a1] w fun e w' => e = .returned (.int .u64 r) ∧ Drawn0 w w' := by
  have H : (some (IntKind.u64.wrap ((IntKind.u64.wrap (a0)) + (IntKind.u64.wrap (a1))))) = some r := h
  clear h
  obtain rfl := Option.some.inj H
  go_enter Try.func14, Try.ntmps14
  go_wp2
  go_ret
  exact ⟨by first | rfl | (simp; done) | (simp [*]; done), by repeat (first | exact Drawn0.refl _ | apply Drawn0.step)⟩

/-! ### clock_Tick: function 8 -/
def clock_Tick.f (a0 : Int) (a1 : Int) : Option (Int) := (clock_sum.f a0 a1).bind fun t101 => (some ((mn t101 1073741824) % 4294967296))
set_option maxHeartbeats 8000000 in
set_option maxRecDepth 100000 in
theorem clock_Tick.calls (a0 : Int) (a1 : Int) (r : Int) (w : World) (h : clock_Tick.f a0 a1 = some r) :
    Calls Try.prog 8 #[.int .u32 a0, .int .u32 a1] w fun e w' => e = .returned (.int .u32 r) ∧ Below w.heap.size w w' := by
  have HB := Aside0.mk (Below.refl w.heap.size w)
  have H : ((clock_sum.f a0 a1).bind fun t101 => (some ((mn t101 1073741824) % 4294967296))) = some r := h
  clear h
  replace H := Option.bind_eq_some_iff.mp H
  obtain ⟨t101, A30, H⟩ := H
  replace H : (some ((mn t101 1073741824) % 4294967296)) = some r := H
  have A3 := Aside0.mk A30
  clear A30
  obtain ⟨ji4, hji4⟩ : ∃ j_ : Int, (mn t101 1073741824) = j_ := ⟨_, rfl⟩
  replace H : (some ((ji4) % 4294967296)) = some r := by first | (rw [hji4] at H; exact H) | (simp only [hji4] at H ⊢; exact H)
  (try rw [hji4] at A3)
  (try (have hji4h : ji4 ≤ 1073741824 := by (rw [← hji4]; unfold mn; (repeat' split) <;> omega)))
  (try (have hji4g : ji4 ≤ 64 := by omega))
  have hji4_ : (if 1073741824 < t101 then 1073741824 else t101) = ji4 := hji4
  obtain rfl := Option.some.inj H
  go_enter Try.func8, Try.ntmps8
  go_wp2_with (first | ((with_reducible refine gate_callee (f := 14) rfl ?_); refine goesL_ (some 7) rfl rfl Try.func14 (by kernel_rfl) rfl #[.int .u32 a0, .int .u32 a1] rfl (by (try simp only [List.map_toArray, List.map_cons, List.map_nil]); first | done | rfl | (simp only [List.length_drop, List.length_take]; rfl)) ?_; (with_reducible refine (clock_sum.calls a0 a1 t101 _ A3.out).mono ?_); rintro e w' ⟨rfl, ⟨nd, rfl⟩⟩; refine ⟨_, rfl, ?_⟩))
  go_ret
  exact ⟨by first | rfl | (simp [errW_none, errW_some] <;> rfl) | (simp only [← hji4]; first | rfl | (simp [errW_none, errW_some] <;> rfl)) | (simp [*, errW_none, errW_some] <;> rfl), by repeat (first | (with_reducible first | exact HB.out | apply below_alloc | apply pw_below_drewN | apply below_drew1) | exact HB.out)⟩

/-! ### clock_Fresh: function 10 -/
def clock_Fresh.f (a0 : Int) (a1 : Int) (a2 : Int) : Option (Bool) := if a0 < 1073741824 then (if a1 < 1073741824 then ((clock_sum.f a1 a2).bind fun t102 => (if (IntKind.u64.wrap (a0)) ≤ t102 then ((clock_sum.f a0 a2).bind fun t103 => (some (decide ((IntKind.u64.wrap (a1)) ≤ t103)))) else (some false))) else (some false)) else (some false)
set_option maxHeartbeats 8000000 in
set_option maxRecDepth 100000 in
theorem clock_Fresh.calls (a0 : Int) (a1 : Int) (a2 : Int) (r : Bool) (w : World) (h : clock_Fresh.f a0 a1 a2 = some r) :
    Calls Try.prog 10 #[.int .u32 a0, .int .u32 a1, .int .u32 a2] w fun e w' => e = .returned (.bool r) ∧ Drawn0 w w' := by
  have H : (if a0 < 1073741824 then (if a1 < 1073741824 then ((clock_sum.f a1 a2).bind fun t102 => (if (IntKind.u64.wrap (a0)) ≤ t102 then ((clock_sum.f a0 a2).bind fun t103 => (some (decide ((IntKind.u64.wrap (a1)) ≤ t103)))) else (some false))) else (some false)) else (some false)) = some r := h
  clear h
  by_cases c4 : a0 < 1073741824
  · rw [if_pos c4] at H
    have c4b0 : decide (a0 < 1073741824) = true := decide_eq_true c4
    clear c4
    by_cases c5 : a1 < 1073741824
    · rw [if_pos c5] at H
      have c5b0 : decide (a1 < 1073741824) = true := decide_eq_true c5
      clear c5
      replace H := Option.bind_eq_some_iff.mp H
      obtain ⟨t102, A60, H⟩ := H
      replace H : (if (IntKind.u64.wrap (a0)) ≤ t102 then ((clock_sum.f a0 a2).bind fun t103 => (some (decide ((IntKind.u64.wrap (a1)) ≤ t103)))) else (some false)) = some r := H
      have A6 := Aside0.mk A60
      clear A60
      by_cases c7 : (IntKind.u64.wrap (a0)) ≤ t102
      · rw [if_pos c7] at H
        have c7b0 : decide ((IntKind.u64.wrap (a0)) ≤ t102) = true := decide_eq_true c7
        clear c7
        replace H := Option.bind_eq_some_iff.mp H
        obtain ⟨t103, A80, H⟩ := H
        replace H : (some (decide ((IntKind.u64.wrap (a1)) ≤ t103))) = some r := H
        have A8 := Aside0.mk A80
        clear A80
        obtain rfl := Option.some.inj H
        go_enter Try.func10, Try.ntmps10
        go_wp2_with (first | (go_at_call 14; (with_reducible refine (clock_sum.calls a1 a2 t102 _ A6.out).mono ?_); rintro e w' ⟨rfl, ⟨nd, rfl⟩⟩) | (go_at_call 14; (with_reducible refine (clock_sum.calls a0 a2 t103 _ A8.out).mono ?_); rintro e w' ⟨rfl, ⟨nd, rfl⟩⟩))
        go_ret
        exact ⟨by first | rfl | (simp; done) | (simp [*]; done), by repeat (first | exact Drawn0.refl _ | apply Drawn0.step)⟩
      · rw [if_neg c7] at H
        have c7b0 : decide ((IntKind.u64.wrap (a0)) ≤ t102) = false := decide_eq_false c7
        clear c7
        obtain rfl := Option.some.inj H
        go_enter Try.func10, Try.ntmps10
        go_wp2_with (first | (go_at_call 14; (with_reducible refine (clock_sum.calls a1 a2 t102 _ A6.out).mono ?_); rintro e w' ⟨rfl, ⟨nd, rfl⟩⟩))
        go_ret
        exact ⟨by first | rfl | (simp; done) | (simp [*]; done), by repeat (first | exact Drawn0.refl _ | apply Drawn0.step)⟩
    · rw [if_neg c5] at H
      have c5b0 : decide (a1 < 1073741824) = false := decide_eq_false c5
      clear c5
      obtain rfl := Option.some.inj H
      go_enter Try.func10, Try.ntmps10
      go_wp2
      go_ret
      exact ⟨by first | rfl | (simp; done) | (simp [*]; done), by repeat (first | exact Drawn0.refl _ | apply Drawn0.step)⟩
  · rw [if_neg c4] at H
    have c4b0 : decide (a0 < 1073741824) = false := decide_eq_false c4
    clear c4
    obtain rfl := Option.some.inj H
    go_enter Try.func10, Try.ntmps10
    go_wp2
    go_ret
    exact ⟨by first | rfl | (simp; done) | (simp [*]; done), by repeat (first | exact Drawn0.refl _ | apply Drawn0.step)⟩

/-! ### clock_Over: function 12 -/
def clock_Over.f (a0 : Int) (a1 : Int) (a2 : Int) : Option (Bool) := if a0 ≥ 1073741824 then (some true) else ((clock_sum.f a1 a2).bind fun t104 => (some (decide ((IntKind.u64.wrap (a0)) > t104))))
set_option maxHeartbeats 8000000 in
set_option maxRecDepth 100000 in
theorem clock_Over.calls (a0 : Int) (a1 : Int) (a2 : Int) (r : Bool) (w : World) (h : clock_Over.f a0 a1 a2 = some r) :
    Calls Try.prog 12 #[.int .u32 a0, .int .u32 a1, .int .u32 a2] w fun e w' => e = .returned (.bool r) ∧ Drawn0 w w' := by
  have H : (if a0 ≥ 1073741824 then (some true) else ((clock_sum.f a1 a2).bind fun t104 => (some (decide ((IntKind.u64.wrap (a0)) > t104))))) = some r := h
  clear h
  by_cases c4 : a0 ≥ 1073741824
  · rw [if_pos c4] at H
    have c4b0 : decide (1073741824 ≤ a0) = true := decide_eq_true c4
    clear c4
    obtain rfl := Option.some.inj H
    go_enter Try.func12, Try.ntmps12
    go_wp2
    go_ret
    exact ⟨by first | rfl | (simp; done) | (simp [*]; done), by repeat (first | exact Drawn0.refl _ | apply Drawn0.step)⟩
  · rw [if_neg c4] at H
    have c4b0 : decide (1073741824 ≤ a0) = false := decide_eq_false c4
    clear c4
    replace H := Option.bind_eq_some_iff.mp H
    obtain ⟨t104, A50, H⟩ := H
    replace H : (some (decide ((IntKind.u64.wrap (a0)) > t104))) = some r := H
    have A5 := Aside0.mk A50
    clear A50
    obtain rfl := Option.some.inj H
    go_enter Try.func12, Try.ntmps12
    go_wp2_with (first | (go_at_call 14; (with_reducible refine (clock_sum.calls a1 a2 t104 _ A5.out).mono ?_); rintro e w' ⟨rfl, ⟨nd, rfl⟩⟩))
    go_ret
    exact ⟨by first | rfl | (simp; done) | (simp [*]; done), by repeat (first | exact Drawn0.refl _ | apply Drawn0.step)⟩

/-! ### chamberlainlaw05_awake: function 7 -/
def chamberlainlaw05_awake.f  : Option (Bool) := (clock_Fresh.f 5 3 2).bind fun t105 => (if t105 = true then ((clock_Fresh.f 6 3 2).bind fun t106 => (if t106 = true then (some false) else ((clock_Fresh.f 1 3 2).bind fun t107 => (if t107 = true then ((clock_Fresh.f 1073741824 1073741824 9).bind fun t108 => (if t108 = true then (some false) else ((clock_Tick.f 1073741823 5).bind fun t109 => (if t109 = 1073741824 then ((clock_Tick.f 3 4).bind fun t110 => (if t110 = 7 then ((clock_Over.f 6 3 2).bind fun t111 => (if t111 = true then ((clock_Over.f 5 3 2).bind fun t112 => (if t112 = true then (some false) else ((clock_Over.f 0 9 2).bind fun t113 => (some (!t113))))) else (some false))) else (some false))) else (some false))))) else (some false))))) else (some false))
set_option maxHeartbeats 8000000 in
set_option maxRecDepth 100000 in
theorem chamberlainlaw05_awake.calls  (r : Bool) (w : World) (h : chamberlainlaw05_awake.f  = some r) :
    Calls Try.prog 7 #[] w fun e w' => e = .returned (.bool r) ∧ Below w.heap.size w w' := by
  have HB := Aside0.mk (Below.refl w.heap.size w)
  have H : ((clock_Fresh.f 5 3 2).bind fun t105 => (if t105 = true then ((clock_Fresh.f 6 3 2).bind fun t106 => (if t106 = true then (some false) else ((clock_Fresh.f 1 3 2).bind fun t107 => (if t107 = true then ((clock_Fresh.f 1073741824 1073741824 9).bind fun t108 => (if t108 = true then (some false) else ((clock_Tick.f 1073741823 5).bind fun t109 => (if t109 = 1073741824 then ((clock_Tick.f 3 4).bind fun t110 => (if t110 = 7 then ((clock_Over.f 6 3 2).bind fun t111 => (if t111 = true then ((clock_Over.f 5 3 2).bind fun t112 => (if t112 = true then (some false) else ((clock_Over.f 0 9 2).bind fun t113 => (some (!t113))))) else (some false))) else (some false))) else (some false))))) else (some false))))) else (some false))) = some r := h
  clear h
  replace H := Option.bind_eq_some_iff.mp H
  obtain ⟨t105, A10, H⟩ := H
  replace H : (if t105 = true then ((clock_Fresh.f 6 3 2).bind fun t106 => (if t106 = true then (some false) else ((clock_Fresh.f 1 3 2).bind fun t107 => (if t107 = true then ((clock_Fresh.f 1073741824 1073741824 9).bind fun t108 => (if t108 = true then (some false) else ((clock_Tick.f 1073741823 5).bind fun t109 => (if t109 = 1073741824 then ((clock_Tick.f 3 4).bind fun t110 => (if t110 = 7 then ((clock_Over.f 6 3 2).bind fun t111 => (if t111 = true then ((clock_Over.f 5 3 2).bind fun t112 => (if t112 = true then (some false) else ((clock_Over.f 0 9 2).bind fun t113 => (some (!t113))))) else (some false))) else (some false))) else (some false))))) else (some false))))) else (some false)) = some r := H
  have A1 := Aside0.mk A10
  clear A10
  by_cases c2 : t105 = true
  · subst c2
    have H1 : ((clock_Fresh.f 6 3 2).bind fun t106 => (if t106 = true then (some false) else ((clock_Fresh.f 1 3 2).bind fun t107 => (if t107 = true then ((clock_Fresh.f 1073741824 1073741824 9).bind fun t108 => (if t108 = true then (some false) else ((clock_Tick.f 1073741823 5).bind fun t109 => (if t109 = 1073741824 then ((clock_Tick.f 3 4).bind fun t110 => (if t110 = 7 then ((clock_Over.f 6 3 2).bind fun t111 => (if t111 = true then ((clock_Over.f 5 3 2).bind fun t112 => (if t112 = true then (some false) else ((clock_Over.f 0 9 2).bind fun t113 => (some (!t113))))) else (some false))) else (some false))) else (some false))))) else (some false))))) = some r := by rw [if_pos rfl] at H; exact H
    clear H
    have H := H1
    clear H1
    replace H := Option.bind_eq_some_iff.mp H
    obtain ⟨t106, A30, H⟩ := H
    replace H : (if t106 = true then (some false) else ((clock_Fresh.f 1 3 2).bind fun t107 => (if t107 = true then ((clock_Fresh.f 1073741824 1073741824 9).bind fun t108 => (if t108 = true then (some false) else ((clock_Tick.f 1073741823 5).bind fun t109 => (if t109 = 1073741824 then ((clock_Tick.f 3 4).bind fun t110 => (if t110 = 7 then ((clock_Over.f 6 3 2).bind fun t111 => (if t111 = true then ((clock_Over.f 5 3 2).bind fun t112 => (if t112 = true then (some false) else ((clock_Over.f 0 9 2).bind fun t113 => (some (!t113))))) else (some false))) else (some false))) else (some false))))) else (some false)))) = some r := H
    have A3 := Aside0.mk A30
    clear A30
    by_cases c4 : t106 = true
    · subst c4
      have H1 : (some false) = some r := by rw [if_pos rfl] at H; exact H
      clear H
      have H := H1
      clear H1
      obtain rfl := Option.some.inj H
      go_enter Try.func7, Try.ntmps7
      go_wp2_with (first | ((with_reducible refine gate_callee (f := 10) rfl ?_); refine goesL_ (some 1) rfl rfl Try.func10 (by kernel_rfl) rfl #[.int .u32 5, .int .u32 3, .int .u32 2] rfl (by (try simp only [List.map_toArray, List.map_cons, List.map_nil]); first | done | rfl | (simp only [List.length_drop, List.length_take]; rfl)) ?_; (with_reducible refine (clock_Fresh.calls 5 3 2 true _ A1.out).mono ?_); rintro e w' ⟨rfl, ⟨nd, rfl⟩⟩; refine ⟨_, rfl, ?_⟩) | (go_at_call 10; (with_reducible refine (clock_Fresh.calls 6 3 2 true _ A3.out).mono ?_); rintro e w' ⟨rfl, ⟨nd, rfl⟩⟩))
      go_ret
      exact ⟨by first | rfl | (simp [errW_none, errW_some] <;> rfl) | (simp [*, errW_none, errW_some] <;> rfl), by repeat (first | (with_reducible first | exact HB.out | apply below_alloc | apply pw_below_drewN | apply below_drew1) | exact HB.out)⟩
    · replace c4 := Bool.eq_false_iff.mpr c4
      subst c4
      have H1 : ((clock_Fresh.f 1 3 2).bind fun t107 => (if t107 = true then ((clock_Fresh.f 1073741824 1073741824 9).bind fun t108 => (if t108 = true then (some false) else ((clock_Tick.f 1073741823 5).bind fun t109 => (if t109 = 1073741824 then ((clock_Tick.f 3 4).bind fun t110 => (if t110 = 7 then ((clock_Over.f 6 3 2).bind fun t111 => (if t111 = true then ((clock_Over.f 5 3 2).bind fun t112 => (if t112 = true then (some false) else ((clock_Over.f 0 9 2).bind fun t113 => (some (!t113))))) else (some false))) else (some false))) else (some false))))) else (some false))) = some r := by rw [if_neg (show ¬ (false = true) by decide)] at H; exact H
      clear H
      have H := H1
      clear H1
      replace H := Option.bind_eq_some_iff.mp H
      obtain ⟨t107, A50, H⟩ := H
      replace H : (if t107 = true then ((clock_Fresh.f 1073741824 1073741824 9).bind fun t108 => (if t108 = true then (some false) else ((clock_Tick.f 1073741823 5).bind fun t109 => (if t109 = 1073741824 then ((clock_Tick.f 3 4).bind fun t110 => (if t110 = 7 then ((clock_Over.f 6 3 2).bind fun t111 => (if t111 = true then ((clock_Over.f 5 3 2).bind fun t112 => (if t112 = true then (some false) else ((clock_Over.f 0 9 2).bind fun t113 => (some (!t113))))) else (some false))) else (some false))) else (some false))))) else (some false)) = some r := H
      have A5 := Aside0.mk A50
      clear A50
      by_cases c6 : t107 = true
      · subst c6
        have H1 : ((clock_Fresh.f 1073741824 1073741824 9).bind fun t108 => (if t108 = true then (some false) else ((clock_Tick.f 1073741823 5).bind fun t109 => (if t109 = 1073741824 then ((clock_Tick.f 3 4).bind fun t110 => (if t110 = 7 then ((clock_Over.f 6 3 2).bind fun t111 => (if t111 = true then ((clock_Over.f 5 3 2).bind fun t112 => (if t112 = true then (some false) else ((clock_Over.f 0 9 2).bind fun t113 => (some (!t113))))) else (some false))) else (some false))) else (some false))))) = some r := by rw [if_pos rfl] at H; exact H
        clear H
        have H := H1
        clear H1
        replace H := Option.bind_eq_some_iff.mp H
        obtain ⟨t108, A70, H⟩ := H
        replace H : (if t108 = true then (some false) else ((clock_Tick.f 1073741823 5).bind fun t109 => (if t109 = 1073741824 then ((clock_Tick.f 3 4).bind fun t110 => (if t110 = 7 then ((clock_Over.f 6 3 2).bind fun t111 => (if t111 = true then ((clock_Over.f 5 3 2).bind fun t112 => (if t112 = true then (some false) else ((clock_Over.f 0 9 2).bind fun t113 => (some (!t113))))) else (some false))) else (some false))) else (some false)))) = some r := H
        have A7 := Aside0.mk A70
        clear A70
        by_cases c8 : t108 = true
        · subst c8
          have H1 : (some false) = some r := by rw [if_pos rfl] at H; exact H
          clear H
          have H := H1
          clear H1
          obtain rfl := Option.some.inj H
          go_enter Try.func7, Try.ntmps7
          go_wp2_with (first | ((with_reducible refine gate_callee (f := 10) rfl ?_); refine goesL_ (some 1) rfl rfl Try.func10 (by kernel_rfl) rfl #[.int .u32 5, .int .u32 3, .int .u32 2] rfl (by (try simp only [List.map_toArray, List.map_cons, List.map_nil]); first | done | rfl | (simp only [List.length_drop, List.length_take]; rfl)) ?_; (with_reducible refine (clock_Fresh.calls 5 3 2 true _ A1.out).mono ?_); rintro e w' ⟨rfl, ⟨nd, rfl⟩⟩; refine ⟨_, rfl, ?_⟩) | (go_at_call 10; (with_reducible refine (clock_Fresh.calls 6 3 2 false _ A3.out).mono ?_); rintro e w' ⟨rfl, ⟨nd, rfl⟩⟩) | (go_at_call 10; (with_reducible refine (clock_Fresh.calls 1 3 2 true _ A5.out).mono ?_); rintro e w' ⟨rfl, ⟨nd, rfl⟩⟩) | (go_at_call 10; (with_reducible refine (clock_Fresh.calls 1073741824 1073741824 9 true _ A7.out).mono ?_); rintro e w' ⟨rfl, ⟨nd, rfl⟩⟩))
          go_ret
          exact ⟨by first | rfl | (simp [errW_none, errW_some] <;> rfl) | (simp [*, errW_none, errW_some] <;> rfl), by repeat (first | (with_reducible first | exact HB.out | apply below_alloc | apply pw_below_drewN | apply below_drew1) | exact HB.out)⟩
        · replace c8 := Bool.eq_false_iff.mpr c8
          subst c8
          have H1 : ((clock_Tick.f 1073741823 5).bind fun t109 => (if t109 = 1073741824 then ((clock_Tick.f 3 4).bind fun t110 => (if t110 = 7 then ((clock_Over.f 6 3 2).bind fun t111 => (if t111 = true then ((clock_Over.f 5 3 2).bind fun t112 => (if t112 = true then (some false) else ((clock_Over.f 0 9 2).bind fun t113 => (some (!t113))))) else (some false))) else (some false))) else (some false))) = some r := by rw [if_neg (show ¬ (false = true) by decide)] at H; exact H
          clear H
          have H := H1
          clear H1
          replace H := Option.bind_eq_some_iff.mp H
          obtain ⟨t109, A90, H⟩ := H
          replace H : (if t109 = 1073741824 then ((clock_Tick.f 3 4).bind fun t110 => (if t110 = 7 then ((clock_Over.f 6 3 2).bind fun t111 => (if t111 = true then ((clock_Over.f 5 3 2).bind fun t112 => (if t112 = true then (some false) else ((clock_Over.f 0 9 2).bind fun t113 => (some (!t113))))) else (some false))) else (some false))) else (some false)) = some r := H
          have A9 := Aside0.mk A90
          clear A90
          by_cases c10 : t109 = 1073741824
          · rw [if_pos c10] at H
            have c10b0 : (t109 == 1073741824) = true := beq_iff_eq.mpr c10
            have c10b1 : (t109 != 1073741824) = false := bne_eq_false_iff_eq.mpr c10
            clear c10
            replace H := Option.bind_eq_some_iff.mp H
            obtain ⟨t110, A110, H⟩ := H
            replace H : (if t110 = 7 then ((clock_Over.f 6 3 2).bind fun t111 => (if t111 = true then ((clock_Over.f 5 3 2).bind fun t112 => (if t112 = true then (some false) else ((clock_Over.f 0 9 2).bind fun t113 => (some (!t113))))) else (some false))) else (some false)) = some r := H
            have A11 := Aside0.mk A110
            clear A110
            by_cases c12 : t110 = 7
            · rw [if_pos c12] at H
              have c12b0 : (t110 == 7) = true := beq_iff_eq.mpr c12
              have c12b1 : (t110 != 7) = false := bne_eq_false_iff_eq.mpr c12
              clear c12
              replace H := Option.bind_eq_some_iff.mp H
              obtain ⟨t111, A130, H⟩ := H
              replace H : (if t111 = true then ((clock_Over.f 5 3 2).bind fun t112 => (if t112 = true then (some false) else ((clock_Over.f 0 9 2).bind fun t113 => (some (!t113))))) else (some false)) = some r := H
              have A13 := Aside0.mk A130
              clear A130
              by_cases c14 : t111 = true
              · subst c14
                have H1 : ((clock_Over.f 5 3 2).bind fun t112 => (if t112 = true then (some false) else ((clock_Over.f 0 9 2).bind fun t113 => (some (!t113))))) = some r := by rw [if_pos rfl] at H; exact H
                clear H
                have H := H1
                clear H1
                replace H := Option.bind_eq_some_iff.mp H
                obtain ⟨t112, A150, H⟩ := H
                replace H : (if t112 = true then (some false) else ((clock_Over.f 0 9 2).bind fun t113 => (some (!t113)))) = some r := H
                have A15 := Aside0.mk A150
                clear A150
                by_cases c16 : t112 = true
                · subst c16
                  have H1 : (some false) = some r := by rw [if_pos rfl] at H; exact H
                  clear H
                  have H := H1
                  clear H1
                  obtain rfl := Option.some.inj H
                  go_enter Try.func7, Try.ntmps7
                  go_wp2_with (first | ((with_reducible refine gate_callee (f := 10) rfl ?_); refine goesL_ (some 1) rfl rfl Try.func10 (by kernel_rfl) rfl #[.int .u32 5, .int .u32 3, .int .u32 2] rfl (by (try simp only [List.map_toArray, List.map_cons, List.map_nil]); first | done | rfl | (simp only [List.length_drop, List.length_take]; rfl)) ?_; (with_reducible refine (clock_Fresh.calls 5 3 2 true _ A1.out).mono ?_); rintro e w' ⟨rfl, ⟨nd, rfl⟩⟩; refine ⟨_, rfl, ?_⟩) | (go_at_call 10; (with_reducible refine (clock_Fresh.calls 6 3 2 false _ A3.out).mono ?_); rintro e w' ⟨rfl, ⟨nd, rfl⟩⟩) | (go_at_call 10; (with_reducible refine (clock_Fresh.calls 1 3 2 true _ A5.out).mono ?_); rintro e w' ⟨rfl, ⟨nd, rfl⟩⟩) | (go_at_call 10; (with_reducible refine (clock_Fresh.calls 1073741824 1073741824 9 false _ A7.out).mono ?_); rintro e w' ⟨rfl, ⟨nd, rfl⟩⟩) | (go_at_call 8; (with_reducible refine (clock_Tick.calls 1073741823 5 t109 _ A9.out).mono ?_); rintro e w17 ⟨rfl, hb⟩; have n0_ := Aside0.mk (below_step (by repeat (first | (with_reducible first | exact HB.out | apply below_alloc | apply pw_below_drewN | apply below_drew1) | exact HB.out)) hb); clear HB; have HB := n0_; clear n0_; (try clear hb); (try clear hb2); (try clear hk); (try clear hi)) | (go_at_call 8; (with_reducible refine (clock_Tick.calls 3 4 t110 _ A11.out).mono ?_); rintro e w18 ⟨rfl, hb⟩; have n0_ := Aside0.mk (below_step (by repeat (first | (with_reducible first | exact HB.out | apply below_alloc | apply pw_below_drewN | apply below_drew1) | exact HB.out)) hb); clear HB; have HB := n0_; clear n0_; (try clear hb); (try clear hb2); (try clear hk); (try clear hi)) | (go_at_call 12; (with_reducible refine (clock_Over.calls 6 3 2 true _ A13.out).mono ?_); rintro e w' ⟨rfl, ⟨nd, rfl⟩⟩) | (go_at_call 12; (with_reducible refine (clock_Over.calls 5 3 2 true _ A15.out).mono ?_); rintro e w' ⟨rfl, ⟨nd, rfl⟩⟩))
                  go_ret
                  exact ⟨by first | rfl | (simp [errW_none, errW_some] <;> rfl) | (simp [*, errW_none, errW_some] <;> rfl), by repeat (first | (with_reducible first | exact HB.out | apply below_alloc | apply pw_below_drewN | apply below_drew1) | exact HB.out)⟩
                · replace c16 := Bool.eq_false_iff.mpr c16
                  subst c16
                  have H1 : ((clock_Over.f 0 9 2).bind fun t113 => (some (!t113))) = some r := by rw [if_neg (show ¬ (false = true) by decide)] at H; exact H
                  clear H
                  have H := H1
                  clear H1
                  replace H := Option.bind_eq_some_iff.mp H
                  obtain ⟨t113, A190, H⟩ := H
                  replace H : (some (!t113)) = some r := H
                  have A19 := Aside0.mk A190
                  clear A190
                  obtain rfl := Option.some.inj H
                  go_enter Try.func7, Try.ntmps7
                  go_wp2_with (first | ((with_reducible refine gate_callee (f := 10) rfl ?_); refine goesL_ (some 1) rfl rfl Try.func10 (by kernel_rfl) rfl #[.int .u32 5, .int .u32 3, .int .u32 2] rfl (by (try simp only [List.map_toArray, List.map_cons, List.map_nil]); first | done | rfl | (simp only [List.length_drop, List.length_take]; rfl)) ?_; (with_reducible refine (clock_Fresh.calls 5 3 2 true _ A1.out).mono ?_); rintro e w' ⟨rfl, ⟨nd, rfl⟩⟩; refine ⟨_, rfl, ?_⟩) | (go_at_call 10; (with_reducible refine (clock_Fresh.calls 6 3 2 false _ A3.out).mono ?_); rintro e w' ⟨rfl, ⟨nd, rfl⟩⟩) | (go_at_call 10; (with_reducible refine (clock_Fresh.calls 1 3 2 true _ A5.out).mono ?_); rintro e w' ⟨rfl, ⟨nd, rfl⟩⟩) | (go_at_call 10; (with_reducible refine (clock_Fresh.calls 1073741824 1073741824 9 false _ A7.out).mono ?_); rintro e w' ⟨rfl, ⟨nd, rfl⟩⟩) | (go_at_call 8; (with_reducible refine (clock_Tick.calls 1073741823 5 t109 _ A9.out).mono ?_); rintro e w20 ⟨rfl, hb⟩; have n0_ := Aside0.mk (below_step (by repeat (first | (with_reducible first | exact HB.out | apply below_alloc | apply pw_below_drewN | apply below_drew1) | exact HB.out)) hb); clear HB; have HB := n0_; clear n0_; (try clear hb); (try clear hb2); (try clear hk); (try clear hi)) | (go_at_call 8; (with_reducible refine (clock_Tick.calls 3 4 t110 _ A11.out).mono ?_); rintro e w21 ⟨rfl, hb⟩; have n0_ := Aside0.mk (below_step (by repeat (first | (with_reducible first | exact HB.out | apply below_alloc | apply pw_below_drewN | apply below_drew1) | exact HB.out)) hb); clear HB; have HB := n0_; clear n0_; (try clear hb); (try clear hb2); (try clear hk); (try clear hi)) | (go_at_call 12; (with_reducible refine (clock_Over.calls 6 3 2 true _ A13.out).mono ?_); rintro e w' ⟨rfl, ⟨nd, rfl⟩⟩) | (go_at_call 12; (with_reducible refine (clock_Over.calls 5 3 2 false _ A15.out).mono ?_); rintro e w' ⟨rfl, ⟨nd, rfl⟩⟩) | (go_at_call 12; (with_reducible refine (clock_Over.calls 0 9 2 t113 _ A19.out).mono ?_); rintro e w' ⟨rfl, ⟨nd, rfl⟩⟩))
                  go_ret
                  exact ⟨by first | rfl | (simp [errW_none, errW_some] <;> rfl) | (simp [*, errW_none, errW_some] <;> rfl), by repeat (first | (with_reducible first | exact HB.out | apply below_alloc | apply pw_below_drewN | apply below_drew1) | exact HB.out)⟩
              · replace c14 := Bool.eq_false_iff.mpr c14
                subst c14
                have H1 : (some false) = some r := by rw [if_neg (show ¬ (false = true) by decide)] at H; exact H
                clear H
                have H := H1
                clear H1
                obtain rfl := Option.some.inj H
                go_enter Try.func7, Try.ntmps7
                go_wp2_with (first | ((with_reducible refine gate_callee (f := 10) rfl ?_); refine goesL_ (some 1) rfl rfl Try.func10 (by kernel_rfl) rfl #[.int .u32 5, .int .u32 3, .int .u32 2] rfl (by (try simp only [List.map_toArray, List.map_cons, List.map_nil]); first | done | rfl | (simp only [List.length_drop, List.length_take]; rfl)) ?_; (with_reducible refine (clock_Fresh.calls 5 3 2 true _ A1.out).mono ?_); rintro e w' ⟨rfl, ⟨nd, rfl⟩⟩; refine ⟨_, rfl, ?_⟩) | (go_at_call 10; (with_reducible refine (clock_Fresh.calls 6 3 2 false _ A3.out).mono ?_); rintro e w' ⟨rfl, ⟨nd, rfl⟩⟩) | (go_at_call 10; (with_reducible refine (clock_Fresh.calls 1 3 2 true _ A5.out).mono ?_); rintro e w' ⟨rfl, ⟨nd, rfl⟩⟩) | (go_at_call 10; (with_reducible refine (clock_Fresh.calls 1073741824 1073741824 9 false _ A7.out).mono ?_); rintro e w' ⟨rfl, ⟨nd, rfl⟩⟩) | (go_at_call 8; (with_reducible refine (clock_Tick.calls 1073741823 5 t109 _ A9.out).mono ?_); rintro e w22 ⟨rfl, hb⟩; have n0_ := Aside0.mk (below_step (by repeat (first | (with_reducible first | exact HB.out | apply below_alloc | apply pw_below_drewN | apply below_drew1) | exact HB.out)) hb); clear HB; have HB := n0_; clear n0_; (try clear hb); (try clear hb2); (try clear hk); (try clear hi)) | (go_at_call 8; (with_reducible refine (clock_Tick.calls 3 4 t110 _ A11.out).mono ?_); rintro e w23 ⟨rfl, hb⟩; have n0_ := Aside0.mk (below_step (by repeat (first | (with_reducible first | exact HB.out | apply below_alloc | apply pw_below_drewN | apply below_drew1) | exact HB.out)) hb); clear HB; have HB := n0_; clear n0_; (try clear hb); (try clear hb2); (try clear hk); (try clear hi)) | (go_at_call 12; (with_reducible refine (clock_Over.calls 6 3 2 false _ A13.out).mono ?_); rintro e w' ⟨rfl, ⟨nd, rfl⟩⟩))
                go_ret
                exact ⟨by first | rfl | (simp [errW_none, errW_some] <;> rfl) | (simp [*, errW_none, errW_some] <;> rfl), by repeat (first | (with_reducible first | exact HB.out | apply below_alloc | apply pw_below_drewN | apply below_drew1) | exact HB.out)⟩
            · rw [if_neg c12] at H
              have c12b0 : (t110 == 7) = false := beq_eq_false_iff_ne.mpr c12
              have c12b1 : (t110 != 7) = true := bne_iff_ne.mpr c12
              obtain rfl := Option.some.inj H
              go_enter Try.func7, Try.ntmps7
              go_wp2_with (first | ((with_reducible refine gate_callee (f := 10) rfl ?_); refine goesL_ (some 1) rfl rfl Try.func10 (by kernel_rfl) rfl #[.int .u32 5, .int .u32 3, .int .u32 2] rfl (by (try simp only [List.map_toArray, List.map_cons, List.map_nil]); first | done | rfl | (simp only [List.length_drop, List.length_take]; rfl)) ?_; (with_reducible refine (clock_Fresh.calls 5 3 2 true _ A1.out).mono ?_); rintro e w' ⟨rfl, ⟨nd, rfl⟩⟩; refine ⟨_, rfl, ?_⟩) | (go_at_call 10; (with_reducible refine (clock_Fresh.calls 6 3 2 false _ A3.out).mono ?_); rintro e w' ⟨rfl, ⟨nd, rfl⟩⟩) | (go_at_call 10; (with_reducible refine (clock_Fresh.calls 1 3 2 true _ A5.out).mono ?_); rintro e w' ⟨rfl, ⟨nd, rfl⟩⟩) | (go_at_call 10; (with_reducible refine (clock_Fresh.calls 1073741824 1073741824 9 false _ A7.out).mono ?_); rintro e w' ⟨rfl, ⟨nd, rfl⟩⟩) | (go_at_call 8; (with_reducible refine (clock_Tick.calls 1073741823 5 t109 _ A9.out).mono ?_); rintro e w24 ⟨rfl, hb⟩; have n0_ := Aside0.mk (below_step (by repeat (first | (with_reducible first | exact HB.out | apply below_alloc | apply pw_below_drewN | apply below_drew1) | exact HB.out)) hb); clear HB; have HB := n0_; clear n0_; (try clear hb); (try clear hb2); (try clear hk); (try clear hi)) | (go_at_call 8; (with_reducible refine (clock_Tick.calls 3 4 t110 _ A11.out).mono ?_); rintro e w25 ⟨rfl, hb⟩; have n0_ := Aside0.mk (below_step (by repeat (first | (with_reducible first | exact HB.out | apply below_alloc | apply pw_below_drewN | apply below_drew1) | exact HB.out)) hb); clear HB; have HB := n0_; clear n0_; (try clear hb); (try clear hb2); (try clear hk); (try clear hi)))
              go_ret
              exact ⟨by first | rfl | (simp [errW_none, errW_some] <;> rfl) | (simp [*, errW_none, errW_some] <;> rfl), by repeat (first | (with_reducible first | exact HB.out | apply below_alloc | apply pw_below_drewN | apply below_drew1) | exact HB.out)⟩
          · rw [if_neg c10] at H
            have c10b0 : (t109 == 1073741824) = false := beq_eq_false_iff_ne.mpr c10
            have c10b1 : (t109 != 1073741824) = true := bne_iff_ne.mpr c10
            obtain rfl := Option.some.inj H
            go_enter Try.func7, Try.ntmps7
            go_wp2_with (first | ((with_reducible refine gate_callee (f := 10) rfl ?_); refine goesL_ (some 1) rfl rfl Try.func10 (by kernel_rfl) rfl #[.int .u32 5, .int .u32 3, .int .u32 2] rfl (by (try simp only [List.map_toArray, List.map_cons, List.map_nil]); first | done | rfl | (simp only [List.length_drop, List.length_take]; rfl)) ?_; (with_reducible refine (clock_Fresh.calls 5 3 2 true _ A1.out).mono ?_); rintro e w' ⟨rfl, ⟨nd, rfl⟩⟩; refine ⟨_, rfl, ?_⟩) | (go_at_call 10; (with_reducible refine (clock_Fresh.calls 6 3 2 false _ A3.out).mono ?_); rintro e w' ⟨rfl, ⟨nd, rfl⟩⟩) | (go_at_call 10; (with_reducible refine (clock_Fresh.calls 1 3 2 true _ A5.out).mono ?_); rintro e w' ⟨rfl, ⟨nd, rfl⟩⟩) | (go_at_call 10; (with_reducible refine (clock_Fresh.calls 1073741824 1073741824 9 false _ A7.out).mono ?_); rintro e w' ⟨rfl, ⟨nd, rfl⟩⟩) | (go_at_call 8; (with_reducible refine (clock_Tick.calls 1073741823 5 t109 _ A9.out).mono ?_); rintro e w26 ⟨rfl, hb⟩; have n0_ := Aside0.mk (below_step (by repeat (first | (with_reducible first | exact HB.out | apply below_alloc | apply pw_below_drewN | apply below_drew1) | exact HB.out)) hb); clear HB; have HB := n0_; clear n0_; (try clear hb); (try clear hb2); (try clear hk); (try clear hi)))
            go_ret
            exact ⟨by first | rfl | (simp [errW_none, errW_some] <;> rfl) | (simp [*, errW_none, errW_some] <;> rfl), by repeat (first | (with_reducible first | exact HB.out | apply below_alloc | apply pw_below_drewN | apply below_drew1) | exact HB.out)⟩
      · replace c6 := Bool.eq_false_iff.mpr c6
        subst c6
        have H1 : (some false) = some r := by rw [if_neg (show ¬ (false = true) by decide)] at H; exact H
        clear H
        have H := H1
        clear H1
        obtain rfl := Option.some.inj H
        go_enter Try.func7, Try.ntmps7
        go_wp2_with (first | ((with_reducible refine gate_callee (f := 10) rfl ?_); refine goesL_ (some 1) rfl rfl Try.func10 (by kernel_rfl) rfl #[.int .u32 5, .int .u32 3, .int .u32 2] rfl (by (try simp only [List.map_toArray, List.map_cons, List.map_nil]); first | done | rfl | (simp only [List.length_drop, List.length_take]; rfl)) ?_; (with_reducible refine (clock_Fresh.calls 5 3 2 true _ A1.out).mono ?_); rintro e w' ⟨rfl, ⟨nd, rfl⟩⟩; refine ⟨_, rfl, ?_⟩) | (go_at_call 10; (with_reducible refine (clock_Fresh.calls 6 3 2 false _ A3.out).mono ?_); rintro e w' ⟨rfl, ⟨nd, rfl⟩⟩) | (go_at_call 10; (with_reducible refine (clock_Fresh.calls 1 3 2 false _ A5.out).mono ?_); rintro e w' ⟨rfl, ⟨nd, rfl⟩⟩))
        go_ret
        exact ⟨by first | rfl | (simp [errW_none, errW_some] <;> rfl) | (simp [*, errW_none, errW_some] <;> rfl), by repeat (first | (with_reducible first | exact HB.out | apply below_alloc | apply pw_below_drewN | apply below_drew1) | exact HB.out)⟩
  · replace c2 := Bool.eq_false_iff.mpr c2
    subst c2
    have H1 : (some false) = some r := by rw [if_neg (show ¬ (false = true) by decide)] at H; exact H
    clear H
    have H := H1
    clear H1
    obtain rfl := Option.some.inj H
    go_enter Try.func7, Try.ntmps7
    go_wp2_with (first | ((with_reducible refine gate_callee (f := 10) rfl ?_); refine goesL_ (some 1) rfl rfl Try.func10 (by kernel_rfl) rfl #[.int .u32 5, .int .u32 3, .int .u32 2] rfl (by (try simp only [List.map_toArray, List.map_cons, List.map_nil]); first | done | rfl | (simp only [List.length_drop, List.length_take]; rfl)) ?_; (with_reducible refine (clock_Fresh.calls 5 3 2 false _ A1.out).mono ?_); rintro e w' ⟨rfl, ⟨nd, rfl⟩⟩; refine ⟨_, rfl, ?_⟩))
    go_ret
    exact ⟨by first | rfl | (simp [errW_none, errW_some] <;> rfl) | (simp [*, errW_none, errW_some] <;> rfl), by repeat (first | (with_reducible first | exact HB.out | apply below_alloc | apply pw_below_drewN | apply below_drew1) | exact HB.out)⟩

/-! ### chamberlainlaw05_ClockFresh: function 4 -/
mutual
def chamberlainlaw05_ClockFresh.j0 : Nat → Int → Int → Int → Int → Bool → Option (Bool)
  | 0, _, _, _, _, _ => none
  | k + 1, x0, x1, x2, x3, x16 => if x16 = true then ((chamberlainlaw05_awake.f).bind fun t115 => (some t115)) else ((clock_Tick.f x0 x3).bind fun t116 => (if t116 < x0 then (chamberlainlaw05_ClockFresh.j1 k x0 x1 x2 true) else (if t116 > 1073741824 then (chamberlainlaw05_ClockFresh.j1 k x0 x1 x2 true) else ((clock_Over.f x0 x1 x2).bind fun t117 => (if t117 = true then ((clock_Fresh.f x0 x1 x2).bind fun t118 => (if t118 = true then (chamberlainlaw05_ClockFresh.j1 k x0 x1 x2 true) else ((clock_Over.f t116 x1 x2).bind fun t119 => (chamberlainlaw05_ClockFresh.j1 k x0 x1 x2 (!t119))))) else (chamberlainlaw05_ClockFresh.j1 k x0 x1 x2 false))))))
def chamberlainlaw05_ClockFresh.j1 : Nat → Int → Int → Int → Bool → Option (Bool)
  | 0, _, _, _, _ => none
  | k + 1, x0, x1, x2, x46 => if x46 = true then (some false) else (if x2 < 536870912 then (chamberlainlaw05_ClockFresh.j2 k x0 x1 x2 ((x2 + 1) % 4294967296)) else (chamberlainlaw05_ClockFresh.j2 k x0 x1 x2 1073741824))
def chamberlainlaw05_ClockFresh.j2 : Nat → Int → Int → Int → Int → Option (Bool)
  | 0, _, _, _, _ => none
  | k + 1, x0, x1, x2, x10 => (clock_Fresh.f x0 x1 x2).bind fun t120 => (if t120 = true then ((clock_Fresh.f x1 x0 x2).bind fun t121 => (if t121 = true then (if x2 ≥ 1073741824 then ((clock_Fresh.f x0 x1 0).bind fun t122 => (if x0 = x1 then (some (t122 == (decide (x0 < 1073741824)))) else (some (t122 == false)))) else ((clock_Fresh.f x0 x1 x10).bind fun t123 => (if t123 = true then ((clock_Fresh.f x0 x1 0).bind fun t124 => (if x0 = x1 then (some (t124 == (decide (x0 < 1073741824)))) else (some (t124 == false)))) else (some false)))) else (some false))) else ((clock_Fresh.f x0 x1 0).bind fun t125 => (if x0 = x1 then (some (t125 == (decide (x0 < 1073741824)))) else (some (t125 == false)))))
end
def chamberlainlaw05_ClockFresh.f (k : Nat) (a0 : Int) (a1 : Int) (a2 : Int) (a3 : Int) : Option (Bool) := (chamberlainlaw05_awake.f).bind fun t114 => (if t114 = true then (chamberlainlaw05_ClockFresh.j0 k a0 a1 a2 a3 (decide (a0 > 1073741824))) else (chamberlainlaw05_ClockFresh.j0 k a0 a1 a2 a3 true))
theorem chamberlainlaw05_ClockFresh.mono_l : ∀ k, (∀ y0 y1 y2 y3 y4, LeO (chamberlainlaw05_ClockFresh.j0 k y0 y1 y2 y3 y4) (chamberlainlaw05_ClockFresh.j0 (k + 1) y0 y1 y2 y3 y4)) ∧ (∀ y0 y1 y2 y3, LeO (chamberlainlaw05_ClockFresh.j1 k y0 y1 y2 y3) (chamberlainlaw05_ClockFresh.j1 (k + 1) y0 y1 y2 y3)) ∧ (∀ y0 y1 y2 y3, LeO (chamberlainlaw05_ClockFresh.j2 k y0 y1 y2 y3) (chamberlainlaw05_ClockFresh.j2 (k + 1) y0 y1 y2 y3))
  | 0 => ⟨fun _ _ _ _ _ r h => by simp [chamberlainlaw05_ClockFresh.j0] at h, fun _ _ _ _ r h => by simp [chamberlainlaw05_ClockFresh.j1] at h, fun _ _ _ _ r h => by simp [chamberlainlaw05_ClockFresh.j2] at h⟩
  | k + 1 => by
    obtain ⟨ih0, ih1, ih2⟩ := chamberlainlaw05_ClockFresh.mono_l k
    refine ⟨?_, ?_, ?_⟩
    · intro y0 y1 y2 y3 y4
      unfold chamberlainlaw05_ClockFresh.j0
      repeat' first
      | (with_reducible exact ih0 _ _ _ _ _)
      | (with_reducible exact ih1 _ _ _ _)
      | (with_reducible exact ih2 _ _ _ _)
      | (with_reducible exact LeO.refl _)
      | (with_reducible exact LeO.none _)
      | (with_reducible refine LeO.ite ?_ ?_)
      | (with_reducible refine LeO.bind ?_ (fun _ => ?_))
      | exact ih0 _ _ _ _ _
      | exact ih1 _ _ _ _
      | exact ih2 _ _ _ _
      | exact LeO.none _
      | refine LeO.ite ?_ ?_
      | refine LeO.bind ?_ (fun _ => ?_)
    · intro y0 y1 y2 y3
      unfold chamberlainlaw05_ClockFresh.j1
      repeat' first
      | (with_reducible exact ih0 _ _ _ _ _)
      | (with_reducible exact ih1 _ _ _ _)
      | (with_reducible exact ih2 _ _ _ _)
      | (with_reducible exact LeO.refl _)
      | (with_reducible exact LeO.none _)
      | (with_reducible refine LeO.ite ?_ ?_)
      | (with_reducible refine LeO.bind ?_ (fun _ => ?_))
      | exact ih0 _ _ _ _ _
      | exact ih1 _ _ _ _
      | exact ih2 _ _ _ _
      | exact LeO.none _
      | refine LeO.ite ?_ ?_
      | refine LeO.bind ?_ (fun _ => ?_)
    · intro y0 y1 y2 y3
      unfold chamberlainlaw05_ClockFresh.j2
      repeat' first
      | (with_reducible exact ih0 _ _ _ _ _)
      | (with_reducible exact ih1 _ _ _ _)
      | (with_reducible exact ih2 _ _ _ _)
      | (with_reducible exact LeO.refl _)
      | (with_reducible exact LeO.none _)
      | (with_reducible refine LeO.ite ?_ ?_)
      | (with_reducible refine LeO.bind ?_ (fun _ => ?_))
      | exact ih0 _ _ _ _ _
      | exact ih1 _ _ _ _
      | exact ih2 _ _ _ _
      | exact LeO.none _
      | refine LeO.ite ?_ ?_
      | refine LeO.bind ?_ (fun _ => ?_)
theorem chamberlainlaw05_ClockFresh.mono : ∀ a0 a1 a2 a3 k, LeO (chamberlainlaw05_ClockFresh.f k a0 a1 a2 a3) (chamberlainlaw05_ClockFresh.f (k + 1) a0 a1 a2 a3) := by
  intro a0 a1 a2 a3 k
  obtain ⟨ih0, ih1, ih2⟩ := chamberlainlaw05_ClockFresh.mono_l k
  unfold chamberlainlaw05_ClockFresh.f
  repeat' first
      | (with_reducible exact ih0 _ _ _ _ _)
      | (with_reducible exact ih1 _ _ _ _)
      | (with_reducible exact ih2 _ _ _ _)
      | (with_reducible exact LeO.refl _)
      | (with_reducible exact LeO.none _)
      | (with_reducible refine LeO.ite ?_ ?_)
      | (with_reducible refine LeO.bind ?_ (fun _ => ?_))
      | exact ih0 _ _ _ _ _
      | exact ih1 _ _ _ _
      | exact ih2 _ _ _ _
      | exact LeO.none _
      | refine LeO.ite ?_ ?_
      | refine LeO.bind ?_ (fun _ => ?_)
set_option maxHeartbeats 8000000 in
set_option maxRecDepth 100000 in
theorem chamberlainlaw05_ClockFresh.calls (k : Nat) (a0 : Int) (a1 : Int) (a2 : Int) (a3 : Int) (r : Bool) (w : World) (h : chamberlainlaw05_ClockFresh.f k a0 a1 a2 a3 = some r) :
    Calls Try.prog 4 #[.int .u32 a0, .int .u32 a1, .int .u32 a2, .int .u32 a3] w fun e w' => e = .returned (.bool r) ∧ Below w.heap.size w w' := by
  have HB := Aside0.mk (Below.refl w.heap.size w)
  have H : ((chamberlainlaw05_awake.f).bind fun t114 => (if t114 = true then (chamberlainlaw05_ClockFresh.j0 k a0 a1 a2 a3 (decide (a0 > 1073741824))) else (chamberlainlaw05_ClockFresh.j0 k a0 a1 a2 a3 true))) = some r := h
  clear h
  have HC5 := Aside0.mk H
  clear H
  go_enter Try.func4, Try.ntmps4
  go_upto_region 1 with (fail)
  go_cut [16] (fun v16 wc => ∃ (kq : Nat) (x16_4 : Bool), v16 = .bool x16_4 ∧ Aside0 (chamberlainlaw05_ClockFresh.j0 kq a0 a1 a2 a3 x16_4 = some r) ∧ Aside0 (kq ≤ k) ∧ Aside0 (Below w.heap.size w wc))
  case first =>
    have H := HC5.out
    clear HC5
    replace H := Option.bind_eq_some_iff.mp H
    obtain ⟨t114, A60, H⟩ := H
    replace H : (if t114 = true then (chamberlainlaw05_ClockFresh.j0 k a0 a1 a2 a3 (decide (a0 > 1073741824))) else (chamberlainlaw05_ClockFresh.j0 k a0 a1 a2 a3 true)) = some r := H
    have A6 := Aside0.mk A60
    clear A60
    by_cases c7 : t114 = true
    · subst c7
      have H1 : (chamberlainlaw05_ClockFresh.j0 k a0 a1 a2 a3 (decide (a0 > 1073741824))) = some r := by rw [if_pos rfl] at H; exact H
      clear H
      have H := H1
      clear H1
      have H' := Aside0.mk H
      clear H
      go_wp2_with (first | ((with_reducible refine gate_callee (f := 7) rfl ?_); refine goesL_ (some 11) rfl rfl Try.func7 (by kernel_rfl) rfl #[] rfl (by (try simp only [List.map_toArray, List.map_cons, List.map_nil]); first | done | rfl | (simp only [List.length_drop, List.length_take]; rfl)) ?_; (with_reducible refine (chamberlainlaw05_awake.calls  true _ A6.out).mono ?_); rintro e w8 ⟨rfl, hb⟩; refine ⟨_, rfl, ?_⟩; have n0_ := Aside0.mk (below_step (by repeat (first | (with_reducible first | exact HB.out | apply below_alloc | apply pw_below_drewN | apply below_drew1) | exact HB.out)) hb); clear HB; have HB := n0_; clear n0_; (try clear hb); (try clear hb2); (try clear hk); (try clear hi)))
      go_meet
      case rel => exact ⟨_, (decide (a0 > 1073741824)), (by first | rfl | (simp; done) | (simp [*]; done)), H', ⟨by first | omega | exact Nat.le_refl _⟩, ⟨by repeat (first | (with_reducible first | exact HB.out | apply below_alloc | apply pw_below_drewN | apply below_drew1) | exact HB.out)⟩⟩
    · replace c7 := Bool.eq_false_iff.mpr c7
      subst c7
      have H1 : (chamberlainlaw05_ClockFresh.j0 k a0 a1 a2 a3 true) = some r := by rw [if_neg (show ¬ (false = true) by decide)] at H; exact H
      clear H
      have H := H1
      clear H1
      have H' := Aside0.mk H
      clear H
      go_wp2_with (first | ((with_reducible refine gate_callee (f := 7) rfl ?_); refine goesL_ (some 11) rfl rfl Try.func7 (by kernel_rfl) rfl #[] rfl (by (try simp only [List.map_toArray, List.map_cons, List.map_nil]); first | done | rfl | (simp only [List.length_drop, List.length_take]; rfl)) ?_; (with_reducible refine (chamberlainlaw05_awake.calls  false _ A6.out).mono ?_); rintro e w9 ⟨rfl, hb⟩; refine ⟨_, rfl, ?_⟩; have n0_ := Aside0.mk (below_step (by repeat (first | (with_reducible first | exact HB.out | apply below_alloc | apply pw_below_drewN | apply below_drew1) | exact HB.out)) hb); clear HB; have HB := n0_; clear n0_; (try clear hb); (try clear hb2); (try clear hk); (try clear hi)))
      go_meet
      case rel => exact ⟨_, (true), (by first | rfl | (simp; done) | (simp [*]; done)), H', ⟨by first | omega | exact Nat.le_refl _⟩, ⟨by repeat (first | (with_reducible first | exact HB.out | apply below_alloc | apply pw_below_drewN | apply below_drew1) | exact HB.out)⟩⟩
  case rest =>
    clear HC5
    try clear p2
    try clear c4
    try clear c7
    obtain ⟨kq, x16_4, rfl, HA, HJ4, HB⟩ := hcut
    cases kq with
    | zero => exact absurd HA.out (by simp [chamberlainlaw05_ClockFresh.j0])
    | succ kj4 =>
      have H := HA.out
      clear HA
      simp only [chamberlainlaw05_ClockFresh.j0] at H
      by_cases c10 : x16_4 = true
      · subst c10
        have H1 : ((chamberlainlaw05_awake.f).bind fun t115 => (some t115)) = some r := by rw [if_pos rfl] at H; exact H
        clear H
        have H := H1
        clear H1
        replace H := Option.bind_eq_some_iff.mp H
        obtain ⟨t115, A110, H⟩ := H
        replace H : (some t115) = some r := H
        have A11 := Aside0.mk A110
        clear A110
        obtain rfl := Option.some.inj H
        go_wp2_with (first | ((with_reducible refine gate_callee (f := 7) rfl ?_); refine goesL_ (some 17) rfl rfl Try.func7 (by kernel_rfl) rfl #[] rfl (by (try simp only [List.map_toArray, List.map_cons, List.map_nil]); first | done | rfl | (simp only [List.length_drop, List.length_take]; rfl)) ?_; (with_reducible refine (chamberlainlaw05_awake.calls  t115 _ A11.out).mono ?_); rintro e w12 ⟨rfl, hb⟩; refine ⟨_, rfl, ?_⟩; have n0_ := Aside0.mk (below_step (by repeat (first | (with_reducible first | exact HB.out | apply below_alloc | apply pw_below_drewN | apply below_drew1) | exact HB.out)) hb); clear HB; have HB := n0_; clear n0_; (try clear hb); (try clear hb2); (try clear hk); (try clear hi)))
        go_ret
        exact ⟨by first | rfl | (simp [errW_none, errW_some] <;> rfl) | (simp [*, errW_none, errW_some] <;> rfl), by repeat (first | (with_reducible first | exact HB.out | apply below_alloc | apply pw_below_drewN | apply below_drew1) | exact HB.out)⟩
      · replace c10 := Bool.eq_false_iff.mpr c10
        subst c10
        have H1 : ((clock_Tick.f a0 a3).bind fun t116 => (if t116 < a0 then (chamberlainlaw05_ClockFresh.j1 kj4 a0 a1 a2 true) else (if t116 > 1073741824 then (chamberlainlaw05_ClockFresh.j1 kj4 a0 a1 a2 true) else ((clock_Over.f a0 a1 a2).bind fun t117 => (if t117 = true then ((clock_Fresh.f a0 a1 a2).bind fun t118 => (if t118 = true then (chamberlainlaw05_ClockFresh.j1 kj4 a0 a1 a2 true) else ((clock_Over.f t116 a1 a2).bind fun t119 => (chamberlainlaw05_ClockFresh.j1 kj4 a0 a1 a2 (!t119))))) else (chamberlainlaw05_ClockFresh.j1 kj4 a0 a1 a2 false)))))) = some r := by rw [if_neg (show ¬ (false = true) by decide)] at H; exact H
        clear H
        have H := H1
        clear H1
        replace H := Option.bind_eq_some_iff.mp H
        obtain ⟨t116, A130, H⟩ := H
        replace H : (if t116 < a0 then (chamberlainlaw05_ClockFresh.j1 kj4 a0 a1 a2 true) else (if t116 > 1073741824 then (chamberlainlaw05_ClockFresh.j1 kj4 a0 a1 a2 true) else ((clock_Over.f a0 a1 a2).bind fun t117 => (if t117 = true then ((clock_Fresh.f a0 a1 a2).bind fun t118 => (if t118 = true then (chamberlainlaw05_ClockFresh.j1 kj4 a0 a1 a2 true) else ((clock_Over.f t116 a1 a2).bind fun t119 => (chamberlainlaw05_ClockFresh.j1 kj4 a0 a1 a2 (!t119))))) else (chamberlainlaw05_ClockFresh.j1 kj4 a0 a1 a2 false))))) = some r := H
        have A13 := Aside0.mk A130
        clear A130
        have HC14 := Aside0.mk H
        clear H
        go_upto_region 4 with (first | ((with_reducible refine gate_callee (f := 8) rfl ?_); refine goesL_ (some 20) rfl rfl Try.func8 (by kernel_rfl) rfl #[.int .u32 a0, .int .u32 a3] rfl (by (try simp only [List.map_toArray, List.map_cons, List.map_nil]); first | done | rfl | (simp only [List.length_drop, List.length_take]; rfl)) ?_; (with_reducible refine (clock_Tick.calls a0 a3 t116 _ A13.out).mono ?_); rintro e w15 ⟨rfl, hb⟩; refine ⟨_, rfl, ?_⟩; have n0_ := Aside0.mk (below_step (by repeat (first | (with_reducible first | exact HB.out | apply below_alloc | apply pw_below_drewN | apply below_drew1) | exact HB.out)) hb); clear HB; have HB := n0_; clear n0_; (try clear hb); (try clear hb2); (try clear hk); (try clear hi)))
        (try simp only [Act.put, List.setIfInBounds_toArray, List.set_cons_zero, List.set_cons_succ])
        go_cut [46] (fun v46 wc => ∃ (kq : Nat) (x46_13 : Bool), v46 = .bool x46_13 ∧ Aside0 (chamberlainlaw05_ClockFresh.j1 kq a0 a1 a2 x46_13 = some r) ∧ Aside0 (kq ≤ kj4) ∧ Aside0 (Below w.heap.size w wc))
        case first =>
          have H := HC14.out
          clear HC14
          by_cases c16 : t116 < a0
          · rw [if_pos c16] at H
            have c16b0 : decide (t116 < a0) = true := decide_eq_true c16
            clear c16
            (first | rw [c16b0] | (simp only [i64_w, i32_w]; rw [c16b0]) | skip)
            have H' := Aside0.mk H
            clear H
            go_wp2
            go_meet
            case rel => exact ⟨_, (true), (by first | rfl | (simp; done) | (simp [*]; done)), H', ⟨by have := HJ4.out; first | omega | exact Nat.le_refl _⟩, ⟨by repeat (first | (with_reducible first | exact HB.out | apply below_alloc | apply pw_below_drewN | apply below_drew1) | exact HB.out)⟩⟩
          · rw [if_neg c16] at H
            have c16b0 : decide (t116 < a0) = false := decide_eq_false c16
            clear c16
            (first | rw [c16b0] | (simp only [i64_w, i32_w]; rw [c16b0]) | skip)
            by_cases c17 : t116 > 1073741824
            · rw [if_pos c17] at H
              have c17b0 : decide (1073741824 < t116) = true := decide_eq_true c17
              clear c17
              have H' := Aside0.mk H
              clear H
              go_wp2
              go_meet
              case rel => exact ⟨_, (true), (by first | rfl | (simp; done) | (simp [*]; done)), H', ⟨by have := HJ4.out; first | omega | exact Nat.le_refl _⟩, ⟨by repeat (first | (with_reducible first | exact HB.out | apply below_alloc | apply pw_below_drewN | apply below_drew1) | exact HB.out)⟩⟩
            · rw [if_neg c17] at H
              have c17b0 : decide (1073741824 < t116) = false := decide_eq_false c17
              clear c17
              replace H := Option.bind_eq_some_iff.mp H
              obtain ⟨t117, A180, H⟩ := H
              replace H : (if t117 = true then ((clock_Fresh.f a0 a1 a2).bind fun t118 => (if t118 = true then (chamberlainlaw05_ClockFresh.j1 kj4 a0 a1 a2 true) else ((clock_Over.f t116 a1 a2).bind fun t119 => (chamberlainlaw05_ClockFresh.j1 kj4 a0 a1 a2 (!t119))))) else (chamberlainlaw05_ClockFresh.j1 kj4 a0 a1 a2 false)) = some r := H
              have A18 := Aside0.mk A180
              clear A180
              by_cases c19 : t117 = true
              · subst c19
                have H1 : ((clock_Fresh.f a0 a1 a2).bind fun t118 => (if t118 = true then (chamberlainlaw05_ClockFresh.j1 kj4 a0 a1 a2 true) else ((clock_Over.f t116 a1 a2).bind fun t119 => (chamberlainlaw05_ClockFresh.j1 kj4 a0 a1 a2 (!t119))))) = some r := by rw [if_pos rfl] at H; exact H
                clear H
                have H := H1
                clear H1
                replace H := Option.bind_eq_some_iff.mp H
                obtain ⟨t118, A200, H⟩ := H
                replace H : (if t118 = true then (chamberlainlaw05_ClockFresh.j1 kj4 a0 a1 a2 true) else ((clock_Over.f t116 a1 a2).bind fun t119 => (chamberlainlaw05_ClockFresh.j1 kj4 a0 a1 a2 (!t119)))) = some r := H
                have A20 := Aside0.mk A200
                clear A200
                by_cases c21 : t118 = true
                · subst c21
                  have H1 : (chamberlainlaw05_ClockFresh.j1 kj4 a0 a1 a2 true) = some r := by rw [if_pos rfl] at H; exact H
                  clear H
                  have H := H1
                  clear H1
                  have H' := Aside0.mk H
                  clear H
                  go_wp2_with (first | (go_at_call 12; (with_reducible refine (clock_Over.calls a0 a1 a2 true _ A18.out).mono ?_); rintro e w' ⟨rfl, ⟨nd, rfl⟩⟩) | (go_at_call 10; (with_reducible refine (clock_Fresh.calls a0 a1 a2 true _ A20.out).mono ?_); rintro e w' ⟨rfl, ⟨nd, rfl⟩⟩))
                  go_meet
                  case rel => exact ⟨_, (true), (by first | rfl | (simp; done) | (simp [*]; done)), H', ⟨by have := HJ4.out; first | omega | exact Nat.le_refl _⟩, ⟨by repeat (first | (with_reducible first | exact HB.out | apply below_alloc | apply pw_below_drewN | apply below_drew1) | exact HB.out)⟩⟩
                · replace c21 := Bool.eq_false_iff.mpr c21
                  subst c21
                  have H1 : ((clock_Over.f t116 a1 a2).bind fun t119 => (chamberlainlaw05_ClockFresh.j1 kj4 a0 a1 a2 (!t119))) = some r := by rw [if_neg (show ¬ (false = true) by decide)] at H; exact H
                  clear H
                  have H := H1
                  clear H1
                  replace H := Option.bind_eq_some_iff.mp H
                  obtain ⟨t119, A220, H⟩ := H
                  replace H : (chamberlainlaw05_ClockFresh.j1 kj4 a0 a1 a2 (!t119)) = some r := H
                  have A22 := Aside0.mk A220
                  clear A220
                  have H' := Aside0.mk H
                  clear H
                  go_wp2_with (first | (go_at_call 12; (with_reducible refine (clock_Over.calls a0 a1 a2 true _ A18.out).mono ?_); rintro e w' ⟨rfl, ⟨nd, rfl⟩⟩) | (go_at_call 10; (with_reducible refine (clock_Fresh.calls a0 a1 a2 false _ A20.out).mono ?_); rintro e w' ⟨rfl, ⟨nd, rfl⟩⟩) | (go_at_call 12; (with_reducible refine (clock_Over.calls t116 a1 a2 t119 _ A22.out).mono ?_); rintro e w' ⟨rfl, ⟨nd, rfl⟩⟩))
                  go_meet
                  case rel => exact ⟨_, (!t119), (by first | rfl | (simp; done) | (simp [*]; done)), H', ⟨by have := HJ4.out; first | omega | exact Nat.le_refl _⟩, ⟨by repeat (first | (with_reducible first | exact HB.out | apply below_alloc | apply pw_below_drewN | apply below_drew1) | exact HB.out)⟩⟩
              · replace c19 := Bool.eq_false_iff.mpr c19
                subst c19
                have H1 : (chamberlainlaw05_ClockFresh.j1 kj4 a0 a1 a2 false) = some r := by rw [if_neg (show ¬ (false = true) by decide)] at H; exact H
                clear H
                have H := H1
                clear H1
                have H' := Aside0.mk H
                clear H
                go_wp2_with (first | (go_at_call 12; (with_reducible refine (clock_Over.calls a0 a1 a2 false _ A18.out).mono ?_); rintro e w' ⟨rfl, ⟨nd, rfl⟩⟩))
                go_meet
                case rel => exact ⟨_, (false), (by first | rfl | (simp; done) | (simp [*]; done)), H', ⟨by have := HJ4.out; first | omega | exact Nat.le_refl _⟩, ⟨by repeat (first | (with_reducible first | exact HB.out | apply below_alloc | apply pw_below_drewN | apply below_drew1) | exact HB.out)⟩⟩
        case rest =>
          clear HC14
          try clear c1
          try clear c2
          try clear p2
          try clear c4
          try clear c7
          try clear c8
          try clear c10
          try clear c16
          try clear c16b0
          try clear c17
          try clear c17b0
          try clear c19
          try clear c21
          try clear p2
          obtain ⟨kq, x46_13, rfl, HA, HJ13, HB⟩ := hcut
          cases kq with
          | zero => exact absurd HA.out (by simp [chamberlainlaw05_ClockFresh.j1])
          | succ kj13 =>
            have H := HA.out
            clear HA
            simp only [chamberlainlaw05_ClockFresh.j1] at H
            by_cases c23 : x46_13 = true
            · subst c23
              have H1 : (some false) = some r := by rw [if_pos rfl] at H; exact H
              clear H
              have H := H1
              clear H1
              obtain rfl := Option.some.inj H
              go_wp2
              go_ret
              exact ⟨by first | rfl | (simp [errW_none, errW_some] <;> rfl) | (simp [*, errW_none, errW_some] <;> rfl), by repeat (first | (with_reducible first | exact HB.out | apply below_alloc | apply pw_below_drewN | apply below_drew1) | exact HB.out)⟩
            · replace c23 := Bool.eq_false_iff.mpr c23
              subst c23
              have H1 : (if a2 < 536870912 then (chamberlainlaw05_ClockFresh.j2 kj13 a0 a1 a2 ((a2 + 1) % 4294967296)) else (chamberlainlaw05_ClockFresh.j2 kj13 a0 a1 a2 1073741824)) = some r := by rw [if_neg (show ¬ (false = true) by decide)] at H; exact H
              clear H
              have H := H1
              clear H1
              have HC24 := Aside0.mk H
              clear H
              go_upto_if 48 with (fail)
              go_cut [10] (fun v10 wc => ∃ (kq : Nat) (x10_23 : Int), v10 = .int .u32 x10_23 ∧ Aside0 (chamberlainlaw05_ClockFresh.j2 kq a0 a1 a2 x10_23 = some r) ∧ Aside0 (kq ≤ kj13) ∧ Aside0 (Below w.heap.size w wc))
              case first =>
                have H := HC24.out
                clear HC24
                by_cases c25 : a2 < 536870912
                · rw [if_pos c25] at H
                  have c25b0 : decide (a2 < 536870912) = true := decide_eq_true c25
                  clear c25
                  (first | rw [c25b0] | (simp only [i64_w, i32_w]; rw [c25b0]) | skip)
                  have H' := Aside0.mk H
                  clear H
                  go_wp2
                  go_meet
                  case rel => exact ⟨_, ((a2 + 1) % 4294967296), (by first | rfl | (simp; done) | (simp [*]; done)), H', ⟨by have := HJ4.out; have := HJ13.out; first | omega | exact Nat.le_refl _⟩, ⟨by repeat (first | (with_reducible first | exact HB.out | apply below_alloc | apply pw_below_drewN | apply below_drew1) | exact HB.out)⟩⟩
                · rw [if_neg c25] at H
                  have c25b0 : decide (a2 < 536870912) = false := decide_eq_false c25
                  clear c25
                  (first | rw [c25b0] | (simp only [i64_w, i32_w]; rw [c25b0]) | skip)
                  have H' := Aside0.mk H
                  clear H
                  go_wp2
                  go_meet
                  case rel => exact ⟨_, (1073741824), (by first | rfl | (simp; done) | (simp [*]; done)), H', ⟨by have := HJ4.out; have := HJ13.out; first | omega | exact Nat.le_refl _⟩, ⟨by repeat (first | (with_reducible first | exact HB.out | apply below_alloc | apply pw_below_drewN | apply below_drew1) | exact HB.out)⟩⟩
              case rest =>
                clear HC24
                try clear c1
                try clear c2
                try clear p2
                try clear c4
                try clear c7
                try clear c8
                try clear c10
                try clear c16
                try clear c16b0
                try clear c17
                try clear c17b0
                try clear c19
                try clear c21
                try clear c23
                try clear c25
                try clear c25b0
                try clear p2
                obtain ⟨kq, x10_23, rfl, HA, HJ23, HB⟩ := hcut
                cases kq with
                | zero => exact absurd HA.out (by simp [chamberlainlaw05_ClockFresh.j2])
                | succ kj23 =>
                  have H := HA.out
                  clear HA
                  simp only [chamberlainlaw05_ClockFresh.j2] at H
                  replace H := Option.bind_eq_some_iff.mp H
                  obtain ⟨t120, A260, H⟩ := H
                  replace H : (if t120 = true then ((clock_Fresh.f a1 a0 a2).bind fun t121 => (if t121 = true then (if a2 ≥ 1073741824 then ((clock_Fresh.f a0 a1 0).bind fun t122 => (if a0 = a1 then (some (t122 == (decide (a0 < 1073741824)))) else (some (t122 == false)))) else ((clock_Fresh.f a0 a1 x10_23).bind fun t123 => (if t123 = true then ((clock_Fresh.f a0 a1 0).bind fun t124 => (if a0 = a1 then (some (t124 == (decide (a0 < 1073741824)))) else (some (t124 == false)))) else (some false)))) else (some false))) else ((clock_Fresh.f a0 a1 0).bind fun t125 => (if a0 = a1 then (some (t125 == (decide (a0 < 1073741824)))) else (some (t125 == false))))) = some r := H
                  have A26 := Aside0.mk A260
                  clear A260
                  by_cases c27 : t120 = true
                  · subst c27
                    have H1 : ((clock_Fresh.f a1 a0 a2).bind fun t121 => (if t121 = true then (if a2 ≥ 1073741824 then ((clock_Fresh.f a0 a1 0).bind fun t122 => (if a0 = a1 then (some (t122 == (decide (a0 < 1073741824)))) else (some (t122 == false)))) else ((clock_Fresh.f a0 a1 x10_23).bind fun t123 => (if t123 = true then ((clock_Fresh.f a0 a1 0).bind fun t124 => (if a0 = a1 then (some (t124 == (decide (a0 < 1073741824)))) else (some (t124 == false)))) else (some false)))) else (some false))) = some r := by rw [if_pos rfl] at H; exact H
                    clear H
                    have H := H1
                    clear H1
                    replace H := Option.bind_eq_some_iff.mp H
                    obtain ⟨t121, A280, H⟩ := H
                    replace H : (if t121 = true then (if a2 ≥ 1073741824 then ((clock_Fresh.f a0 a1 0).bind fun t122 => (if a0 = a1 then (some (t122 == (decide (a0 < 1073741824)))) else (some (t122 == false)))) else ((clock_Fresh.f a0 a1 x10_23).bind fun t123 => (if t123 = true then ((clock_Fresh.f a0 a1 0).bind fun t124 => (if a0 = a1 then (some (t124 == (decide (a0 < 1073741824)))) else (some (t124 == false)))) else (some false)))) else (some false)) = some r := H
                    have A28 := Aside0.mk A280
                    clear A280
                    by_cases c29 : t121 = true
                    · subst c29
                      have H1 : (if a2 ≥ 1073741824 then ((clock_Fresh.f a0 a1 0).bind fun t122 => (if a0 = a1 then (some (t122 == (decide (a0 < 1073741824)))) else (some (t122 == false)))) else ((clock_Fresh.f a0 a1 x10_23).bind fun t123 => (if t123 = true then ((clock_Fresh.f a0 a1 0).bind fun t124 => (if a0 = a1 then (some (t124 == (decide (a0 < 1073741824)))) else (some (t124 == false)))) else (some false)))) = some r := by rw [if_pos rfl] at H; exact H
                      clear H
                      have H := H1
                      clear H1
                      by_cases c30 : a2 ≥ 1073741824
                      · rw [if_pos c30] at H
                        have c30b0 : decide (1073741824 ≤ a2) = true := decide_eq_true c30
                        clear c30
                        replace H := Option.bind_eq_some_iff.mp H
                        obtain ⟨t122, A310, H⟩ := H
                        replace H : (if a0 = a1 then (some (t122 == (decide (a0 < 1073741824)))) else (some (t122 == false))) = some r := H
                        have A31 := Aside0.mk A310
                        clear A310
                        by_cases c32 : a0 = a1
                        · rw [if_pos c32] at H
                          have c32b0 : (a0 == a1) = true := beq_iff_eq.mpr c32
                          have c32b1 : (a0 != a1) = false := bne_eq_false_iff_eq.mpr c32
                          clear c32
                          obtain rfl := Option.some.inj H
                          go_wp2_with (first | ((with_reducible refine gate_callee (f := 10) rfl ?_); refine goesL_ (some 54) rfl rfl Try.func10 (by kernel_rfl) rfl #[.int .u32 a0, .int .u32 a1, .int .u32 a2] rfl (by (try simp only [List.map_toArray, List.map_cons, List.map_nil]); first | done | rfl | (simp only [List.length_drop, List.length_take]; rfl)) ?_; (with_reducible refine (clock_Fresh.calls a0 a1 a2 true _ A26.out).mono ?_); rintro e w' ⟨rfl, ⟨nd, rfl⟩⟩; refine ⟨_, rfl, ?_⟩) | (go_at_call 10; (with_reducible refine (clock_Fresh.calls a1 a0 a2 true _ A28.out).mono ?_); rintro e w' ⟨rfl, ⟨nd, rfl⟩⟩) | (go_at_call 10; (with_reducible refine (clock_Fresh.calls a0 a1 0 t122 _ A31.out).mono ?_); rintro e w' ⟨rfl, ⟨nd, rfl⟩⟩))
                          go_ret
                          exact ⟨by first | rfl | (simp [errW_none, errW_some] <;> rfl) | (simp [*, errW_none, errW_some] <;> rfl), by repeat (first | (with_reducible first | exact HB.out | apply below_alloc | apply pw_below_drewN | apply below_drew1) | exact HB.out)⟩
                        · rw [if_neg c32] at H
                          have c32b0 : (a0 == a1) = false := beq_eq_false_iff_ne.mpr c32
                          have c32b1 : (a0 != a1) = true := bne_iff_ne.mpr c32
                          obtain rfl := Option.some.inj H
                          go_wp2_with (first | ((with_reducible refine gate_callee (f := 10) rfl ?_); refine goesL_ (some 54) rfl rfl Try.func10 (by kernel_rfl) rfl #[.int .u32 a0, .int .u32 a1, .int .u32 a2] rfl (by (try simp only [List.map_toArray, List.map_cons, List.map_nil]); first | done | rfl | (simp only [List.length_drop, List.length_take]; rfl)) ?_; (with_reducible refine (clock_Fresh.calls a0 a1 a2 true _ A26.out).mono ?_); rintro e w' ⟨rfl, ⟨nd, rfl⟩⟩; refine ⟨_, rfl, ?_⟩) | (go_at_call 10; (with_reducible refine (clock_Fresh.calls a1 a0 a2 true _ A28.out).mono ?_); rintro e w' ⟨rfl, ⟨nd, rfl⟩⟩) | (go_at_call 10; (with_reducible refine (clock_Fresh.calls a0 a1 0 t122 _ A31.out).mono ?_); rintro e w' ⟨rfl, ⟨nd, rfl⟩⟩))
                          go_ret
                          exact ⟨by first | rfl | (simp [errW_none, errW_some] <;> rfl) | (simp [*, errW_none, errW_some] <;> rfl), by repeat (first | (with_reducible first | exact HB.out | apply below_alloc | apply pw_below_drewN | apply below_drew1) | exact HB.out)⟩
                      · rw [if_neg c30] at H
                        have c30b0 : decide (1073741824 ≤ a2) = false := decide_eq_false c30
                        clear c30
                        replace H := Option.bind_eq_some_iff.mp H
                        obtain ⟨t123, A330, H⟩ := H
                        replace H : (if t123 = true then ((clock_Fresh.f a0 a1 0).bind fun t124 => (if a0 = a1 then (some (t124 == (decide (a0 < 1073741824)))) else (some (t124 == false)))) else (some false)) = some r := H
                        have A33 := Aside0.mk A330
                        clear A330
                        by_cases c34 : t123 = true
                        · subst c34
                          have H1 : ((clock_Fresh.f a0 a1 0).bind fun t124 => (if a0 = a1 then (some (t124 == (decide (a0 < 1073741824)))) else (some (t124 == false)))) = some r := by rw [if_pos rfl] at H; exact H
                          clear H
                          have H := H1
                          clear H1
                          replace H := Option.bind_eq_some_iff.mp H
                          obtain ⟨t124, A350, H⟩ := H
                          replace H : (if a0 = a1 then (some (t124 == (decide (a0 < 1073741824)))) else (some (t124 == false))) = some r := H
                          have A35 := Aside0.mk A350
                          clear A350
                          by_cases c36 : a0 = a1
                          · rw [if_pos c36] at H
                            have c36b0 : (a0 == a1) = true := beq_iff_eq.mpr c36
                            have c36b1 : (a0 != a1) = false := bne_eq_false_iff_eq.mpr c36
                            clear c36
                            obtain rfl := Option.some.inj H
                            go_wp2_with (first | ((with_reducible refine gate_callee (f := 10) rfl ?_); refine goesL_ (some 54) rfl rfl Try.func10 (by kernel_rfl) rfl #[.int .u32 a0, .int .u32 a1, .int .u32 a2] rfl (by (try simp only [List.map_toArray, List.map_cons, List.map_nil]); first | done | rfl | (simp only [List.length_drop, List.length_take]; rfl)) ?_; (with_reducible refine (clock_Fresh.calls a0 a1 a2 true _ A26.out).mono ?_); rintro e w' ⟨rfl, ⟨nd, rfl⟩⟩; refine ⟨_, rfl, ?_⟩) | (go_at_call 10; (with_reducible refine (clock_Fresh.calls a1 a0 a2 true _ A28.out).mono ?_); rintro e w' ⟨rfl, ⟨nd, rfl⟩⟩) | (go_at_call 10; (with_reducible refine (clock_Fresh.calls a0 a1 x10_23 true _ A33.out).mono ?_); rintro e w' ⟨rfl, ⟨nd, rfl⟩⟩) | (go_at_call 10; (with_reducible refine (clock_Fresh.calls a0 a1 0 t124 _ A35.out).mono ?_); rintro e w' ⟨rfl, ⟨nd, rfl⟩⟩))
                            go_ret
                            exact ⟨by first | rfl | (simp [errW_none, errW_some] <;> rfl) | (simp [*, errW_none, errW_some] <;> rfl), by repeat (first | (with_reducible first | exact HB.out | apply below_alloc | apply pw_below_drewN | apply below_drew1) | exact HB.out)⟩
                          · rw [if_neg c36] at H
                            have c36b0 : (a0 == a1) = false := beq_eq_false_iff_ne.mpr c36
                            have c36b1 : (a0 != a1) = true := bne_iff_ne.mpr c36
                            obtain rfl := Option.some.inj H
                            go_wp2_with (first | ((with_reducible refine gate_callee (f := 10) rfl ?_); refine goesL_ (some 54) rfl rfl Try.func10 (by kernel_rfl) rfl #[.int .u32 a0, .int .u32 a1, .int .u32 a2] rfl (by (try simp only [List.map_toArray, List.map_cons, List.map_nil]); first | done | rfl | (simp only [List.length_drop, List.length_take]; rfl)) ?_; (with_reducible refine (clock_Fresh.calls a0 a1 a2 true _ A26.out).mono ?_); rintro e w' ⟨rfl, ⟨nd, rfl⟩⟩; refine ⟨_, rfl, ?_⟩) | (go_at_call 10; (with_reducible refine (clock_Fresh.calls a1 a0 a2 true _ A28.out).mono ?_); rintro e w' ⟨rfl, ⟨nd, rfl⟩⟩) | (go_at_call 10; (with_reducible refine (clock_Fresh.calls a0 a1 x10_23 true _ A33.out).mono ?_); rintro e w' ⟨rfl, ⟨nd, rfl⟩⟩) | (go_at_call 10; (with_reducible refine (clock_Fresh.calls a0 a1 0 t124 _ A35.out).mono ?_); rintro e w' ⟨rfl, ⟨nd, rfl⟩⟩))
                            go_ret
                            exact ⟨by first | rfl | (simp [errW_none, errW_some] <;> rfl) | (simp [*, errW_none, errW_some] <;> rfl), by repeat (first | (with_reducible first | exact HB.out | apply below_alloc | apply pw_below_drewN | apply below_drew1) | exact HB.out)⟩
                        · replace c34 := Bool.eq_false_iff.mpr c34
                          subst c34
                          have H1 : (some false) = some r := by rw [if_neg (show ¬ (false = true) by decide)] at H; exact H
                          clear H
                          have H := H1
                          clear H1
                          obtain rfl := Option.some.inj H
                          go_wp2_with (first | ((with_reducible refine gate_callee (f := 10) rfl ?_); refine goesL_ (some 54) rfl rfl Try.func10 (by kernel_rfl) rfl #[.int .u32 a0, .int .u32 a1, .int .u32 a2] rfl (by (try simp only [List.map_toArray, List.map_cons, List.map_nil]); first | done | rfl | (simp only [List.length_drop, List.length_take]; rfl)) ?_; (with_reducible refine (clock_Fresh.calls a0 a1 a2 true _ A26.out).mono ?_); rintro e w' ⟨rfl, ⟨nd, rfl⟩⟩; refine ⟨_, rfl, ?_⟩) | (go_at_call 10; (with_reducible refine (clock_Fresh.calls a1 a0 a2 true _ A28.out).mono ?_); rintro e w' ⟨rfl, ⟨nd, rfl⟩⟩) | (go_at_call 10; (with_reducible refine (clock_Fresh.calls a0 a1 x10_23 false _ A33.out).mono ?_); rintro e w' ⟨rfl, ⟨nd, rfl⟩⟩))
                          go_ret
                          exact ⟨by first | rfl | (simp [errW_none, errW_some] <;> rfl) | (simp [*, errW_none, errW_some] <;> rfl), by repeat (first | (with_reducible first | exact HB.out | apply below_alloc | apply pw_below_drewN | apply below_drew1) | exact HB.out)⟩
                    · replace c29 := Bool.eq_false_iff.mpr c29
                      subst c29
                      have H1 : (some false) = some r := by rw [if_neg (show ¬ (false = true) by decide)] at H; exact H
                      clear H
                      have H := H1
                      clear H1
                      obtain rfl := Option.some.inj H
                      go_wp2_with (first | ((with_reducible refine gate_callee (f := 10) rfl ?_); refine goesL_ (some 54) rfl rfl Try.func10 (by kernel_rfl) rfl #[.int .u32 a0, .int .u32 a1, .int .u32 a2] rfl (by (try simp only [List.map_toArray, List.map_cons, List.map_nil]); first | done | rfl | (simp only [List.length_drop, List.length_take]; rfl)) ?_; (with_reducible refine (clock_Fresh.calls a0 a1 a2 true _ A26.out).mono ?_); rintro e w' ⟨rfl, ⟨nd, rfl⟩⟩; refine ⟨_, rfl, ?_⟩) | (go_at_call 10; (with_reducible refine (clock_Fresh.calls a1 a0 a2 false _ A28.out).mono ?_); rintro e w' ⟨rfl, ⟨nd, rfl⟩⟩))
                      go_ret
                      exact ⟨by first | rfl | (simp [errW_none, errW_some] <;> rfl) | (simp [*, errW_none, errW_some] <;> rfl), by repeat (first | (with_reducible first | exact HB.out | apply below_alloc | apply pw_below_drewN | apply below_drew1) | exact HB.out)⟩
                  · replace c27 := Bool.eq_false_iff.mpr c27
                    subst c27
                    have H1 : ((clock_Fresh.f a0 a1 0).bind fun t125 => (if a0 = a1 then (some (t125 == (decide (a0 < 1073741824)))) else (some (t125 == false)))) = some r := by rw [if_neg (show ¬ (false = true) by decide)] at H; exact H
                    clear H
                    have H := H1
                    clear H1
                    replace H := Option.bind_eq_some_iff.mp H
                    obtain ⟨t125, A370, H⟩ := H
                    replace H : (if a0 = a1 then (some (t125 == (decide (a0 < 1073741824)))) else (some (t125 == false))) = some r := H
                    have A37 := Aside0.mk A370
                    clear A370
                    by_cases c38 : a0 = a1
                    · rw [if_pos c38] at H
                      have c38b0 : (a0 == a1) = true := beq_iff_eq.mpr c38
                      have c38b1 : (a0 != a1) = false := bne_eq_false_iff_eq.mpr c38
                      clear c38
                      obtain rfl := Option.some.inj H
                      go_wp2_with (first | ((with_reducible refine gate_callee (f := 10) rfl ?_); refine goesL_ (some 54) rfl rfl Try.func10 (by kernel_rfl) rfl #[.int .u32 a0, .int .u32 a1, .int .u32 a2] rfl (by (try simp only [List.map_toArray, List.map_cons, List.map_nil]); first | done | rfl | (simp only [List.length_drop, List.length_take]; rfl)) ?_; (with_reducible refine (clock_Fresh.calls a0 a1 a2 false _ A26.out).mono ?_); rintro e w' ⟨rfl, ⟨nd, rfl⟩⟩; refine ⟨_, rfl, ?_⟩) | (go_at_call 10; (with_reducible refine (clock_Fresh.calls a0 a1 0 t125 _ A37.out).mono ?_); rintro e w' ⟨rfl, ⟨nd, rfl⟩⟩))
                      go_ret
                      exact ⟨by first | rfl | (simp [errW_none, errW_some] <;> rfl) | (simp [*, errW_none, errW_some] <;> rfl), by repeat (first | (with_reducible first | exact HB.out | apply below_alloc | apply pw_below_drewN | apply below_drew1) | exact HB.out)⟩
                    · rw [if_neg c38] at H
                      have c38b0 : (a0 == a1) = false := beq_eq_false_iff_ne.mpr c38
                      have c38b1 : (a0 != a1) = true := bne_iff_ne.mpr c38
                      obtain rfl := Option.some.inj H
                      go_wp2_with (first | ((with_reducible refine gate_callee (f := 10) rfl ?_); refine goesL_ (some 54) rfl rfl Try.func10 (by kernel_rfl) rfl #[.int .u32 a0, .int .u32 a1, .int .u32 a2] rfl (by (try simp only [List.map_toArray, List.map_cons, List.map_nil]); first | done | rfl | (simp only [List.length_drop, List.length_take]; rfl)) ?_; (with_reducible refine (clock_Fresh.calls a0 a1 a2 false _ A26.out).mono ?_); rintro e w' ⟨rfl, ⟨nd, rfl⟩⟩; refine ⟨_, rfl, ?_⟩) | (go_at_call 10; (with_reducible refine (clock_Fresh.calls a0 a1 0 t125 _ A37.out).mono ?_); rintro e w' ⟨rfl, ⟨nd, rfl⟩⟩))
                      go_ret
                      exact ⟨by first | rfl | (simp [errW_none, errW_some] <;> rfl) | (simp [*, errW_none, errW_some] <;> rfl), by repeat (first | (with_reducible first | exact HB.out | apply below_alloc | apply pw_below_drewN | apply below_drew1) | exact HB.out)⟩

/-- THE ONE PURE STATEMENT of chamberlainlaw05_ClockFresh: yours. -/
def chamberlainlaw05_ClockFresh.Pure : Prop := ∀ (a0 : Int) (a1 : Int) (a2 : Int) (a3 : Int), (Lit.int .u32 a0).wf = true → (Lit.int .u32 a1).wf = true → (Lit.int .u32 a2).wf = true → (Lit.int .u32 a3).wf = true → ∃ k, chamberlainlaw05_ClockFresh.f k a0 a1 a2 a3 = some true
theorem chamberlainlaw05_ClockFresh.walk (P : chamberlainlaw05_ClockFresh.Pure) (a0 : Int) (a1 : Int) (a2 : Int) (a3 : Int) (w : World) (w0 : (Lit.int .u32 a0).wf = true) (w1 : (Lit.int .u32 a1).wf = true) (w2 : (Lit.int .u32 a2).wf = true) (w3 : (Lit.int .u32 a3).wf = true) :
    Calls Try.prog 4 #[.int .u32 a0, .int .u32 a1, .int .u32 a2, .int .u32 a3] w fun e w' => e = .returned (.bool true) ∧ Below w.heap.size w w' := by
  obtain ⟨k, h⟩ := P a0 a1 a2 a3 w0 w1 w2 w3
  refine (chamberlainlaw05_ClockFresh.calls k a0 a1 a2 a3 true w h).mono ?_
  rintro e w' ⟨rfl, hd⟩
  exact ⟨rfl, hd⟩

end Go.Proofs.Yteikgomepljhfaa.PClockFresh
