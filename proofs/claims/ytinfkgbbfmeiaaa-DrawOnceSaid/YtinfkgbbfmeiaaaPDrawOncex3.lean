-- Written for this claim by wip/tools/myprint.py (print.py's forms; proofs of the faked functions by hand).
import Derived.Test.YtinfkgbbfmeiaaaPDrawOncex0
namespace Go.Proofs.Ytinfkgbbfmeiaaa.PDrawOnce
open Go.RowKit Go.Proofs.YtinfkgbbfmeiaaaW.PrintWords Go.Proofs.YtinfkgbbfmeiaaaW.PrintLast Go.Proofs.YtinfkgbbfmeiaaaW.PrintMore
attribute [local go_sem] max2_int min2_int max_two min_two max_three min_three max_four min_four   -- for this text's walks alone
set_option linter.unusedVariables false
set_option linter.unusedSimpArgs false

/-! ### chamberlainref01_Has: function 21 -/
def chamberlainref01_Has.l0 : Nat → List Int → Int → Int → Option (Bool)
  | 0, _, _, _ => none
  | k + 1, x0, x1, x5 => if x5 < (x0.length : Int) then (if 0 ≤ x5 then (if (rd x0 x5) = x1 then (some true) else (chamberlainref01_Has.l0 k x0 x1 (wrap64 (x5 + 1)))) else (none)) else (some false)
def chamberlainref01_Has.f (k : Nat) (l0 : List Int) (a1 : Int) : Option (Bool) := chamberlainref01_Has.l0 k l0 a1 0
theorem chamberlainref01_Has.mono_l : ∀ k, (∀ y0 y1 y2, LeO (chamberlainref01_Has.l0 k y0 y1 y2) (chamberlainref01_Has.l0 (k + 1) y0 y1 y2))
  | 0 => fun _ _ _ r h => by simp [chamberlainref01_Has.l0] at h
  | k + 1 => by
    have ih0 := chamberlainref01_Has.mono_l k
    · intro y0 y1 y2
      unfold chamberlainref01_Has.l0
      repeat' first
      | (with_reducible exact ih0 _ _ _)
      | (with_reducible exact LeO.refl _)
      | (with_reducible exact LeO.none _)
      | (with_reducible refine LeO.ite ?_ ?_)
      | (with_reducible refine LeO.bind ?_ (fun _ => ?_))
      | exact ih0 _ _ _
      | exact LeO.none _
      | refine LeO.ite ?_ ?_
      | refine LeO.bind ?_ (fun _ => ?_)
theorem chamberlainref01_Has.mono : ∀ a0 a1 k, LeO (chamberlainref01_Has.f k a0 a1) (chamberlainref01_Has.f (k + 1) a0 a1) := by
  intro a0 a1 k
  have ih0 := chamberlainref01_Has.mono_l k
  unfold chamberlainref01_Has.f
  repeat' first
      | (with_reducible exact ih0 _ _ _)
      | (with_reducible exact LeO.refl _)
      | (with_reducible exact LeO.none _)
      | (with_reducible refine LeO.ite ?_ ?_)
      | (with_reducible refine LeO.bind ?_ (fun _ => ?_))
      | exact ih0 _ _ _
      | exact LeO.none _
      | refine LeO.ite ?_ ?_
      | refine LeO.bind ?_ (fun _ => ?_)
set_option maxHeartbeats 8000000 in
set_option maxRecDepth 100000 in
theorem chamberlainref01_Has.calls (k : Nat) (A0 : Option Addr) (c0 : Nat) (l0 : List Int) (a1 : Int) (r : Bool) (w : World) (hr0 : Kd.C (Kd.int .u32) w A0 l0.length l0) (hc0 : l0.length ≤ c0) (h : chamberlainref01_Has.f k l0 a1 = some r) :
    Calls Try.prog 21 #[.slice A0 l0.length c0, .int .u32 a1] w fun e w' => e = .returned (.bool r) ∧ Drawn0 w w' := by
  have HR0 := Aside0.mk hr0
  have HC0 := Aside0.mk hc0
  clear hr0 hc0
  have H : (chamberlainref01_Has.l0 k l0 a1 0) = some r := h
  clear h
  have H' := Aside0.mk H
  clear H
  go_enter Try.func21, Try.ntmps21
  go_wp2
  go_loopg [5] k (fun kq v5 w' => ∃ (x5_1 : Int), v5 = .int .i64 x5_1 ∧ Aside0 (chamberlainref01_Has.l0 kq l0 a1 x5_1 = some r) ∧ Aside0 (kq ≤ k) ∧ Drawn0 w w')
  case atStart => exact ⟨(0), (by first | rfl | (simp; done) | (simp [*]; done)), H', ⟨Nat.le_refl _⟩, by repeat (first | exact Drawn0.refl _ | apply Drawn0.step)⟩
  case round =>
    clear H'
    try clear c2
    try clear p2
    obtain ⟨x5_1, rfl, HA, HK1, ⟨m1, rfl⟩⟩ := hrel
    cases gk with
    | zero => exact absurd HA.out (by simp [chamberlainref01_Has.l0])
    | succ k1 =>
      have H := HA.out
      clear HA
      simp only [chamberlainref01_Has.l0] at H
      by_cases c3 : x5_1 < (l0.length : Int)
      · rw [if_pos c3] at H
        have c3b0 : decide (x5_1 < (l0.length : Int)) = true := decide_eq_true c3
        clear c3
        by_cases c4 : 0 ≤ x5_1
        · rw [if_pos c4] at H
          have c4b0 : decide (0 ≤ x5_1) = true := decide_eq_true c4
          clear c4
          by_cases c5 : (rd l0 x5_1) = a1
          · rw [if_pos c5] at H
            have c5b0 : ((rd l0 x5_1) == a1) = true := beq_iff_eq.mpr c5
            have c5b1 : ((rd l0 x5_1) != a1) = false := bne_eq_false_iff_eq.mpr c5
            clear c5
            obtain rfl := Option.some.inj H
            have p166 : 0 ≤ (x5_1 : Int) := of_decide_eq_true (by first | (with_reducible assumption) | assumption)
            have q166 : x5_1 < (l0.length : Int) := of_decide_eq_true (by first | (with_reducible assumption) | assumption)
            obtain ⟨ad166, e166, hx166_0⟩ := Kd.at_int HR0.out x5_1 p166 q166
            cases e166
            replace p166 := eq_true p166
            replace q166 := eq_true q166
            go_wp2
            go_ret
            exact ⟨by first | rfl | (simp; done) | (simp [*]; done), by repeat (first | exact Drawn0.refl _ | apply Drawn0.step)⟩
          · rw [if_neg c5] at H
            have c5b0 : ((rd l0 x5_1) == a1) = false := beq_eq_false_iff_ne.mpr c5
            have c5b1 : ((rd l0 x5_1) != a1) = true := bne_iff_ne.mpr c5
            have H' := Aside0.mk H
            clear H
            have p166 : 0 ≤ (x5_1 : Int) := of_decide_eq_true (by first | (with_reducible assumption) | assumption)
            have q166 : x5_1 < (l0.length : Int) := of_decide_eq_true (by first | (with_reducible assumption) | assumption)
            obtain ⟨ad166, e166, hx166_0⟩ := Kd.at_int HR0.out x5_1 p166 q166
            cases e166
            replace p166 := eq_true p166
            replace q166 := eq_true q166
            go_wp2
            go_roundg k1
            case measure => have := HK1.out; omega
            case rel => exact ⟨(wrap64 (x5_1 + 1)), (by first | rfl | (simp; done) | (simp [*]; done)), H', ⟨by have := HK1.out; omega⟩, by repeat (first | exact Drawn0.refl _ | apply Drawn0.step)⟩
        · rw [if_neg c4] at H
          exact absurd H (by simp)
      · rw [if_neg c3] at H
        have c3b0 : decide (x5_1 < (l0.length : Int)) = false := decide_eq_false c3
        clear c3
        obtain rfl := Option.some.inj H
        go_wp2
        go_ret
        exact ⟨by first | rfl | (simp; done) | (simp [*]; done), by repeat (first | exact Drawn0.refl _ | apply Drawn0.step)⟩

theorem calls_len0 {P : Program} {f : FuncId} {A : Option Addr} {n n' c : Nat} {rest : List Value} {w : World} {Q : Ending → World → Prop} (h : Calls P f (Value.slice A n c :: rest).toArray w Q) (e : n' = n) : Calls P f (Value.slice A n' c :: rest).toArray w Q := by subst e; exact h
/-! ### chamberlainref04_Unlike: function 17 -/
def chamberlainref04_Unlike.l0 : Nat → List Int → Int → Option (Bool)
  | 0, _, _ => none
  | k + 1, x0, x3 => if x3 < (x0.length : Int) then (if 0 ≤ x3 then (if x3 ≤ (x0.length : Int) then ((chamberlainref01_Has.f k (x0.take (x3 : Int).toNat) (rd x0 x3)).bind fun t169 => (if t169 = true then (some false) else (chamberlainref04_Unlike.l0 k x0 (wrap64 (x3 + 1))))) else (none)) else (none)) else (some true)
def chamberlainref04_Unlike.f (k : Nat) (l0 : List Int) : Option (Bool) := chamberlainref04_Unlike.l0 k l0 0
theorem chamberlainref04_Unlike.mono_l : ∀ k, (∀ y0 y1, LeO (chamberlainref04_Unlike.l0 k y0 y1) (chamberlainref04_Unlike.l0 (k + 1) y0 y1))
  | 0 => fun _ _ r h => by simp [chamberlainref04_Unlike.l0] at h
  | k + 1 => by
    have ih0 := chamberlainref04_Unlike.mono_l k
    · intro y0 y1
      unfold chamberlainref04_Unlike.l0
      repeat' first
      | (with_reducible exact ih0 _ _)
      | (with_reducible exact chamberlainref01_Has.mono _ _ _)
      | (with_reducible exact LeO.refl _)
      | (with_reducible exact LeO.none _)
      | (with_reducible refine LeO.ite ?_ ?_)
      | (with_reducible refine LeO.bind ?_ (fun _ => ?_))
      | exact ih0 _ _
      | exact chamberlainref01_Has.mono _ _ _
      | exact LeO.none _
      | refine LeO.ite ?_ ?_
      | refine LeO.bind ?_ (fun _ => ?_)
theorem chamberlainref04_Unlike.mono : ∀ a0 k, LeO (chamberlainref04_Unlike.f k a0) (chamberlainref04_Unlike.f (k + 1) a0) := by
  intro a0 k
  have ih0 := chamberlainref04_Unlike.mono_l k
  unfold chamberlainref04_Unlike.f
  repeat' first
      | (with_reducible exact ih0 _ _)
      | (with_reducible exact chamberlainref01_Has.mono _ _ _)
      | (with_reducible exact LeO.refl _)
      | (with_reducible exact LeO.none _)
      | (with_reducible refine LeO.ite ?_ ?_)
      | (with_reducible refine LeO.bind ?_ (fun _ => ?_))
      | exact ih0 _ _
      | exact chamberlainref01_Has.mono _ _ _
      | exact LeO.none _
      | refine LeO.ite ?_ ?_
      | refine LeO.bind ?_ (fun _ => ?_)
set_option maxHeartbeats 8000000 in
set_option maxRecDepth 100000 in
theorem chamberlainref04_Unlike.calls (k : Nat) (A0 : Option Addr) (c0 : Nat) (l0 : List Int) (r : Bool) (w : World) (hr0 : Kd.C (Kd.int .u32) w A0 l0.length l0) (hc0 : l0.length ≤ c0) (h : chamberlainref04_Unlike.f k l0 = some r) :
    Calls Try.prog 17 #[.slice A0 l0.length c0] w fun e w' => e = .returned (.bool r) ∧ Drawn0 w w' := by
  have HR0 := Aside0.mk hr0
  have HC0 := Aside0.mk hc0
  clear hr0 hc0
  have H : (chamberlainref04_Unlike.l0 k l0 0) = some r := h
  clear h
  have H' := Aside0.mk H
  clear H
  go_enter Try.func17, Try.ntmps17
  go_wp2
  repeat (go_quiet (fail); try go_wp2)
  go_loopg [3] k (fun kq v3 w' => ∃ (x3_1 : Int), v3 = .int .i64 x3_1 ∧ Aside0 (chamberlainref04_Unlike.l0 kq l0 x3_1 = some r) ∧ Aside0 (kq ≤ k) ∧ Drawn0 w w')
  case atStart => exact ⟨(0), (by first | rfl | (simp; done) | (simp [*]; done)), H', ⟨Nat.le_refl _⟩, by repeat (first | exact Drawn0.refl _ | apply Drawn0.step)⟩
  case round =>
    clear H'
    try clear c1
    obtain ⟨x3_1, rfl, HA, HK1, ⟨m1, rfl⟩⟩ := hrel
    cases gk with
    | zero => exact absurd HA.out (by simp [chamberlainref04_Unlike.l0])
    | succ k1 =>
      have H := HA.out
      clear HA
      simp only [chamberlainref04_Unlike.l0] at H
      by_cases c2 : x3_1 < (l0.length : Int)
      · rw [if_pos c2] at H
        have c2b0 : decide (x3_1 < (l0.length : Int)) = true := decide_eq_true c2
        clear c2
        by_cases c3 : 0 ≤ x3_1
        · rw [if_pos c3] at H
          have c3b0 := eq_true c3
          have c3b1 : decide (0 ≤ x3_1) = true := decide_eq_true c3
          clear c3
          by_cases c4 : x3_1 ≤ (l0.length : Int)
          · rw [if_pos c4] at H
            have c4b0 := eq_true c4
            have c4b1 : decide (x3_1 ≤ (l0.length : Int)) = true := decide_eq_true c4
            clear c4
            replace H := Option.bind_eq_some_iff.mp H
            obtain ⟨t169, A50, H⟩ := H
            replace H : (if t169 = true then (some false) else (chamberlainref04_Unlike.l0 k1 l0 (wrap64 (x3_1 + 1)))) = some r := H
            have A5 := Aside0.mk A50
            clear A50
            by_cases c6 : t169 = true
            · subst c6
              have H1 : (some false) = some r := by rw [if_pos rfl] at H; exact H
              clear H
              have H := H1
              clear H1
              obtain rfl := Option.some.inj H
              obtain ⟨i07, hi07, _, hsz7, _⟩ := info_parts info27
              obtain ⟨hcut7, hA7, hC7⟩ := print_take_of (P := Try.prog) (Value.int .u32) 0 22 27 .i64 Try.underlying22 hi07 hsz7 A0 c0 l0 x3_1 (of_decide_eq_true (by first | (with_reducible assumption) | assumption)) (of_decide_eq_true (by first | (with_reducible assumption) | assumption)) HC0.out
              have HR167 := Aside0.mk (Kd.C_of_reads (h1 := fun _ => rfl) (hA7 _ (Kd.reads_of_C HR0.out)))
              have HC167 := Aside0.mk hC7
              clear hA7 hC7 hi07 hsz7
              have p168 : 0 ≤ (x3_1 : Int) := of_decide_eq_true (by first | (with_reducible assumption) | assumption)
              have q168 : x3_1 < (l0.length : Int) := of_decide_eq_true (by first | (with_reducible assumption) | assumption)
              obtain ⟨ad168, e168, hx168_0⟩ := Kd.at_int HR0.out x3_1 p168 q168
              cases e168
              replace p168 := eq_true p168
              replace q168 := eq_true q168
              try go_wp2
              have hc1_ : ((w.drewN m1).drew).cell? (ad168.add x3_1.toNat) = some (.int .u32 (rd l0 x3_1)) := by
                obtain ⟨ad_, ea_, hx_⟩ := Kd.at_int (Kd.C_drew (Kd.C_drewN HR0.out m1)) x3_1 (of_eq_true p168) (of_eq_true q168)
                cases ea_
                exact hx_
              refine start_ (n := 8) (S := fun w' => (w').cell? (ad168.add x3_1.toNat) = some (.int .u32 (rd l0 x3_1))) (ds := []) #[false, false, false, false, false, false, false, false] (by kernel_rfl) rfl rfl hc1_ (fun hHeld => ?_)
              refine pure_ (i := 0) (N := some 10) (v := ?_) (a' := ?_) #[true, false, false, false, false, false, false, false] rfl rfl (by kernel_rfl) (fun _ _ _ h => h) (Or.inl ⟨by rfl, ?_⟩) ?_ ?_
              rotate_left
              · intro w'
                go_simp
                with_reducible rfl
              rotate_left
              · simp only [Act.put, List.setIfInBounds_toArray, List.set_cons_zero, List.set_cons_succ, i64_w, i32_w]
                rfl
              refine pure_ (i := 1) (N := some 11) (v := ?_) (a' := ?_) #[true, true, false, false, false, false, false, false] rfl rfl (by kernel_rfl) (fun _ _ _ h => h) (Or.inl ⟨by rfl, ?_⟩) ?_ ?_
              rotate_left
              · intro w'
                go_simp
                with_reducible rfl
              rotate_left
              · simp only [Act.put, List.setIfInBounds_toArray, List.set_cons_zero, List.set_cons_succ, i64_w, i32_w]
                rfl
              refine pure_ (i := 3) (N := some 13) (v := ?_) (a' := ?_) #[true, true, false, true, false, false, false, false] rfl rfl (by kernel_rfl) (fun _ _ _ h => h) (Or.inl ⟨by rfl, ?_⟩) ?_ ?_
              rotate_left
              · intro w'
                go_simp
                with_reducible rfl
              rotate_left
              · simp only [Act.put, List.setIfInBounds_toArray, List.set_cons_zero, List.set_cons_succ, i64_w, i32_w]
                rfl
              refine pure_ (i := 4) (N := some 14) (v := ?_) (a' := ?_) #[true, true, false, true, true, false, false, false] rfl rfl (by kernel_rfl) (fun _ _ _ h => h) (Or.inl ⟨by rfl, ?_⟩) ?_ ?_
              rotate_left
              · intro w'
                go_simp
                with_reducible rfl
              rotate_left
              · simp only [Act.put, List.setIfInBounds_toArray, List.set_cons_zero, List.set_cons_succ, i64_w, i32_w]
                rfl
              refine pure_ (i := 2) (N := some 12) (v := ?_) (a' := ?_) #[true, true, true, true, true, false, false, false] rfl rfl (by kernel_rfl) (fun _ _ _ h => h) (Or.inl ⟨by rfl, ?_⟩) ?_ ?_
              rotate_left
              · intro w'
                go_simp
                with_reducible rfl
              rotate_left
              · simp only [Act.put, List.setIfInBounds_toArray, List.set_cons_zero, List.set_cons_succ, i64_w, i32_w]
                rfl
              refine pure_ (i := 5) (N := some 15) (v := ?_) (a' := ?_) #[true, true, true, true, true, true, false, false] rfl rfl (by kernel_rfl) (fun _ _ _ h => h) (Or.inl ⟨by rfl, ?_⟩) ?_ ?_
              rotate_left
              · intro w'
                go_simp
                with_reducible rfl
              rotate_left
              · simp only [Act.put, List.setIfInBounds_toArray, List.set_cons_zero, List.set_cons_succ, i64_w, i32_w]
                rfl
              refine take_ (i := 6) (N := some 16) (v := ?_) (a' := ?_) #[true, true, true, true, true, true, true, false] rfl rfl (by kernel_rfl) (fun _ _ _ h => h) (Or.inl ⟨by rfl, ?_⟩) hHeld ?_ ?_
              rotate_left
              · intro w' s0
                go_simp
                with_reducible rfl
              rotate_left
              · simp only [Act.put, List.setIfInBounds_toArray, List.set_cons_zero, List.set_cons_succ, i64_w, i32_w]
                rfl
              refine one_ (i := 7) (N := some 17) #[true, true, true, true, true, true, true, true] rfl rfl (by kernel_rfl) (by decide) (fun K hK => ?_)
              refine goes_ Try.func21 (by kernel_rfl) rfl #[.slice (some ad168) x3_1.toNat c0, .int .u32 (rd l0 x3_1)] (by rfl) rfl rfl (by (try simp only [List.map_toArray, List.map_cons, List.map_nil]); first | done | rfl) ?_
              refine Calls.mono (calls_len0 (rest := [.int .u32 (rd l0 x3_1)]) (chamberlainref01_Has.calls k1 _ _ (l0.take (x3_1 : Int).toNat) (rd l0 x3_1) true _ ?side1 ?side2 A5.out) (by have hq_ := of_eq_true q168; have hp_ := of_eq_true p168; rw [List.length_take]; omega)) ?_
              (case side1 => repeat (first | exact HR167.out | (with_reducible refine Kd.C_alloc ?_ _) | (with_reducible refine Kd.C_drewN ?_ _) | (with_reducible refine Kd.C_drew ?_)))
              (case side2 => exact HC167.out)
              rintro e w' ⟨rfl, ⟨nd, rfl⟩⟩
              refine ⟨_, rfl, ?_⟩
              have hc2_ : (((w.drewN m1).drew).drewN nd).cell? (ad168.add x3_1.toNat) = some (.int .u32 (rd l0 x3_1)) := by
                obtain ⟨ad_, ea_, hx_⟩ := Kd.at_int (Kd.C_drewN (Kd.C_drew (Kd.C_drewN HR0.out m1)) nd) x3_1 (of_eq_true p168) (of_eq_true q168)
                cases ea_
                exact hx_
              refine hK.out _ _ hc2_ (fun hHeld => ?_)
              clear hK K
              refine done_ (by kernel_rfl) ?_
              have hD_ : Drawn0 w (((w.drewN m1).drew).drewN nd) := ⟨m1 + 1 + nd, by show ((w.drewN m1).drewN 1).drewN nd = _; simp only [World.drewN_drewN, Nat.add_assoc]⟩
              clear hc1_ hc2_ hHeld
              generalize ((w.drewN m1).drew).drewN nd = wz_ at hD_ ⊢
              try go_wp2
              go_ret
              exact ⟨by first | rfl | (simp; done) | (simp [*]; done), hD_⟩
            · replace c6 := Bool.eq_false_iff.mpr c6
              subst c6
              have H1 : (chamberlainref04_Unlike.l0 k1 l0 (wrap64 (x3_1 + 1))) = some r := by rw [if_neg (show ¬ (false = true) by decide)] at H; exact H
              clear H
              have H := H1
              clear H1
              have H' := Aside0.mk H
              clear H
              obtain ⟨i08, hi08, _, hsz8, _⟩ := info_parts info27
              obtain ⟨hcut8, hA8, hC8⟩ := print_take_of (P := Try.prog) (Value.int .u32) 0 22 27 .i64 Try.underlying22 hi08 hsz8 A0 c0 l0 x3_1 (of_decide_eq_true (by first | (with_reducible assumption) | assumption)) (of_decide_eq_true (by first | (with_reducible assumption) | assumption)) HC0.out
              have HR167 := Aside0.mk (Kd.C_of_reads (h1 := fun _ => rfl) (hA8 _ (Kd.reads_of_C HR0.out)))
              have HC167 := Aside0.mk hC8
              clear hA8 hC8 hi08 hsz8
              have p168 : 0 ≤ (x3_1 : Int) := of_decide_eq_true (by first | (with_reducible assumption) | assumption)
              have q168 : x3_1 < (l0.length : Int) := of_decide_eq_true (by first | (with_reducible assumption) | assumption)
              obtain ⟨ad168, e168, hx168_0⟩ := Kd.at_int HR0.out x3_1 p168 q168
              cases e168
              replace p168 := eq_true p168
              replace q168 := eq_true q168
              try go_wp2
              have hc1_ : ((w.drewN m1).drew).cell? (ad168.add x3_1.toNat) = some (.int .u32 (rd l0 x3_1)) := by
                obtain ⟨ad_, ea_, hx_⟩ := Kd.at_int (Kd.C_drew (Kd.C_drewN HR0.out m1)) x3_1 (of_eq_true p168) (of_eq_true q168)
                cases ea_
                exact hx_
              refine start_ (n := 8) (S := fun w' => (w').cell? (ad168.add x3_1.toNat) = some (.int .u32 (rd l0 x3_1))) (ds := []) #[false, false, false, false, false, false, false, false] (by kernel_rfl) rfl rfl hc1_ (fun hHeld => ?_)
              refine pure_ (i := 0) (N := some 10) (v := ?_) (a' := ?_) #[true, false, false, false, false, false, false, false] rfl rfl (by kernel_rfl) (fun _ _ _ h => h) (Or.inl ⟨by rfl, ?_⟩) ?_ ?_
              rotate_left
              · intro w'
                go_simp
                with_reducible rfl
              rotate_left
              · simp only [Act.put, List.setIfInBounds_toArray, List.set_cons_zero, List.set_cons_succ, i64_w, i32_w]
                rfl
              refine pure_ (i := 1) (N := some 11) (v := ?_) (a' := ?_) #[true, true, false, false, false, false, false, false] rfl rfl (by kernel_rfl) (fun _ _ _ h => h) (Or.inl ⟨by rfl, ?_⟩) ?_ ?_
              rotate_left
              · intro w'
                go_simp
                with_reducible rfl
              rotate_left
              · simp only [Act.put, List.setIfInBounds_toArray, List.set_cons_zero, List.set_cons_succ, i64_w, i32_w]
                rfl
              refine pure_ (i := 3) (N := some 13) (v := ?_) (a' := ?_) #[true, true, false, true, false, false, false, false] rfl rfl (by kernel_rfl) (fun _ _ _ h => h) (Or.inl ⟨by rfl, ?_⟩) ?_ ?_
              rotate_left
              · intro w'
                go_simp
                with_reducible rfl
              rotate_left
              · simp only [Act.put, List.setIfInBounds_toArray, List.set_cons_zero, List.set_cons_succ, i64_w, i32_w]
                rfl
              refine pure_ (i := 4) (N := some 14) (v := ?_) (a' := ?_) #[true, true, false, true, true, false, false, false] rfl rfl (by kernel_rfl) (fun _ _ _ h => h) (Or.inl ⟨by rfl, ?_⟩) ?_ ?_
              rotate_left
              · intro w'
                go_simp
                with_reducible rfl
              rotate_left
              · simp only [Act.put, List.setIfInBounds_toArray, List.set_cons_zero, List.set_cons_succ, i64_w, i32_w]
                rfl
              refine pure_ (i := 2) (N := some 12) (v := ?_) (a' := ?_) #[true, true, true, true, true, false, false, false] rfl rfl (by kernel_rfl) (fun _ _ _ h => h) (Or.inl ⟨by rfl, ?_⟩) ?_ ?_
              rotate_left
              · intro w'
                go_simp
                with_reducible rfl
              rotate_left
              · simp only [Act.put, List.setIfInBounds_toArray, List.set_cons_zero, List.set_cons_succ, i64_w, i32_w]
                rfl
              refine pure_ (i := 5) (N := some 15) (v := ?_) (a' := ?_) #[true, true, true, true, true, true, false, false] rfl rfl (by kernel_rfl) (fun _ _ _ h => h) (Or.inl ⟨by rfl, ?_⟩) ?_ ?_
              rotate_left
              · intro w'
                go_simp
                with_reducible rfl
              rotate_left
              · simp only [Act.put, List.setIfInBounds_toArray, List.set_cons_zero, List.set_cons_succ, i64_w, i32_w]
                rfl
              refine take_ (i := 6) (N := some 16) (v := ?_) (a' := ?_) #[true, true, true, true, true, true, true, false] rfl rfl (by kernel_rfl) (fun _ _ _ h => h) (Or.inl ⟨by rfl, ?_⟩) hHeld ?_ ?_
              rotate_left
              · intro w' s0
                go_simp
                with_reducible rfl
              rotate_left
              · simp only [Act.put, List.setIfInBounds_toArray, List.set_cons_zero, List.set_cons_succ, i64_w, i32_w]
                rfl
              refine one_ (i := 7) (N := some 17) #[true, true, true, true, true, true, true, true] rfl rfl (by kernel_rfl) (by decide) (fun K hK => ?_)
              refine goes_ Try.func21 (by kernel_rfl) rfl #[.slice (some ad168) x3_1.toNat c0, .int .u32 (rd l0 x3_1)] (by rfl) rfl rfl (by (try simp only [List.map_toArray, List.map_cons, List.map_nil]); first | done | rfl) ?_
              refine Calls.mono (calls_len0 (rest := [.int .u32 (rd l0 x3_1)]) (chamberlainref01_Has.calls k1 _ _ (l0.take (x3_1 : Int).toNat) (rd l0 x3_1) false _ ?side1 ?side2 A5.out) (by have hq_ := of_eq_true q168; have hp_ := of_eq_true p168; rw [List.length_take]; omega)) ?_
              (case side1 => repeat (first | exact HR167.out | (with_reducible refine Kd.C_alloc ?_ _) | (with_reducible refine Kd.C_drewN ?_ _) | (with_reducible refine Kd.C_drew ?_)))
              (case side2 => exact HC167.out)
              rintro e w' ⟨rfl, ⟨nd, rfl⟩⟩
              refine ⟨_, rfl, ?_⟩
              have hc2_ : (((w.drewN m1).drew).drewN nd).cell? (ad168.add x3_1.toNat) = some (.int .u32 (rd l0 x3_1)) := by
                obtain ⟨ad_, ea_, hx_⟩ := Kd.at_int (Kd.C_drewN (Kd.C_drew (Kd.C_drewN HR0.out m1)) nd) x3_1 (of_eq_true p168) (of_eq_true q168)
                cases ea_
                exact hx_
              refine hK.out _ _ hc2_ (fun hHeld => ?_)
              clear hK K
              refine done_ (by kernel_rfl) ?_
              have hD_ : Drawn0 w (((w.drewN m1).drew).drewN nd) := ⟨m1 + 1 + nd, by show ((w.drewN m1).drewN 1).drewN nd = _; simp only [World.drewN_drewN, Nat.add_assoc]⟩
              clear hc1_ hc2_ hHeld
              generalize ((w.drewN m1).drew).drewN nd = wz_ at hD_ ⊢
              try go_wp2
              go_roundg k1
              case measure => have := HK1.out; omega
              case rel => exact ⟨(wrap64 (x3_1 + 1)), (by first | rfl | (simp; done) | (simp [*]; done)), H', ⟨by have := HK1.out; omega⟩, hD_⟩
          · rw [if_neg c4] at H
            exact absurd H (by simp)
        · rw [if_neg c3] at H
          exact absurd H (by simp)
      · rw [if_neg c2] at H
        have c2b0 : decide (x3_1 < (l0.length : Int)) = false := decide_eq_false c2
        clear c2
        obtain rfl := Option.some.inj H
        go_wp2
        repeat (go_quiet (fail); try go_wp2)
        go_ret
        exact ⟨by first | rfl | (simp; done) | (simp [*]; done), by repeat (first | exact Drawn0.refl _ | apply Drawn0.step)⟩

end Go.Proofs.Ytinfkgbbfmeiaaa.PDrawOnce
