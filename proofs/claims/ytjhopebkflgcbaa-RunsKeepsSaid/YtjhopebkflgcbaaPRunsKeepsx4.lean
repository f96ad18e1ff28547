-- Written for this claim by wip/tools/myprint.py (print.py's forms; proofs of the faked functions by hand).
import Derived.Test.YtjhopebkflgcbaaPRunsKeepsx1
import Derived.Test.YtjhopebkflgcbaaPRunsKeepsx0
import Derived.Test.YtjhopebkflgcbaaPRunsKeepsx2
import Derived.Test.YtjhopebkflgcbaaPRunsKeepsx3
namespace Go.Proofs.Ytjhopebkflgcbaa.PRunsKeeps
open Go.RowKit Go.Proofs.YtjhopebkflgcbaaW.PrintWords Go.Proofs.YtjhopebkflgcbaaW.PrintLast Go.Proofs.YtjhopebkflgcbaaW.PrintMore
attribute [local go_sem] max2_int min2_int max_two min_two max_three min_three max_four min_four   -- for this text's walks alone
set_option linter.unusedVariables false
set_option linter.unusedSimpArgs false

/-! ### chamberlainlaw09_awake: function 7 -/
def chamberlainlaw09_awake.f (k : Nat)  : Option (Bool) := (runs_Add.f k ([] : List (S25)) 2 1 1 0 0 0 0 0 0 1).bind fun bt148 => ((runs_Add.f k bt148.1 2 1 1 0 0 0 0 0 0 1).bind fun bt152 => ((runs_Add.f k bt152.1 2 1 1 0 0 0 0 0 0 1).bind fun bt156 => ((runs_Add.f k bt148.1 2 0 0 0 0 0 0 0 0 0).bind fun bt160 => ((runs_Next.f k bt152.1 1 1 1 1).bind fun bt164 => ((runs_Next.f k bt152.1 2 1 1 1).bind fun bt166 => ((runs_Set.f bt152.1 0 1 1 0 0 0 0 0 0 2).bind fun bt168 => ((runs_Next.f k bt168.1 0 1 1 1).bind fun bt172 => ((runs_Set.f bt152.1 2 1 1 0 0 0 0 0 0 1).bind fun bt174 => (if bt148.2 = 0 then (if bt152.2 = 0 then (if bt156.2 = 10 then (if bt160.2 = 1 then (if bt164.1 = 1 then (if bt164.2 = true then (if bt166.2 = true then (some false) else (if bt168.2 = 0 then (if bt172.1 = 1 then (if bt172.2 = true then (if bt174.2 = 1 then ((runs_May.f 1 1 0 0 0 0 0 0 1).bind fun t178 => (if t178 = true then ((runs_Right.f k bt152.1 1).bind fun t179 => (if t179 = true then (some false) else ((runs_Right.f k bt152.1 2).bind fun t180 => (some t180)))) else (some false))) else (some false)) else (some false)) else (some false)) else (some false))) else (some false)) else (some false)) else (some false)) else (some false)) else (some false)) else (some false))))))))))
theorem chamberlainlaw09_awake.mono : ∀ k, LeO (chamberlainlaw09_awake.f k ) (chamberlainlaw09_awake.f (k + 1) ) := by
  intro  k
  unfold chamberlainlaw09_awake.f
  repeat' first
      | (with_reducible exact runs_Add.mono _ _ _ _ _ _ _ _ _ _ _ _)
      | (with_reducible exact runs_Next.mono _ _ _ _ _ _)
      | (with_reducible exact runs_Right.mono _ _ _)
      | (with_reducible exact LeO.refl _)
      | (with_reducible exact LeO.none _)
      | (with_reducible refine LeO.ite ?_ ?_)
      | (with_reducible refine LeO.bind ?_ (fun _ => ?_))
      | exact runs_Add.mono _ _ _ _ _ _ _ _ _ _ _ _
      | exact runs_Next.mono _ _ _ _ _ _
      | exact runs_Right.mono _ _ _
      | exact LeO.none _
      | refine LeO.ite ?_ ?_
      | refine LeO.bind ?_ (fun _ => ?_)
theorem chamberlainlaw09_awake.at60 : chamberlainlaw09_awake.f 60 = some true := by decide +kernel
theorem chamberlainlaw09_awake.only (k : Nat) (r : Bool) (h : chamberlainlaw09_awake.f k = some r) : r = true := by
  have h1 := at_rounds chamberlainlaw09_awake.mono (Nat.le_max_left k 60) h
  have h2 := at_rounds chamberlainlaw09_awake.mono (Nat.le_max_right k 60) chamberlainlaw09_awake.at60
  rw [h1] at h2
  exact Option.some.inj h2
set_option maxHeartbeats 8000000 in
set_option maxRecDepth 100000 in
theorem chamberlainlaw09_awake.calls (k : Nat)  (r : Bool) (w : World) (h : chamberlainlaw09_awake.f k  = some r) :
    Calls Try.prog 7 #[] w fun e w' => e = .returned (.bool r) ∧ Below w.heap.size w w' := by
  have hT := Aside0.mk (chamberlainlaw09_awake.only k r h)
  have hu25 := Try.underlying25
  have HB := Aside0.mk (Below.refl w.heap.size w)
  have H : ((runs_Add.f k ([] : List (S25)) 2 1 1 0 0 0 0 0 0 1).bind fun bt148 => ((runs_Add.f k bt148.1 2 1 1 0 0 0 0 0 0 1).bind fun bt152 => ((runs_Add.f k bt152.1 2 1 1 0 0 0 0 0 0 1).bind fun bt156 => ((runs_Add.f k bt148.1 2 0 0 0 0 0 0 0 0 0).bind fun bt160 => ((runs_Next.f k bt152.1 1 1 1 1).bind fun bt164 => ((runs_Next.f k bt152.1 2 1 1 1).bind fun bt166 => ((runs_Set.f bt152.1 0 1 1 0 0 0 0 0 0 2).bind fun bt168 => ((runs_Next.f k bt168.1 0 1 1 1).bind fun bt172 => ((runs_Set.f bt152.1 2 1 1 0 0 0 0 0 0 1).bind fun bt174 => (if bt148.2 = 0 then (if bt152.2 = 0 then (if bt156.2 = 10 then (if bt160.2 = 1 then (if bt164.1 = 1 then (if bt164.2 = true then (if bt166.2 = true then (some false) else (if bt168.2 = 0 then (if bt172.1 = 1 then (if bt172.2 = true then (if bt174.2 = 1 then ((runs_May.f 1 1 0 0 0 0 0 0 1).bind fun t178 => (if t178 = true then ((runs_Right.f k bt152.1 1).bind fun t179 => (if t179 = true then (some false) else ((runs_Right.f k bt152.1 2).bind fun t180 => (some t180)))) else (some false))) else (some false)) else (some false)) else (some false)) else (some false))) else (some false)) else (some false)) else (some false)) else (some false)) else (some false)) else (some false))))))))))) = some r := h
  clear h
  replace H := Option.bind_eq_some_iff.mp H
  obtain ⟨⟨t148, t151⟩, A10, H⟩ := H
  replace H : ((runs_Add.f k t148 2 1 1 0 0 0 0 0 0 1).bind fun bt152 => ((runs_Add.f k bt152.1 2 1 1 0 0 0 0 0 0 1).bind fun bt156 => ((runs_Add.f k t148 2 0 0 0 0 0 0 0 0 0).bind fun bt160 => ((runs_Next.f k bt152.1 1 1 1 1).bind fun bt164 => ((runs_Next.f k bt152.1 2 1 1 1).bind fun bt166 => ((runs_Set.f bt152.1 0 1 1 0 0 0 0 0 0 2).bind fun bt168 => ((runs_Next.f k bt168.1 0 1 1 1).bind fun bt172 => ((runs_Set.f bt152.1 2 1 1 0 0 0 0 0 0 1).bind fun bt174 => (if t151 = 0 then (if bt152.2 = 0 then (if bt156.2 = 10 then (if bt160.2 = 1 then (if bt164.1 = 1 then (if bt164.2 = true then (if bt166.2 = true then (some false) else (if bt168.2 = 0 then (if bt172.1 = 1 then (if bt172.2 = true then (if bt174.2 = 1 then ((runs_May.f 1 1 0 0 0 0 0 0 1).bind fun t178 => (if t178 = true then ((runs_Right.f k bt152.1 1).bind fun t179 => (if t179 = true then (some false) else ((runs_Right.f k bt152.1 2).bind fun t180 => (some t180)))) else (some false))) else (some false)) else (some false)) else (some false)) else (some false))) else (some false)) else (some false)) else (some false)) else (some false)) else (some false)) else (some false)))))))))) = some r := H
  have A1 := Aside0.mk A10
  clear A10
  replace H := Option.bind_eq_some_iff.mp H
  obtain ⟨⟨t152, t155⟩, A20, H⟩ := H
  replace H : ((runs_Add.f k t152 2 1 1 0 0 0 0 0 0 1).bind fun bt156 => ((runs_Add.f k t148 2 0 0 0 0 0 0 0 0 0).bind fun bt160 => ((runs_Next.f k t152 1 1 1 1).bind fun bt164 => ((runs_Next.f k t152 2 1 1 1).bind fun bt166 => ((runs_Set.f t152 0 1 1 0 0 0 0 0 0 2).bind fun bt168 => ((runs_Next.f k bt168.1 0 1 1 1).bind fun bt172 => ((runs_Set.f t152 2 1 1 0 0 0 0 0 0 1).bind fun bt174 => (if t151 = 0 then (if t155 = 0 then (if bt156.2 = 10 then (if bt160.2 = 1 then (if bt164.1 = 1 then (if bt164.2 = true then (if bt166.2 = true then (some false) else (if bt168.2 = 0 then (if bt172.1 = 1 then (if bt172.2 = true then (if bt174.2 = 1 then ((runs_May.f 1 1 0 0 0 0 0 0 1).bind fun t178 => (if t178 = true then ((runs_Right.f k t152 1).bind fun t179 => (if t179 = true then (some false) else ((runs_Right.f k t152 2).bind fun t180 => (some t180)))) else (some false))) else (some false)) else (some false)) else (some false)) else (some false))) else (some false)) else (some false)) else (some false)) else (some false)) else (some false)) else (some false))))))))) = some r := H
  have A2 := Aside0.mk A20
  clear A20
  replace H := Option.bind_eq_some_iff.mp H
  obtain ⟨⟨t156, t159⟩, A30, H⟩ := H
  replace H : ((runs_Add.f k t148 2 0 0 0 0 0 0 0 0 0).bind fun bt160 => ((runs_Next.f k t152 1 1 1 1).bind fun bt164 => ((runs_Next.f k t152 2 1 1 1).bind fun bt166 => ((runs_Set.f t152 0 1 1 0 0 0 0 0 0 2).bind fun bt168 => ((runs_Next.f k bt168.1 0 1 1 1).bind fun bt172 => ((runs_Set.f t152 2 1 1 0 0 0 0 0 0 1).bind fun bt174 => (if t151 = 0 then (if t155 = 0 then (if t159 = 10 then (if bt160.2 = 1 then (if bt164.1 = 1 then (if bt164.2 = true then (if bt166.2 = true then (some false) else (if bt168.2 = 0 then (if bt172.1 = 1 then (if bt172.2 = true then (if bt174.2 = 1 then ((runs_May.f 1 1 0 0 0 0 0 0 1).bind fun t178 => (if t178 = true then ((runs_Right.f k t152 1).bind fun t179 => (if t179 = true then (some false) else ((runs_Right.f k t152 2).bind fun t180 => (some t180)))) else (some false))) else (some false)) else (some false)) else (some false)) else (some false))) else (some false)) else (some false)) else (some false)) else (some false)) else (some false)) else (some false)))))))) = some r := H
  have A3 := Aside0.mk A30
  clear A30
  replace H := Option.bind_eq_some_iff.mp H
  obtain ⟨⟨t160, t163⟩, A40, H⟩ := H
  replace H : ((runs_Next.f k t152 1 1 1 1).bind fun bt164 => ((runs_Next.f k t152 2 1 1 1).bind fun bt166 => ((runs_Set.f t152 0 1 1 0 0 0 0 0 0 2).bind fun bt168 => ((runs_Next.f k bt168.1 0 1 1 1).bind fun bt172 => ((runs_Set.f t152 2 1 1 0 0 0 0 0 0 1).bind fun bt174 => (if t151 = 0 then (if t155 = 0 then (if t159 = 10 then (if t163 = 1 then (if bt164.1 = 1 then (if bt164.2 = true then (if bt166.2 = true then (some false) else (if bt168.2 = 0 then (if bt172.1 = 1 then (if bt172.2 = true then (if bt174.2 = 1 then ((runs_May.f 1 1 0 0 0 0 0 0 1).bind fun t178 => (if t178 = true then ((runs_Right.f k t152 1).bind fun t179 => (if t179 = true then (some false) else ((runs_Right.f k t152 2).bind fun t180 => (some t180)))) else (some false))) else (some false)) else (some false)) else (some false)) else (some false))) else (some false)) else (some false)) else (some false)) else (some false)) else (some false)) else (some false))))))) = some r := H
  have A4 := Aside0.mk A40
  clear A40
  replace H := Option.bind_eq_some_iff.mp H
  obtain ⟨⟨t164, t165⟩, A50, H⟩ := H
  replace H : ((runs_Next.f k t152 2 1 1 1).bind fun bt166 => ((runs_Set.f t152 0 1 1 0 0 0 0 0 0 2).bind fun bt168 => ((runs_Next.f k bt168.1 0 1 1 1).bind fun bt172 => ((runs_Set.f t152 2 1 1 0 0 0 0 0 0 1).bind fun bt174 => (if t151 = 0 then (if t155 = 0 then (if t159 = 10 then (if t163 = 1 then (if t164 = 1 then (if t165 = true then (if bt166.2 = true then (some false) else (if bt168.2 = 0 then (if bt172.1 = 1 then (if bt172.2 = true then (if bt174.2 = 1 then ((runs_May.f 1 1 0 0 0 0 0 0 1).bind fun t178 => (if t178 = true then ((runs_Right.f k t152 1).bind fun t179 => (if t179 = true then (some false) else ((runs_Right.f k t152 2).bind fun t180 => (some t180)))) else (some false))) else (some false)) else (some false)) else (some false)) else (some false))) else (some false)) else (some false)) else (some false)) else (some false)) else (some false)) else (some false)))))) = some r := H
  have A5 := Aside0.mk A50
  clear A50
  replace H := Option.bind_eq_some_iff.mp H
  obtain ⟨⟨t166, t167⟩, A60, H⟩ := H
  replace H : ((runs_Set.f t152 0 1 1 0 0 0 0 0 0 2).bind fun bt168 => ((runs_Next.f k bt168.1 0 1 1 1).bind fun bt172 => ((runs_Set.f t152 2 1 1 0 0 0 0 0 0 1).bind fun bt174 => (if t151 = 0 then (if t155 = 0 then (if t159 = 10 then (if t163 = 1 then (if t164 = 1 then (if t165 = true then (if t167 = true then (some false) else (if bt168.2 = 0 then (if bt172.1 = 1 then (if bt172.2 = true then (if bt174.2 = 1 then ((runs_May.f 1 1 0 0 0 0 0 0 1).bind fun t178 => (if t178 = true then ((runs_Right.f k t152 1).bind fun t179 => (if t179 = true then (some false) else ((runs_Right.f k t152 2).bind fun t180 => (some t180)))) else (some false))) else (some false)) else (some false)) else (some false)) else (some false))) else (some false)) else (some false)) else (some false)) else (some false)) else (some false)) else (some false))))) = some r := H
  have A6 := Aside0.mk A60
  clear A60
  replace H := Option.bind_eq_some_iff.mp H
  obtain ⟨⟨t168, t171⟩, A70, H⟩ := H
  replace H : ((runs_Next.f k t168 0 1 1 1).bind fun bt172 => ((runs_Set.f t152 2 1 1 0 0 0 0 0 0 1).bind fun bt174 => (if t151 = 0 then (if t155 = 0 then (if t159 = 10 then (if t163 = 1 then (if t164 = 1 then (if t165 = true then (if t167 = true then (some false) else (if t171 = 0 then (if bt172.1 = 1 then (if bt172.2 = true then (if bt174.2 = 1 then ((runs_May.f 1 1 0 0 0 0 0 0 1).bind fun t178 => (if t178 = true then ((runs_Right.f k t152 1).bind fun t179 => (if t179 = true then (some false) else ((runs_Right.f k t152 2).bind fun t180 => (some t180)))) else (some false))) else (some false)) else (some false)) else (some false)) else (some false))) else (some false)) else (some false)) else (some false)) else (some false)) else (some false)) else (some false)))) = some r := H
  have A7 := Aside0.mk A70
  clear A70
  replace H := Option.bind_eq_some_iff.mp H
  obtain ⟨⟨t172, t173⟩, A80, H⟩ := H
  replace H : ((runs_Set.f t152 2 1 1 0 0 0 0 0 0 1).bind fun bt174 => (if t151 = 0 then (if t155 = 0 then (if t159 = 10 then (if t163 = 1 then (if t164 = 1 then (if t165 = true then (if t167 = true then (some false) else (if t171 = 0 then (if t172 = 1 then (if t173 = true then (if bt174.2 = 1 then ((runs_May.f 1 1 0 0 0 0 0 0 1).bind fun t178 => (if t178 = true then ((runs_Right.f k t152 1).bind fun t179 => (if t179 = true then (some false) else ((runs_Right.f k t152 2).bind fun t180 => (some t180)))) else (some false))) else (some false)) else (some false)) else (some false)) else (some false))) else (some false)) else (some false)) else (some false)) else (some false)) else (some false)) else (some false))) = some r := H
  have A8 := Aside0.mk A80
  clear A80
  replace H := Option.bind_eq_some_iff.mp H
  obtain ⟨⟨t174, t177⟩, A90, H⟩ := H
  replace H : (if t151 = 0 then (if t155 = 0 then (if t159 = 10 then (if t163 = 1 then (if t164 = 1 then (if t165 = true then (if t167 = true then (some false) else (if t171 = 0 then (if t172 = 1 then (if t173 = true then (if t177 = 1 then ((runs_May.f 1 1 0 0 0 0 0 0 1).bind fun t178 => (if t178 = true then ((runs_Right.f k t152 1).bind fun t179 => (if t179 = true then (some false) else ((runs_Right.f k t152 2).bind fun t180 => (some t180)))) else (some false))) else (some false)) else (some false)) else (some false)) else (some false))) else (some false)) else (some false)) else (some false)) else (some false)) else (some false)) else (some false)) = some r := H
  have A9 := Aside0.mk A90
  clear A90
  by_cases c10 : t151 = 0
  · rw [if_pos c10] at H
    have c10b0 : (t151 == 0) = true := beq_iff_eq.mpr c10
    have c10b1 : (t151 != 0) = false := bne_eq_false_iff_eq.mpr c10
    clear c10
    by_cases c11 : t155 = 0
    · rw [if_pos c11] at H
      have c11b0 : (t155 == 0) = true := beq_iff_eq.mpr c11
      have c11b1 : (t155 != 0) = false := bne_eq_false_iff_eq.mpr c11
      clear c11
      by_cases c12 : t159 = 10
      · rw [if_pos c12] at H
        have c12b0 : (t159 == 10) = true := beq_iff_eq.mpr c12
        have c12b1 : (t159 != 10) = false := bne_eq_false_iff_eq.mpr c12
        clear c12
        by_cases c13 : t163 = 1
        · rw [if_pos c13] at H
          have c13b0 : (t163 == 1) = true := beq_iff_eq.mpr c13
          have c13b1 : (t163 != 1) = false := bne_eq_false_iff_eq.mpr c13
          clear c13
          by_cases c14 : t164 = 1
          · rw [if_pos c14] at H
            have c14b0 : (t164 == 1) = true := beq_iff_eq.mpr c14
            have c14b1 : (t164 != 1) = false := bne_eq_false_iff_eq.mpr c14
            clear c14
            by_cases c15 : t165 = true
            · subst c15
              have H1 : (if t167 = true then (some false) else (if t171 = 0 then (if t172 = 1 then (if t173 = true then (if t177 = 1 then ((runs_May.f 1 1 0 0 0 0 0 0 1).bind fun t178 => (if t178 = true then ((runs_Right.f k t152 1).bind fun t179 => (if t179 = true then (some false) else ((runs_Right.f k t152 2).bind fun t180 => (some t180)))) else (some false))) else (some false)) else (some false)) else (some false)) else (some false))) = some r := by rw [if_pos rfl] at H; exact H
              clear H
              have H := H1
              clear H1
              by_cases c16 : t167 = true
              · subst c16
                have H1 : (some false) = some r := by rw [if_pos rfl] at H; exact H
                clear H
                have H := H1
                clear H1
                exact absurd (hT.out.symm.trans (Option.some.inj H).symm) (by decide)
              · replace c16 := Bool.eq_false_iff.mpr c16
                subst c16
                have H1 : (if t171 = 0 then (if t172 = 1 then (if t173 = true then (if t177 = 1 then ((runs_May.f 1 1 0 0 0 0 0 0 1).bind fun t178 => (if t178 = true then ((runs_Right.f k t152 1).bind fun t179 => (if t179 = true then (some false) else ((runs_Right.f k t152 2).bind fun t180 => (some t180)))) else (some false))) else (some false)) else (some false)) else (some false)) else (some false)) = some r := by rw [if_neg (show ¬ (false = true) by decide)] at H; exact H
                clear H
                have H := H1
                clear H1
                by_cases c36 : t171 = 0
                · rw [if_pos c36] at H
                  have c36b0 : (t171 == 0) = true := beq_iff_eq.mpr c36
                  have c36b1 : (t171 != 0) = false := bne_eq_false_iff_eq.mpr c36
                  clear c36
                  by_cases c37 : t172 = 1
                  · rw [if_pos c37] at H
                    have c37b0 : (t172 == 1) = true := beq_iff_eq.mpr c37
                    have c37b1 : (t172 != 1) = false := bne_eq_false_iff_eq.mpr c37
                    clear c37
                    by_cases c38 : t173 = true
                    · subst c38
                      have H1 : (if t177 = 1 then ((runs_May.f 1 1 0 0 0 0 0 0 1).bind fun t178 => (if t178 = true then ((runs_Right.f k t152 1).bind fun t179 => (if t179 = true then (some false) else ((runs_Right.f k t152 2).bind fun t180 => (some t180)))) else (some false))) else (some false)) = some r := by rw [if_pos rfl] at H; exact H
                      clear H
                      have H := H1
                      clear H1
                      by_cases c39 : t177 = 1
                      · rw [if_pos c39] at H
                        have c39b0 : (t177 == 1) = true := beq_iff_eq.mpr c39
                        have c39b1 : (t177 != 1) = false := bne_eq_false_iff_eq.mpr c39
                        clear c39
                        replace H := Option.bind_eq_some_iff.mp H
                        obtain ⟨t178, A400, H⟩ := H
                        replace H : (if t178 = true then ((runs_Right.f k t152 1).bind fun t179 => (if t179 = true then (some false) else ((runs_Right.f k t152 2).bind fun t180 => (some t180)))) else (some false)) = some r := H
                        have A40 := Aside0.mk A400
                        clear A400
                        by_cases c41 : t178 = true
                        · subst c41
                          have H1 : ((runs_Right.f k t152 1).bind fun t179 => (if t179 = true then (some false) else ((runs_Right.f k t152 2).bind fun t180 => (some t180)))) = some r := by rw [if_pos rfl] at H; exact H
                          clear H
                          have H := H1
                          clear H1
                          replace H := Option.bind_eq_some_iff.mp H
                          obtain ⟨t179, A420, H⟩ := H
                          replace H : (if t179 = true then (some false) else ((runs_Right.f k t152 2).bind fun t180 => (some t180))) = some r := H
                          have A42 := Aside0.mk A420
                          clear A420
                          by_cases c43 : t179 = true
                          · subst c43
                            have H1 : (some false) = some r := by rw [if_pos rfl] at H; exact H
                            clear H
                            have H := H1
                            clear H1
                            exact absurd (hT.out.symm.trans (Option.some.inj H).symm) (by decide)
                          · replace c43 := Bool.eq_false_iff.mpr c43
                            subst c43
                            have H1 : ((runs_Right.f k t152 2).bind fun t180 => (some t180)) = some r := by rw [if_neg (show ¬ (false = true) by decide)] at H; exact H
                            clear H
                            have H := H1
                            clear H1
                            replace H := Option.bind_eq_some_iff.mp H
                            obtain ⟨t180, A660, H⟩ := H
                            replace H : (some t180) = some r := H
                            have A66 := Aside0.mk A660
                            clear A660
                            obtain rfl := Option.some.inj H
                            go_enter Try.func7, Try.ntmps7
                            go_wp2_with (first | ((with_reducible refine gate_dst (N := 1) rfl ?_); refine box_event ?hg (N := 1) ?hd (cs := #[.int .i64 0, .int .i64 0, .int .u32 0, .int .u32 0, .int .u32 0, .int .u32 0, .int .u32 0, .int .u32 0, .int .i64 0]) (t := 25) ?hr ?_; (case hd => rfl); (case hg => rfl); (case hr => first | (go_simp; done) | (go_simp; rfl)); intro gb147 hg w67 hbox hb; have n0_ := Aside0.mk (bs_ hb); have n1_ := Aside0.mk (hbox); have n3_ := Aside0.mk ((ge_ hg : w.heap.size ≤ gb147)); clear HB; have HB := n0_; have BK147 := n1_; have GE147 := n3_; clear n0_ n1_ n3_; clear hb hbox hg; have ⟨hcz68_0, hcz68_1, hcz68_2, hcz68_3, hcz68_4, hcz68_5, hcz68_6, hcz68_7, hcz68_8⟩ := cz9_ BK147.out; have ⟨hfz68_0, hfz68_1, hfz68_2, hfz68_3, hfz68_4, hfz68_5, hfz68_6, hfz68_7, hfz68_8⟩ := fz9_ BK147.out) | ((with_reducible refine gate_store (t := 25) (p := 1) rfl ?_); refine store_event (t := 25) (p := 1) (v := ?vo_w69) (w1 := (((((((((w67.setCell ⟨gb147, 0, none⟩ (.int .i64 1)).setCell ⟨gb147, 1, none⟩ (.int .i64 1)).setCell ⟨gb147, 2, none⟩ (.int .u32 0)).setCell ⟨gb147, 3, none⟩ (.int .u32 0)).setCell ⟨gb147, 4, none⟩ (.int .u32 0)).setCell ⟨gb147, 5, none⟩ (.int .u32 0)).setCell ⟨gb147, 6, none⟩ (.int .u32 0)).setCell ⟨gb147, 7, none⟩ (.int .u32 0)).setCell ⟨gb147, 8, none⟩ (.int .i64 1))) ?hg ?ho ?hn ?hr ?_; (case ho => rfl); (case hg => rfl); (case hn => rfl); (case hr => first | (go_simp; done) | (go_simp; rfl)); intro w69 hw; have n0_ : Aside0 (w69.heap[gb147]? = some (.cells #[.int .i64 1, .int .i64 1, .int .u32 0, .int .u32 0, .int .u32 0, .int .u32 0, .int .u32 0, .int .u32 0, .int .i64 1] 25 (0, 0))) := ⟨(by rw [hw]; exact (bp9_ BK147.out))⟩; have n1_ : Aside0 (Below w.heap.size w w69) := ⟨(by rw [hw]; exact (by repeat (first | (with_reducible first | exact HB.out | apply below_alloc | apply pw_below_drewN | apply below_drew1 | refine below_set ?_ GE147.out) | exact HB.out)))⟩; clear hw BK147 HB; have BK147 := n0_; have HB := n1_; clear n0_ n1_; have ⟨hcz70_0, hcz70_1, hcz70_2, hcz70_3, hcz70_4, hcz70_5, hcz70_6, hcz70_7, hcz70_8⟩ := cz9_ BK147.out; have ⟨hfz70_0, hfz70_1, hfz70_2, hfz70_3, hfz70_4, hfz70_5, hfz70_6, hfz70_7, hfz70_8⟩ := fz9_ BK147.out) | ((with_reducible refine gate_callee (f := 12) rfl ?_); refine goesL_ (some 23) rfl rfl Try.func12 (by kernel_rfl) rfl #[.slice none 0 0, .int .i64 2, .agg #[.int .i64 1, .int .i64 1, .int .u32 0, .int .u32 0, .int .u32 0, .int .u32 0, .int .u32 0, .int .u32 0, .int .i64 1]] rfl (by (try simp only [List.map_toArray, List.map_cons, List.map_nil]); first | done | rfl | (simp only [List.length_drop, List.length_take]; rfl)) ?_; (refine (runs_Add.calls k (fun k_ => False) _ _ ([] : List (S25)) 2 1 1 0 0 0 0 0 0 1 t148 t151 _ ?side1 A1.out).mono ?_); (case side1 => exact Kd.V_nil _ _ _ _ _); rintro e w71 ⟨v149, rfl, ho0, hb⟩; refine ⟨_, rfl, ?_⟩; have n0_ := Aside0.mk (Kd.V_lower (Kd.V_mono (ok' := fun k_ => k_ ≠ gb147) ho0 (fun k_ hk_ => Or.elim hk_ (fun hs_ => (hs_).elim) (fun hn_ => (fb_ BK147.out k_ hn_)))) (below_size (by repeat (first | (with_reducible first | exact HB.out | apply below_alloc | apply pw_below_drewN | apply below_drew1 | refine below_set ?_ GE147.out) | exact HB.out)))); have n1_ := Aside0.mk (bb_ BK147.out hb); have n2_ := Aside0.mk (bs_ hb); clear BK147 HB; have HO150 := n0_; have BK147 := n1_; have HB := n2_; clear n0_ n1_ n2_; (try clear hb); (try clear hb2); (try clear hk); (try clear hi); (try clear ho0); have ⟨hcz72_0, hcz72_1, hcz72_2, hcz72_3, hcz72_4, hcz72_5, hcz72_6, hcz72_7, hcz72_8⟩ := cz9_ BK147.out; have ⟨hfz72_0, hfz72_1, hfz72_2, hfz72_3, hfz72_4, hfz72_5, hfz72_6, hfz72_7, hfz72_8⟩ := fz9_ BK147.out; obtain ⟨Ao73, co73, eo73⟩ := Kd.V_slice HO150.out; subst eo73) | ((with_reducible refine gate_callee (f := 12) rfl ?_); refine goesL_ (some 29) rfl rfl Try.func12 (by kernel_rfl) rfl #[.slice Ao73 t148.length co73, .int .i64 2, .agg #[.int .i64 1, .int .i64 1, .int .u32 0, .int .u32 0, .int .u32 0, .int .u32 0, .int .u32 0, .int .u32 0, .int .i64 1]] rfl (by (try simp only [List.map_toArray, List.map_cons, List.map_nil]); first | done | rfl | (simp only [List.length_drop, List.length_take]; rfl)) ?_; (with_reducible refine (runs_Add.calls k (fun k_ => k_ ≠ gb147) _ _ t148 2 1 1 0 0 0 0 0 0 1 t152 t155 _ ?side1 A2.out).mono ?_); (case side1 => exact HO150.out); rintro e w74 ⟨v153, rfl, ho0, hb⟩; refine ⟨_, rfl, ?_⟩; have n0_ := Aside0.mk (vb_ HO150.out hb); have n1_ := Aside0.mk (Kd.V_lower (Kd.V_mono (ok' := fun k_ => k_ ≠ gb147) ho0 (fun k_ hk_ => Or.elim hk_ (fun hs_ => hs_) (fun hn_ => (fb_ BK147.out k_ hn_)))) (below_size (by repeat (first | (with_reducible first | exact HB.out | apply below_alloc | apply pw_below_drewN | apply below_drew1 | refine below_set ?_ GE147.out) | exact HB.out)))); have n2_ := Aside0.mk (bb_ BK147.out hb); have n3_ := Aside0.mk (bs_ hb); clear HO150 BK147 HB; have HO150 := n0_; have HO154 := n1_; have BK147 := n2_; have HB := n3_; clear n0_ n1_ n2_ n3_; (try clear hb); (try clear hb2); (try clear hk); (try clear hi); (try clear ho0); have ⟨hcz75_0, hcz75_1, hcz75_2, hcz75_3, hcz75_4, hcz75_5, hcz75_6, hcz75_7, hcz75_8⟩ := cz9_ BK147.out; have ⟨hfz75_0, hfz75_1, hfz75_2, hfz75_3, hfz75_4, hfz75_5, hfz75_6, hfz75_7, hfz75_8⟩ := fz9_ BK147.out; obtain ⟨Ao76, co76, eo76⟩ := Kd.V_slice HO154.out; subst eo76) | ((with_reducible refine gate_callee (f := 12) rfl ?_); refine goesL_ (some 35) rfl rfl Try.func12 (by kernel_rfl) rfl #[.slice Ao76 t152.length co76, .int .i64 2, .agg #[.int .i64 1, .int .i64 1, .int .u32 0, .int .u32 0, .int .u32 0, .int .u32 0, .int .u32 0, .int .u32 0, .int .i64 1]] rfl (by (try simp only [List.map_toArray, List.map_cons, List.map_nil]); first | done | rfl | (simp only [List.length_drop, List.length_take]; rfl)) ?_; (with_reducible refine (runs_Add.calls k (fun k_ => k_ ≠ gb147) _ _ t152 2 1 1 0 0 0 0 0 0 1 t156 t159 _ ?side1 A3.out).mono ?_); (case side1 => exact HO154.out); rintro e w77 ⟨v157, rfl, ho0, hb⟩; refine ⟨_, rfl, ?_⟩; have n0_ := Aside0.mk (vb_ HO150.out hb); have n1_ := Aside0.mk (vb_ HO154.out hb); have n3_ := Aside0.mk (bb_ BK147.out hb); have n4_ := Aside0.mk (bs_ hb); clear HO150 HO154 BK147 HB; have HO150 := n0_; have HO154 := n1_; have BK147 := n3_; have HB := n4_; clear n0_ n1_ n3_ n4_; (try clear hb); (try clear hb2); (try clear hk); (try clear hi); (try clear ho0)) | ((with_reducible refine gate_callee (f := 12) rfl ?_); refine goesL_ (some 41) rfl rfl Try.func12 (by kernel_rfl) rfl #[.slice Ao73 t148.length co73, .int .i64 2, .agg #[.int .i64 0, .int .i64 0, .int .u32 0, .int .u32 0, .int .u32 0, .int .u32 0, .int .u32 0, .int .u32 0, .int .i64 0]] rfl (by (try simp only [List.map_toArray, List.map_cons, List.map_nil]); first | done | rfl | (simp only [List.length_drop, List.length_take]; rfl)) ?_; (with_reducible refine (runs_Add.calls k (fun k_ => k_ ≠ gb147) _ _ t148 2 0 0 0 0 0 0 0 0 0 t160 t163 _ ?side1 A4.out).mono ?_); (case side1 => exact HO150.out); rintro e w78 ⟨v161, rfl, ho0, hb⟩; refine ⟨_, rfl, ?_⟩; have n1_ := Aside0.mk (vb_ HO154.out hb); have n4_ := Aside0.mk (bb_ BK147.out hb); have n5_ := Aside0.mk (bs_ hb); clear HO150 HO154 BK147 HB; have HO154 := n1_; have BK147 := n4_; have HB := n5_; clear n1_ n4_ n5_; (try clear hb); (try clear hb2); (try clear hk); (try clear hi); (try clear ho0)) | ((with_reducible refine gate_callee (f := 16) rfl ?_); refine goesL_ (some 46) rfl rfl Try.func16 (by kernel_rfl) rfl #[.slice Ao76 t152.length co76, .int .i64 1, .int .i64 1, .int .i64 1, .int .i64 1] rfl (by (try simp only [List.map_toArray, List.map_cons, List.map_nil]); first | done | rfl | (simp only [List.length_drop, List.length_take]; rfl)) ?_; (with_reducible refine (runs_Next.calls k _ _ t152 1 1 1 1 t164 true _ ?side1 ?side2 A5.out).mono ?_); (case side1 => repeat (first | exact (Kd.V_reads' HO154.out).2.2 | (with_reducible refine Kd.C_alloc ?_ _) | (with_reducible refine Kd.C_drewN ?_ _) | (with_reducible refine Kd.C_drew ?_))); (case side2 => exact (Kd.V_reads' HO154.out).2.1); rintro e w79 ⟨rfl, hb⟩; refine ⟨_, rfl, ?_⟩; have n1_ := Aside0.mk (vb_ HO154.out hb); have n4_ := Aside0.mk (bb_ BK147.out hb); have n5_ := Aside0.mk (bs_ hb); clear HO154 BK147 HB; have HO154 := n1_; have BK147 := n4_; have HB := n5_; clear n1_ n4_ n5_; (try clear hb); (try clear hb2); (try clear hk); (try clear hi)) | ((with_reducible refine gate_callee (f := 16) rfl ?_); refine goesL_ (some 51) rfl rfl Try.func16 (by kernel_rfl) rfl #[.slice Ao76 t152.length co76, .int .i64 2, .int .i64 1, .int .i64 1, .int .i64 1] rfl (by (try simp only [List.map_toArray, List.map_cons, List.map_nil]); first | done | rfl | (simp only [List.length_drop, List.length_take]; rfl)) ?_; (with_reducible refine (runs_Next.calls k _ _ t152 2 1 1 1 t166 false _ ?side1 ?side2 A6.out).mono ?_); (case side1 => repeat (first | exact (Kd.V_reads' HO154.out).2.2 | (with_reducible refine Kd.C_alloc ?_ _) | (with_reducible refine Kd.C_drewN ?_ _) | (with_reducible refine Kd.C_drew ?_))); (case side2 => exact (Kd.V_reads' HO154.out).2.1); rintro e w80 ⟨rfl, hb⟩; refine ⟨_, rfl, ?_⟩; have n1_ := Aside0.mk (vb_ HO154.out hb); have n4_ := Aside0.mk (bb_ BK147.out hb); have n5_ := Aside0.mk (bs_ hb); clear HO154 BK147 HB; have HO154 := n1_; have BK147 := n4_; have HB := n5_; clear n1_ n4_ n5_; (try clear hb); (try clear hb2); (try clear hk); (try clear hi)) | ((with_reducible refine gate_callee (f := 14) rfl ?_); refine goesL_ (some 57) rfl rfl Try.func14 (by kernel_rfl) rfl #[.slice Ao76 t152.length co76, .int .i64 0, .agg #[.int .i64 1, .int .i64 1, .int .u32 0, .int .u32 0, .int .u32 0, .int .u32 0, .int .u32 0, .int .u32 0, .int .i64 2]] rfl (by (try simp only [List.map_toArray, List.map_cons, List.map_nil]); first | done | rfl | (simp only [List.length_drop, List.length_take]; rfl)) ?_; (with_reducible refine (runs_Set.calls (fun k_ => k_ ≠ gb147) _ _ t152 0 1 1 0 0 0 0 0 0 2 t168 t171 _ ?side1 A7.out).mono ?_); (case side1 => exact HO154.out); rintro e w81 ⟨v169, rfl, ho0, hb⟩; refine ⟨_, rfl, ?_⟩; have n1_ := Aside0.mk (vb_ HO154.out hb); have n4_ := Aside0.mk (Kd.V_lower (Kd.V_mono (ok' := fun k_ => k_ ≠ gb147) ho0 (fun k_ hk_ => Or.elim hk_ (fun hs_ => hs_) (fun hn_ => (fb_ BK147.out k_ hn_)))) (below_size (by repeat (first | (with_reducible first | exact HB.out | apply below_alloc | apply pw_below_drewN | apply below_drew1 | refine below_set ?_ GE147.out) | exact HB.out)))); have n5_ := Aside0.mk (bb_ BK147.out hb); have n6_ := Aside0.mk (bs_ hb); clear HO154 BK147 HB; have HO154 := n1_; have HO170 := n4_; have BK147 := n5_; have HB := n6_; clear n1_ n4_ n5_ n6_; (try clear hb); (try clear hb2); (try clear hk); (try clear hi); (try clear ho0); obtain ⟨Ao82, co82, eo82⟩ := Kd.V_slice HO170.out; subst eo82) | ((with_reducible refine gate_callee (f := 16) rfl ?_); refine goesL_ (some 62) rfl rfl Try.func16 (by kernel_rfl) rfl #[.slice Ao82 t168.length co82, .int .i64 0, .int .i64 1, .int .i64 1, .int .i64 1] rfl (by (try simp only [List.map_toArray, List.map_cons, List.map_nil]); first | done | rfl | (simp only [List.length_drop, List.length_take]; rfl)) ?_; (with_reducible refine (runs_Next.calls k _ _ t168 0 1 1 1 t172 true _ ?side1 ?side2 A8.out).mono ?_); (case side1 => repeat (first | exact (Kd.V_reads' HO170.out).2.2 | (with_reducible refine Kd.C_alloc ?_ _) | (with_reducible refine Kd.C_drewN ?_ _) | (with_reducible refine Kd.C_drew ?_))); (case side2 => exact (Kd.V_reads' HO170.out).2.1); rintro e w83 ⟨rfl, hb⟩; refine ⟨_, rfl, ?_⟩; have n1_ := Aside0.mk (vb_ HO154.out hb); have n5_ := Aside0.mk (bb_ BK147.out hb); have n6_ := Aside0.mk (bs_ hb); clear HO154 HO170 BK147 HB; have HO154 := n1_; have BK147 := n5_; have HB := n6_; clear n1_ n5_ n6_; (try clear hb); (try clear hb2); (try clear hk); (try clear hi); have ⟨hcz84_0, hcz84_1, hcz84_2, hcz84_3, hcz84_4, hcz84_5, hcz84_6, hcz84_7, hcz84_8⟩ := cz9_ BK147.out; have ⟨hfz84_0, hfz84_1, hfz84_2, hfz84_3, hfz84_4, hfz84_5, hfz84_6, hfz84_7, hfz84_8⟩ := fz9_ BK147.out) | ((with_reducible refine gate_callee (f := 14) rfl ?_); refine goesL_ (some 68) rfl rfl Try.func14 (by kernel_rfl) rfl #[.slice Ao76 t152.length co76, .int .i64 2, .agg #[.int .i64 1, .int .i64 1, .int .u32 0, .int .u32 0, .int .u32 0, .int .u32 0, .int .u32 0, .int .u32 0, .int .i64 1]] rfl (by (try simp only [List.map_toArray, List.map_cons, List.map_nil]); first | done | rfl | (simp only [List.length_drop, List.length_take]; rfl)) ?_; (with_reducible refine (runs_Set.calls (fun k_ => k_ ≠ gb147) _ _ t152 2 1 1 0 0 0 0 0 0 1 t174 t177 _ ?side1 A9.out).mono ?_); (case side1 => exact HO154.out); rintro e w85 ⟨v175, rfl, ho0, hb⟩; refine ⟨_, rfl, ?_⟩; have n1_ := Aside0.mk (vb_ HO154.out hb); have n6_ := Aside0.mk (bb_ BK147.out hb); have n7_ := Aside0.mk (bs_ hb); clear HO154 BK147 HB; have HO154 := n1_; have BK147 := n6_; have HB := n7_; clear n1_ n6_ n7_; (try clear hb); (try clear hb2); (try clear hk); (try clear hi); (try clear ho0); have ⟨hcz86_0, hcz86_1, hcz86_2, hcz86_3, hcz86_4, hcz86_5, hcz86_6, hcz86_7, hcz86_8⟩ := cz9_ BK147.out; have ⟨hfz86_0, hfz86_1, hfz86_2, hfz86_3, hfz86_4, hfz86_5, hfz86_6, hfz86_7, hfz86_8⟩ := fz9_ BK147.out) | (go_at_call 10; (with_reducible refine (runs_May.calls 1 1 0 0 0 0 0 0 1 true _ A40.out).mono ?_); rintro e w87 ⟨rfl, hb⟩; have n1_ := Aside0.mk (vb_ HO154.out hb); have n7_ := Aside0.mk (bs_ hb); clear HO154 BK147 HB; have HO154 := n1_; have HB := n7_; clear n1_ n7_; (try clear hb); (try clear hb2); (try clear hk); (try clear hi)) | (go_at_call 8; (with_reducible refine (runs_Right.calls k _ _ t152 1 false _ ?side1 ?side2 A42.out).mono ?_); (case side1 => repeat (first | exact (Kd.V_reads' HO154.out).2.2 | (with_reducible refine Kd.C_alloc ?_ _) | (with_reducible refine Kd.C_drewN ?_ _) | (with_reducible refine Kd.C_drew ?_))); (case side2 => exact (Kd.V_reads' HO154.out).2.1); rintro e w88 ⟨rfl, hb⟩; have n1_ := Aside0.mk (vb_ HO154.out hb); have n7_ := Aside0.mk (bs_ hb); clear HO154 HB; have HO154 := n1_; have HB := n7_; clear n1_ n7_; (try clear hb); (try clear hb2); (try clear hk); (try clear hi)) | (go_at_call 8; (with_reducible refine (runs_Right.calls k _ _ t152 2 t180 _ ?side1 ?side2 A66.out).mono ?_); (case side1 => repeat (first | exact (Kd.V_reads' HO154.out).2.2 | (with_reducible refine Kd.C_alloc ?_ _) | (with_reducible refine Kd.C_drewN ?_ _) | (with_reducible refine Kd.C_drew ?_))); (case side2 => exact (Kd.V_reads' HO154.out).2.1); rintro e w89 ⟨rfl, hb⟩; have n7_ := Aside0.mk (bs_ hb); clear HO154 HB; have HB := n7_; clear n7_; (try clear hb); (try clear hb2); (try clear hk); (try clear hi)))
                            go_ret
                            exact ⟨by first | rfl | (simp [errW_none, errW_some] <;> rfl) | (simp [*, errW_none, errW_some] <;> rfl), by repeat (first | (with_reducible first | exact HB.out | apply below_alloc | apply pw_below_drewN | apply below_drew1 | refine below_set ?_ GE147.out) | exact HB.out)⟩
                        · replace c41 := Bool.eq_false_iff.mpr c41
                          subst c41
                          have H1 : (some false) = some r := by rw [if_neg (show ¬ (false = true) by decide)] at H; exact H
                          clear H
                          have H := H1
                          clear H1
                          exact absurd (hT.out.symm.trans (Option.some.inj H).symm) (by decide)
                      · rw [if_neg c39] at H
                        have c39b0 : (t177 == 1) = false := beq_eq_false_iff_ne.mpr c39
                        have c39b1 : (t177 != 1) = true := bne_iff_ne.mpr c39
                        exact absurd (hT.out.symm.trans (Option.some.inj H).symm) (by decide)
                    · replace c38 := Bool.eq_false_iff.mpr c38
                      subst c38
                      have H1 : (some false) = some r := by rw [if_neg (show ¬ (false = true) by decide)] at H; exact H
                      clear H
                      have H := H1
                      clear H1
                      exact absurd (hT.out.symm.trans (Option.some.inj H).symm) (by decide)
                  · rw [if_neg c37] at H
                    have c37b0 : (t172 == 1) = false := beq_eq_false_iff_ne.mpr c37
                    have c37b1 : (t172 != 1) = true := bne_iff_ne.mpr c37
                    exact absurd (hT.out.symm.trans (Option.some.inj H).symm) (by decide)
                · rw [if_neg c36] at H
                  have c36b0 : (t171 == 0) = false := beq_eq_false_iff_ne.mpr c36
                  have c36b1 : (t171 != 0) = true := bne_iff_ne.mpr c36
                  exact absurd (hT.out.symm.trans (Option.some.inj H).symm) (by decide)
            · replace c15 := Bool.eq_false_iff.mpr c15
              subst c15
              have H1 : (some false) = some r := by rw [if_neg (show ¬ (false = true) by decide)] at H; exact H
              clear H
              have H := H1
              clear H1
              exact absurd (hT.out.symm.trans (Option.some.inj H).symm) (by decide)
          · rw [if_neg c14] at H
            have c14b0 : (t164 == 1) = false := beq_eq_false_iff_ne.mpr c14
            have c14b1 : (t164 != 1) = true := bne_iff_ne.mpr c14
            exact absurd (hT.out.symm.trans (Option.some.inj H).symm) (by decide)
        · rw [if_neg c13] at H
          have c13b0 : (t163 == 1) = false := beq_eq_false_iff_ne.mpr c13
          have c13b1 : (t163 != 1) = true := bne_iff_ne.mpr c13
          exact absurd (hT.out.symm.trans (Option.some.inj H).symm) (by decide)
      · rw [if_neg c12] at H
        have c12b0 : (t159 == 10) = false := beq_eq_false_iff_ne.mpr c12
        have c12b1 : (t159 != 10) = true := bne_iff_ne.mpr c12
        exact absurd (hT.out.symm.trans (Option.some.inj H).symm) (by decide)
    · rw [if_neg c11] at H
      have c11b0 : (t155 == 0) = false := beq_eq_false_iff_ne.mpr c11
      have c11b1 : (t155 != 0) = true := bne_iff_ne.mpr c11
      exact absurd (hT.out.symm.trans (Option.some.inj H).symm) (by decide)
  · rw [if_neg c10] at H
    have c10b0 : (t151 == 0) = false := beq_eq_false_iff_ne.mpr c10
    have c10b1 : (t151 != 0) = true := bne_iff_ne.mpr c10
    exact absurd (hT.out.symm.trans (Option.some.inj H).symm) (by decide)

end Go.Proofs.Ytjhopebkflgcbaa.PRunsKeeps
