-- Written for this claim by wip/tools/myprint.py (print.py's forms; proofs of the faked functions by hand).
import Derived.Test.YtlbfdmoocgjiaaaPNetOrderx1
import Derived.Test.YtlbfdmoocgjiaaaPNetOrderx0
import Derived.Test.YtlbfdmoocgjiaaaPNetOrderx2
import Derived.Test.YtlbfdmoocgjiaaaPNetOrderx3
import Derived.Test.YtlbfdmoocgjiaaaPNetOrderx4
namespace Go.Proofs.Ytlbfdmoocgjiaaa.PNetOrder
open Go.RowKit Go.Proofs.YtlbfdmoocgjiaaaW.PrintWords Go.Proofs.YtlbfdmoocgjiaaaW.PrintLast Go.Proofs.YtlbfdmoocgjiaaaW.PrintMore
attribute [local go_sem] max2_int min2_int max_two min_two max_three min_three max_four min_four   -- for this text's walks alone
set_option linter.unusedVariables false
set_option linter.unusedSimpArgs false

/-! ### chamberlainlaw06_NetOrder: function 5 -/
mutual
def chamberlainlaw06_NetOrder.j0 : Nat → List Int → Bool → Option (Bool)
  | 0, _, _ => none
  | k + 1, x0, x21 => if x21 = true then ((chamberlainlaw06_awake.f k).bind fun t280 => (some t280)) else (chamberlainlaw06_NetOrder.l0 k x0 0 64 ([] : List (S29)) ([] : List (List Int)))
def chamberlainlaw06_NetOrder.l0 : Nat → List Int → Int → Int → List (S29) → List (List Int) → Option (Bool)
  | 0, _, _, _, _, _ => none
  | k + 1, x0, x4, x282000, x282001, x282002 => if x4 < (x0.length : Int) then (if 0 ≤ x4 then (if x4 ≤ (wrap64 (x4 + 1)) then (if (wrap64 (x4 + 1)) ≤ (x0.length : Int) then ((net_Send.f x282000 x282001 x282002 (rd x0 x4) ((x0.take ((wrap64 (x4 + 1)) : Int).toNat).drop (x4 : Int).toNat)).bind fun bt284 => (if bt284.2.2.2 = 0 then (if (bt284.2.1.length : Int) = (wrap64 (x4 + 1)) then (chamberlainlaw06_NetOrder.l0 k x0 (wrap64 (x4 + 1)) bt284.1 bt284.2.1 bt284.2.2.1) else (some false)) else (some false))) else (none)) else (none)) else (none)) else (chamberlainlaw06_NetOrder.l1 k x0 0 x282000 x282001 x282002 x282000 x282001 x282002)
def chamberlainlaw06_NetOrder.l1 : Nat → List Int → Int → Int → List (S29) → List (List Int) → Int → List (S29) → List (List Int) → Option (Bool)
  | 0, _, _, _, _, _, _, _, _ => none
  | k + 1, x0, x8, x282000, x282001, x282002, x294000, x294001, x294002 => if x8 < (x0.length : Int) then ((net_Take.f x282000 x282001 x282002 0).bind fun bt294 => ((net_Take.f x294000 x294001 x294002 (wrap64 ((wrap64 ((x0.length : Int) - 1)) - x8))).bind fun bt308 => (if bt294.2.2.2.2.2 = 0 then (if bt308.2.2.2.2.2 = 0 then (if 0 ≤ x8 then (if bt294.2.2.2.1 = (rd x0 x8) then (if 0 ≤ (wrap64 ((wrap64 ((x0.length : Int) - 1)) - x8)) then (if (wrap64 ((wrap64 ((x0.length : Int) - 1)) - x8)) < (x0.length : Int) then (if bt308.2.2.2.1 = (rd x0 (wrap64 ((wrap64 ((x0.length : Int) - 1)) - x8))) then (chamberlainlaw06_NetOrder.l1 k x0 (wrap64 (x8 + 1)) bt294.1 bt294.2.1 bt294.2.2.1 bt308.1 bt308.2.1 bt308.2.2.1) else (some false)) else (none)) else (none)) else (some false)) else (none)) else (some false)) else (some false)))) else (if (x282001.length : Int) = 0 then (if (x294001.length : Int) = 0 then (some ((x282002.length : Int) == (x0.length : Int))) else (some false)) else (some false))
end
def chamberlainlaw06_NetOrder.f (k : Nat) (l0 : List Int) : Option (Bool) := (chamberlainlaw06_awake.f k).bind fun t279 => (if t279 = true then (chamberlainlaw06_NetOrder.j0 k l0 (decide ((l0.length : Int) > 60))) else (chamberlainlaw06_NetOrder.j0 k l0 true))
theorem chamberlainlaw06_NetOrder.mono_l : ∀ k, (∀ y0 y1, LeO (chamberlainlaw06_NetOrder.j0 k y0 y1) (chamberlainlaw06_NetOrder.j0 (k + 1) y0 y1)) ∧ (∀ y0 y1 y2 y3 y4, LeO (chamberlainlaw06_NetOrder.l0 k y0 y1 y2 y3 y4) (chamberlainlaw06_NetOrder.l0 (k + 1) y0 y1 y2 y3 y4)) ∧ (∀ y0 y1 y2 y3 y4 y5 y6 y7, LeO (chamberlainlaw06_NetOrder.l1 k y0 y1 y2 y3 y4 y5 y6 y7) (chamberlainlaw06_NetOrder.l1 (k + 1) y0 y1 y2 y3 y4 y5 y6 y7))
  | 0 => ⟨fun _ _ r h => by simp [chamberlainlaw06_NetOrder.j0] at h, fun _ _ _ _ _ r h => by simp [chamberlainlaw06_NetOrder.l0] at h, fun _ _ _ _ _ _ _ _ r h => by simp [chamberlainlaw06_NetOrder.l1] at h⟩
  | k + 1 => by
    obtain ⟨ih0, ih1, ih2⟩ := chamberlainlaw06_NetOrder.mono_l k
    refine ⟨?_, ?_, ?_⟩
    · intro y0 y1
      unfold chamberlainlaw06_NetOrder.j0
      repeat' first
      | (with_reducible exact ih0 _ _)
      | (with_reducible exact ih1 _ _ _ _ _)
      | (with_reducible exact ih2 _ _ _ _ _ _ _ _)
      | (with_reducible exact chamberlainlaw06_awake.mono _)
      | (with_reducible exact LeO.refl _)
      | (with_reducible exact LeO.none _)
      | (with_reducible refine LeO.ite ?_ ?_)
      | (with_reducible refine LeO.bind ?_ (fun _ => ?_))
      | exact ih0 _ _
      | exact ih1 _ _ _ _ _
      | exact ih2 _ _ _ _ _ _ _ _
      | exact chamberlainlaw06_awake.mono _
      | exact LeO.none _
      | refine LeO.ite ?_ ?_
      | refine LeO.bind ?_ (fun _ => ?_)
    · intro y0 y1 y2 y3 y4
      unfold chamberlainlaw06_NetOrder.l0
      repeat' first
      | (with_reducible exact ih0 _ _)
      | (with_reducible exact ih1 _ _ _ _ _)
      | (with_reducible exact ih2 _ _ _ _ _ _ _ _)
      | (with_reducible exact chamberlainlaw06_awake.mono _)
      | (with_reducible exact LeO.refl _)
      | (with_reducible exact LeO.none _)
      | (with_reducible refine LeO.ite ?_ ?_)
      | (with_reducible refine LeO.bind ?_ (fun _ => ?_))
      | exact ih0 _ _
      | exact ih1 _ _ _ _ _
      | exact ih2 _ _ _ _ _ _ _ _
      | exact chamberlainlaw06_awake.mono _
      | exact LeO.none _
      | refine LeO.ite ?_ ?_
      | refine LeO.bind ?_ (fun _ => ?_)
    · intro y0 y1 y2 y3 y4 y5 y6 y7
      unfold chamberlainlaw06_NetOrder.l1
      repeat' first
      | (with_reducible exact ih0 _ _)
      | (with_reducible exact ih1 _ _ _ _ _)
      | (with_reducible exact ih2 _ _ _ _ _ _ _ _)
      | (with_reducible exact chamberlainlaw06_awake.mono _)
      | (with_reducible exact LeO.refl _)
      | (with_reducible exact LeO.none _)
      | (with_reducible refine LeO.ite ?_ ?_)
      | (with_reducible refine LeO.bind ?_ (fun _ => ?_))
      | exact ih0 _ _
      | exact ih1 _ _ _ _ _
      | exact ih2 _ _ _ _ _ _ _ _
      | exact chamberlainlaw06_awake.mono _
      | exact LeO.none _
      | refine LeO.ite ?_ ?_
      | refine LeO.bind ?_ (fun _ => ?_)
theorem chamberlainlaw06_NetOrder.mono : ∀ a0 k, LeO (chamberlainlaw06_NetOrder.f k a0) (chamberlainlaw06_NetOrder.f (k + 1) a0) := by
  intro a0 k
  obtain ⟨ih0, ih1, ih2⟩ := chamberlainlaw06_NetOrder.mono_l k
  unfold chamberlainlaw06_NetOrder.f
  repeat' first
      | (with_reducible exact ih0 _ _)
      | (with_reducible exact ih1 _ _ _ _ _)
      | (with_reducible exact ih2 _ _ _ _ _ _ _ _)
      | (with_reducible exact chamberlainlaw06_awake.mono _)
      | (with_reducible exact LeO.refl _)
      | (with_reducible exact LeO.none _)
      | (with_reducible refine LeO.ite ?_ ?_)
      | (with_reducible refine LeO.bind ?_ (fun _ => ?_))
      | exact ih0 _ _
      | exact ih1 _ _ _ _ _
      | exact ih2 _ _ _ _ _ _ _ _
      | exact chamberlainlaw06_awake.mono _
      | exact LeO.none _
      | refine LeO.ite ?_ ?_
      | refine LeO.bind ?_ (fun _ => ?_)
def chamberlainlaw06_NetOrder.T7 : Bool × List (List Nat × List Nat) := (true, [([], []), ([], []), ([], []), ([1, 2], [1, 2]), ([3], [3]), ([], []), ([], []), ([], []), ([7], [7]), ([5, 6, 8], [5, 6, 8]), ([4, 9], [4, 9]), ([0, 10], [0, 10]), ([11], [11]), ([12], [12]), ([12], [12]), ([], []), ([15, 13, 11, 0, 1, 2, 3, 4, 5, 6, 7, 8, 9, 10, 11, 12, 13, 15], [13, 15]), ([14, 16, 0, 1, 2, 3, 4, 5, 6, 7, 8, 9, 10, 11, 12, 13, 14, 15, 16], [14])])
def chamberlainlaw06_NetOrder.B7 : List Nat := [0, 0, 0, 6, 14, 0, 0, 0, 128, 480, 1022, 2047, 4095, 8191, 8191, 0, 49151, 131071]
theorem chamberlainlaw06_NetOrder.tab7 : rtab .any (opsOf Try.f5 7) = chamberlainlaw06_NetOrder.T7 := by kernel_rfl
theorem chamberlainlaw06_NetOrder.bits7 : waitsOk chamberlainlaw06_NetOrder.T7.2 chamberlainlaw06_NetOrder.B7 = true := by kernel_rfl
def chamberlainlaw06_NetOrder.T17 : Bool × List (List Nat × List Nat) := (true, [([], []), ([0], [0]), ([1], [1]), ([2], [2]), ([3, 2], [2, 3]), ([2, 4], [2, 4]), ([5, 2], [5]), ([6], [6]), ([7, 6], [6, 7]), ([6], [6]), ([6], [6]), ([9, 10, 6], [6, 9, 10]), ([11, 6], [6, 11]), ([8, 12, 6], [6, 8, 12]), ([6, 13], [6, 13]), ([14, 6], [14]), ([15], [15]), ([16, 15], [15, 16]), ([15], [15]), ([15], [15]), ([19, 15], [15, 19]), ([20, 15], [15, 20]), ([15], [15]), ([21, 22, 15], [15, 21, 22]), ([18, 23, 15], [15, 18, 23]), ([24, 15], [15, 24]), ([17, 25, 15], [15, 17, 25]), ([15, 26], [15, 26])])
def chamberlainlaw06_NetOrder.B17 : List Nat := [0, 1, 3, 7, 15, 31, 63, 127, 255, 127, 127, 1663, 3711, 8191, 16383, 32767, 65535, 131071, 65535, 65535, 589823, 1638399, 65535, 7929855, 16580607, 33357823, 67108863, 134217727]
theorem chamberlainlaw06_NetOrder.tab17 : rtab .any (opsOf Try.f5 17) = chamberlainlaw06_NetOrder.T17 := by kernel_rfl
theorem chamberlainlaw06_NetOrder.bits17 : waitsOk chamberlainlaw06_NetOrder.T17.2 chamberlainlaw06_NetOrder.B17 = true := by kernel_rfl
set_option maxHeartbeats 8000000 in
set_option maxRecDepth 100000 in
theorem chamberlainlaw06_NetOrder.calls (k : Nat) (A0 : Option Addr) (c0 : Nat) (l0 : List Int) (r : Bool) (w : World) (hr0 : Kd.C (Kd.int .u32) w A0 l0.length l0) (hc0 : l0.length ≤ c0) (h : chamberlainlaw06_NetOrder.f k l0 = some r) (hT0 : r = true) :
    Calls Try.prog 5 #[.slice A0 l0.length c0] w fun e w' => e = .returned (.bool r) ∧ Below w.heap.size w w' := by
  have hT := Aside0.mk hT0
  clear hT0
  have hu25 := Try.underlying25
  have hu29 := Try.underlying29
  have HR0 := Aside0.mk hr0
  have HC0 := Aside0.mk hc0
  clear hr0 hc0
  have HB := Aside0.mk (Below.refl w.heap.size w)
  have H : ((chamberlainlaw06_awake.f k).bind fun t279 => (if t279 = true then (chamberlainlaw06_NetOrder.j0 k l0 (decide ((l0.length : Int) > 60))) else (chamberlainlaw06_NetOrder.j0 k l0 true))) = some r := h
  clear h
  have HC2 := Aside0.mk H
  clear H
  go_enter Try.func5, Try.ntmps5
  go_upto_region 1 with (fail)
  go_cut [21] (fun v21 wc => ∃ (kq : Nat) (x21_1 : Bool), v21 = .bool x21_1 ∧ Aside0 (chamberlainlaw06_NetOrder.j0 kq l0 x21_1 = some r) ∧ Aside0 (kq ≤ k) ∧ Aside0 (Below w.heap.size w wc))
  case first =>
    have H := HC2.out
    clear HC2
    replace H := Option.bind_eq_some_iff.mp H
    obtain ⟨t279, A30, H⟩ := H
    replace H : (if t279 = true then (chamberlainlaw06_NetOrder.j0 k l0 (decide ((l0.length : Int) > 60))) else (chamberlainlaw06_NetOrder.j0 k l0 true)) = some r := H
    have A3 := Aside0.mk A30
    clear A30
    by_cases c4 : t279 = true
    · subst c4
      have H1 : (chamberlainlaw06_NetOrder.j0 k l0 (decide ((l0.length : Int) > 60))) = some r := by rw [if_pos rfl] at H; exact H
      clear H
      have H := H1
      clear H1
      have H' := Aside0.mk H
      clear H
      go_wp2_with (first | ((with_reducible refine gate_callee (f := 8) rfl ?_); refine goesL_ (some 15) rfl rfl Try.func8 (by kernel_rfl) rfl #[] rfl (by (try simp only [List.map_toArray, List.map_cons, List.map_nil]); first | done | rfl | (simp only [List.length_drop, List.length_take]; rfl)) ?_; (with_reducible refine (chamberlainlaw06_awake.calls k  true _ A3.out).mono ?_); rintro e w5 ⟨rfl, hb⟩; refine ⟨_, rfl, ?_⟩; have n0_ := Aside0.mk (bs_ hb); clear HB; have HB := n0_; clear n0_; (try clear hb); (try clear hb2); (try clear hk); (try clear hi)))
      go_meet
      case rel => exact ⟨_, (decide ((l0.length : Int) > 60)), (by first | rfl | (simp; done) | (simp [*]; done)), H', ⟨by first | omega | exact Nat.le_refl _⟩, ⟨by repeat (first | (with_reducible first | exact HB.out | apply below_alloc | apply pw_below_drewN | apply below_drew1) | exact HB.out)⟩⟩
    · replace c4 := Bool.eq_false_iff.mpr c4
      subst c4
      have H1 : (chamberlainlaw06_NetOrder.j0 k l0 true) = some r := by rw [if_neg (show ¬ (false = true) by decide)] at H; exact H
      clear H
      have H := H1
      clear H1
      have H' := Aside0.mk H
      clear H
      go_wp2_with (first | ((with_reducible refine gate_callee (f := 8) rfl ?_); refine goesL_ (some 15) rfl rfl Try.func8 (by kernel_rfl) rfl #[] rfl (by (try simp only [List.map_toArray, List.map_cons, List.map_nil]); first | done | rfl | (simp only [List.length_drop, List.length_take]; rfl)) ?_; (with_reducible refine (chamberlainlaw06_awake.calls k  false _ A3.out).mono ?_); rintro e w6 ⟨rfl, hb⟩; refine ⟨_, rfl, ?_⟩; have n0_ := Aside0.mk (bs_ hb); clear HB; have HB := n0_; clear n0_; (try clear hb); (try clear hb2); (try clear hk); (try clear hi)))
      go_meet
      case rel => exact ⟨_, (true), (by first | rfl | (simp; done) | (simp [*]; done)), H', ⟨by first | omega | exact Nat.le_refl _⟩, ⟨by repeat (first | (with_reducible first | exact HB.out | apply below_alloc | apply pw_below_drewN | apply below_drew1) | exact HB.out)⟩⟩
  case rest =>
    clear HC2
    try clear p2
    try clear c4
    try clear c5
    obtain ⟨kq, x21_1, rfl, HA, HJ1, HB⟩ := hcut
    cases kq with
    | zero => exact absurd HA.out (by simp [chamberlainlaw06_NetOrder.j0])
    | succ kj1 =>
      have H := HA.out
      clear HA
      simp only [chamberlainlaw06_NetOrder.j0] at H
      by_cases c7 : x21_1 = true
      · subst c7
        have H1 : ((chamberlainlaw06_awake.f kj1).bind fun t280 => (some t280)) = some r := by rw [if_pos rfl] at H; exact H
        clear H
        have H := H1
        clear H1
        replace H := Option.bind_eq_some_iff.mp H
        obtain ⟨t280, A80, H⟩ := H
        replace H : (some t280) = some r := H
        have A8 := Aside0.mk A80
        clear A80
        obtain rfl := Option.some.inj H
        go_wp2_with (first | ((with_reducible refine gate_callee (f := 8) rfl ?_); refine goesL_ (some 22) rfl rfl Try.func8 (by kernel_rfl) rfl #[] rfl (by (try simp only [List.map_toArray, List.map_cons, List.map_nil]); first | done | rfl | (simp only [List.length_drop, List.length_take]; rfl)) ?_; (with_reducible refine (chamberlainlaw06_awake.calls kj1  t280 _ A8.out).mono ?_); rintro e w9 ⟨rfl, hb⟩; refine ⟨_, rfl, ?_⟩; have n0_ := Aside0.mk (bs_ hb); clear HB; have HB := n0_; clear n0_; (try clear hb); (try clear hb2); (try clear hk); (try clear hi)))
        go_ret
        exact ⟨by first | rfl | (simp [errW_none, errW_some] <;> rfl) | (simp [*, errW_none, errW_some] <;> rfl), by repeat (first | (with_reducible first | exact HB.out | apply below_alloc | apply pw_below_drewN | apply below_drew1) | exact HB.out)⟩
      · replace c7 := Bool.eq_false_iff.mpr c7
        subst c7
        have H1 : (chamberlainlaw06_NetOrder.l0 kj1 l0 0 64 ([] : List (S29)) ([] : List (List Int))) = some r := by rw [if_neg (show ¬ (false = true) by decide)] at H; exact H
        clear H
        have H := H1
        clear H1
        have H' := Aside0.mk H
        clear H
        go_wp2_with (first | ((with_reducible refine gate_dst (N := 3) rfl ?_); (try (refine gate_guard (by rfl) ?_; dsimp only)); refine box_event ?hg (N := 3) ?hd (cs := #[.int .i64 0, .slice none 0 0, .slice none 0 0]) (t := 25) ?hr ?_; (case hd => rfl); (case hg => rfl); (case hr => first | (go_simp; done) | (go_simp; rfl)); intro gb281 hg w10 hbox hb; have n0_ := Aside0.mk (bs_ hb); have n1_ := Aside0.mk (hbox); have n2_ := Aside0.mk ((ge_ hg : w.heap.size ≤ gb281)); have n3_ := Aside0.mk ((ge_ hg : w.heap.size ≤ gb281)); clear HB; have HB := n0_; have BK281 := n1_; have GW281 := n2_; have GE281 := n3_; clear n0_ n1_ n2_ n3_; clear hb hbox hg; have ⟨hcz11_0, hcz11_1, hcz11_2⟩ := cz3_ BK281.out; have ⟨hfz11_0, hfz11_1, hfz11_2⟩ := fz3_ BK281.out))
        go_loopg [4] kj1 (fun kq v4 w' => ∃ (x4_2 : Int) (x282000_2 : Int) (x282001_2 : List (S29)) (x282002_2 : List (List Int)) (u282001 : Value) (u282002 : Value), v4 = .int .i64 x4_2 ∧ Aside0 (chamberlainlaw06_NetOrder.l0 kq l0 x4_2 x282000_2 x282001_2 x282002_2 = some r) ∧ Aside0 (kq ≤ kj1) ∧ Aside0 (Kd.V k29 29 w' w.heap.size (fun k_ => k_ ≠ gb281) u282001 x282001_2) ∧ Aside0 (Kd.V (Kd.slice 26 (Kd.int .u32)) 27 w' w.heap.size (fun k_ => k_ ≠ gb281) u282002 x282002_2) ∧ Aside0 (w'.heap[gb281]? = some (.cells #[.int .i64 x282000_2, u282001, u282002] 25 (0, 0))) ∧ Aside0 (Below w.heap.size w w'))
        case atStart => exact ⟨(0), (64), (([] : List (S29))), (([] : List (List Int))), (.slice none 0 0), (.slice none 0 0), (by first | rfl | (simp; done) | (simp [*]; done)), H', ⟨Nat.le_refl _⟩, ⟨Kd.V_nil _ _ _ _ _⟩, ⟨Kd.V_nil _ _ _ _ _⟩, ⟨by (with_reducible repeat (first | refine blk_drewN ?_ _ | refine blk_drew ?_ | refine blk_alloc ?_ _)); refine blk_put (cs := #[.int .i64 64, .slice none 0 0, .slice none 0 0]) ?_ 2 _ rfl; (with_reducible repeat (first | refine blk_drewN ?_ _ | refine blk_drew ?_ | refine blk_alloc ?_ _)); refine blk_put (cs := #[.int .i64 64, .slice none 0 0, .slice none 0 0]) ?_ 1 _ rfl; (with_reducible repeat (first | refine blk_drewN ?_ _ | refine blk_drew ?_ | refine blk_alloc ?_ _)); refine blk_put (cs := #[.int .i64 0, .slice none 0 0, .slice none 0 0]) ?_ 0 _ rfl; (with_reducible repeat (first | refine blk_drewN ?_ _ | refine blk_drew ?_ | refine blk_alloc ?_ _)); exact BK281.out⟩, ⟨by repeat (first | (with_reducible first | exact HB.out | apply below_alloc | apply pw_below_drewN | apply below_drew1 | refine below_set ?_ GE281.out) | exact HB.out)⟩⟩
        case round =>
          clear H'
          try clear p2
          try clear c4
          try clear c5
          try clear c7
          try clear c8
          try clear hcz11_0
          try clear hcz11_1
          try clear hcz11_2
          try clear hfz11_0
          try clear hfz11_1
          try clear hfz11_2
          try clear p2
          obtain ⟨x4_2, x282000_2, x282001_2, x282002_2, u282001, u282002, rfl, HA, HK2, HO_282001, HO_282002, BK281, HB⟩ := hrel
          cases gk with
          | zero => exact absurd HA.out (by simp [chamberlainlaw06_NetOrder.l0])
          | succ k2 =>
            have H := HA.out
            clear HA
            simp only [chamberlainlaw06_NetOrder.l0] at H
            by_cases c12 : x4_2 < (l0.length : Int)
            · rw [if_pos c12] at H
              have c12b0 : decide (x4_2 < (l0.length : Int)) = true := decide_eq_true c12
              clear c12
              by_cases c13 : 0 ≤ x4_2
              · rw [if_pos c13] at H
                have c13b0 : decide (0 ≤ x4_2) = true := decide_eq_true c13
                clear c13
                have c14b0 := eq_true (of_decide_eq_true (by first | (with_reducible assumption) | assumption) : 0 ≤ x4_2)
                by_cases c15 : x4_2 ≤ (wrap64 (x4_2 + 1))
                · rw [if_pos c15] at H
                  have c15b0 := eq_true c15
                  have c15b1 : decide (x4_2 ≤ (wrap64 (x4_2 + 1))) = true := decide_eq_true c15
                  by_cases c16 : (wrap64 (x4_2 + 1)) ≤ (l0.length : Int)
                  · rw [if_pos c16] at H
                    have c16b0 := eq_true c16
                    have c16b1 : decide ((wrap64 (x4_2 + 1)) ≤ (l0.length : Int)) = true := decide_eq_true c16
                    replace H := Option.bind_eq_some_iff.mp H
                    obtain ⟨⟨t284, t285, t288, t291⟩, A170, H⟩ := H
                    replace H : (if t291 = 0 then (if (t285.length : Int) = (wrap64 (x4_2 + 1)) then (chamberlainlaw06_NetOrder.l0 k2 l0 (wrap64 (x4_2 + 1)) t284 t285 t288) else (some false)) else (some false)) = some r := H
                    have A17 := Aside0.mk A170
                    clear A170
                    by_cases c18 : t291 = 0
                    · rw [if_pos c18] at H
                      have c18b0 : (t291 == 0) = true := beq_iff_eq.mpr c18
                      have c18b1 : (t291 != 0) = false := bne_eq_false_iff_eq.mpr c18
                      clear c18
                      by_cases c19 : (t285.length : Int) = (wrap64 (x4_2 + 1))
                      · rw [if_pos c19] at H
                        have c19b0 : ((t285.length : Int) == (wrap64 (x4_2 + 1))) = true := beq_iff_eq.mpr c19
                        have c19b1 : ((t285.length : Int) != (wrap64 (x4_2 + 1))) = false := bne_eq_false_iff_eq.mpr c19
                        clear c19
                        have H' := Aside0.mk H
                        clear H
                        obtain ⟨Ao20, co20, eo20⟩ := Kd.V_slice HO_282001.out
                        subst eo20
                        obtain ⟨Ao21, co21, eo21⟩ := Kd.V_slice HO_282002.out
                        subst eo21
                        try go_wp2
                        have n0_ := Aside0.mk (Kd.V_drew HO_282001.out)
                        have n1_ := Aside0.mk (Kd.V_drew HO_282002.out)
                        have n2_ := Aside0.mk (blk_drew BK281.out)
                        have n3_ := Aside0.mk (below_drew1 HB.out)
                        clear HO_282001 HO_282002 BK281 HB
                        have HO_282001 := n0_
                        have HO_282002 := n1_
                        have BK281 := n2_
                        have HB := n3_
                        clear n0_ n1_ n2_ n3_
                        have p282 : 0 ≤ (x4_2 : Int) := of_decide_eq_true (by first | (with_reducible assumption) | assumption)
                        have q282 : x4_2 < (l0.length : Int) := of_decide_eq_true (by first | (with_reducible assumption) | assumption)
                        obtain ⟨ad282, e282, hx282_0⟩ := Kd.at_int HR0.out x4_2 p282 q282
                        have hw282_0 := hx282_0
                        cases e282
                        replace hx282_0 := (HB.out.cell (World.block_lt_of_cell? w _ hx282_0)).trans hx282_0
                        replace p282 := eq_true p282
                        replace q282 := eq_true q282
                        obtain ⟨i023, hi023, _, hsz23, _⟩ := info_parts info26
                        obtain ⟨A23, hcut23, hA23, hC23⟩ := print_mid_of (P := Try.prog) (Value.int .u32) 0 27 26 .i64 .i64 Try.underlying27 hi023 hsz23 (some ad282) c0 l0 x4_2 (wrap64 (x4_2 + 1)) (of_decide_eq_true (by first | (with_reducible assumption) | assumption)) (by first | omega | exact of_decide_eq_true (by first | (with_reducible assumption) | assumption)) (of_decide_eq_true (by first | (with_reducible assumption) | assumption)) HC0.out
                        have HR283 := Aside0.mk (Kd.C_of_reads (h1 := fun _ => rfl) (hA23 _ (Kd.reads_of_C HR0.out)))
                        have HC283 := Aside0.mk hC23
                        clear hA23 hC23 hi023 hsz23
                        refine start_ (n := 18) (S := fun w' => w'.cell? ⟨gb281, 0, none⟩ = some (.int .i64 x282000_2) ∧ w'.cell? ⟨gb281, 1, none⟩ = some (.slice Ao20 x282001_2.length co20) ∧ w'.cell? ⟨gb281, 2, none⟩ = some (.slice Ao21 x282002_2.length co21) ∧ w'.cell? (ad282.add (x4_2).toNat) = some (.int .u32 (rd l0 x4_2))) (ds := []) #[false, false, false, false, false, false, false, false, false, false, false, false, false, false, false, false, false, false] (by kernel_rfl) rfl rfl ⟨(blk_cell BK281.out 0).trans rfl, (blk_cell BK281.out 1).trans rfl, (blk_cell BK281.out 2).trans rfl, ((HB.out.cell (World.block_lt_of_cell? w _ hw282_0)).trans hw282_0)⟩ (fun hHeld => ?_); refine with_tabW chamberlainlaw06_NetOrder.tab7 chamberlainlaw06_NetOrder.bits7 (fun HT_ HW_ => ?_)
                        generalize wr.drew = w22 at HO_282001 HO_282002 BK281 HB HR283 hx282_0 hHeld ⊢
                        refine pure_ (i := 1) (N := some 32) (v := ?_) (a' := ?_) #[false, true, false, false, false, false, false, false, false, false, false, false, false, false, false, false, false, false] rfl rfl (any_of HT_.out (by kernel_rfl)) (fun _ _ _ h => h) (Or.inl ⟨by rfl, ?_⟩) ?_ ?_
                        rotate_left
                        · intro w'
                          go_simp
                          with_reducible rfl
                        rotate_left
                        · simp only [Act.put, List.setIfInBounds_toArray, List.set_cons_zero, List.set_cons_succ, i64_w, i32_w]
                          rfl
                        refine pure_ (i := 2) (N := some 33) (v := ?_) (a' := ?_) #[false, true, true, false, false, false, false, false, false, false, false, false, false, false, false, false, false, false] rfl rfl (any_of HT_.out (by kernel_rfl)) (fun _ _ _ h => h) (Or.inl ⟨by rfl, ?_⟩) ?_ ?_
                        rotate_left
                        · intro w'
                          go_simp
                          with_reducible rfl
                        rotate_left
                        · simp only [Act.put, List.setIfInBounds_toArray, List.set_cons_zero, List.set_cons_succ, i64_w, i32_w]
                          rfl
                        refine pure_ (i := 3) (N := some 34) (v := ?_) (a' := ?_) #[false, true, true, true, false, false, false, false, false, false, false, false, false, false, false, false, false, false] rfl rfl (any_of HT_.out (by kernel_rfl)) (fun _ _ _ h => h) (Or.inl ⟨by rfl, ?_⟩) ?_ ?_
                        rotate_left
                        · intro w'
                          go_simp
                          with_reducible rfl
                        rotate_left
                        · simp only [Act.put, List.setIfInBounds_toArray, List.set_cons_zero, List.set_cons_succ, i64_w, i32_w]
                          rfl
                        refine pure_ (i := 5) (N := some 36) (v := ?_) (a' := ?_) #[false, true, true, true, false, true, false, false, false, false, false, false, false, false, false, false, false, false] rfl rfl (any_of HT_.out (by kernel_rfl)) (fun _ _ _ h => h) (Or.inl ⟨by rfl, ?_⟩) ?_ ?_
                        rotate_left
                        · intro w'
                          go_simp
                          with_reducible rfl
                        rotate_left
                        · simp only [Act.put, List.setIfInBounds_toArray, List.set_cons_zero, List.set_cons_succ, i64_w, i32_w]
                          rfl
                        refine pure_ (i := 6) (N := some 37) (v := ?_) (a' := ?_) #[false, true, true, true, false, true, true, false, false, false, false, false, false, false, false, false, false, false] rfl rfl (any_of HT_.out (by kernel_rfl)) (fun _ _ _ h => h) (Or.inl ⟨by rfl, ?_⟩) ?_ ?_
                        rotate_left
                        · intro w'
                          go_simp
                          with_reducible rfl
                        rotate_left
                        · simp only [Act.put, List.setIfInBounds_toArray, List.set_cons_zero, List.set_cons_succ, i64_w, i32_w]
                          rfl
                        refine pure_ (i := 7) (N := some 38) (v := ?_) (a' := ?_) #[false, true, true, true, false, true, true, true, false, false, false, false, false, false, false, false, false, false] rfl rfl (any_of HT_.out (by kernel_rfl)) (fun _ _ _ h => h) (Or.inl ⟨by rfl, ?_⟩) ?_ ?_
                        rotate_left
                        · intro w'
                          go_simp
                          with_reducible rfl
                        rotate_left
                        · simp only [Act.put, List.setIfInBounds_toArray, List.set_cons_zero, List.set_cons_succ, i64_w, i32_w]
                          rfl
                        refine pure_ (i := 8) (N := some 39) (v := ?_) (a' := ?_) #[false, true, true, true, false, true, true, true, true, false, false, false, false, false, false, false, false, false] rfl rfl (any_of HT_.out (by kernel_rfl)) (fun _ _ _ h => h) (Or.inl ⟨by rfl, ?_⟩) ?_ ?_
                        rotate_left
                        · intro w'
                          go_simp
                          with_reducible rfl
                        rotate_left
                        · simp only [Act.put, List.setIfInBounds_toArray, List.set_cons_zero, List.set_cons_succ, i64_w, i32_w]
                          rfl
                        refine pure_ (i := 9) (N := some 40) (v := ?_) (a' := ?_) #[false, true, true, true, false, true, true, true, true, true, false, false, false, false, false, false, false, false] rfl rfl (any_of HT_.out (by kernel_rfl)) (fun _ _ _ h => h) (Or.inl ⟨by rfl, ?_⟩) ?_ ?_
                        rotate_left
                        · intro w'
                          go_simp
                          with_reducible rfl
                        rotate_left
                        · simp only [Act.put, List.setIfInBounds_toArray, List.set_cons_zero, List.set_cons_succ, i64_w, i32_w]
                          rfl
                        refine take_ (i := 0) (N := some 31) (v := ?_) (a' := ?_) #[true, true, true, true, false, true, true, true, true, true, false, false, false, false, false, false, false, false] rfl rfl (take_ofW HT_.out HW_.out (by kernel_rfl)) (fun _ _ _ h => h) (Or.inl ⟨by rfl, ?_⟩) hHeld ?_ ?_
                        rotate_left
                        · rintro w' ⟨s0, s1, s2, s3⟩
                          go_simp
                          with_reducible rfl
                        rotate_left
                        · simp only [Act.put, List.setIfInBounds_toArray, List.set_cons_zero, List.set_cons_succ, i64_w, i32_w]
                          rfl
                        refine take_ (i := 4) (N := some 35) (v := ?_) (a' := ?_) #[true, true, true, true, true, true, true, true, true, true, false, false, false, false, false, false, false, false] rfl rfl (take_ofW HT_.out HW_.out (by kernel_rfl)) (fun _ _ _ h => h) (Or.inl ⟨by rfl, ?_⟩) hHeld ?_ ?_
                        rotate_left
                        · rintro w' ⟨s0, s1, s2, s3⟩
                          go_simp
                          with_reducible rfl
                        rotate_left
                        · simp only [Act.put, List.setIfInBounds_toArray, List.set_cons_zero, List.set_cons_succ, i64_w, i32_w]
                          rfl
                        refine pure_ (i := 10) (N := some 41) (v := ?_) (a' := ?_) #[true, true, true, true, true, true, true, true, true, true, true, false, false, false, false, false, false, false] rfl rfl (any_of HT_.out (by kernel_rfl)) (fun _ _ _ h => h) (Or.inl ⟨by rfl, ?_⟩) ?_ ?_
                        rotate_left
                        · intro w'
                          go_simp
                          with_reducible rfl
                        rotate_left
                        · simp only [Act.put, List.setIfInBounds_toArray, List.set_cons_zero, List.set_cons_succ, i64_w, i32_w]
                          rfl
                        refine join_ (σ := Value × Value × Nat) 2 #[true, true, true, true, true, true, true, true, true, true, true, true, true, true, true, true, false, false] (fun s_ => [(42, .tuple #[.agg #[.int .i64 t284, s_.1, s_.2.1], .int .i64 t291]), (5, .pointer (some ⟨s_.2.2, 0, none⟩)), (30, .tuple #[.agg #[.int .i64 t284, s_.1, s_.2.1], .int .i64 t291]), (43, .agg #[.int .i64 t284, s_.1, s_.2.1]), (44, .int .i64 t291)]) (fun s_ w' => (w'.cell? ⟨gb281, 0, none⟩ = some (.int .i64 x282000_2) ∧ w'.cell? ⟨gb281, 1, none⟩ = some (.slice Ao20 x282001_2.length co20) ∧ w'.cell? ⟨gb281, 2, none⟩ = some (.slice Ao21 x282002_2.length co21) ∧ w'.cell? (ad282.add (x4_2).toNat) = some (.int .u32 (rd l0 x4_2))) ∧ (Kd.V k29 29 w' w.heap.size (fun k_ => k_ ≠ gb281 ∧ k_ ≠ s_.2.2) s_.1 t285) ∧ (Kd.V (Kd.slice 26 (Kd.int .u32)) 27 w' w.heap.size (fun k_ => k_ ≠ gb281 ∧ k_ ≠ s_.2.2) s_.2.1 t288) ∧ (Kd.V k29 29 w' w.heap.size (fun k_ => k_ ≠ gb281 ∧ k_ ≠ s_.2.2) (.slice Ao20 x282001_2.length co20) x282001_2) ∧ (Kd.V (Kd.slice 26 (Kd.int .u32)) 27 w' w.heap.size (fun k_ => k_ ≠ gb281 ∧ k_ ≠ s_.2.2) (.slice Ao21 x282002_2.length co21) x282002_2) ∧ (w'.heap[gb281]? = some (.cells #[.int .i64 x282000_2, .slice Ao20 x282001_2.length co20, .slice Ao21 x282002_2.length co21] 25 (0, 0))) ∧ (w'.heap[s_.2.2]? = some (.cells #[.int .i64 0, .slice none 0 0, .slice none 0 0] 25 (0, 0))) ∧ (w.heap.size ≤ s_.2.2) ∧ (w.heap.size ≤ s_.2.2) ∧ (gb281 ≠ s_.2.2) ∧ (s_.2.2 ≠ gb281) ∧ (Below w.heap.size w w')) ?_ ?_
                        rotate_left
                        · intro hCont
                          refine two_ (i := 11) (j := 15) (Ni := some 42) (Nj := some 5) #[true, true, true, true, true, true, true, true, true, true, true, true, false, false, false, false, false, false] #[true, true, true, true, true, true, true, true, true, true, true, false, false, false, false, true, false, false] rfl rfl rfl rfl (two_of HT_.out (by kernel_rfl)) (by decide) (by decide) (fun K hK => ?_) (fun K hK => ?_)
                          · skip
                            refine goes_ Try.func12 (by kernel_rfl) rfl #[.agg #[.int .i64 x282000_2, .slice Ao20 x282001_2.length co20, .slice Ao21 x282002_2.length co21], .agg #[.int .u32 (rd l0 x4_2), .slice A23 ((l0.take ((wrap64 (x4_2 + 1)) : Int).toNat).drop (x4_2 : Int).toNat).length (c0 - x4_2.toNat)]] (by rfl) rfl rfl (by (try simp only [List.map_toArray, List.map_cons, List.map_nil]); first | done | (rw [show ((l0.take ((wrap64 (x4_2 + 1)) : Int).toNat).drop (x4_2 : Int).toNat).length = ((wrap64 (x4_2 + 1)).toNat - x4_2.toNat) from (by rw [List.length_drop, List.length_take]; have h_ : ((wrap64 (x4_2 + 1)) : Int) ≤ (l0.length : Int) := of_decide_eq_true (by first | (with_reducible assumption) | assumption); omega)] <;> rfl) | rfl | (simp only [List.length_drop, List.length_take]; rfl)) ?_
                            with_reducible refine (net_Send.calls x282000_2 (fun k_ => k_ ≠ gb281) _ _ x282001_2 (fun k_ => k_ ≠ gb281) _ _ x282002_2 (rd l0 x4_2) (fun k_ => k_ < w.heap.size) _ _ ((l0.take ((wrap64 (x4_2 + 1)) : Int).toNat).drop (x4_2 : Int).toNat) t284 t285 t288 t291 _ ?side1 ?side2 ?side3 A17.out).mono ?_
                            (case side1 => exact HO_282001.out)
                            (case side2 => exact HO_282002.out)
                            (case side3 => exact Kd.V_mk HC283.out (Kd.F_below (Kd.C_F (Kd.heap_int .u32) HR283.out) (by repeat (first | (with_reducible first | exact HB.out | apply below_alloc | apply pw_below_drewN | apply below_drew1 | refine below_set ?_ GE281.out) | exact HB.out))))
                            rintro e w24 ⟨v286, v289, rfl, ho0, ho1, hb⟩
                            refine ⟨_, rfl, ?_⟩
                            have n0_ := Aside0.mk (vb_ HO_282001.out hb)
                            have n1_ := Aside0.mk (vb_ HO_282002.out hb)
                            have n2_ := Aside0.mk (Kd.V_lower (Kd.V_mono (ok' := fun k_ => k_ ≠ gb281) ho0 (fun k_ hk_ => Or.elim hk_ (fun hs_ => Or.elim hs_ (fun hs_ => hs_) (fun hs_ => Or.elim hs_ (fun hs_ => hs_) (fun hs_ => fun e_ => Nat.not_le.2 hs_ (by rw [e_]; exact GW281.out)))) (fun hn_ => (fb_ BK281.out k_ hn_)))) (below_size (by repeat (first | (with_reducible first | exact HB.out | apply below_alloc | apply pw_below_drewN | apply below_drew1 | refine below_set ?_ GE281.out) | exact HB.out))))
                            have n3_ := Aside0.mk (Kd.V_lower (Kd.V_mono (ok' := fun k_ => k_ ≠ gb281) ho1 (fun k_ hk_ => Or.elim hk_ (fun hs_ => Or.elim hs_ (fun hs_ => hs_) (fun hs_ => Or.elim hs_ (fun hs_ => hs_) (fun hs_ => fun e_ => Nat.not_le.2 hs_ (by rw [e_]; exact GW281.out)))) (fun hn_ => (fb_ BK281.out k_ hn_)))) (below_size (by repeat (first | (with_reducible first | exact HB.out | apply below_alloc | apply pw_below_drewN | apply below_drew1 | refine below_set ?_ GE281.out) | exact HB.out))))
                            have n4_ := Aside0.mk (bb_ BK281.out hb)
                            have n5_ := Aside0.mk (bs_ hb)
                            clear HO_282001 HO_282002 BK281 HB
                            have HO_282001 := n0_
                            have HO_282002 := n1_
                            have HO287 := n2_
                            have HO290 := n3_
                            have BK281 := n4_
                            have HB := n5_
                            clear n0_ n1_ n2_ n3_ n4_ n5_
                            (try clear hb)
                            (try clear hb2)
                            (try clear hk)
                            (try clear hi)
                            (try clear ho0)
                            (try clear ho1)
                            refine hK.out _ _ ⟨(blk_cell BK281.out 0).trans rfl, (blk_cell BK281.out 1).trans rfl, (blk_cell BK281.out 2).trans rfl, ((HB.out.cell (World.block_lt_of_cell? w _ hw282_0)).trans hw282_0)⟩ (fun hHeld => ?_)
                            clear hK K
                            refine norm_ (a' := ?_) ?_ ?_
                            rotate_left
                            · show Act.put _ (some 42) _ = _
                              simp only [Act.put, List.setIfInBounds_toArray, List.set_cons_zero, List.set_cons_succ, i64_w, i32_w]
                              rfl
                            refine pure_ (i := 12) (N := some 30) (v := ?_) (a' := ?_) #[true, true, true, true, true, true, true, true, true, true, true, true, true, false, false, false, false, false] rfl rfl (any_of HT_.out (by kernel_rfl)) (fun _ _ _ h => h) (Or.inl ⟨by rfl, ?_⟩) ?_ ?_
                            rotate_left
                            · intro w'
                              go_simp
                              with_reducible rfl
                            rotate_left
                            · simp only [Act.put, List.setIfInBounds_toArray, List.set_cons_zero, List.set_cons_succ, i64_w, i32_w]
                              rfl
                            refine pure_ (i := 13) (N := some 43) (v := ?_) (a' := ?_) #[true, true, true, true, true, true, true, true, true, true, true, true, true, true, false, false, false, false] rfl rfl (any_of HT_.out (by kernel_rfl)) (fun _ _ _ h => h) (Or.inl ⟨by rfl, ?_⟩) ?_ ?_
                            rotate_left
                            · intro w'
                              go_simp
                              with_reducible rfl
                            rotate_left
                            · simp only [Act.put, List.setIfInBounds_toArray, List.set_cons_zero, List.set_cons_succ, i64_w, i32_w]
                              rfl
                            refine pure_ (i := 14) (N := some 44) (v := ?_) (a' := ?_) #[true, true, true, true, true, true, true, true, true, true, true, true, true, true, true, false, false, false] rfl rfl (any_of HT_.out (by kernel_rfl)) (fun _ _ _ h => h) (Or.inl ⟨by rfl, ?_⟩) ?_ ?_
                            rotate_left
                            · intro w'
                              go_simp
                              with_reducible rfl
                            rotate_left
                            · simp only [Act.put, List.setIfInBounds_toArray, List.set_cons_zero, List.set_cons_succ, i64_w, i32_w]
                              rfl
                            refine one_ (i := 15) (N := some 5) #[true, true, true, true, true, true, true, true, true, true, true, true, true, true, true, true, false, false] rfl rfl (one_of HT_.out (by kernel_rfl)) (by decide) (fun K hK => ?_)
                            refine box_step ?hg (N := 5) ?hd (cs := #[.int .i64 0, .slice none 0 0, .slice none 0 0]) (t := 25) ?hr ?_; (case hd => rfl); (case hg => rfl); (case hr => first | (go_simp; done) | (go_simp; rfl))
                            intro gb292 hg w25 hbox hb
                            have n0_ := Aside0.mk (ve_ HO_282001.out gb292 hg hb)
                            have n1_ := Aside0.mk (ve_ HO_282002.out gb292 hg hb)
                            have n2_ := Aside0.mk (ve_ HO287.out gb292 hg hb)
                            have n3_ := Aside0.mk (ve_ HO290.out gb292 hg hb)
                            have n4_ := Aside0.mk (bb_ BK281.out hb)
                            have n5_ := Aside0.mk (bs_ hb)
                            have n6_ := Aside0.mk (hbox)
                            have n7_ := Aside0.mk ((ge_ hg : w.heap.size ≤ gb292))
                            have n8_ := Aside0.mk ((ge_ hg : w.heap.size ≤ gb292))
                            have n9_ := Aside0.mk ((by rw [hg]; exact Nat.ne_of_lt (blk_lt (g := gb281) (o := .cells #[.int .i64 x282000_2, .slice Ao20 x282001_2.length co20, .slice Ao21 x282002_2.length co21] 25 (0, 0)) (by (with_reducible repeat (first | refine blk_drewN ?_ _ | refine blk_drew ?_ | refine blk_alloc ?_ _)); exact BK281.out)) : gb281 ≠ gb292))
                            have n10_ := Aside0.mk ((by rw [hg]; exact Nat.ne_of_gt (blk_lt (g := gb281) (o := .cells #[.int .i64 x282000_2, .slice Ao20 x282001_2.length co20, .slice Ao21 x282002_2.length co21] 25 (0, 0)) (by (with_reducible repeat (first | refine blk_drewN ?_ _ | refine blk_drew ?_ | refine blk_alloc ?_ _)); exact BK281.out)) : gb292 ≠ gb281))
                            clear HO_282001 HO_282002 HO287 HO290 BK281 HB
                            have HO_282001 := n0_
                            have HO_282002 := n1_
                            have HO287 := n2_
                            have HO290 := n3_
                            have BK281 := n4_
                            have HB := n5_
                            have BK292 := n6_
                            have GW292 := n7_
                            have GE292 := n8_
                            have NB281_292 := n9_
                            have NB292_281 := n10_
                            clear n0_ n1_ n2_ n3_ n4_ n5_ n6_ n7_ n8_ n9_ n10_
                            clear hb hbox hg
                            refine hK.out _ _ ⟨(blk_cell BK281.out 0).trans rfl, (blk_cell BK281.out 1).trans rfl, (blk_cell BK281.out 2).trans rfl, ((HB.out.cell (World.block_lt_of_cell? w _ hw282_0)).trans hw282_0)⟩ (fun hHeld => ?_)
                            clear hK K
                            refine norm_ (a' := ?_) ?_ ?_
                            rotate_left
                            · show Act.put _ (some 5) _ = _
                              simp only [Act.put, List.setIfInBounds_toArray, List.set_cons_zero, List.set_cons_succ, i64_w, i32_w]
                              rfl
                            exact norm_ (by simp only [putAll, Act.put, List.setIfInBounds_toArray, List.set_cons_zero, List.set_cons_succ]) (hCont (v286, v289, gb292) _ ⟨hHeld, (by (with_reducible repeat (first | apply Kd.V_alloc | apply Kd.V_drewN | apply Kd.V_drew)); exact HO287.out), (by (with_reducible repeat (first | apply Kd.V_alloc | apply Kd.V_drewN | apply Kd.V_drew)); exact HO290.out), (by (with_reducible repeat (first | apply Kd.V_alloc | apply Kd.V_drewN | apply Kd.V_drew)); exact HO_282001.out), (by (with_reducible repeat (first | apply Kd.V_alloc | apply Kd.V_drewN | apply Kd.V_drew)); exact HO_282002.out), (by (with_reducible repeat (first | refine blk_drewN ?_ _ | refine blk_drew ?_ | refine blk_alloc ?_ _)); exact BK281.out), (by (with_reducible repeat (first | refine blk_drewN ?_ _ | refine blk_drew ?_ | refine blk_alloc ?_ _)); exact BK292.out), GW292.out, GE292.out, NB281_292.out, NB292_281.out, (by repeat (first | (with_reducible first | exact HB.out | apply below_alloc | apply pw_below_drewN | apply below_drew1 | refine below_set ?_ GE281.out | refine below_set ?_ GE292.out) | exact HB.out))⟩)
                          · skip
                            refine box_step ?hg (N := 5) ?hd (cs := #[.int .i64 0, .slice none 0 0, .slice none 0 0]) (t := 25) ?hr ?_; (case hd => rfl); (case hg => rfl); (case hr => first | (go_simp; done) | (go_simp; rfl))
                            intro gb292 hg w24 hbox hb
                            have n0_ := Aside0.mk (ve_ HO_282001.out gb292 hg hb)
                            have n1_ := Aside0.mk (ve_ HO_282002.out gb292 hg hb)
                            have n2_ := Aside0.mk (bb_ BK281.out hb)
                            have n3_ := Aside0.mk (bs_ hb)
                            have n4_ := Aside0.mk (hbox)
                            have n5_ := Aside0.mk ((ge_ hg : w.heap.size ≤ gb292))
                            have n6_ := Aside0.mk ((ge_ hg : w.heap.size ≤ gb292))
                            have n7_ := Aside0.mk ((by rw [hg]; exact Nat.ne_of_lt (blk_lt (g := gb281) (o := .cells #[.int .i64 x282000_2, .slice Ao20 x282001_2.length co20, .slice Ao21 x282002_2.length co21] 25 (0, 0)) (by (with_reducible repeat (first | refine blk_drewN ?_ _ | refine blk_drew ?_ | refine blk_alloc ?_ _)); exact BK281.out)) : gb281 ≠ gb292))
                            have n8_ := Aside0.mk ((by rw [hg]; exact Nat.ne_of_gt (blk_lt (g := gb281) (o := .cells #[.int .i64 x282000_2, .slice Ao20 x282001_2.length co20, .slice Ao21 x282002_2.length co21] 25 (0, 0)) (by (with_reducible repeat (first | refine blk_drewN ?_ _ | refine blk_drew ?_ | refine blk_alloc ?_ _)); exact BK281.out)) : gb292 ≠ gb281))
                            clear HO_282001 HO_282002 BK281 HB
                            have HO_282001 := n0_
                            have HO_282002 := n1_
                            have BK281 := n2_
                            have HB := n3_
                            have BK292 := n4_
                            have GW292 := n5_
                            have GE292 := n6_
                            have NB281_292 := n7_
                            have NB292_281 := n8_
                            clear n0_ n1_ n2_ n3_ n4_ n5_ n6_ n7_ n8_
                            clear hb hbox hg
                            refine hK.out _ _ ⟨(blk_cell BK281.out 0).trans rfl, (blk_cell BK281.out 1).trans rfl, (blk_cell BK281.out 2).trans rfl, ((HB.out.cell (World.block_lt_of_cell? w _ hw282_0)).trans hw282_0)⟩ (fun hHeld => ?_)
                            clear hK K
                            refine norm_ (a' := ?_) ?_ ?_
                            rotate_left
                            · show Act.put _ (some 5) _ = _
                              simp only [Act.put, List.setIfInBounds_toArray, List.set_cons_zero, List.set_cons_succ, i64_w, i32_w]
                              rfl
                            refine one_ (i := 11) (N := some 42) #[true, true, true, true, true, true, true, true, true, true, true, true, false, false, false, true, false, false] rfl rfl (one_of HT_.out (by kernel_rfl)) (by decide) (fun K hK => ?_)
                            refine goes_ Try.func12 (by kernel_rfl) rfl #[.agg #[.int .i64 x282000_2, .slice Ao20 x282001_2.length co20, .slice Ao21 x282002_2.length co21], .agg #[.int .u32 (rd l0 x4_2), .slice A23 ((l0.take ((wrap64 (x4_2 + 1)) : Int).toNat).drop (x4_2 : Int).toNat).length (c0 - x4_2.toNat)]] (by rfl) rfl rfl (by (try simp only [List.map_toArray, List.map_cons, List.map_nil]); first | done | (rw [show ((l0.take ((wrap64 (x4_2 + 1)) : Int).toNat).drop (x4_2 : Int).toNat).length = ((wrap64 (x4_2 + 1)).toNat - x4_2.toNat) from (by rw [List.length_drop, List.length_take]; have h_ : ((wrap64 (x4_2 + 1)) : Int) ≤ (l0.length : Int) := of_decide_eq_true (by first | (with_reducible assumption) | assumption); omega)] <;> rfl) | rfl | (simp only [List.length_drop, List.length_take]; rfl)) ?_
                            with_reducible refine (net_Send.calls x282000_2 (fun k_ => (k_ ≠ gb281 ∧ k_ ≠ gb292)) _ _ x282001_2 (fun k_ => (k_ ≠ gb281 ∧ k_ ≠ gb292)) _ _ x282002_2 (rd l0 x4_2) (fun k_ => k_ < w.heap.size) _ _ ((l0.take ((wrap64 (x4_2 + 1)) : Int).toNat).drop (x4_2 : Int).toNat) t284 t285 t288 t291 _ ?side1 ?side2 ?side3 A17.out).mono ?_
                            (case side1 => exact HO_282001.out)
                            (case side2 => exact HO_282002.out)
                            (case side3 => exact Kd.V_mk HC283.out (Kd.F_below (Kd.C_F (Kd.heap_int .u32) HR283.out) (by repeat (first | (with_reducible first | exact HB.out | apply below_alloc | apply pw_below_drewN | apply below_drew1 | refine below_set ?_ GE281.out | refine below_set ?_ GE292.out) | exact HB.out))))
                            rintro e w25 ⟨v286, v289, rfl, ho0, ho1, hb⟩
                            refine ⟨_, rfl, ?_⟩
                            have n0_ := Aside0.mk (vb_ HO_282001.out hb)
                            have n1_ := Aside0.mk (vb_ HO_282002.out hb)
                            have n2_ := Aside0.mk (Kd.V_lower (Kd.V_mono (ok' := fun k_ => k_ ≠ gb281 ∧ k_ ≠ gb292) ho0 (fun k_ hk_ => ⟨Or.elim hk_ (fun hs_ => Or.elim hs_ (fun hs_ => hs_.1) (fun hs_ => Or.elim hs_ (fun hs_ => hs_.1) (fun hs_ => fun e_ => Nat.not_le.2 hs_ (by rw [e_]; exact GW281.out)))) (fun hn_ => (fb_ BK281.out k_ hn_)), Or.elim hk_ (fun hs_ => Or.elim hs_ (fun hs_ => hs_.2) (fun hs_ => Or.elim hs_ (fun hs_ => hs_.2) (fun hs_ => fun e_ => Nat.not_le.2 hs_ (by rw [e_]; exact GW292.out)))) (fun hn_ => (fb_ BK292.out k_ hn_))⟩)) (below_size (by repeat (first | (with_reducible first | exact HB.out | apply below_alloc | apply pw_below_drewN | apply below_drew1 | refine below_set ?_ GE281.out | refine below_set ?_ GE292.out) | exact HB.out))))
                            have n3_ := Aside0.mk (Kd.V_lower (Kd.V_mono (ok' := fun k_ => k_ ≠ gb281 ∧ k_ ≠ gb292) ho1 (fun k_ hk_ => ⟨Or.elim hk_ (fun hs_ => Or.elim hs_ (fun hs_ => hs_.1) (fun hs_ => Or.elim hs_ (fun hs_ => hs_.1) (fun hs_ => fun e_ => Nat.not_le.2 hs_ (by rw [e_]; exact GW281.out)))) (fun hn_ => (fb_ BK281.out k_ hn_)), Or.elim hk_ (fun hs_ => Or.elim hs_ (fun hs_ => hs_.2) (fun hs_ => Or.elim hs_ (fun hs_ => hs_.2) (fun hs_ => fun e_ => Nat.not_le.2 hs_ (by rw [e_]; exact GW292.out)))) (fun hn_ => (fb_ BK292.out k_ hn_))⟩)) (below_size (by repeat (first | (with_reducible first | exact HB.out | apply below_alloc | apply pw_below_drewN | apply below_drew1 | refine below_set ?_ GE281.out | refine below_set ?_ GE292.out) | exact HB.out))))
                            have n4_ := Aside0.mk (bb_ BK281.out hb)
                            have n5_ := Aside0.mk (bb_ BK292.out hb)
                            have n6_ := Aside0.mk (bs_ hb)
                            clear HO_282001 HO_282002 BK281 BK292 HB
                            have HO_282001 := n0_
                            have HO_282002 := n1_
                            have HO287 := n2_
                            have HO290 := n3_
                            have BK281 := n4_
                            have BK292 := n5_
                            have HB := n6_
                            clear n0_ n1_ n2_ n3_ n4_ n5_ n6_
                            (try clear hb)
                            (try clear hb2)
                            (try clear hk)
                            (try clear hi)
                            (try clear ho0)
                            (try clear ho1)
                            refine hK.out _ _ ⟨(blk_cell BK281.out 0).trans rfl, (blk_cell BK281.out 1).trans rfl, (blk_cell BK281.out 2).trans rfl, ((HB.out.cell (World.block_lt_of_cell? w _ hw282_0)).trans hw282_0)⟩ (fun hHeld => ?_)
                            clear hK K
                            refine norm_ (a' := ?_) ?_ ?_
                            rotate_left
                            · show Act.put _ (some 42) _ = _
                              simp only [Act.put, List.setIfInBounds_toArray, List.set_cons_zero, List.set_cons_succ, i64_w, i32_w]
                              rfl
                            refine pure_ (i := 12) (N := some 30) (v := ?_) (a' := ?_) #[true, true, true, true, true, true, true, true, true, true, true, true, true, false, false, true, false, false] rfl rfl (any_of HT_.out (by kernel_rfl)) (fun _ _ _ h => h) (Or.inl ⟨by rfl, ?_⟩) ?_ ?_
                            rotate_left
                            · intro w'
                              go_simp
                              with_reducible rfl
                            rotate_left
                            · simp only [Act.put, List.setIfInBounds_toArray, List.set_cons_zero, List.set_cons_succ, i64_w, i32_w]
                              rfl
                            refine pure_ (i := 13) (N := some 43) (v := ?_) (a' := ?_) #[true, true, true, true, true, true, true, true, true, true, true, true, true, true, false, true, false, false] rfl rfl (any_of HT_.out (by kernel_rfl)) (fun _ _ _ h => h) (Or.inl ⟨by rfl, ?_⟩) ?_ ?_
                            rotate_left
                            · intro w'
                              go_simp
                              with_reducible rfl
                            rotate_left
                            · simp only [Act.put, List.setIfInBounds_toArray, List.set_cons_zero, List.set_cons_succ, i64_w, i32_w]
                              rfl
                            refine pure_ (i := 14) (N := some 44) (v := ?_) (a' := ?_) #[true, true, true, true, true, true, true, true, true, true, true, true, true, true, true, true, false, false] rfl rfl (any_of HT_.out (by kernel_rfl)) (fun _ _ _ h => h) (Or.inl ⟨by rfl, ?_⟩) ?_ ?_
                            rotate_left
                            · intro w'
                              go_simp
                              with_reducible rfl
                            rotate_left
                            · simp only [Act.put, List.setIfInBounds_toArray, List.set_cons_zero, List.set_cons_succ, i64_w, i32_w]
                              rfl
                            exact norm_ (by simp only [putAll, Act.put, List.setIfInBounds_toArray, List.set_cons_zero, List.set_cons_succ]) (hCont (v286, v289, gb292) _ ⟨hHeld, (by (with_reducible repeat (first | apply Kd.V_alloc | apply Kd.V_drewN | apply Kd.V_drew)); exact HO287.out), (by (with_reducible repeat (first | apply Kd.V_alloc | apply Kd.V_drewN | apply Kd.V_drew)); exact HO290.out), (by (with_reducible repeat (first | apply Kd.V_alloc | apply Kd.V_drewN | apply Kd.V_drew)); exact HO_282001.out), (by (with_reducible repeat (first | apply Kd.V_alloc | apply Kd.V_drewN | apply Kd.V_drew)); exact HO_282002.out), (by (with_reducible repeat (first | refine blk_drewN ?_ _ | refine blk_drew ?_ | refine blk_alloc ?_ _)); exact BK281.out), (by (with_reducible repeat (first | refine blk_drewN ?_ _ | refine blk_drew ?_ | refine blk_alloc ?_ _)); exact BK292.out), GW292.out, GE292.out, NB281_292.out, NB292_281.out, (by repeat (first | (with_reducible first | exact HB.out | apply below_alloc | apply pw_below_drewN | apply below_drew1 | refine below_set ?_ GE281.out | refine below_set ?_ GE292.out) | exact HB.out))⟩)
                        rintro ⟨v286, v289, gb292⟩ w26 ⟨hS_, h0_, h1_, h2_, h3_, h4_, h5_, h6_, h7_, h8_, h9_, h10_⟩
                        have n0_ : Aside0 (Kd.V k29 29 w26 w.heap.size (fun k_ => k_ ≠ gb281 ∧ k_ ≠ gb292) v286 t285) := ⟨h0_⟩
                        have n1_ : Aside0 (Kd.V (Kd.slice 26 (Kd.int .u32)) 27 w26 w.heap.size (fun k_ => k_ ≠ gb281 ∧ k_ ≠ gb292) v289 t288) := ⟨h1_⟩
                        have n4_ : Aside0 (w26.heap[gb281]? = some (.cells #[.int .i64 x282000_2, .slice Ao20 x282001_2.length co20, .slice Ao21 x282002_2.length co21] 25 (0, 0))) := ⟨h4_⟩
                        have n5_ : Aside0 (w26.heap[gb292]? = some (.cells #[.int .i64 0, .slice none 0 0, .slice none 0 0] 25 (0, 0))) := ⟨h5_⟩
                        have n6_ : Aside0 (w.heap.size ≤ gb292) := ⟨h6_⟩
                        have n7_ : Aside0 (w.heap.size ≤ gb292) := ⟨h7_⟩
                        have n8_ : Aside0 (gb281 ≠ gb292) := ⟨h8_⟩
                        have n9_ : Aside0 (gb292 ≠ gb281) := ⟨h9_⟩
                        have n10_ : Aside0 (Below w.heap.size w w26) := ⟨h10_⟩
                        clear HO_282001 HO_282002 BK281 HB h0_ h1_ h2_ h3_ h4_ h5_ h6_ h7_ h8_ h9_ h10_
                        have HO287 := n0_
                        have HO290 := n1_
                        have BK281 := n4_
                        have BK292 := n5_
                        have GW292 := n6_
                        have GE292 := n7_
                        have NB281_292 := n8_
                        have NB292_281 := n9_
                        have HB := n10_
                        clear n0_ n1_ n4_ n5_ n6_ n7_ n8_ n9_ n10_
                        have hHeld : w26.cell? ⟨gb281, 0, none⟩ = some (.int .i64 x282000_2) ∧ w26.cell? ⟨gb281, 1, none⟩ = some (.slice Ao20 x282001_2.length co20) ∧ w26.cell? ⟨gb281, 2, none⟩ = some (.slice Ao21 x282002_2.length co21) ∧ w26.cell? (ad282.add (x4_2).toNat) = some (.int .u32 (rd l0 x4_2)) := hS_
                        obtain ⟨Ao28, co28, eo28⟩ := Kd.V_slice HO287.out
                        (first | subst eo28 | (injection eo28 with f1_ f2_ f3_; have f4_ := f1_.symm; have f5_ := f3_.symm; clear f1_ f2_ f3_; subst f4_; subst f5_))
                        obtain ⟨Ao30, co30, eo30⟩ := Kd.V_slice HO290.out
                        (first | subst eo30 | (injection eo30 with f1_ f2_ f3_; have f4_ := f1_.symm; have f5_ := f3_.symm; clear f1_ f2_ f3_; subst f4_; subst f5_))
                        refine norm_ (a' := ?_) ?_ ?_
                        rotate_left
                        · simp only [putAll, Act.put, List.setIfInBounds_toArray, List.set_cons_zero, List.set_cons_succ]
                          rfl
                        refine one_ (i := 16) (N := none) #[true, true, true, true, true, true, true, true, true, true, true, true, true, true, true, true, true, false] rfl rfl (one_of HT_.out (by kernel_rfl)) (by decide) (fun K hK => ?_)
                        have hs27 : w26.cell? ⟨gb292, 0, none⟩ = some (.int .i64 0) := (blk_cell BK292.out 0).trans rfl
                        have hfs27 := blk_frozen BK292.out 0
                        have hns27_0 := NB281_292.out
                        have hms27_0 := NB292_281.out
                        have hs29 : w26.cell? ⟨gb292, 1, none⟩ = some (.slice none 0 0) := (blk_cell BK292.out 1).trans rfl
                        have hfs29 := blk_frozen BK292.out 1
                        have hns29_0 := NB281_292.out
                        have hms29_0 := NB292_281.out
                        have hs31 : w26.cell? ⟨gb292, 2, none⟩ = some (.slice none 0 0) := (blk_cell BK292.out 2).trans rfl
                        have hfs31 := blk_frozen BK292.out 2
                        have hns31_0 := NB281_292.out
                        have hms31_0 := NB292_281.out
                        refine skip_ (w1 := ?_) (by rfl) rfl ?_ ?_
                        rotate_left
                        · go_simp
                          rfl
                        refine hK.out _ _ ⟨((cell_far (p := ⟨gb292, _, none⟩) NB281_292.out _).trans (((cell_far (p := ⟨gb292, _, none⟩) NB281_292.out _).trans (((cell_far (p := ⟨gb292, _, none⟩) NB281_292.out _).trans (hHeld.1)))))), ((cell_far (p := ⟨gb292, _, none⟩) NB281_292.out _).trans (((cell_far (p := ⟨gb292, _, none⟩) NB281_292.out _).trans (((cell_far (p := ⟨gb292, _, none⟩) NB281_292.out _).trans (hHeld.2.1)))))), ((cell_far (p := ⟨gb292, _, none⟩) NB281_292.out _).trans (((cell_far (p := ⟨gb292, _, none⟩) NB281_292.out _).trans (((cell_far (p := ⟨gb292, _, none⟩) NB281_292.out _).trans (hHeld.2.2.1)))))), ((cell_far (p := ⟨gb292, _, none⟩) (by first | exact Nat.ne_of_lt (Nat.lt_of_lt_of_le (by have := World.block_lt_of_cell? _ _ hw282_0; first | rwa [add_block] at this | exact this) GW292.out) | (rw [add_block]; exact Nat.ne_of_lt (Nat.lt_of_lt_of_le (by have := World.block_lt_of_cell? _ _ hw282_0; first | rwa [add_block] at this | exact this) GW292.out)) | (show (Addr.add _ _).block ≠ _; rw [add_block]; exact Nat.ne_of_lt (Nat.lt_of_lt_of_le (by have := World.block_lt_of_cell? _ _ hw282_0; first | rwa [add_block] at this | exact this) GW292.out)) | (dsimp only; exact Nat.ne_of_lt (Nat.lt_of_lt_of_le (by have := World.block_lt_of_cell? _ _ hw282_0; first | rwa [add_block] at this | exact this) GW292.out))) _).trans (((cell_far (p := ⟨gb292, _, none⟩) (by first | exact Nat.ne_of_lt (Nat.lt_of_lt_of_le (by have := World.block_lt_of_cell? _ _ hw282_0; first | rwa [add_block] at this | exact this) GW292.out) | (rw [add_block]; exact Nat.ne_of_lt (Nat.lt_of_lt_of_le (by have := World.block_lt_of_cell? _ _ hw282_0; first | rwa [add_block] at this | exact this) GW292.out)) | (show (Addr.add _ _).block ≠ _; rw [add_block]; exact Nat.ne_of_lt (Nat.lt_of_lt_of_le (by have := World.block_lt_of_cell? _ _ hw282_0; first | rwa [add_block] at this | exact this) GW292.out)) | (dsimp only; exact Nat.ne_of_lt (Nat.lt_of_lt_of_le (by have := World.block_lt_of_cell? _ _ hw282_0; first | rwa [add_block] at this | exact this) GW292.out))) _).trans (((cell_far (p := ⟨gb292, _, none⟩) (by first | exact Nat.ne_of_lt (Nat.lt_of_lt_of_le (by have := World.block_lt_of_cell? _ _ hw282_0; first | rwa [add_block] at this | exact this) GW292.out) | (rw [add_block]; exact Nat.ne_of_lt (Nat.lt_of_lt_of_le (by have := World.block_lt_of_cell? _ _ hw282_0; first | rwa [add_block] at this | exact this) GW292.out)) | (show (Addr.add _ _).block ≠ _; rw [add_block]; exact Nat.ne_of_lt (Nat.lt_of_lt_of_le (by have := World.block_lt_of_cell? _ _ hw282_0; first | rwa [add_block] at this | exact this) GW292.out)) | (dsimp only; exact Nat.ne_of_lt (Nat.lt_of_lt_of_le (by have := World.block_lt_of_cell? _ _ hw282_0; first | rwa [add_block] at this | exact this) GW292.out))) _).trans (hHeld.2.2.2))))))⟩ (fun hHeld => ?_)
                        clear hK K
                        refine pure_ (i := 17) (N := some 6) (v := ?_) (a' := ?_) #[true, true, true, true, true, true, true, true, true, true, true, true, true, true, true, true, true, true] rfl rfl (any_of HT_.out (by kernel_rfl)) (fun _ _ _ h => h) (Or.inl ⟨by rfl, ?_⟩) ?_ ?_
                        rotate_left
                        · intro w'
                          go_simp
                          with_reducible rfl
                        rotate_left
                        · simp only [Act.put, List.setIfInBounds_toArray, List.set_cons_zero, List.set_cons_succ, i64_w, i32_w]
                          rfl
                        refine done_ (done_of HT_.out (by kernel_rfl)) ?_
                        have hnb32 := NB292_281.out
                        have hnc32 := NB281_292.out
                        have ⟨hcz33_0, hcz33_1, hcz33_2⟩ := cz3_ BK292.out
                        have ⟨hfz33_0, hfz33_1, hfz33_2⟩ := fz3_ BK292.out
                        have ⟨hcz34_0, hcz34_1, hcz34_2⟩ := cz3_ BK281.out
                        have ⟨hfz34_0, hfz34_1, hfz34_2⟩ := fz3_ BK281.out
                        try go_wp2
                        go_roundg k2
                        case measure => have := HJ1.out; have := HK2.out; omega
                        case rel => exact ⟨(wrap64 (x4_2 + 1)), (t284), (t285), (t288), (.slice Ao28 t285.length co28), (.slice Ao30 t288.length co30), (by first | rfl | (simp; done) | (simp [*]; done)), H', ⟨by have := HJ1.out; have := HK2.out; omega⟩, ⟨by (with_reducible repeat (first | apply Kd.V_alloc | apply Kd.V_drewN | apply Kd.V_drew)); exact Kd.V_mono (v3_ (g := gb281) (Kd.V_far (p := ⟨gb292, 2, none⟩) (Kd.V_far (p := ⟨gb292, 1, none⟩) (Kd.V_far (p := ⟨gb292, 0, none⟩) (Kd.V_mono (Kd.V_mono HO287.out (fun k_ hk => (⟨hk, hk.2⟩ : _ ∧ k_ ≠ gb292))) (fun k_ hk => (⟨hk, hk.1.1⟩ : _ ∧ k_ ≠ gb281))) (fun _ hk => hk.1.2) (.int .i64 t284)) (fun _ hk => hk.1.2) (.slice Ao28 t285.length co28)) (fun _ hk => hk.1.2) (.slice Ao30 t288.length co30))) (fun _ hk => hk.1.1.1)⟩, ⟨by (with_reducible repeat (first | apply Kd.V_alloc | apply Kd.V_drewN | apply Kd.V_drew)); exact Kd.V_mono (v3_ (g := gb281) (Kd.V_far (p := ⟨gb292, 2, none⟩) (Kd.V_far (p := ⟨gb292, 1, none⟩) (Kd.V_far (p := ⟨gb292, 0, none⟩) (Kd.V_mono (Kd.V_mono HO290.out (fun k_ hk => (⟨hk, hk.2⟩ : _ ∧ k_ ≠ gb292))) (fun k_ hk => (⟨hk, hk.1.1⟩ : _ ∧ k_ ≠ gb281))) (fun _ hk => hk.1.2) (.int .i64 t284)) (fun _ hk => hk.1.2) (.slice Ao28 t285.length co28)) (fun _ hk => hk.1.2) (.slice Ao30 t288.length co30))) (fun _ hk => hk.1.1.1)⟩, ⟨by (with_reducible repeat (first | refine blk_drewN ?_ _ | refine blk_drew ?_ | refine blk_alloc ?_ _)); refine blk_put (cs := #[.int .i64 t284, .slice Ao28 t285.length co28, .slice Ao21 x282002_2.length co21]) ?_ 2 _ rfl; (with_reducible repeat (first | refine blk_drewN ?_ _ | refine blk_drew ?_ | refine blk_alloc ?_ _)); refine blk_put (cs := #[.int .i64 t284, .slice Ao20 x282001_2.length co20, .slice Ao21 x282002_2.length co21]) ?_ 1 _ rfl; (with_reducible repeat (first | refine blk_drewN ?_ _ | refine blk_drew ?_ | refine blk_alloc ?_ _)); refine blk_put (cs := #[.int .i64 x282000_2, .slice Ao20 x282001_2.length co20, .slice Ao21 x282002_2.length co21]) ?_ 0 _ rfl; (with_reducible repeat (first | refine blk_drewN ?_ _ | refine blk_drew ?_ | refine blk_alloc ?_ _)); refine blk_far ?_ NB281_292.out _; (with_reducible repeat (first | refine blk_drewN ?_ _ | refine blk_drew ?_ | refine blk_alloc ?_ _)); refine blk_far ?_ NB281_292.out _; (with_reducible repeat (first | refine blk_drewN ?_ _ | refine blk_drew ?_ | refine blk_alloc ?_ _)); refine blk_far ?_ NB281_292.out _; (with_reducible repeat (first | refine blk_drewN ?_ _ | refine blk_drew ?_ | refine blk_alloc ?_ _)); exact BK281.out⟩, ⟨by repeat (first | (with_reducible first | exact HB.out | apply below_alloc | apply pw_below_drewN | apply below_drew1 | refine below_set ?_ GE281.out | refine below_set ?_ GE292.out) | exact HB.out)⟩⟩
                      · rw [if_neg c19] at H
                        have c19b0 : ((t285.length : Int) == (wrap64 (x4_2 + 1))) = false := beq_eq_false_iff_ne.mpr c19
                        have c19b1 : ((t285.length : Int) != (wrap64 (x4_2 + 1))) = true := bne_iff_ne.mpr c19
                        exact absurd (hT.out.symm.trans (Option.some.inj H).symm) (by decide)
                    · rw [if_neg c18] at H
                      have c18b0 : (t291 == 0) = false := beq_eq_false_iff_ne.mpr c18
                      have c18b1 : (t291 != 0) = true := bne_iff_ne.mpr c18
                      exact absurd (hT.out.symm.trans (Option.some.inj H).symm) (by decide)
                  · rw [if_neg c16] at H
                    exact absurd H (by simp)
                · rw [if_neg c15] at H
                  exact absurd H (by simp)
              · rw [if_neg c13] at H
                exact absurd H (by simp)
            · rw [if_neg c12] at H
              have c12b0 : decide (x4_2 < (l0.length : Int)) = false := decide_eq_false c12
              clear c12
              have H' := Aside0.mk H
              clear H
              have ⟨hcz61_0, hcz61_1, hcz61_2⟩ := cz3_ BK281.out
              have ⟨hfz61_0, hfz61_1, hfz61_2⟩ := fz3_ BK281.out
              go_wp2_with (first | ((with_reducible refine gate_dst (N := 7) rfl ?_); (try (refine gate_guard (by rfl) ?_; dsimp only)); refine box_event ?hg (N := 7) ?hd (cs := #[.int .i64 0, .slice none 0 0, .slice none 0 0]) (t := 25) ?hr ?_; (case hd => rfl); (case hg => rfl); (case hr => first | (go_simp; done) | (go_simp; rfl)); intro gb293 hg w62 hbox hb; have n0_ := Aside0.mk (ve_ HO_282001.out gb293 hg hb); have n1_ := Aside0.mk (ve_ HO_282002.out gb293 hg hb); have n2_ := Aside0.mk (bb_ BK281.out hb); have n3_ := Aside0.mk (bs_ hb); have n4_ := Aside0.mk (hbox); have n6_ := Aside0.mk ((ge_ hg : w.heap.size ≤ gb293)); have n7_ := Aside0.mk ((by rw [hg]; exact Nat.ne_of_lt (blk_lt (g := gb281) (o := .cells #[.int .i64 x282000_2, u282001, u282002] 25 (0, 0)) (by (with_reducible repeat (first | refine blk_drewN ?_ _ | refine blk_drew ?_ | refine blk_alloc ?_ _)); exact BK281.out)) : gb281 ≠ gb293)); have n8_ := Aside0.mk ((by rw [hg]; exact Nat.ne_of_gt (blk_lt (g := gb281) (o := .cells #[.int .i64 x282000_2, u282001, u282002] 25 (0, 0)) (by (with_reducible repeat (first | refine blk_drewN ?_ _ | refine blk_drew ?_ | refine blk_alloc ?_ _)); exact BK281.out)) : gb293 ≠ gb281)); clear HO_282001 HO_282002 BK281 HB; have HO_282001 := n0_; have HO_282002 := n1_; have BK281 := n2_; have HB := n3_; have BK293 := n4_; have GE293 := n6_; have NB281_293 := n7_; have NB293_281 := n8_; clear n0_ n1_ n2_ n3_ n4_ n6_ n7_ n8_; clear hb hbox hg; have hnb63 := NB293_281.out; have hnc63 := NB281_293.out; have ⟨hcz64_0, hcz64_1, hcz64_2⟩ := cz3_ BK293.out; have ⟨hfz64_0, hfz64_1, hfz64_2⟩ := fz3_ BK293.out; obtain ⟨Ao65, co65, eo65⟩ := Kd.V_slice HO_282001.out; subst eo65; obtain ⟨Ao66, co66, eo66⟩ := Kd.V_slice HO_282002.out; subst eo66))
              go_loopg [8] k2 (fun kq v8 w' => ∃ (x8_3 : Int) (x282000_3 : Int) (x282001_3 : List (S29)) (x282002_3 : List (List Int)) (x294000_3 : Int) (x294001_3 : List (S29)) (x294002_3 : List (List Int)) (u282001 : Value) (u282002 : Value) (u294001 : Value) (u294002 : Value), v8 = .int .i64 x8_3 ∧ Aside0 (chamberlainlaw06_NetOrder.l1 kq l0 x8_3 x282000_3 x282001_3 x282002_3 x294000_3 x294001_3 x294002_3 = some r) ∧ Aside0 (kq ≤ k2) ∧ Aside0 (Kd.V k29 29 w' w.heap.size (fun k_ => k_ ≠ gb281 ∧ k_ ≠ gb293) u282001 x282001_3) ∧ Aside0 (Kd.V (Kd.slice 26 (Kd.int .u32)) 27 w' w.heap.size (fun k_ => k_ ≠ gb281 ∧ k_ ≠ gb293) u282002 x282002_3) ∧ Aside0 (Kd.V k29 29 w' w.heap.size (fun k_ => k_ ≠ gb281 ∧ k_ ≠ gb293) u294001 x294001_3) ∧ Aside0 (Kd.V (Kd.slice 26 (Kd.int .u32)) 27 w' w.heap.size (fun k_ => k_ ≠ gb281 ∧ k_ ≠ gb293) u294002 x294002_3) ∧ Aside0 (w'.heap[gb281]? = some (.cells #[.int .i64 x282000_3, u282001, u282002] 25 (0, 0))) ∧ Aside0 (w'.heap[gb293]? = some (.cells #[.int .i64 x294000_3, u294001, u294002] 25 (0, 0))) ∧ Aside0 (Below w.heap.size w w'))
              case atStart => exact ⟨(0), (x282000_2), (x282001_2), (x282002_2), (x282000_2), (x282001_2), (x282002_2), (.slice Ao65 x282001_2.length co65), (.slice Ao66 x282002_2.length co66), (.slice Ao65 x282001_2.length co65), (.slice Ao66 x282002_2.length co66), (by first | rfl | (simp; done) | (simp [*]; done)), H', ⟨Nat.le_refl _⟩, ⟨by (with_reducible repeat (first | apply Kd.V_alloc | apply Kd.V_drewN | apply Kd.V_drew)); exact Kd.V_mono (v3_ (g := gb293) (Kd.V_mono HO_282001.out (fun k_ hk => (⟨hk, hk.2⟩ : _ ∧ k_ ≠ gb293)))) (fun _ hk => ⟨hk.1.1, hk.1.2⟩)⟩, ⟨by (with_reducible repeat (first | apply Kd.V_alloc | apply Kd.V_drewN | apply Kd.V_drew)); exact Kd.V_mono (v3_ (g := gb293) (Kd.V_mono HO_282002.out (fun k_ hk => (⟨hk, hk.2⟩ : _ ∧ k_ ≠ gb293)))) (fun _ hk => ⟨hk.1.1, hk.1.2⟩)⟩, ⟨by (with_reducible repeat (first | apply Kd.V_alloc | apply Kd.V_drewN | apply Kd.V_drew)); exact Kd.V_mono (v3_ (g := gb293) (Kd.V_mono HO_282001.out (fun k_ hk => (⟨hk, hk.2⟩ : _ ∧ k_ ≠ gb293)))) (fun _ hk => ⟨hk.1.1, hk.1.2⟩)⟩, ⟨by (with_reducible repeat (first | apply Kd.V_alloc | apply Kd.V_drewN | apply Kd.V_drew)); exact Kd.V_mono (v3_ (g := gb293) (Kd.V_mono HO_282002.out (fun k_ hk => (⟨hk, hk.2⟩ : _ ∧ k_ ≠ gb293)))) (fun _ hk => ⟨hk.1.1, hk.1.2⟩)⟩, ⟨by (with_reducible repeat (first | refine blk_drewN ?_ _ | refine blk_drew ?_ | refine blk_alloc ?_ _)); refine blk_far ?_ NB281_293.out _; (with_reducible repeat (first | refine blk_drewN ?_ _ | refine blk_drew ?_ | refine blk_alloc ?_ _)); refine blk_far ?_ NB281_293.out _; (with_reducible repeat (first | refine blk_drewN ?_ _ | refine blk_drew ?_ | refine blk_alloc ?_ _)); refine blk_far ?_ NB281_293.out _; (with_reducible repeat (first | refine blk_drewN ?_ _ | refine blk_drew ?_ | refine blk_alloc ?_ _)); exact BK281.out⟩, ⟨by (with_reducible repeat (first | refine blk_drewN ?_ _ | refine blk_drew ?_ | refine blk_alloc ?_ _)); refine blk_put (cs := #[.int .i64 x282000_2, .slice Ao65 x282001_2.length co65, .slice none 0 0]) ?_ 2 _ rfl; (with_reducible repeat (first | refine blk_drewN ?_ _ | refine blk_drew ?_ | refine blk_alloc ?_ _)); refine blk_put (cs := #[.int .i64 x282000_2, .slice none 0 0, .slice none 0 0]) ?_ 1 _ rfl; (with_reducible repeat (first | refine blk_drewN ?_ _ | refine blk_drew ?_ | refine blk_alloc ?_ _)); refine blk_put (cs := #[.int .i64 0, .slice none 0 0, .slice none 0 0]) ?_ 0 _ rfl; (with_reducible repeat (first | refine blk_drewN ?_ _ | refine blk_drew ?_ | refine blk_alloc ?_ _)); exact BK293.out⟩, ⟨by repeat (first | (with_reducible first | exact HB.out | apply below_alloc | apply pw_below_drewN | apply below_drew1 | refine below_set ?_ GE281.out | refine below_set ?_ GE293.out) | exact HB.out)⟩⟩
              case round =>
                clear H'
                try clear c1
                try clear p2
                try clear q2
                try clear hx2
                try clear c4
                try clear c6
                try clear p6
                try clear c12
                try clear c12b0
                try clear c13
                try clear c15
                try clear c16
                try clear c18
                try clear c18b0
                try clear c18b1
                try clear p28
                try clear q28
                try clear hx28
                try clear c47
                try clear c63
                try clear p64
                try clear hcz48_0
                try clear hcz48_1
                try clear hcz48_2
                try clear hcz61_0
                try clear hcz61_1
                try clear hcz61_2
                try clear hcz64_0
                try clear hcz64_1
                try clear hcz64_2
                try clear hfz48_0
                try clear hfz48_1
                try clear hfz48_2
                try clear hfz61_0
                try clear hfz61_1
                try clear hfz61_2
                try clear hfz64_0
                try clear hfz64_1
                try clear hfz64_2
                try clear hx282_0
                try clear p282
                try clear q282
                obtain ⟨x8_3, x282000_3, x282001_3, x282002_3, x294000_3, x294001_3, x294002_3, u282001, u282002, u294001, u294002, rfl, HA, HK3, HO_282001, HO_282002, HO_294001, HO_294002, BK281, BK293, HB⟩ := hrel
                cases gk with
                | zero => exact absurd HA.out (by simp [chamberlainlaw06_NetOrder.l1])
                | succ k3 =>
                  have H := HA.out
                  clear HA
                  simp only [chamberlainlaw06_NetOrder.l1] at H
                  by_cases c67 : x8_3 < (l0.length : Int)
                  · rw [if_pos c67] at H
                    have c67b0 : decide (x8_3 < (l0.length : Int)) = true := decide_eq_true c67
                    clear c67
                    replace H := Option.bind_eq_some_iff.mp H
                    obtain ⟨⟨t294, t295, t298, t301, t302, t305⟩, A680, H⟩ := H
                    replace H : ((net_Take.f x294000_3 x294001_3 x294002_3 (wrap64 ((wrap64 ((l0.length : Int) - 1)) - x8_3))).bind fun bt308 => (if t305 = 0 then (if bt308.2.2.2.2.2 = 0 then (if 0 ≤ x8_3 then (if t301 = (rd l0 x8_3) then (if 0 ≤ (wrap64 ((wrap64 ((l0.length : Int) - 1)) - x8_3)) then (if (wrap64 ((wrap64 ((l0.length : Int) - 1)) - x8_3)) < (l0.length : Int) then (if bt308.2.2.2.1 = (rd l0 (wrap64 ((wrap64 ((l0.length : Int) - 1)) - x8_3))) then (chamberlainlaw06_NetOrder.l1 k3 l0 (wrap64 (x8_3 + 1)) t294 t295 t298 bt308.1 bt308.2.1 bt308.2.2.1) else (some false)) else (none)) else (none)) else (some false)) else (none)) else (some false)) else (some false))) = some r := H
                    have A68 := Aside0.mk A680
                    clear A680
                    replace H := Option.bind_eq_some_iff.mp H
                    obtain ⟨⟨t308, t309, t312, t315, t316, t319⟩, A690, H⟩ := H
                    replace H : (if t305 = 0 then (if t319 = 0 then (if 0 ≤ x8_3 then (if t301 = (rd l0 x8_3) then (if 0 ≤ (wrap64 ((wrap64 ((l0.length : Int) - 1)) - x8_3)) then (if (wrap64 ((wrap64 ((l0.length : Int) - 1)) - x8_3)) < (l0.length : Int) then (if t315 = (rd l0 (wrap64 ((wrap64 ((l0.length : Int) - 1)) - x8_3))) then (chamberlainlaw06_NetOrder.l1 k3 l0 (wrap64 (x8_3 + 1)) t294 t295 t298 t308 t309 t312) else (some false)) else (none)) else (none)) else (some false)) else (none)) else (some false)) else (some false)) = some r := H
                    have A69 := Aside0.mk A690
                    clear A690
                    by_cases c70 : t305 = 0
                    · rw [if_pos c70] at H
                      have c70b0 : (t305 == 0) = true := beq_iff_eq.mpr c70
                      have c70b1 : (t305 != 0) = false := bne_eq_false_iff_eq.mpr c70
                      clear c70
                      by_cases c71 : t319 = 0
                      · rw [if_pos c71] at H
                        have c71b0 : (t319 == 0) = true := beq_iff_eq.mpr c71
                        have c71b1 : (t319 != 0) = false := bne_eq_false_iff_eq.mpr c71
                        clear c71
                        by_cases c72 : 0 ≤ x8_3
                        · rw [if_pos c72] at H
                          have c72b0 : decide (0 ≤ x8_3) = true := decide_eq_true c72
                          clear c72
                          by_cases c73 : t301 = (rd l0 x8_3)
                          · rw [if_pos c73] at H
                            have c73b0 : (t301 == (rd l0 x8_3)) = true := beq_iff_eq.mpr c73
                            have c73b1 : (t301 != (rd l0 x8_3)) = false := bne_eq_false_iff_eq.mpr c73
                            clear c73
                            obtain ⟨ji74, hji74⟩ : ∃ j_ : Int, (wrap64 ((wrap64 ((l0.length : Int) - 1)) - x8_3)) = j_ := ⟨_, rfl⟩
                            replace H : (if 0 ≤ (ji74) then (if (ji74) < (l0.length : Int) then (if t315 = (rd l0 (ji74)) then (chamberlainlaw06_NetOrder.l1 k3 l0 (wrap64 (x8_3 + 1)) t294 t295 t298 t308 t309 t312) else (some false)) else (none)) else (none)) = some r := by first | (rw [hji74] at H; exact H) | (simp only [hji74] at H ⊢; exact H)
                            (try rw [hji74] at A68)
                            (try rw [hji74] at A69)
                            have hji74w : (IntKind.i64.wrap ((wrap64 ((l0.length : Int) - 1)) - x8_3)) = ji74 := (i64_w _).trans hji74
                            by_cases c75 : 0 ≤ (ji74)
                            · rw [if_pos c75] at H
                              have c75b0 : decide (0 ≤ (ji74)) = true := decide_eq_true c75
                              clear c75
                              by_cases c76 : (ji74) < (l0.length : Int)
                              · rw [if_pos c76] at H
                                have c76b0 : decide ((ji74) < (l0.length : Int)) = true := decide_eq_true c76
                                clear c76
                                by_cases c77 : t315 = (rd l0 (ji74))
                                · rw [if_pos c77] at H
                                  have c77b0 : (t315 == (rd l0 (ji74))) = true := beq_iff_eq.mpr c77
                                  have c77b1 : (t315 != (rd l0 (ji74))) = false := bne_eq_false_iff_eq.mpr c77
                                  clear c77
                                  have H' := Aside0.mk H
                                  clear H
                                  have hnb78 := NB281_293.out
                                  have hnc78 := NB293_281.out
                                  have ⟨hcz79_0, hcz79_1, hcz79_2⟩ := cz3_ BK281.out
                                  have ⟨hfz79_0, hfz79_1, hfz79_2⟩ := fz3_ BK281.out
                                  obtain ⟨Ao80, co80, eo80⟩ := Kd.V_slice HO_282001.out
                                  subst eo80
                                  obtain ⟨Ao81, co81, eo81⟩ := Kd.V_slice HO_282002.out
                                  subst eo81
                                  try go_wp2_with (first | ((with_reducible refine gate_callee (f := 14) rfl ?_); refine goesL_ (some 65) rfl rfl Try.func14 (by kernel_rfl) rfl #[.agg #[.int .i64 x282000_3, .slice Ao80 x282001_3.length co80, .slice Ao81 x282002_3.length co81], .int .i64 0] rfl (by (try simp only [List.map_toArray, List.map_cons, List.map_nil]); first | done | rfl | (simp only [List.length_drop, List.length_take]; rfl)) ?_; (with_reducible refine (net_Take.calls x282000_3 (fun k_ => (k_ ≠ gb281 ∧ k_ ≠ gb293)) _ _ x282001_3 (fun k_ => (k_ ≠ gb281 ∧ k_ ≠ gb293)) _ _ x282002_3 0 t294 t295 t298 t301 t302 t305 _ ?side1 ?side2 A68.out).mono ?_); (case side1 => exact HO_282001.out); (case side2 => exact HO_282002.out); rintro e w82 ⟨v296, v299, v303, rfl, ho0, ho1, ho2, hb⟩; refine ⟨_, rfl, ?_⟩; have n0_ := Aside0.mk (vb_ HO_282001.out hb); have n1_ := Aside0.mk (vb_ HO_282002.out hb); have n2_ := Aside0.mk (vb_ HO_294001.out hb); have n3_ := Aside0.mk (vb_ HO_294002.out hb); have n4_ := Aside0.mk (Kd.V_lower (Kd.V_mono (ok' := fun k_ => k_ ≠ gb281 ∧ k_ ≠ gb293) ho0 (fun k_ hk_ => ⟨Or.elim hk_ (fun hs_ => Or.elim hs_ (fun hs_ => hs_.1) (fun hs_ => hs_.1)) (fun hn_ => (fb_ BK281.out k_ hn_)), Or.elim hk_ (fun hs_ => Or.elim hs_ (fun hs_ => hs_.2) (fun hs_ => hs_.2)) (fun hn_ => (fb_ BK293.out k_ hn_))⟩)) (below_size (by repeat (first | (with_reducible first | exact HB.out | apply below_alloc | apply pw_below_drewN | apply below_drew1 | refine below_set ?_ GE281.out | refine below_set ?_ GE293.out) | exact HB.out)))); have n5_ := Aside0.mk (Kd.V_lower (Kd.V_mono (ok' := fun k_ => k_ ≠ gb281 ∧ k_ ≠ gb293) ho1 (fun k_ hk_ => ⟨Or.elim hk_ (fun hs_ => Or.elim hs_ (fun hs_ => hs_.1) (fun hs_ => hs_.1)) (fun hn_ => (fb_ BK281.out k_ hn_)), Or.elim hk_ (fun hs_ => Or.elim hs_ (fun hs_ => hs_.2) (fun hs_ => hs_.2)) (fun hn_ => (fb_ BK293.out k_ hn_))⟩)) (below_size (by repeat (first | (with_reducible first | exact HB.out | apply below_alloc | apply pw_below_drewN | apply below_drew1 | refine below_set ?_ GE281.out | refine below_set ?_ GE293.out) | exact HB.out)))); have n6_ := Aside0.mk (Kd.V_lower (Kd.V_mono (ok' := fun k_ => k_ ≠ gb281 ∧ k_ ≠ gb293) ho2 (fun k_ hk_ => ⟨Or.elim hk_ (fun hs_ => Or.elim hs_ (fun hs_ => hs_.1) (fun hs_ => hs_.1)) (fun hn_ => (fb_ BK281.out k_ hn_)), Or.elim hk_ (fun hs_ => Or.elim hs_ (fun hs_ => hs_.2) (fun hs_ => hs_.2)) (fun hn_ => (fb_ BK293.out k_ hn_))⟩)) (below_size (by repeat (first | (with_reducible first | exact HB.out | apply below_alloc | apply pw_below_drewN | apply below_drew1 | refine below_set ?_ GE281.out | refine below_set ?_ GE293.out) | exact HB.out)))); have n7_ := Aside0.mk (bb_ BK281.out hb); have n8_ := Aside0.mk (bb_ BK293.out hb); have n9_ := Aside0.mk (bs_ hb); clear HO_282001 HO_282002 HO_294001 HO_294002 BK281 BK293 HB; have HO_282001 := n0_; have HO_282002 := n1_; have HO_294001 := n2_; have HO_294002 := n3_; have HO297 := n4_; have HO300 := n5_; have HO304 := n6_; have BK281 := n7_; have BK293 := n8_; have HB := n9_; clear n0_ n1_ n2_ n3_ n4_ n5_ n6_ n7_ n8_ n9_; (try clear hb); (try clear hb2); (try clear hk); (try clear hi); (try clear ho0); (try clear ho1); (try clear ho2)) | ((with_reducible refine gate_dst (N := 9) rfl ?_); (try (refine gate_guard (by rfl) ?_; dsimp only)); refine box_event ?hg (N := 9) ?hd (cs := #[.int .i64 0, .slice none 0 0, .slice none 0 0]) (t := 25) ?hr ?_; (case hd => rfl); (case hg => rfl); (case hr => first | (go_simp; done) | (go_simp; rfl)); intro gb306 hg w83 hbox hb; have n0_ := Aside0.mk (ve_ HO_282001.out gb306 hg hb); have n1_ := Aside0.mk (ve_ HO_282002.out gb306 hg hb); have n2_ := Aside0.mk (ve_ HO_294001.out gb306 hg hb); have n3_ := Aside0.mk (ve_ HO_294002.out gb306 hg hb); have n4_ := Aside0.mk (ve_ HO297.out gb306 hg hb); have n5_ := Aside0.mk (ve_ HO300.out gb306 hg hb); have n6_ := Aside0.mk (ve_ HO304.out gb306 hg hb); have n7_ := Aside0.mk (bb_ BK281.out hb); have n8_ := Aside0.mk (bb_ BK293.out hb); have n9_ := Aside0.mk (bs_ hb); have n10_ := Aside0.mk (hbox); have n12_ := Aside0.mk ((ge_ hg : w.heap.size ≤ gb306)); have n13_ := Aside0.mk ((by rw [hg]; exact Nat.ne_of_lt (blk_lt (g := gb281) (o := .cells #[.int .i64 x282000_3, .slice Ao80 x282001_3.length co80, .slice Ao81 x282002_3.length co81] 25 (0, 0)) (by (with_reducible repeat (first | refine blk_drewN ?_ _ | refine blk_drew ?_ | refine blk_alloc ?_ _)); exact BK281.out)) : gb281 ≠ gb306)); have n14_ := Aside0.mk ((by rw [hg]; exact Nat.ne_of_gt (blk_lt (g := gb281) (o := .cells #[.int .i64 x282000_3, .slice Ao80 x282001_3.length co80, .slice Ao81 x282002_3.length co81] 25 (0, 0)) (by (with_reducible repeat (first | refine blk_drewN ?_ _ | refine blk_drew ?_ | refine blk_alloc ?_ _)); exact BK281.out)) : gb306 ≠ gb281)); have n15_ := Aside0.mk ((by rw [hg]; exact Nat.ne_of_lt (blk_lt (g := gb293) (o := .cells #[.int .i64 x294000_3, u294001, u294002] 25 (0, 0)) (by (with_reducible repeat (first | refine blk_drewN ?_ _ | refine blk_drew ?_ | refine blk_alloc ?_ _)); exact BK293.out)) : gb293 ≠ gb306)); have n16_ := Aside0.mk ((by rw [hg]; exact Nat.ne_of_gt (blk_lt (g := gb293) (o := .cells #[.int .i64 x294000_3, u294001, u294002] 25 (0, 0)) (by (with_reducible repeat (first | refine blk_drewN ?_ _ | refine blk_drew ?_ | refine blk_alloc ?_ _)); exact BK293.out)) : gb306 ≠ gb293)); clear HO_282001 HO_282002 HO_294001 HO_294002 HO297 HO300 HO304 BK281 BK293 HB; have HO_282001 := n0_; have HO_282002 := n1_; have HO_294001 := n2_; have HO_294002 := n3_; have HO297 := n4_; have HO300 := n5_; have HO304 := n6_; have BK281 := n7_; have BK293 := n8_; have HB := n9_; have BK306 := n10_; have GE306 := n12_; have NB281_306 := n13_; have NB306_281 := n14_; have NB293_306 := n15_; have NB306_293 := n16_; clear n0_ n1_ n2_ n3_ n4_ n5_ n6_ n7_ n8_ n9_ n10_ n12_ n13_ n14_ n15_ n16_; clear hb hbox hg) | ((with_reducible refine gate_dst (N := 10) rfl ?_); (try (refine gate_guard (by rfl) ?_; dsimp only)); refine box_event ?hg (N := 10) ?hd (cs := #[.int .u32 0, .slice none 0 0]) (t := 29) ?hr ?_; (case hd => rfl); (case hg => rfl); (case hr => first | (go_simp; done) | (go_simp; rfl)); intro gb307 hg w84 hbox hb; have n0_ := Aside0.mk (ve_ HO_282001.out gb307 hg hb); have n1_ := Aside0.mk (ve_ HO_282002.out gb307 hg hb); have n2_ := Aside0.mk (ve_ HO_294001.out gb307 hg hb); have n3_ := Aside0.mk (ve_ HO_294002.out gb307 hg hb); have n4_ := Aside0.mk (ve_ HO297.out gb307 hg hb); have n5_ := Aside0.mk (ve_ HO300.out gb307 hg hb); have n6_ := Aside0.mk (ve_ HO304.out gb307 hg hb); have n7_ := Aside0.mk (bb_ BK281.out hb); have n8_ := Aside0.mk (bb_ BK293.out hb); have n9_ := Aside0.mk (bb_ BK306.out hb); have n10_ := Aside0.mk (bs_ hb); have n11_ := Aside0.mk (hbox); have n13_ := Aside0.mk ((ge_ hg : w.heap.size ≤ gb307)); have n14_ := Aside0.mk ((by rw [hg]; exact Nat.ne_of_lt (blk_lt (g := gb281) (o := .cells #[.int .i64 x282000_3, .slice Ao80 x282001_3.length co80, .slice Ao81 x282002_3.length co81] 25 (0, 0)) (by (with_reducible repeat (first | refine blk_drewN ?_ _ | refine blk_drew ?_ | refine blk_alloc ?_ _)); exact BK281.out)) : gb281 ≠ gb307)); have n15_ := Aside0.mk ((by rw [hg]; exact Nat.ne_of_gt (blk_lt (g := gb281) (o := .cells #[.int .i64 x282000_3, .slice Ao80 x282001_3.length co80, .slice Ao81 x282002_3.length co81] 25 (0, 0)) (by (with_reducible repeat (first | refine blk_drewN ?_ _ | refine blk_drew ?_ | refine blk_alloc ?_ _)); exact BK281.out)) : gb307 ≠ gb281)); have n16_ := Aside0.mk ((by rw [hg]; exact Nat.ne_of_lt (blk_lt (g := gb293) (o := .cells #[.int .i64 x294000_3, u294001, u294002] 25 (0, 0)) (by (with_reducible repeat (first | refine blk_drewN ?_ _ | refine blk_drew ?_ | refine blk_alloc ?_ _)); exact BK293.out)) : gb293 ≠ gb307)); have n17_ := Aside0.mk ((by rw [hg]; exact Nat.ne_of_gt (blk_lt (g := gb293) (o := .cells #[.int .i64 x294000_3, u294001, u294002] 25 (0, 0)) (by (with_reducible repeat (first | refine blk_drewN ?_ _ | refine blk_drew ?_ | refine blk_alloc ?_ _)); exact BK293.out)) : gb307 ≠ gb293)); have n18_ := Aside0.mk ((by rw [hg]; exact Nat.ne_of_lt (blk_lt (g := gb306) (o := .cells #[.int .i64 0, .slice none 0 0, .slice none 0 0] 25 (0, 0)) (by (with_reducible repeat (first | refine blk_drewN ?_ _ | refine blk_drew ?_ | refine blk_alloc ?_ _)); exact BK306.out)) : gb306 ≠ gb307)); have n19_ := Aside0.mk ((by rw [hg]; exact Nat.ne_of_gt (blk_lt (g := gb306) (o := .cells #[.int .i64 0, .slice none 0 0, .slice none 0 0] 25 (0, 0)) (by (with_reducible repeat (first | refine blk_drewN ?_ _ | refine blk_drew ?_ | refine blk_alloc ?_ _)); exact BK306.out)) : gb307 ≠ gb306)); clear HO_282001 HO_282002 HO_294001 HO_294002 HO297 HO300 HO304 BK281 BK293 BK306 HB; have HO_282001 := n0_; have HO_282002 := n1_; have HO_294001 := n2_; have HO_294002 := n3_; have HO297 := n4_; have HO300 := n5_; have HO304 := n6_; have BK281 := n7_; have BK293 := n8_; have BK306 := n9_; have HB := n10_; have BK307 := n11_; have GE307 := n13_; have NB281_307 := n14_; have NB307_281 := n15_; have NB293_307 := n16_; have NB307_293 := n17_; have NB306_307 := n18_; have NB307_306 := n19_; clear n0_ n1_ n2_ n3_ n4_ n5_ n6_ n7_ n8_ n9_ n10_ n11_ n13_ n14_ n15_ n16_ n17_ n18_ n19_; clear hb hbox hg; have hnb85 := NB306_281.out; have hnc85 := NB281_306.out; have hnb86 := NB306_293.out; have hnc86 := NB293_306.out; have hnb87 := NB306_307.out; have hnc87 := NB307_306.out; have ⟨hcz88_0, hcz88_1, hcz88_2⟩ := cz3_ BK306.out; have ⟨hfz88_0, hfz88_1, hfz88_2⟩ := fz3_ BK306.out; obtain ⟨Ao89, co89, eo89⟩ := Kd.V_slice HO297.out; subst eo89; obtain ⟨Ao90, co90, eo90⟩ := Kd.V_slice HO300.out; subst eo90) | ((with_reducible refine gate_store (t := 25) (p := 9) rfl ?_); refine store_event (t := 25) (p := 9) (v := ?vo_w91) (w1 := (((w84.setCell ⟨gb306, 0, none⟩ (.int .i64 t294)).setCell ⟨gb306, 1, none⟩ (.slice Ao89 t295.length co89)).setCell ⟨gb306, 2, none⟩ (.slice Ao90 t298.length co90))) ?hg ?ho ?hn ?hr ?_; (case ho => rfl); (case hg => rfl); (case hn => rfl); (case hr => first | (go_simp; done) | (go_simp; rfl)); intro w91 hw; have n0_ : Aside0 (Kd.V k29 29 w91 w.heap.size (fun k_ => k_ ≠ gb281 ∧ k_ ≠ gb293 ∧ k_ ≠ gb306 ∧ k_ ≠ gb307) (.slice Ao80 x282001_3.length co80) x282001_3) := ⟨(by rw [hw]; exact (by (with_reducible repeat (first | apply Kd.V_alloc | apply Kd.V_drewN | apply Kd.V_drew)); exact Kd.V_mono (v3_ (g := gb306) (Kd.V_mono HO_282001.out (fun k_ hk => (⟨hk, hk.1.2⟩ : _ ∧ k_ ≠ gb306)))) (fun _ hk => ⟨hk.1.1.1.1, ⟨hk.1.1.1.2, ⟨hk.1.1.2, hk.1.2⟩⟩⟩)))⟩; have n1_ : Aside0 (Kd.V (Kd.slice 26 (Kd.int .u32)) 27 w91 w.heap.size (fun k_ => k_ ≠ gb281 ∧ k_ ≠ gb293 ∧ k_ ≠ gb306 ∧ k_ ≠ gb307) (.slice Ao81 x282002_3.length co81) x282002_3) := ⟨(by rw [hw]; exact (by (with_reducible repeat (first | apply Kd.V_alloc | apply Kd.V_drewN | apply Kd.V_drew)); exact Kd.V_mono (v3_ (g := gb306) (Kd.V_mono HO_282002.out (fun k_ hk => (⟨hk, hk.1.2⟩ : _ ∧ k_ ≠ gb306)))) (fun _ hk => ⟨hk.1.1.1.1, ⟨hk.1.1.1.2, ⟨hk.1.1.2, hk.1.2⟩⟩⟩)))⟩; have n2_ : Aside0 (Kd.V k29 29 w91 w.heap.size (fun k_ => k_ ≠ gb281 ∧ k_ ≠ gb293 ∧ k_ ≠ gb306 ∧ k_ ≠ gb307) u294001 x294001_3) := ⟨(by rw [hw]; exact (by (with_reducible repeat (first | apply Kd.V_alloc | apply Kd.V_drewN | apply Kd.V_drew)); exact Kd.V_mono (v3_ (g := gb306) (Kd.V_mono HO_294001.out (fun k_ hk => (⟨hk, hk.1.2⟩ : _ ∧ k_ ≠ gb306)))) (fun _ hk => ⟨hk.1.1.1.1, ⟨hk.1.1.1.2, ⟨hk.1.1.2, hk.1.2⟩⟩⟩)))⟩; have n3_ : Aside0 (Kd.V (Kd.slice 26 (Kd.int .u32)) 27 w91 w.heap.size (fun k_ => k_ ≠ gb281 ∧ k_ ≠ gb293 ∧ k_ ≠ gb306 ∧ k_ ≠ gb307) u294002 x294002_3) := ⟨(by rw [hw]; exact (by (with_reducible repeat (first | apply Kd.V_alloc | apply Kd.V_drewN | apply Kd.V_drew)); exact Kd.V_mono (v3_ (g := gb306) (Kd.V_mono HO_294002.out (fun k_ hk => (⟨hk, hk.1.2⟩ : _ ∧ k_ ≠ gb306)))) (fun _ hk => ⟨hk.1.1.1.1, ⟨hk.1.1.1.2, ⟨hk.1.1.2, hk.1.2⟩⟩⟩)))⟩; have n4_ : Aside0 (Kd.V k29 29 w91 w.heap.size (fun k_ => k_ ≠ gb281 ∧ k_ ≠ gb293 ∧ k_ ≠ gb306 ∧ k_ ≠ gb307) (.slice Ao89 t295.length co89) t295) := ⟨(by rw [hw]; exact (by (with_reducible repeat (first | apply Kd.V_alloc | apply Kd.V_drewN | apply Kd.V_drew)); exact Kd.V_mono (v3_ (g := gb306) (Kd.V_mono HO297.out (fun k_ hk => (⟨hk, hk.1.2⟩ : _ ∧ k_ ≠ gb306)))) (fun _ hk => ⟨hk.1.1.1.1, ⟨hk.1.1.1.2, ⟨hk.1.1.2, hk.1.2⟩⟩⟩)))⟩; have n5_ : Aside0 (Kd.V (Kd.slice 26 (Kd.int .u32)) 27 w91 w.heap.size (fun k_ => k_ ≠ gb281 ∧ k_ ≠ gb293 ∧ k_ ≠ gb306 ∧ k_ ≠ gb307) (.slice Ao90 t298.length co90) t298) := ⟨(by rw [hw]; exact (by (with_reducible repeat (first | apply Kd.V_alloc | apply Kd.V_drewN | apply Kd.V_drew)); exact Kd.V_mono (v3_ (g := gb306) (Kd.V_mono HO300.out (fun k_ hk => (⟨hk, hk.1.2⟩ : _ ∧ k_ ≠ gb306)))) (fun _ hk => ⟨hk.1.1.1.1, ⟨hk.1.1.1.2, ⟨hk.1.1.2, hk.1.2⟩⟩⟩)))⟩; have n6_ : Aside0 (Kd.V (Kd.int .u32) 26 w91 w.heap.size (fun k_ => k_ ≠ gb281 ∧ k_ ≠ gb293 ∧ k_ ≠ gb306 ∧ k_ ≠ gb307) v303 t302) := ⟨(by rw [hw]; exact (by (with_reducible repeat (first | apply Kd.V_alloc | apply Kd.V_drewN | apply Kd.V_drew)); exact Kd.V_mono (v3_ (g := gb306) (Kd.V_mono HO304.out (fun k_ hk => (⟨hk, hk.1.2⟩ : _ ∧ k_ ≠ gb306)))) (fun _ hk => ⟨hk.1.1.1.1, ⟨hk.1.1.1.2, ⟨hk.1.1.2, hk.1.2⟩⟩⟩)))⟩; have n7_ : Aside0 (w91.heap[gb281]? = some (.cells #[.int .i64 x282000_3, .slice Ao80 x282001_3.length co80, .slice Ao81 x282002_3.length co81] 25 (0, 0))) := ⟨(by rw [hw]; exact (bf3_ BK281.out NB281_306.out))⟩; have n8_ : Aside0 (w91.heap[gb293]? = some (.cells #[.int .i64 x294000_3, u294001, u294002] 25 (0, 0))) := ⟨(by rw [hw]; exact (bf3_ BK293.out NB293_306.out))⟩; have n9_ : Aside0 (w91.heap[gb306]? = some (.cells #[.int .i64 t294, .slice Ao89 t295.length co89, .slice Ao90 t298.length co90] 25 (0, 0))) := ⟨(by rw [hw]; exact (bp3_ BK306.out))⟩; have n10_ : Aside0 (w91.heap[gb307]? = some (.cells #[.int .u32 0, .slice none 0 0] 29 (0, 0))) := ⟨(by rw [hw]; exact (bf3_ BK307.out NB307_306.out))⟩; have n11_ : Aside0 (Below w.heap.size w w91) := ⟨(by rw [hw]; exact (by repeat (first | (with_reducible first | exact HB.out | apply below_alloc | apply pw_below_drewN | apply below_drew1 | refine below_set ?_ GE281.out | refine below_set ?_ GE293.out | refine below_set ?_ GE306.out | refine below_set ?_ GE307.out) | exact HB.out)))⟩; clear hw HO_282001 HO_282002 HO_294001 HO_294002 HO297 HO300 HO304 BK281 BK293 BK306 BK307 HB; have HO_282001 := n0_; have HO_282002 := n1_; have HO_294001 := n2_; have HO_294002 := n3_; have HO297 := n4_; have HO300 := n5_; have HO304 := n6_; have BK281 := n7_; have BK293 := n8_; have BK306 := n9_; have BK307 := n10_; have HB := n11_; clear n0_ n1_ n2_ n3_ n4_ n5_ n6_ n7_ n8_ n9_ n10_ n11_; have hnb92 := NB307_281.out; have hnc92 := NB281_307.out; have hnb93 := NB307_293.out; have hnc93 := NB293_307.out; have ⟨hcz94_0, hcz94_1⟩ := cz2_ BK307.out; have ⟨hfz94_0, hfz94_1⟩ := fz2_ BK307.out; obtain ⟨Ao95, co95, eo95⟩ := Kd.V_slice HO304.out; subst eo95) | ((with_reducible refine gate_store (t := 29) (p := 10) rfl ?_); refine store_event (t := 29) (p := 10) (v := ?vo_w96) (w1 := ((w91.setCell ⟨gb307, 0, none⟩ (.int .u32 t301)).setCell ⟨gb307, 1, none⟩ (.slice Ao95 t302.length co95))) ?hg ?ho ?hn ?hr ?_; (case ho => rfl); (case hg => rfl); (case hn => rfl); (case hr => first | (go_simp; done) | (go_simp; rfl)); intro w96 hw; have n0_ : Aside0 (Kd.V k29 29 w96 w.heap.size (fun k_ => k_ ≠ gb281 ∧ k_ ≠ gb293 ∧ k_ ≠ gb306 ∧ k_ ≠ gb307) (.slice Ao80 x282001_3.length co80) x282001_3) := ⟨(by rw [hw]; exact (by (with_reducible repeat (first | apply Kd.V_alloc | apply Kd.V_drewN | apply Kd.V_drew)); exact Kd.V_mono (v2_ (g := gb307) (Kd.V_mono HO_282001.out (fun k_ hk => (⟨hk, hk.2.2.2⟩ : _ ∧ k_ ≠ gb307)))) (fun _ hk => ⟨hk.1.1, ⟨hk.1.2.1, ⟨hk.1.2.2.1, hk.1.2.2.2⟩⟩⟩)))⟩; have n1_ : Aside0 (Kd.V (Kd.slice 26 (Kd.int .u32)) 27 w96 w.heap.size (fun k_ => k_ ≠ gb281 ∧ k_ ≠ gb293 ∧ k_ ≠ gb306 ∧ k_ ≠ gb307) (.slice Ao81 x282002_3.length co81) x282002_3) := ⟨(by rw [hw]; exact (by (with_reducible repeat (first | apply Kd.V_alloc | apply Kd.V_drewN | apply Kd.V_drew)); exact Kd.V_mono (v2_ (g := gb307) (Kd.V_mono HO_282002.out (fun k_ hk => (⟨hk, hk.2.2.2⟩ : _ ∧ k_ ≠ gb307)))) (fun _ hk => ⟨hk.1.1, ⟨hk.1.2.1, ⟨hk.1.2.2.1, hk.1.2.2.2⟩⟩⟩)))⟩; have n2_ : Aside0 (Kd.V k29 29 w96 w.heap.size (fun k_ => k_ ≠ gb281 ∧ k_ ≠ gb293 ∧ k_ ≠ gb306 ∧ k_ ≠ gb307) u294001 x294001_3) := ⟨(by rw [hw]; exact (by (with_reducible repeat (first | apply Kd.V_alloc | apply Kd.V_drewN | apply Kd.V_drew)); exact Kd.V_mono (v2_ (g := gb307) (Kd.V_mono HO_294001.out (fun k_ hk => (⟨hk, hk.2.2.2⟩ : _ ∧ k_ ≠ gb307)))) (fun _ hk => ⟨hk.1.1, ⟨hk.1.2.1, ⟨hk.1.2.2.1, hk.1.2.2.2⟩⟩⟩)))⟩; have n3_ : Aside0 (Kd.V (Kd.slice 26 (Kd.int .u32)) 27 w96 w.heap.size (fun k_ => k_ ≠ gb281 ∧ k_ ≠ gb293 ∧ k_ ≠ gb306 ∧ k_ ≠ gb307) u294002 x294002_3) := ⟨(by rw [hw]; exact (by (with_reducible repeat (first | apply Kd.V_alloc | apply Kd.V_drewN | apply Kd.V_drew)); exact Kd.V_mono (v2_ (g := gb307) (Kd.V_mono HO_294002.out (fun k_ hk => (⟨hk, hk.2.2.2⟩ : _ ∧ k_ ≠ gb307)))) (fun _ hk => ⟨hk.1.1, ⟨hk.1.2.1, ⟨hk.1.2.2.1, hk.1.2.2.2⟩⟩⟩)))⟩; have n4_ : Aside0 (Kd.V k29 29 w96 w.heap.size (fun k_ => k_ ≠ gb281 ∧ k_ ≠ gb293 ∧ k_ ≠ gb306 ∧ k_ ≠ gb307) (.slice Ao89 t295.length co89) t295) := ⟨(by rw [hw]; exact (by (with_reducible repeat (first | apply Kd.V_alloc | apply Kd.V_drewN | apply Kd.V_drew)); exact Kd.V_mono (v2_ (g := gb307) (Kd.V_mono HO297.out (fun k_ hk => (⟨hk, hk.2.2.2⟩ : _ ∧ k_ ≠ gb307)))) (fun _ hk => ⟨hk.1.1, ⟨hk.1.2.1, ⟨hk.1.2.2.1, hk.1.2.2.2⟩⟩⟩)))⟩; have n5_ : Aside0 (Kd.V (Kd.slice 26 (Kd.int .u32)) 27 w96 w.heap.size (fun k_ => k_ ≠ gb281 ∧ k_ ≠ gb293 ∧ k_ ≠ gb306 ∧ k_ ≠ gb307) (.slice Ao90 t298.length co90) t298) := ⟨(by rw [hw]; exact (by (with_reducible repeat (first | apply Kd.V_alloc | apply Kd.V_drewN | apply Kd.V_drew)); exact Kd.V_mono (v2_ (g := gb307) (Kd.V_mono HO300.out (fun k_ hk => (⟨hk, hk.2.2.2⟩ : _ ∧ k_ ≠ gb307)))) (fun _ hk => ⟨hk.1.1, ⟨hk.1.2.1, ⟨hk.1.2.2.1, hk.1.2.2.2⟩⟩⟩)))⟩; have n6_ : Aside0 (Kd.V (Kd.int .u32) 26 w96 w.heap.size (fun k_ => k_ ≠ gb281 ∧ k_ ≠ gb293 ∧ k_ ≠ gb306 ∧ k_ ≠ gb307) (.slice Ao95 t302.length co95) t302) := ⟨(by rw [hw]; exact (by (with_reducible repeat (first | apply Kd.V_alloc | apply Kd.V_drewN | apply Kd.V_drew)); exact Kd.V_mono (v2_ (g := gb307) (Kd.V_mono HO304.out (fun k_ hk => (⟨hk, hk.2.2.2⟩ : _ ∧ k_ ≠ gb307)))) (fun _ hk => ⟨hk.1.1, ⟨hk.1.2.1, ⟨hk.1.2.2.1, hk.1.2.2.2⟩⟩⟩)))⟩; have n7_ : Aside0 (w96.heap[gb281]? = some (.cells #[.int .i64 x282000_3, .slice Ao80 x282001_3.length co80, .slice Ao81 x282002_3.length co81] 25 (0, 0))) := ⟨(by rw [hw]; exact (bf2_ BK281.out NB281_307.out))⟩; have n8_ : Aside0 (w96.heap[gb293]? = some (.cells #[.int .i64 x294000_3, u294001, u294002] 25 (0, 0))) := ⟨(by rw [hw]; exact (bf2_ BK293.out NB293_307.out))⟩; have n9_ : Aside0 (w96.heap[gb306]? = some (.cells #[.int .i64 t294, .slice Ao89 t295.length co89, .slice Ao90 t298.length co90] 25 (0, 0))) := ⟨(by rw [hw]; exact (bf2_ BK306.out NB306_307.out))⟩; have n10_ : Aside0 (w96.heap[gb307]? = some (.cells #[.int .u32 t301, .slice Ao95 t302.length co95] 29 (0, 0))) := ⟨(by rw [hw]; exact (bp2_ BK307.out))⟩; have n11_ : Aside0 (Below w.heap.size w w96) := ⟨(by rw [hw]; exact (by repeat (first | (with_reducible first | exact HB.out | apply below_alloc | apply pw_below_drewN | apply below_drew1 | refine below_set ?_ GE281.out | refine below_set ?_ GE293.out | refine below_set ?_ GE306.out | refine below_set ?_ GE307.out) | exact HB.out)))⟩; clear hw HO_282001 HO_282002 HO_294001 HO_294002 HO297 HO300 HO304 BK281 BK293 BK306 BK307 HB; have HO_282001 := n0_; have HO_282002 := n1_; have HO_294001 := n2_; have HO_294002 := n3_; have HO297 := n4_; have HO300 := n5_; have HO304 := n6_; have BK281 := n7_; have BK293 := n8_; have BK306 := n9_; have BK307 := n10_; have HB := n11_; clear n0_ n1_ n2_ n3_ n4_ n5_ n6_ n7_ n8_ n9_ n10_ n11_; have ⟨hcz97_0, hcz97_1, hcz97_2⟩ := cz3_ BK293.out; have ⟨hfz97_0, hfz97_1, hfz97_2⟩ := fz3_ BK293.out; obtain ⟨Ao98, co98, eo98⟩ := Kd.V_slice HO_294001.out; subst eo98; obtain ⟨Ao99, co99, eo99⟩ := Kd.V_slice HO_294002.out; subst eo99) | ((with_reducible refine gate_callee (f := 14) rfl ?_); refine goesL_ (some 76) rfl rfl Try.func14 (by kernel_rfl) rfl #[.agg #[.int .i64 x294000_3, .slice Ao98 x294001_3.length co98, .slice Ao99 x294002_3.length co99], .int .i64 ji74] rfl (by (try simp only [List.map_toArray, List.map_cons, List.map_nil]); first | done | (simp only [hji74]; rfl) | rfl | (simp only [List.length_drop, List.length_take]; rfl)) ?_; (with_reducible refine (net_Take.calls x294000_3 (fun k_ => (k_ ≠ gb281 ∧ (k_ ≠ gb293 ∧ (k_ ≠ gb306 ∧ k_ ≠ gb307)))) _ _ x294001_3 (fun k_ => (k_ ≠ gb281 ∧ (k_ ≠ gb293 ∧ (k_ ≠ gb306 ∧ k_ ≠ gb307)))) _ _ x294002_3 ji74 t308 t309 t312 t315 t316 t319 _ ?side1 ?side2 A69.out).mono ?_); (case side1 => exact HO_294001.out); (case side2 => exact HO_294002.out); rintro e w100 ⟨v310, v313, v317, rfl, ho0, ho1, ho2, hb⟩; refine ⟨_, rfl, ?_⟩; have n0_ := Aside0.mk (vb_ HO_282001.out hb); have n1_ := Aside0.mk (vb_ HO_282002.out hb); have n2_ := Aside0.mk (vb_ HO_294001.out hb); have n3_ := Aside0.mk (vb_ HO_294002.out hb); have n4_ := Aside0.mk (vb_ HO297.out hb); have n5_ := Aside0.mk (vb_ HO300.out hb); have n6_ := Aside0.mk (vb_ HO304.out hb); have n7_ := Aside0.mk (Kd.V_lower (Kd.V_mono (ok' := fun k_ => k_ ≠ gb281 ∧ k_ ≠ gb293 ∧ k_ ≠ gb306 ∧ k_ ≠ gb307) ho0 (fun k_ hk_ => ⟨Or.elim hk_ (fun hs_ => Or.elim hs_ (fun hs_ => hs_.1) (fun hs_ => hs_.1)) (fun hn_ => (fb_ BK281.out k_ hn_)), Or.elim hk_ (fun hs_ => Or.elim hs_ (fun hs_ => hs_.2.1) (fun hs_ => hs_.2.1)) (fun hn_ => (fb_ BK293.out k_ hn_)), Or.elim hk_ (fun hs_ => Or.elim hs_ (fun hs_ => hs_.2.2.1) (fun hs_ => hs_.2.2.1)) (fun hn_ => (fb_ BK306.out k_ hn_)), Or.elim hk_ (fun hs_ => Or.elim hs_ (fun hs_ => hs_.2.2.2) (fun hs_ => hs_.2.2.2)) (fun hn_ => (fb_ BK307.out k_ hn_))⟩)) (below_size (by repeat (first | (with_reducible first | exact HB.out | apply below_alloc | apply pw_below_drewN | apply below_drew1 | refine below_set ?_ GE281.out | refine below_set ?_ GE293.out | refine below_set ?_ GE306.out | refine below_set ?_ GE307.out) | exact HB.out)))); have n8_ := Aside0.mk (Kd.V_lower (Kd.V_mono (ok' := fun k_ => k_ ≠ gb281 ∧ k_ ≠ gb293 ∧ k_ ≠ gb306 ∧ k_ ≠ gb307) ho1 (fun k_ hk_ => ⟨Or.elim hk_ (fun hs_ => Or.elim hs_ (fun hs_ => hs_.1) (fun hs_ => hs_.1)) (fun hn_ => (fb_ BK281.out k_ hn_)), Or.elim hk_ (fun hs_ => Or.elim hs_ (fun hs_ => hs_.2.1) (fun hs_ => hs_.2.1)) (fun hn_ => (fb_ BK293.out k_ hn_)), Or.elim hk_ (fun hs_ => Or.elim hs_ (fun hs_ => hs_.2.2.1) (fun hs_ => hs_.2.2.1)) (fun hn_ => (fb_ BK306.out k_ hn_)), Or.elim hk_ (fun hs_ => Or.elim hs_ (fun hs_ => hs_.2.2.2) (fun hs_ => hs_.2.2.2)) (fun hn_ => (fb_ BK307.out k_ hn_))⟩)) (below_size (by repeat (first | (with_reducible first | exact HB.out | apply below_alloc | apply pw_below_drewN | apply below_drew1 | refine below_set ?_ GE281.out | refine below_set ?_ GE293.out | refine below_set ?_ GE306.out | refine below_set ?_ GE307.out) | exact HB.out)))); have n9_ := Aside0.mk (Kd.V_lower (Kd.V_mono (ok' := fun k_ => k_ ≠ gb281 ∧ k_ ≠ gb293 ∧ k_ ≠ gb306 ∧ k_ ≠ gb307) ho2 (fun k_ hk_ => ⟨Or.elim hk_ (fun hs_ => Or.elim hs_ (fun hs_ => hs_.1) (fun hs_ => hs_.1)) (fun hn_ => (fb_ BK281.out k_ hn_)), Or.elim hk_ (fun hs_ => Or.elim hs_ (fun hs_ => hs_.2.1) (fun hs_ => hs_.2.1)) (fun hn_ => (fb_ BK293.out k_ hn_)), Or.elim hk_ (fun hs_ => Or.elim hs_ (fun hs_ => hs_.2.2.1) (fun hs_ => hs_.2.2.1)) (fun hn_ => (fb_ BK306.out k_ hn_)), Or.elim hk_ (fun hs_ => Or.elim hs_ (fun hs_ => hs_.2.2.2) (fun hs_ => hs_.2.2.2)) (fun hn_ => (fb_ BK307.out k_ hn_))⟩)) (below_size (by repeat (first | (with_reducible first | exact HB.out | apply below_alloc | apply pw_below_drewN | apply below_drew1 | refine below_set ?_ GE281.out | refine below_set ?_ GE293.out | refine below_set ?_ GE306.out | refine below_set ?_ GE307.out) | exact HB.out)))); have n10_ := Aside0.mk (bb_ BK281.out hb); have n11_ := Aside0.mk (bb_ BK293.out hb); have n12_ := Aside0.mk (bb_ BK306.out hb); have n13_ := Aside0.mk (bb_ BK307.out hb); have n14_ := Aside0.mk (bs_ hb); clear HO_282001 HO_282002 HO_294001 HO_294002 HO297 HO300 HO304 BK281 BK293 BK306 BK307 HB; have HO_282001 := n0_; have HO_282002 := n1_; have HO_294001 := n2_; have HO_294002 := n3_; have HO297 := n4_; have HO300 := n5_; have HO304 := n6_; have HO311 := n7_; have HO314 := n8_; have HO318 := n9_; have BK281 := n10_; have BK293 := n11_; have BK306 := n12_; have BK307 := n13_; have HB := n14_; clear n0_ n1_ n2_ n3_ n4_ n5_ n6_ n7_ n8_ n9_ n10_ n11_ n12_ n13_ n14_; (try clear hb); (try clear hb2); (try clear hk); (try clear hi); (try clear ho0); (try clear ho1); (try clear ho2)) | ((with_reducible refine gate_dst (N := 12) rfl ?_); (try (refine gate_guard (by rfl) ?_; dsimp only)); refine box_event ?hg (N := 12) ?hd (cs := #[.int .i64 0, .slice none 0 0, .slice none 0 0]) (t := 25) ?hr ?_; (case hd => rfl); (case hg => rfl); (case hr => first | (go_simp; done) | (go_simp; rfl)); intro gb320 hg w101 hbox hb; have n0_ := Aside0.mk (ve_ HO_282001.out gb320 hg hb); have n1_ := Aside0.mk (ve_ HO_282002.out gb320 hg hb); have n2_ := Aside0.mk (ve_ HO_294001.out gb320 hg hb); have n3_ := Aside0.mk (ve_ HO_294002.out gb320 hg hb); have n4_ := Aside0.mk (ve_ HO297.out gb320 hg hb); have n5_ := Aside0.mk (ve_ HO300.out gb320 hg hb); have n6_ := Aside0.mk (ve_ HO304.out gb320 hg hb); have n7_ := Aside0.mk (ve_ HO311.out gb320 hg hb); have n8_ := Aside0.mk (ve_ HO314.out gb320 hg hb); have n9_ := Aside0.mk (ve_ HO318.out gb320 hg hb); have n10_ := Aside0.mk (bb_ BK281.out hb); have n11_ := Aside0.mk (bb_ BK293.out hb); have n12_ := Aside0.mk (bb_ BK306.out hb); have n13_ := Aside0.mk (bb_ BK307.out hb); have n14_ := Aside0.mk (bs_ hb); have n15_ := Aside0.mk (hbox); have n17_ := Aside0.mk ((ge_ hg : w.heap.size ≤ gb320)); have n18_ := Aside0.mk ((by rw [hg]; exact Nat.ne_of_lt (blk_lt (g := gb281) (o := .cells #[.int .i64 x282000_3, .slice Ao80 x282001_3.length co80, .slice Ao81 x282002_3.length co81] 25 (0, 0)) (by (with_reducible repeat (first | refine blk_drewN ?_ _ | refine blk_drew ?_ | refine blk_alloc ?_ _)); exact BK281.out)) : gb281 ≠ gb320)); have n19_ := Aside0.mk ((by rw [hg]; exact Nat.ne_of_gt (blk_lt (g := gb281) (o := .cells #[.int .i64 x282000_3, .slice Ao80 x282001_3.length co80, .slice Ao81 x282002_3.length co81] 25 (0, 0)) (by (with_reducible repeat (first | refine blk_drewN ?_ _ | refine blk_drew ?_ | refine blk_alloc ?_ _)); exact BK281.out)) : gb320 ≠ gb281)); have n20_ := Aside0.mk ((by rw [hg]; exact Nat.ne_of_lt (blk_lt (g := gb293) (o := .cells #[.int .i64 x294000_3, .slice Ao98 x294001_3.length co98, .slice Ao99 x294002_3.length co99] 25 (0, 0)) (by (with_reducible repeat (first | refine blk_drewN ?_ _ | refine blk_drew ?_ | refine blk_alloc ?_ _)); exact BK293.out)) : gb293 ≠ gb320)); have n21_ := Aside0.mk ((by rw [hg]; exact Nat.ne_of_gt (blk_lt (g := gb293) (o := .cells #[.int .i64 x294000_3, .slice Ao98 x294001_3.length co98, .slice Ao99 x294002_3.length co99] 25 (0, 0)) (by (with_reducible repeat (first | refine blk_drewN ?_ _ | refine blk_drew ?_ | refine blk_alloc ?_ _)); exact BK293.out)) : gb320 ≠ gb293)); have n22_ := Aside0.mk ((by rw [hg]; exact Nat.ne_of_lt (blk_lt (g := gb306) (o := .cells #[.int .i64 t294, .slice Ao89 t295.length co89, .slice Ao90 t298.length co90] 25 (0, 0)) (by (with_reducible repeat (first | refine blk_drewN ?_ _ | refine blk_drew ?_ | refine blk_alloc ?_ _)); exact BK306.out)) : gb306 ≠ gb320)); have n23_ := Aside0.mk ((by rw [hg]; exact Nat.ne_of_gt (blk_lt (g := gb306) (o := .cells #[.int .i64 t294, .slice Ao89 t295.length co89, .slice Ao90 t298.length co90] 25 (0, 0)) (by (with_reducible repeat (first | refine blk_drewN ?_ _ | refine blk_drew ?_ | refine blk_alloc ?_ _)); exact BK306.out)) : gb320 ≠ gb306)); have n24_ := Aside0.mk ((by rw [hg]; exact Nat.ne_of_lt (blk_lt (g := gb307) (o := .cells #[.int .u32 t301, .slice Ao95 t302.length co95] 29 (0, 0)) (by (with_reducible repeat (first | refine blk_drewN ?_ _ | refine blk_drew ?_ | refine blk_alloc ?_ _)); exact BK307.out)) : gb307 ≠ gb320)); have n25_ := Aside0.mk ((by rw [hg]; exact Nat.ne_of_gt (blk_lt (g := gb307) (o := .cells #[.int .u32 t301, .slice Ao95 t302.length co95] 29 (0, 0)) (by (with_reducible repeat (first | refine blk_drewN ?_ _ | refine blk_drew ?_ | refine blk_alloc ?_ _)); exact BK307.out)) : gb320 ≠ gb307)); clear HO_282001 HO_282002 HO_294001 HO_294002 HO297 HO300 HO304 HO311 HO314 HO318 BK281 BK293 BK306 BK307 HB; have HO_282001 := n0_; have HO_282002 := n1_; have HO_294001 := n2_; have HO_294002 := n3_; have HO297 := n4_; have HO300 := n5_; have HO304 := n6_; have HO311 := n7_; have HO314 := n8_; have HO318 := n9_; have BK281 := n10_; have BK293 := n11_; have BK306 := n12_; have BK307 := n13_; have HB := n14_; have BK320 := n15_; have GE320 := n17_; have NB281_320 := n18_; have NB320_281 := n19_; have NB293_320 := n20_; have NB320_293 := n21_; have NB306_320 := n22_; have NB320_306 := n23_; have NB307_320 := n24_; have NB320_307 := n25_; clear n0_ n1_ n2_ n3_ n4_ n5_ n6_ n7_ n8_ n9_ n10_ n11_ n12_ n13_ n14_ n15_ n17_ n18_ n19_ n20_ n21_ n22_ n23_ n24_ n25_; clear hb hbox hg) | ((with_reducible refine gate_dst (N := 13) rfl ?_); (try (refine gate_guard (by rfl) ?_; dsimp only)); refine box_event ?hg (N := 13) ?hd (cs := #[.int .u32 0, .slice none 0 0]) (t := 29) ?hr ?_; (case hd => rfl); (case hg => rfl); (case hr => first | (go_simp; done) | (go_simp; rfl)); intro gb321 hg w102 hbox hb; have n0_ := Aside0.mk (ve_ HO_282001.out gb321 hg hb); have n1_ := Aside0.mk (ve_ HO_282002.out gb321 hg hb); have n2_ := Aside0.mk (ve_ HO_294001.out gb321 hg hb); have n3_ := Aside0.mk (ve_ HO_294002.out gb321 hg hb); have n4_ := Aside0.mk (ve_ HO297.out gb321 hg hb); have n5_ := Aside0.mk (ve_ HO300.out gb321 hg hb); have n6_ := Aside0.mk (ve_ HO304.out gb321 hg hb); have n7_ := Aside0.mk (ve_ HO311.out gb321 hg hb); have n8_ := Aside0.mk (ve_ HO314.out gb321 hg hb); have n9_ := Aside0.mk (ve_ HO318.out gb321 hg hb); have n10_ := Aside0.mk (bb_ BK281.out hb); have n11_ := Aside0.mk (bb_ BK293.out hb); have n12_ := Aside0.mk (bb_ BK306.out hb); have n13_ := Aside0.mk (bb_ BK307.out hb); have n14_ := Aside0.mk (bb_ BK320.out hb); have n15_ := Aside0.mk (bs_ hb); have n16_ := Aside0.mk (hbox); have n18_ := Aside0.mk ((ge_ hg : w.heap.size ≤ gb321)); have n19_ := Aside0.mk ((by rw [hg]; exact Nat.ne_of_lt (blk_lt (g := gb281) (o := .cells #[.int .i64 x282000_3, .slice Ao80 x282001_3.length co80, .slice Ao81 x282002_3.length co81] 25 (0, 0)) (by (with_reducible repeat (first | refine blk_drewN ?_ _ | refine blk_drew ?_ | refine blk_alloc ?_ _)); exact BK281.out)) : gb281 ≠ gb321)); have n20_ := Aside0.mk ((by rw [hg]; exact Nat.ne_of_gt (blk_lt (g := gb281) (o := .cells #[.int .i64 x282000_3, .slice Ao80 x282001_3.length co80, .slice Ao81 x282002_3.length co81] 25 (0, 0)) (by (with_reducible repeat (first | refine blk_drewN ?_ _ | refine blk_drew ?_ | refine blk_alloc ?_ _)); exact BK281.out)) : gb321 ≠ gb281)); have n21_ := Aside0.mk ((by rw [hg]; exact Nat.ne_of_lt (blk_lt (g := gb293) (o := .cells #[.int .i64 x294000_3, .slice Ao98 x294001_3.length co98, .slice Ao99 x294002_3.length co99] 25 (0, 0)) (by (with_reducible repeat (first | refine blk_drewN ?_ _ | refine blk_drew ?_ | refine blk_alloc ?_ _)); exact BK293.out)) : gb293 ≠ gb321)); have n22_ := Aside0.mk ((by rw [hg]; exact Nat.ne_of_gt (blk_lt (g := gb293) (o := .cells #[.int .i64 x294000_3, .slice Ao98 x294001_3.length co98, .slice Ao99 x294002_3.length co99] 25 (0, 0)) (by (with_reducible repeat (first | refine blk_drewN ?_ _ | refine blk_drew ?_ | refine blk_alloc ?_ _)); exact BK293.out)) : gb321 ≠ gb293)); have n23_ := Aside0.mk ((by rw [hg]; exact Nat.ne_of_lt (blk_lt (g := gb306) (o := .cells #[.int .i64 t294, .slice Ao89 t295.length co89, .slice Ao90 t298.length co90] 25 (0, 0)) (by (with_reducible repeat (first | refine blk_drewN ?_ _ | refine blk_drew ?_ | refine blk_alloc ?_ _)); exact BK306.out)) : gb306 ≠ gb321)); have n24_ := Aside0.mk ((by rw [hg]; exact Nat.ne_of_gt (blk_lt (g := gb306) (o := .cells #[.int .i64 t294, .slice Ao89 t295.length co89, .slice Ao90 t298.length co90] 25 (0, 0)) (by (with_reducible repeat (first | refine blk_drewN ?_ _ | refine blk_drew ?_ | refine blk_alloc ?_ _)); exact BK306.out)) : gb321 ≠ gb306)); have n25_ := Aside0.mk ((by rw [hg]; exact Nat.ne_of_lt (blk_lt (g := gb307) (o := .cells #[.int .u32 t301, .slice Ao95 t302.length co95] 29 (0, 0)) (by (with_reducible repeat (first | refine blk_drewN ?_ _ | refine blk_drew ?_ | refine blk_alloc ?_ _)); exact BK307.out)) : gb307 ≠ gb321)); have n26_ := Aside0.mk ((by rw [hg]; exact Nat.ne_of_gt (blk_lt (g := gb307) (o := .cells #[.int .u32 t301, .slice Ao95 t302.length co95] 29 (0, 0)) (by (with_reducible repeat (first | refine blk_drewN ?_ _ | refine blk_drew ?_ | refine blk_alloc ?_ _)); exact BK307.out)) : gb321 ≠ gb307)); have n27_ := Aside0.mk ((by rw [hg]; exact Nat.ne_of_lt (blk_lt (g := gb320) (o := .cells #[.int .i64 0, .slice none 0 0, .slice none 0 0] 25 (0, 0)) (by (with_reducible repeat (first | refine blk_drewN ?_ _ | refine blk_drew ?_ | refine blk_alloc ?_ _)); exact BK320.out)) : gb320 ≠ gb321)); have n28_ := Aside0.mk ((by rw [hg]; exact Nat.ne_of_gt (blk_lt (g := gb320) (o := .cells #[.int .i64 0, .slice none 0 0, .slice none 0 0] 25 (0, 0)) (by (with_reducible repeat (first | refine blk_drewN ?_ _ | refine blk_drew ?_ | refine blk_alloc ?_ _)); exact BK320.out)) : gb321 ≠ gb320)); clear HO_282001 HO_282002 HO_294001 HO_294002 HO297 HO300 HO304 HO311 HO314 HO318 BK281 BK293 BK306 BK307 BK320 HB; have HO_282001 := n0_; have HO_282002 := n1_; have HO_294001 := n2_; have HO_294002 := n3_; have HO297 := n4_; have HO300 := n5_; have HO304 := n6_; have HO311 := n7_; have HO314 := n8_; have HO318 := n9_; have BK281 := n10_; have BK293 := n11_; have BK306 := n12_; have BK307 := n13_; have BK320 := n14_; have HB := n15_; have BK321 := n16_; have GE321 := n18_; have NB281_321 := n19_; have NB321_281 := n20_; have NB293_321 := n21_; have NB321_293 := n22_; have NB306_321 := n23_; have NB321_306 := n24_; have NB307_321 := n25_; have NB321_307 := n26_; have NB320_321 := n27_; have NB321_320 := n28_; clear n0_ n1_ n2_ n3_ n4_ n5_ n6_ n7_ n8_ n9_ n10_ n11_ n12_ n13_ n14_ n15_ n16_ n18_ n19_ n20_ n21_ n22_ n23_ n24_ n25_ n26_ n27_ n28_; clear hb hbox hg; have hnb103 := NB320_281.out; have hnc103 := NB281_320.out; have hnb104 := NB320_293.out; have hnc104 := NB293_320.out; have hnb105 := NB320_306.out; have hnc105 := NB306_320.out; have hnb106 := NB320_307.out; have hnc106 := NB307_320.out; have hnb107 := NB320_321.out; have hnc107 := NB321_320.out; have ⟨hcz108_0, hcz108_1, hcz108_2⟩ := cz3_ BK320.out; have ⟨hfz108_0, hfz108_1, hfz108_2⟩ := fz3_ BK320.out; obtain ⟨Ao109, co109, eo109⟩ := Kd.V_slice HO311.out; subst eo109; obtain ⟨Ao110, co110, eo110⟩ := Kd.V_slice HO314.out; subst eo110; have hnb111 := NB321_281.out; have hnc111 := NB281_321.out; have hnb112 := NB321_293.out; have hnc112 := NB293_321.out; have hnb113 := NB321_306.out; have hnc113 := NB306_321.out; have hnb114 := NB321_307.out; have hnc114 := NB307_321.out; have ⟨hcz115_0, hcz115_1⟩ := cz2_ BK321.out; have ⟨hfz115_0, hfz115_1⟩ := fz2_ BK321.out; obtain ⟨Ao116, co116, eo116⟩ := Kd.V_slice HO318.out; subst eo116))
                                  have n0_ : Aside0 (Kd.V k29 29 (((((w102.setCell ⟨gb320, 0, none⟩ (.int .i64 t308)).setCell ⟨gb320, 1, none⟩ (.slice Ao109 t309.length co109)).setCell ⟨gb320, 2, none⟩ (.slice Ao110 t312.length co110)).setCell ⟨gb321, 0, none⟩ (.int .u32 t315)).setCell ⟨gb321, 1, none⟩ (.slice Ao116 t316.length co116)) w.heap.size (fun k_ => k_ ≠ gb281 ∧ k_ ≠ gb293 ∧ k_ ≠ gb306 ∧ k_ ≠ gb307 ∧ k_ ≠ gb320 ∧ k_ ≠ gb321) (.slice Ao80 x282001_3.length co80) x282001_3) := ⟨by (with_reducible repeat (first | apply Kd.V_alloc | apply Kd.V_drewN | apply Kd.V_drew)); exact Kd.V_mono (v2_ (g := gb321) (Kd.V_far (p := ⟨gb320, 2, none⟩) (Kd.V_far (p := ⟨gb320, 1, none⟩) (Kd.V_far (p := ⟨gb320, 0, none⟩) (Kd.V_mono (Kd.V_mono HO_282001.out (fun k_ hk => (⟨hk, hk.1.2⟩ : _ ∧ k_ ≠ gb320))) (fun k_ hk => (⟨hk, hk.1.2⟩ : _ ∧ k_ ≠ gb321))) (fun _ hk => hk.1.2) (.int .i64 t308)) (fun _ hk => hk.1.2) (.slice Ao109 t309.length co109)) (fun _ hk => hk.1.2) (.slice Ao110 t312.length co110))) (fun _ hk => ⟨hk.1.1.1.1.1, ⟨hk.1.1.1.1.2.1, ⟨hk.1.1.1.1.2.2.1, ⟨hk.1.1.1.1.2.2.2, ⟨hk.1.1.1.2, hk.1.1.2⟩⟩⟩⟩⟩)⟩
                                  have n1_ : Aside0 (Kd.V (Kd.slice 26 (Kd.int .u32)) 27 (((((w102.setCell ⟨gb320, 0, none⟩ (.int .i64 t308)).setCell ⟨gb320, 1, none⟩ (.slice Ao109 t309.length co109)).setCell ⟨gb320, 2, none⟩ (.slice Ao110 t312.length co110)).setCell ⟨gb321, 0, none⟩ (.int .u32 t315)).setCell ⟨gb321, 1, none⟩ (.slice Ao116 t316.length co116)) w.heap.size (fun k_ => k_ ≠ gb281 ∧ k_ ≠ gb293 ∧ k_ ≠ gb306 ∧ k_ ≠ gb307 ∧ k_ ≠ gb320 ∧ k_ ≠ gb321) (.slice Ao81 x282002_3.length co81) x282002_3) := ⟨by (with_reducible repeat (first | apply Kd.V_alloc | apply Kd.V_drewN | apply Kd.V_drew)); exact Kd.V_mono (v2_ (g := gb321) (Kd.V_far (p := ⟨gb320, 2, none⟩) (Kd.V_far (p := ⟨gb320, 1, none⟩) (Kd.V_far (p := ⟨gb320, 0, none⟩) (Kd.V_mono (Kd.V_mono HO_282002.out (fun k_ hk => (⟨hk, hk.1.2⟩ : _ ∧ k_ ≠ gb320))) (fun k_ hk => (⟨hk, hk.1.2⟩ : _ ∧ k_ ≠ gb321))) (fun _ hk => hk.1.2) (.int .i64 t308)) (fun _ hk => hk.1.2) (.slice Ao109 t309.length co109)) (fun _ hk => hk.1.2) (.slice Ao110 t312.length co110))) (fun _ hk => ⟨hk.1.1.1.1.1, ⟨hk.1.1.1.1.2.1, ⟨hk.1.1.1.1.2.2.1, ⟨hk.1.1.1.1.2.2.2, ⟨hk.1.1.1.2, hk.1.1.2⟩⟩⟩⟩⟩)⟩
                                  have n2_ : Aside0 (Kd.V k29 29 (((((w102.setCell ⟨gb320, 0, none⟩ (.int .i64 t308)).setCell ⟨gb320, 1, none⟩ (.slice Ao109 t309.length co109)).setCell ⟨gb320, 2, none⟩ (.slice Ao110 t312.length co110)).setCell ⟨gb321, 0, none⟩ (.int .u32 t315)).setCell ⟨gb321, 1, none⟩ (.slice Ao116 t316.length co116)) w.heap.size (fun k_ => k_ ≠ gb281 ∧ k_ ≠ gb293 ∧ k_ ≠ gb306 ∧ k_ ≠ gb307 ∧ k_ ≠ gb320 ∧ k_ ≠ gb321) (.slice Ao98 x294001_3.length co98) x294001_3) := ⟨by (with_reducible repeat (first | apply Kd.V_alloc | apply Kd.V_drewN | apply Kd.V_drew)); exact Kd.V_mono (v2_ (g := gb321) (Kd.V_far (p := ⟨gb320, 2, none⟩) (Kd.V_far (p := ⟨gb320, 1, none⟩) (Kd.V_far (p := ⟨gb320, 0, none⟩) (Kd.V_mono (Kd.V_mono HO_294001.out (fun k_ hk => (⟨hk, hk.1.2⟩ : _ ∧ k_ ≠ gb320))) (fun k_ hk => (⟨hk, hk.1.2⟩ : _ ∧ k_ ≠ gb321))) (fun _ hk => hk.1.2) (.int .i64 t308)) (fun _ hk => hk.1.2) (.slice Ao109 t309.length co109)) (fun _ hk => hk.1.2) (.slice Ao110 t312.length co110))) (fun _ hk => ⟨hk.1.1.1.1.1, ⟨hk.1.1.1.1.2.1, ⟨hk.1.1.1.1.2.2.1, ⟨hk.1.1.1.1.2.2.2, ⟨hk.1.1.1.2, hk.1.1.2⟩⟩⟩⟩⟩)⟩
                                  have n3_ : Aside0 (Kd.V (Kd.slice 26 (Kd.int .u32)) 27 (((((w102.setCell ⟨gb320, 0, none⟩ (.int .i64 t308)).setCell ⟨gb320, 1, none⟩ (.slice Ao109 t309.length co109)).setCell ⟨gb320, 2, none⟩ (.slice Ao110 t312.length co110)).setCell ⟨gb321, 0, none⟩ (.int .u32 t315)).setCell ⟨gb321, 1, none⟩ (.slice Ao116 t316.length co116)) w.heap.size (fun k_ => k_ ≠ gb281 ∧ k_ ≠ gb293 ∧ k_ ≠ gb306 ∧ k_ ≠ gb307 ∧ k_ ≠ gb320 ∧ k_ ≠ gb321) (.slice Ao99 x294002_3.length co99) x294002_3) := ⟨by (with_reducible repeat (first | apply Kd.V_alloc | apply Kd.V_drewN | apply Kd.V_drew)); exact Kd.V_mono (v2_ (g := gb321) (Kd.V_far (p := ⟨gb320, 2, none⟩) (Kd.V_far (p := ⟨gb320, 1, none⟩) (Kd.V_far (p := ⟨gb320, 0, none⟩) (Kd.V_mono (Kd.V_mono HO_294002.out (fun k_ hk => (⟨hk, hk.1.2⟩ : _ ∧ k_ ≠ gb320))) (fun k_ hk => (⟨hk, hk.1.2⟩ : _ ∧ k_ ≠ gb321))) (fun _ hk => hk.1.2) (.int .i64 t308)) (fun _ hk => hk.1.2) (.slice Ao109 t309.length co109)) (fun _ hk => hk.1.2) (.slice Ao110 t312.length co110))) (fun _ hk => ⟨hk.1.1.1.1.1, ⟨hk.1.1.1.1.2.1, ⟨hk.1.1.1.1.2.2.1, ⟨hk.1.1.1.1.2.2.2, ⟨hk.1.1.1.2, hk.1.1.2⟩⟩⟩⟩⟩)⟩
                                  have n4_ : Aside0 (Kd.V k29 29 (((((w102.setCell ⟨gb320, 0, none⟩ (.int .i64 t308)).setCell ⟨gb320, 1, none⟩ (.slice Ao109 t309.length co109)).setCell ⟨gb320, 2, none⟩ (.slice Ao110 t312.length co110)).setCell ⟨gb321, 0, none⟩ (.int .u32 t315)).setCell ⟨gb321, 1, none⟩ (.slice Ao116 t316.length co116)) w.heap.size (fun k_ => k_ ≠ gb281 ∧ k_ ≠ gb293 ∧ k_ ≠ gb306 ∧ k_ ≠ gb307 ∧ k_ ≠ gb320 ∧ k_ ≠ gb321) (.slice Ao89 t295.length co89) t295) := ⟨by (with_reducible repeat (first | apply Kd.V_alloc | apply Kd.V_drewN | apply Kd.V_drew)); exact Kd.V_mono (v2_ (g := gb321) (Kd.V_far (p := ⟨gb320, 2, none⟩) (Kd.V_far (p := ⟨gb320, 1, none⟩) (Kd.V_far (p := ⟨gb320, 0, none⟩) (Kd.V_mono (Kd.V_mono HO297.out (fun k_ hk => (⟨hk, hk.1.2⟩ : _ ∧ k_ ≠ gb320))) (fun k_ hk => (⟨hk, hk.1.2⟩ : _ ∧ k_ ≠ gb321))) (fun _ hk => hk.1.2) (.int .i64 t308)) (fun _ hk => hk.1.2) (.slice Ao109 t309.length co109)) (fun _ hk => hk.1.2) (.slice Ao110 t312.length co110))) (fun _ hk => ⟨hk.1.1.1.1.1, ⟨hk.1.1.1.1.2.1, ⟨hk.1.1.1.1.2.2.1, ⟨hk.1.1.1.1.2.2.2, ⟨hk.1.1.1.2, hk.1.1.2⟩⟩⟩⟩⟩)⟩
                                  have n5_ : Aside0 (Kd.V (Kd.slice 26 (Kd.int .u32)) 27 (((((w102.setCell ⟨gb320, 0, none⟩ (.int .i64 t308)).setCell ⟨gb320, 1, none⟩ (.slice Ao109 t309.length co109)).setCell ⟨gb320, 2, none⟩ (.slice Ao110 t312.length co110)).setCell ⟨gb321, 0, none⟩ (.int .u32 t315)).setCell ⟨gb321, 1, none⟩ (.slice Ao116 t316.length co116)) w.heap.size (fun k_ => k_ ≠ gb281 ∧ k_ ≠ gb293 ∧ k_ ≠ gb306 ∧ k_ ≠ gb307 ∧ k_ ≠ gb320 ∧ k_ ≠ gb321) (.slice Ao90 t298.length co90) t298) := ⟨by (with_reducible repeat (first | apply Kd.V_alloc | apply Kd.V_drewN | apply Kd.V_drew)); exact Kd.V_mono (v2_ (g := gb321) (Kd.V_far (p := ⟨gb320, 2, none⟩) (Kd.V_far (p := ⟨gb320, 1, none⟩) (Kd.V_far (p := ⟨gb320, 0, none⟩) (Kd.V_mono (Kd.V_mono HO300.out (fun k_ hk => (⟨hk, hk.1.2⟩ : _ ∧ k_ ≠ gb320))) (fun k_ hk => (⟨hk, hk.1.2⟩ : _ ∧ k_ ≠ gb321))) (fun _ hk => hk.1.2) (.int .i64 t308)) (fun _ hk => hk.1.2) (.slice Ao109 t309.length co109)) (fun _ hk => hk.1.2) (.slice Ao110 t312.length co110))) (fun _ hk => ⟨hk.1.1.1.1.1, ⟨hk.1.1.1.1.2.1, ⟨hk.1.1.1.1.2.2.1, ⟨hk.1.1.1.1.2.2.2, ⟨hk.1.1.1.2, hk.1.1.2⟩⟩⟩⟩⟩)⟩
                                  have n6_ : Aside0 (Kd.V (Kd.int .u32) 26 (((((w102.setCell ⟨gb320, 0, none⟩ (.int .i64 t308)).setCell ⟨gb320, 1, none⟩ (.slice Ao109 t309.length co109)).setCell ⟨gb320, 2, none⟩ (.slice Ao110 t312.length co110)).setCell ⟨gb321, 0, none⟩ (.int .u32 t315)).setCell ⟨gb321, 1, none⟩ (.slice Ao116 t316.length co116)) w.heap.size (fun k_ => k_ ≠ gb281 ∧ k_ ≠ gb293 ∧ k_ ≠ gb306 ∧ k_ ≠ gb307 ∧ k_ ≠ gb320 ∧ k_ ≠ gb321) (.slice Ao95 t302.length co95) t302) := ⟨by (with_reducible repeat (first | apply Kd.V_alloc | apply Kd.V_drewN | apply Kd.V_drew)); exact Kd.V_mono (v2_ (g := gb321) (Kd.V_far (p := ⟨gb320, 2, none⟩) (Kd.V_far (p := ⟨gb320, 1, none⟩) (Kd.V_far (p := ⟨gb320, 0, none⟩) (Kd.V_mono (Kd.V_mono HO304.out (fun k_ hk => (⟨hk, hk.1.2⟩ : _ ∧ k_ ≠ gb320))) (fun k_ hk => (⟨hk, hk.1.2⟩ : _ ∧ k_ ≠ gb321))) (fun _ hk => hk.1.2) (.int .i64 t308)) (fun _ hk => hk.1.2) (.slice Ao109 t309.length co109)) (fun _ hk => hk.1.2) (.slice Ao110 t312.length co110))) (fun _ hk => ⟨hk.1.1.1.1.1, ⟨hk.1.1.1.1.2.1, ⟨hk.1.1.1.1.2.2.1, ⟨hk.1.1.1.1.2.2.2, ⟨hk.1.1.1.2, hk.1.1.2⟩⟩⟩⟩⟩)⟩
                                  have n7_ : Aside0 (Kd.V k29 29 (((((w102.setCell ⟨gb320, 0, none⟩ (.int .i64 t308)).setCell ⟨gb320, 1, none⟩ (.slice Ao109 t309.length co109)).setCell ⟨gb320, 2, none⟩ (.slice Ao110 t312.length co110)).setCell ⟨gb321, 0, none⟩ (.int .u32 t315)).setCell ⟨gb321, 1, none⟩ (.slice Ao116 t316.length co116)) w.heap.size (fun k_ => k_ ≠ gb281 ∧ k_ ≠ gb293 ∧ k_ ≠ gb306 ∧ k_ ≠ gb307 ∧ k_ ≠ gb320 ∧ k_ ≠ gb321) (.slice Ao109 t309.length co109) t309) := ⟨by (with_reducible repeat (first | apply Kd.V_alloc | apply Kd.V_drewN | apply Kd.V_drew)); exact Kd.V_mono (v2_ (g := gb321) (Kd.V_far (p := ⟨gb320, 2, none⟩) (Kd.V_far (p := ⟨gb320, 1, none⟩) (Kd.V_far (p := ⟨gb320, 0, none⟩) (Kd.V_mono (Kd.V_mono HO311.out (fun k_ hk => (⟨hk, hk.1.2⟩ : _ ∧ k_ ≠ gb320))) (fun k_ hk => (⟨hk, hk.1.2⟩ : _ ∧ k_ ≠ gb321))) (fun _ hk => hk.1.2) (.int .i64 t308)) (fun _ hk => hk.1.2) (.slice Ao109 t309.length co109)) (fun _ hk => hk.1.2) (.slice Ao110 t312.length co110))) (fun _ hk => ⟨hk.1.1.1.1.1, ⟨hk.1.1.1.1.2.1, ⟨hk.1.1.1.1.2.2.1, ⟨hk.1.1.1.1.2.2.2, ⟨hk.1.1.1.2, hk.1.1.2⟩⟩⟩⟩⟩)⟩
                                  have n8_ : Aside0 (Kd.V (Kd.slice 26 (Kd.int .u32)) 27 (((((w102.setCell ⟨gb320, 0, none⟩ (.int .i64 t308)).setCell ⟨gb320, 1, none⟩ (.slice Ao109 t309.length co109)).setCell ⟨gb320, 2, none⟩ (.slice Ao110 t312.length co110)).setCell ⟨gb321, 0, none⟩ (.int .u32 t315)).setCell ⟨gb321, 1, none⟩ (.slice Ao116 t316.length co116)) w.heap.size (fun k_ => k_ ≠ gb281 ∧ k_ ≠ gb293 ∧ k_ ≠ gb306 ∧ k_ ≠ gb307 ∧ k_ ≠ gb320 ∧ k_ ≠ gb321) (.slice Ao110 t312.length co110) t312) := ⟨by (with_reducible repeat (first | apply Kd.V_alloc | apply Kd.V_drewN | apply Kd.V_drew)); exact Kd.V_mono (v2_ (g := gb321) (Kd.V_far (p := ⟨gb320, 2, none⟩) (Kd.V_far (p := ⟨gb320, 1, none⟩) (Kd.V_far (p := ⟨gb320, 0, none⟩) (Kd.V_mono (Kd.V_mono HO314.out (fun k_ hk => (⟨hk, hk.1.2⟩ : _ ∧ k_ ≠ gb320))) (fun k_ hk => (⟨hk, hk.1.2⟩ : _ ∧ k_ ≠ gb321))) (fun _ hk => hk.1.2) (.int .i64 t308)) (fun _ hk => hk.1.2) (.slice Ao109 t309.length co109)) (fun _ hk => hk.1.2) (.slice Ao110 t312.length co110))) (fun _ hk => ⟨hk.1.1.1.1.1, ⟨hk.1.1.1.1.2.1, ⟨hk.1.1.1.1.2.2.1, ⟨hk.1.1.1.1.2.2.2, ⟨hk.1.1.1.2, hk.1.1.2⟩⟩⟩⟩⟩)⟩
                                  have n9_ : Aside0 (Kd.V (Kd.int .u32) 26 (((((w102.setCell ⟨gb320, 0, none⟩ (.int .i64 t308)).setCell ⟨gb320, 1, none⟩ (.slice Ao109 t309.length co109)).setCell ⟨gb320, 2, none⟩ (.slice Ao110 t312.length co110)).setCell ⟨gb321, 0, none⟩ (.int .u32 t315)).setCell ⟨gb321, 1, none⟩ (.slice Ao116 t316.length co116)) w.heap.size (fun k_ => k_ ≠ gb281 ∧ k_ ≠ gb293 ∧ k_ ≠ gb306 ∧ k_ ≠ gb307 ∧ k_ ≠ gb320 ∧ k_ ≠ gb321) (.slice Ao116 t316.length co116) t316) := ⟨by (with_reducible repeat (first | apply Kd.V_alloc | apply Kd.V_drewN | apply Kd.V_drew)); exact Kd.V_mono (v2_ (g := gb321) (Kd.V_far (p := ⟨gb320, 2, none⟩) (Kd.V_far (p := ⟨gb320, 1, none⟩) (Kd.V_far (p := ⟨gb320, 0, none⟩) (Kd.V_mono (Kd.V_mono HO318.out (fun k_ hk => (⟨hk, hk.1.2⟩ : _ ∧ k_ ≠ gb320))) (fun k_ hk => (⟨hk, hk.1.2⟩ : _ ∧ k_ ≠ gb321))) (fun _ hk => hk.1.2) (.int .i64 t308)) (fun _ hk => hk.1.2) (.slice Ao109 t309.length co109)) (fun _ hk => hk.1.2) (.slice Ao110 t312.length co110))) (fun _ hk => ⟨hk.1.1.1.1.1, ⟨hk.1.1.1.1.2.1, ⟨hk.1.1.1.1.2.2.1, ⟨hk.1.1.1.1.2.2.2, ⟨hk.1.1.1.2, hk.1.1.2⟩⟩⟩⟩⟩)⟩
                                  have n10_ : Aside0 ((((((w102.setCell ⟨gb320, 0, none⟩ (.int .i64 t308)).setCell ⟨gb320, 1, none⟩ (.slice Ao109 t309.length co109)).setCell ⟨gb320, 2, none⟩ (.slice Ao110 t312.length co110)).setCell ⟨gb321, 0, none⟩ (.int .u32 t315)).setCell ⟨gb321, 1, none⟩ (.slice Ao116 t316.length co116)).heap[gb281]? = some (.cells #[.int .i64 x282000_3, .slice Ao80 x282001_3.length co80, .slice Ao81 x282002_3.length co81] 25 (0, 0))) := ⟨by (with_reducible repeat (first | refine blk_drewN ?_ _ | refine blk_drew ?_ | refine blk_alloc ?_ _)); refine blk_far ?_ NB281_321.out _; (with_reducible repeat (first | refine blk_drewN ?_ _ | refine blk_drew ?_ | refine blk_alloc ?_ _)); refine blk_far ?_ NB281_321.out _; (with_reducible repeat (first | refine blk_drewN ?_ _ | refine blk_drew ?_ | refine blk_alloc ?_ _)); refine blk_far ?_ NB281_320.out _; (with_reducible repeat (first | refine blk_drewN ?_ _ | refine blk_drew ?_ | refine blk_alloc ?_ _)); refine blk_far ?_ NB281_320.out _; (with_reducible repeat (first | refine blk_drewN ?_ _ | refine blk_drew ?_ | refine blk_alloc ?_ _)); refine blk_far ?_ NB281_320.out _; (with_reducible repeat (first | refine blk_drewN ?_ _ | refine blk_drew ?_ | refine blk_alloc ?_ _)); exact BK281.out⟩
                                  have n11_ : Aside0 ((((((w102.setCell ⟨gb320, 0, none⟩ (.int .i64 t308)).setCell ⟨gb320, 1, none⟩ (.slice Ao109 t309.length co109)).setCell ⟨gb320, 2, none⟩ (.slice Ao110 t312.length co110)).setCell ⟨gb321, 0, none⟩ (.int .u32 t315)).setCell ⟨gb321, 1, none⟩ (.slice Ao116 t316.length co116)).heap[gb293]? = some (.cells #[.int .i64 x294000_3, .slice Ao98 x294001_3.length co98, .slice Ao99 x294002_3.length co99] 25 (0, 0))) := ⟨by (with_reducible repeat (first | refine blk_drewN ?_ _ | refine blk_drew ?_ | refine blk_alloc ?_ _)); refine blk_far ?_ NB293_321.out _; (with_reducible repeat (first | refine blk_drewN ?_ _ | refine blk_drew ?_ | refine blk_alloc ?_ _)); refine blk_far ?_ NB293_321.out _; (with_reducible repeat (first | refine blk_drewN ?_ _ | refine blk_drew ?_ | refine blk_alloc ?_ _)); refine blk_far ?_ NB293_320.out _; (with_reducible repeat (first | refine blk_drewN ?_ _ | refine blk_drew ?_ | refine blk_alloc ?_ _)); refine blk_far ?_ NB293_320.out _; (with_reducible repeat (first | refine blk_drewN ?_ _ | refine blk_drew ?_ | refine blk_alloc ?_ _)); refine blk_far ?_ NB293_320.out _; (with_reducible repeat (first | refine blk_drewN ?_ _ | refine blk_drew ?_ | refine blk_alloc ?_ _)); exact BK293.out⟩
                                  have n12_ : Aside0 ((((((w102.setCell ⟨gb320, 0, none⟩ (.int .i64 t308)).setCell ⟨gb320, 1, none⟩ (.slice Ao109 t309.length co109)).setCell ⟨gb320, 2, none⟩ (.slice Ao110 t312.length co110)).setCell ⟨gb321, 0, none⟩ (.int .u32 t315)).setCell ⟨gb321, 1, none⟩ (.slice Ao116 t316.length co116)).heap[gb306]? = some (.cells #[.int .i64 t294, .slice Ao89 t295.length co89, .slice Ao90 t298.length co90] 25 (0, 0))) := ⟨by (with_reducible repeat (first | refine blk_drewN ?_ _ | refine blk_drew ?_ | refine blk_alloc ?_ _)); refine blk_far ?_ NB306_321.out _; (with_reducible repeat (first | refine blk_drewN ?_ _ | refine blk_drew ?_ | refine blk_alloc ?_ _)); refine blk_far ?_ NB306_321.out _; (with_reducible repeat (first | refine blk_drewN ?_ _ | refine blk_drew ?_ | refine blk_alloc ?_ _)); refine blk_far ?_ NB306_320.out _; (with_reducible repeat (first | refine blk_drewN ?_ _ | refine blk_drew ?_ | refine blk_alloc ?_ _)); refine blk_far ?_ NB306_320.out _; (with_reducible repeat (first | refine blk_drewN ?_ _ | refine blk_drew ?_ | refine blk_alloc ?_ _)); refine blk_far ?_ NB306_320.out _; (with_reducible repeat (first | refine blk_drewN ?_ _ | refine blk_drew ?_ | refine blk_alloc ?_ _)); exact BK306.out⟩
                                  have n13_ : Aside0 ((((((w102.setCell ⟨gb320, 0, none⟩ (.int .i64 t308)).setCell ⟨gb320, 1, none⟩ (.slice Ao109 t309.length co109)).setCell ⟨gb320, 2, none⟩ (.slice Ao110 t312.length co110)).setCell ⟨gb321, 0, none⟩ (.int .u32 t315)).setCell ⟨gb321, 1, none⟩ (.slice Ao116 t316.length co116)).heap[gb307]? = some (.cells #[.int .u32 t301, .slice Ao95 t302.length co95] 29 (0, 0))) := ⟨by (with_reducible repeat (first | refine blk_drewN ?_ _ | refine blk_drew ?_ | refine blk_alloc ?_ _)); refine blk_far ?_ NB307_321.out _; (with_reducible repeat (first | refine blk_drewN ?_ _ | refine blk_drew ?_ | refine blk_alloc ?_ _)); refine blk_far ?_ NB307_321.out _; (with_reducible repeat (first | refine blk_drewN ?_ _ | refine blk_drew ?_ | refine blk_alloc ?_ _)); refine blk_far ?_ NB307_320.out _; (with_reducible repeat (first | refine blk_drewN ?_ _ | refine blk_drew ?_ | refine blk_alloc ?_ _)); refine blk_far ?_ NB307_320.out _; (with_reducible repeat (first | refine blk_drewN ?_ _ | refine blk_drew ?_ | refine blk_alloc ?_ _)); refine blk_far ?_ NB307_320.out _; (with_reducible repeat (first | refine blk_drewN ?_ _ | refine blk_drew ?_ | refine blk_alloc ?_ _)); exact BK307.out⟩
                                  have n14_ : Aside0 ((((((w102.setCell ⟨gb320, 0, none⟩ (.int .i64 t308)).setCell ⟨gb320, 1, none⟩ (.slice Ao109 t309.length co109)).setCell ⟨gb320, 2, none⟩ (.slice Ao110 t312.length co110)).setCell ⟨gb321, 0, none⟩ (.int .u32 t315)).setCell ⟨gb321, 1, none⟩ (.slice Ao116 t316.length co116)).heap[gb320]? = some (.cells #[.int .i64 t308, .slice Ao109 t309.length co109, .slice Ao110 t312.length co110] 25 (0, 0))) := ⟨by (with_reducible repeat (first | refine blk_drewN ?_ _ | refine blk_drew ?_ | refine blk_alloc ?_ _)); refine blk_far ?_ NB320_321.out _; (with_reducible repeat (first | refine blk_drewN ?_ _ | refine blk_drew ?_ | refine blk_alloc ?_ _)); refine blk_far ?_ NB320_321.out _; (with_reducible repeat (first | refine blk_drewN ?_ _ | refine blk_drew ?_ | refine blk_alloc ?_ _)); refine blk_put (cs := #[.int .i64 t308, .slice Ao109 t309.length co109, .slice none 0 0]) ?_ 2 _ rfl; (with_reducible repeat (first | refine blk_drewN ?_ _ | refine blk_drew ?_ | refine blk_alloc ?_ _)); refine blk_put (cs := #[.int .i64 t308, .slice none 0 0, .slice none 0 0]) ?_ 1 _ rfl; (with_reducible repeat (first | refine blk_drewN ?_ _ | refine blk_drew ?_ | refine blk_alloc ?_ _)); refine blk_put (cs := #[.int .i64 0, .slice none 0 0, .slice none 0 0]) ?_ 0 _ rfl; (with_reducible repeat (first | refine blk_drewN ?_ _ | refine blk_drew ?_ | refine blk_alloc ?_ _)); exact BK320.out⟩
                                  have n15_ : Aside0 ((((((w102.setCell ⟨gb320, 0, none⟩ (.int .i64 t308)).setCell ⟨gb320, 1, none⟩ (.slice Ao109 t309.length co109)).setCell ⟨gb320, 2, none⟩ (.slice Ao110 t312.length co110)).setCell ⟨gb321, 0, none⟩ (.int .u32 t315)).setCell ⟨gb321, 1, none⟩ (.slice Ao116 t316.length co116)).heap[gb321]? = some (.cells #[.int .u32 t315, .slice Ao116 t316.length co116] 29 (0, 0))) := ⟨by (with_reducible repeat (first | refine blk_drewN ?_ _ | refine blk_drew ?_ | refine blk_alloc ?_ _)); refine blk_put (cs := #[.int .u32 t315, .slice none 0 0]) ?_ 1 _ rfl; (with_reducible repeat (first | refine blk_drewN ?_ _ | refine blk_drew ?_ | refine blk_alloc ?_ _)); refine blk_put (cs := #[.int .u32 0, .slice none 0 0]) ?_ 0 _ rfl; (with_reducible repeat (first | refine blk_drewN ?_ _ | refine blk_drew ?_ | refine blk_alloc ?_ _)); refine blk_far ?_ NB321_320.out _; (with_reducible repeat (first | refine blk_drewN ?_ _ | refine blk_drew ?_ | refine blk_alloc ?_ _)); refine blk_far ?_ NB321_320.out _; (with_reducible repeat (first | refine blk_drewN ?_ _ | refine blk_drew ?_ | refine blk_alloc ?_ _)); refine blk_far ?_ NB321_320.out _; (with_reducible repeat (first | refine blk_drewN ?_ _ | refine blk_drew ?_ | refine blk_alloc ?_ _)); exact BK321.out⟩
                                  have n16_ : Aside0 (Below w.heap.size w (((((w102.setCell ⟨gb320, 0, none⟩ (.int .i64 t308)).setCell ⟨gb320, 1, none⟩ (.slice Ao109 t309.length co109)).setCell ⟨gb320, 2, none⟩ (.slice Ao110 t312.length co110)).setCell ⟨gb321, 0, none⟩ (.int .u32 t315)).setCell ⟨gb321, 1, none⟩ (.slice Ao116 t316.length co116))) := ⟨by repeat (first | (with_reducible first | exact HB.out | apply below_alloc | apply pw_below_drewN | apply below_drew1 | refine below_set ?_ GE281.out | refine below_set ?_ GE293.out | refine below_set ?_ GE306.out | refine below_set ?_ GE307.out | refine below_set ?_ GE320.out | refine below_set ?_ GE321.out) | exact HB.out)⟩
                                  (try clear HO_282001)
                                  (try clear HO_282002)
                                  (try clear HO_294001)
                                  (try clear HO_294002)
                                  (try clear HO297)
                                  (try clear HO300)
                                  (try clear HO304)
                                  (try clear HO311)
                                  (try clear HO314)
                                  (try clear HO318)
                                  (try clear BK281)
                                  (try clear BK293)
                                  (try clear BK306)
                                  (try clear BK307)
                                  (try clear BK320)
                                  (try clear BK321)
                                  (try clear HB)
                                  generalize (((((w102.setCell ⟨gb320, 0, none⟩ (.int .i64 t308)).setCell ⟨gb320, 1, none⟩ (.slice Ao109 t309.length co109)).setCell ⟨gb320, 2, none⟩ (.slice Ao110 t312.length co110)).setCell ⟨gb321, 0, none⟩ (.int .u32 t315)).setCell ⟨gb321, 1, none⟩ (.slice Ao116 t316.length co116)) = w117 at n0_ n1_ n2_ n3_ n4_ n5_ n6_ n7_ n8_ n9_ n10_ n11_ n12_ n13_ n14_ n15_ n16_ ⊢
                                  have HO_282001 := n0_
                                  have HO_282002 := n1_
                                  have HO_294001 := n2_
                                  have HO_294002 := n3_
                                  have HO297 := n4_
                                  have HO300 := n5_
                                  have HO304 := n6_
                                  have HO311 := n7_
                                  have HO314 := n8_
                                  have HO318 := n9_
                                  have BK281 := n10_
                                  have BK293 := n11_
                                  have BK306 := n12_
                                  have BK307 := n13_
                                  have BK320 := n14_
                                  have BK321 := n15_
                                  have HB := n16_
                                  clear n0_ n1_ n2_ n3_ n4_ n5_ n6_ n7_ n8_ n9_ n10_ n11_ n12_ n13_ n14_ n15_ n16_
                                  have n0_ := Aside0.mk (Kd.V_drew HO_282001.out)
                                  have n1_ := Aside0.mk (Kd.V_drew HO_282002.out)
                                  have n2_ := Aside0.mk (Kd.V_drew HO_294001.out)
                                  have n3_ := Aside0.mk (Kd.V_drew HO_294002.out)
                                  have n4_ := Aside0.mk (Kd.V_drew HO297.out)
                                  have n5_ := Aside0.mk (Kd.V_drew HO300.out)
                                  have n6_ := Aside0.mk (Kd.V_drew HO304.out)
                                  have n7_ := Aside0.mk (Kd.V_drew HO311.out)
                                  have n8_ := Aside0.mk (Kd.V_drew HO314.out)
                                  have n9_ := Aside0.mk (Kd.V_drew HO318.out)
                                  have n10_ := Aside0.mk (blk_drew BK281.out)
                                  have n11_ := Aside0.mk (blk_drew BK293.out)
                                  have n12_ := Aside0.mk (blk_drew BK306.out)
                                  have n13_ := Aside0.mk (blk_drew BK307.out)
                                  have n14_ := Aside0.mk (blk_drew BK320.out)
                                  have n15_ := Aside0.mk (blk_drew BK321.out)
                                  have n16_ := Aside0.mk (below_drew1 HB.out)
                                  clear HO_282001 HO_282002 HO_294001 HO_294002 HO297 HO300 HO304 HO311 HO314 HO318 BK281 BK293 BK306 BK307 BK320 BK321 HB
                                  have HO_282001 := n0_
                                  have HO_282002 := n1_
                                  have HO_294001 := n2_
                                  have HO_294002 := n3_
                                  have HO297 := n4_
                                  have HO300 := n5_
                                  have HO304 := n6_
                                  have HO311 := n7_
                                  have HO314 := n8_
                                  have HO318 := n9_
                                  have BK281 := n10_
                                  have BK293 := n11_
                                  have BK306 := n12_
                                  have BK307 := n13_
                                  have BK320 := n14_
                                  have BK321 := n15_
                                  have HB := n16_
                                  clear n0_ n1_ n2_ n3_ n4_ n5_ n6_ n7_ n8_ n9_ n10_ n11_ n12_ n13_ n14_ n15_ n16_
                                  have p322 : 0 ≤ (x8_3 : Int) := of_decide_eq_true (by first | (with_reducible assumption) | assumption)
                                  have q322 : x8_3 < (l0.length : Int) := of_decide_eq_true (by first | (with_reducible assumption) | assumption)
                                  obtain ⟨ad322, e322, hx322_0⟩ := Kd.at_int HR0.out x8_3 p322 q322
                                  have hw322_0 := hx322_0
                                  cases e322
                                  replace hx322_0 := (HB.out.cell (World.block_lt_of_cell? w _ hx322_0)).trans hx322_0
                                  replace p322 := eq_true p322
                                  replace q322 := eq_true q322
                                  have p323 : 0 ≤ ((ji74) : Int) := of_decide_eq_true (by first | (with_reducible assumption) | assumption)
                                  have q323 : (ji74) < (l0.length : Int) := of_decide_eq_true (by first | (with_reducible assumption) | assumption)
                                  obtain ⟨ad323, e323, hx323_0⟩ := Kd.at_int HR0.out (ji74) p323 q323
                                  have hw323_0 := hx323_0
                                  obtain rfl : ad322 = ad323 := (by injection e323)
                                  replace hx323_0 := (HB.out.cell (World.block_lt_of_cell? w _ hx323_0)).trans hx323_0
                                  replace p323 := eq_true p323
                                  replace q323 := eq_true q323
                                  refine start_ (n := 28) (S := fun w' => w'.cell? ⟨gb307, 0, none⟩ = some (.int .u32 t301) ∧ w'.cell? ⟨gb307, 1, none⟩ = some (.slice Ao95 t302.length co95) ∧ w'.cell? ⟨gb321, 0, none⟩ = some (.int .u32 t315) ∧ w'.cell? ⟨gb321, 1, none⟩ = some (.slice Ao116 t316.length co116) ∧ w'.cell? (ad322.add (x8_3).toNat) = some (.int .u32 (rd l0 x8_3)) ∧ w'.cell? (ad322.add ((ji74)).toNat) = some (.int .u32 (rd l0 (ji74)))) (ds := []) #[false, false, false, false, false, false, false, false, false, false, false, false, false, false, false, false, false, false, false, false, false, false, false, false, false, false, false, false] (by kernel_rfl) rfl rfl ⟨(blk_cell BK307.out 0).trans rfl, (blk_cell BK307.out 1).trans rfl, (blk_cell BK321.out 0).trans rfl, (blk_cell BK321.out 1).trans rfl, ((HB.out.cell (World.block_lt_of_cell? w _ hw322_0)).trans hw322_0), ((HB.out.cell (World.block_lt_of_cell? w _ hw323_0)).trans hw323_0)⟩ (fun hHeld => ?_); refine with_tabW chamberlainlaw06_NetOrder.tab17 chamberlainlaw06_NetOrder.bits17 (fun HT_ HW_ => ?_)
                                  generalize w117.drew = w118 at HO_282001 HO_282002 HO_294001 HO_294002 HO297 HO300 HO304 HO311 HO314 HO318 BK281 BK293 BK306 BK307 BK320 BK321 HB hx322_0 hx323_0 hHeld ⊢
                                  refine pure_ (i := 0) (N := some 80) (v := ?_) (a' := ?_) #[true, false, false, false, false, false, false, false, false, false, false, false, false, false, false, false, false, false, false, false, false, false, false, false, false, false, false, false] rfl rfl (any_of HT_.out (by kernel_rfl)) (fun _ _ _ h => h) (Or.inl ⟨by rfl, ?_⟩) ?_ ?_
                                  rotate_left
                                  · intro w'
                                    go_simp
                                    with_reducible rfl
                                  rotate_left
                                  · simp only [Act.put, List.setIfInBounds_toArray, List.set_cons_zero, List.set_cons_succ, i64_w, i32_w]
                                    rfl
                                  refine pure_ (i := 1) (N := some 81) (v := ?_) (a' := ?_) #[true, true, false, false, false, false, false, false, false, false, false, false, false, false, false, false, false, false, false, false, false, false, false, false, false, false, false, false] rfl rfl (any_of HT_.out (by kernel_rfl)) (fun _ _ _ h => h) (Or.inl ⟨by rfl, ?_⟩) ?_ ?_
                                  rotate_left
                                  · intro w'
                                    go_simp
                                    with_reducible rfl
                                  rotate_left
                                  · simp only [Act.put, List.setIfInBounds_toArray, List.set_cons_zero, List.set_cons_succ, i64_w, i32_w]
                                    rfl
                                  refine pure_ (i := 2) (N := some 82) (v := ?_) (a' := ?_) #[true, true, true, false, false, false, false, false, false, false, false, false, false, false, false, false, false, false, false, false, false, false, false, false, false, false, false, false] rfl rfl (any_of HT_.out (by kernel_rfl)) (fun _ _ _ h => h) (Or.inl ⟨by rfl, ?_⟩) ?_ ?_
                                  rotate_left
                                  · intro w'
                                    go_simp
                                    with_reducible rfl
                                  rotate_left
                                  · simp only [Act.put, List.setIfInBounds_toArray, List.set_cons_zero, List.set_cons_succ, i64_w, i32_w]
                                    rfl
                                  refine pure_ (i := 3) (N := some 83) (v := ?_) (a' := ?_) #[true, true, true, true, false, false, false, false, false, false, false, false, false, false, false, false, false, false, false, false, false, false, false, false, false, false, false, false] rfl rfl (any_of HT_.out (by kernel_rfl)) (fun _ _ _ h => h) (Or.inl ⟨by rfl, ?_⟩) ?_ ?_
                                  rotate_left
                                  · intro w'
                                    go_simp
                                    with_reducible rfl
                                  rotate_left
                                  · simp only [Act.put, List.setIfInBounds_toArray, List.set_cons_zero, List.set_cons_succ, i64_w, i32_w]
                                    rfl
                                  refine pure_ (i := 4) (N := some 84) (v := ?_) (a' := ?_) #[true, true, true, true, true, false, false, false, false, false, false, false, false, false, false, false, false, false, false, false, false, false, false, false, false, false, false, false] rfl rfl (any_of HT_.out (by kernel_rfl)) (fun _ _ _ h => h) (Or.inl ⟨by rfl, ?_⟩) ?_ ?_
                                  rotate_left
                                  · intro w'
                                    go_simp
                                    with_reducible rfl
                                  rotate_left
                                  · simp only [Act.put, List.setIfInBounds_toArray, List.set_cons_zero, List.set_cons_succ, i64_w, i32_w]
                                    rfl
                                  refine pure_ (i := 5) (N := some 85) (v := ?_) (a' := ?_) #[true, true, true, true, true, true, false, false, false, false, false, false, false, false, false, false, false, false, false, false, false, false, false, false, false, false, false, false] rfl rfl (any_of HT_.out (by kernel_rfl)) (fun _ _ _ h => h) (Or.inl ⟨by rfl, ?_⟩) ?_ ?_
                                  rotate_left
                                  · intro w'
                                    go_simp
                                    with_reducible rfl
                                  rotate_left
                                  · simp only [Act.put, List.setIfInBounds_toArray, List.set_cons_zero, List.set_cons_succ, i64_w, i32_w]
                                    rfl
                                  refine pure_ (i := 6) (N := some 86) (v := ?_) (a' := ?_) #[true, true, true, true, true, true, true, false, false, false, false, false, false, false, false, false, false, false, false, false, false, false, false, false, false, false, false, false] rfl rfl (any_of HT_.out (by kernel_rfl)) (fun _ _ _ h => h) (Or.inl ⟨by rfl, ?_⟩) ?_ ?_
                                  rotate_left
                                  · intro w'
                                    go_simp
                                    with_reducible rfl
                                  rotate_left
                                  · simp only [Act.put, List.setIfInBounds_toArray, List.set_cons_zero, List.set_cons_succ, i64_w, i32_w]
                                    rfl
                                  refine pure_ (i := 7) (N := some 87) (v := ?_) (a' := ?_) #[true, true, true, true, true, true, true, true, false, false, false, false, false, false, false, false, false, false, false, false, false, false, false, false, false, false, false, false] rfl rfl (any_of HT_.out (by kernel_rfl)) (fun _ _ _ h => h) (Or.inl ⟨by rfl, ?_⟩) ?_ ?_
                                  rotate_left
                                  · intro w'
                                    go_simp
                                    with_reducible rfl
                                  rotate_left
                                  · simp only [Act.put, List.setIfInBounds_toArray, List.set_cons_zero, List.set_cons_succ, i64_w, i32_w]
                                    rfl
                                  refine pure_ (i := 9) (N := some 89) (v := ?_) (a' := ?_) #[true, true, true, true, true, true, true, true, false, true, false, false, false, false, false, false, false, false, false, false, false, false, false, false, false, false, false, false] rfl rfl (any_of HT_.out (by kernel_rfl)) (fun _ _ _ h => h) (Or.inl ⟨by rfl, ?_⟩) ?_ ?_
                                  rotate_left
                                  · intro w'
                                    go_simp
                                    with_reducible rfl
                                  rotate_left
                                  · simp only [Act.put, List.setIfInBounds_toArray, List.set_cons_zero, List.set_cons_succ, i64_w, i32_w]
                                    rfl
                                  refine pure_ (i := 10) (N := some 90) (v := ?_) (a' := ?_) #[true, true, true, true, true, true, true, true, false, true, true, false, false, false, false, false, false, false, false, false, false, false, false, false, false, false, false, false] rfl rfl (any_of HT_.out (by kernel_rfl)) (fun _ _ _ h => h) (Or.inl ⟨by rfl, ?_⟩) ?_ ?_
                                  rotate_left
                                  · intro w'
                                    go_simp
                                    with_reducible rfl
                                  rotate_left
                                  · simp only [Act.put, List.setIfInBounds_toArray, List.set_cons_zero, List.set_cons_succ, i64_w, i32_w]
                                    rfl
                                  refine pure_ (i := 11) (N := some 91) (v := ?_) (a' := ?_) #[true, true, true, true, true, true, true, true, false, true, true, true, false, false, false, false, false, false, false, false, false, false, false, false, false, false, false, false] rfl rfl (any_of HT_.out (by kernel_rfl)) (fun _ _ _ h => h) (Or.inl ⟨by rfl, ?_⟩) ?_ ?_
                                  rotate_left
                                  · intro w'
                                    go_simp
                                    with_reducible rfl
                                  rotate_left
                                  · simp only [Act.put, List.setIfInBounds_toArray, List.set_cons_zero, List.set_cons_succ, i64_w, i32_w]
                                    rfl
                                  refine take_ (i := 8) (N := some 88) (v := ?_) (a' := ?_) #[true, true, true, true, true, true, true, true, true, true, true, true, false, false, false, false, false, false, false, false, false, false, false, false, false, false, false, false] rfl rfl (take_ofW HT_.out HW_.out (by kernel_rfl)) (fun _ _ _ h => h) (Or.inl ⟨by rfl, ?_⟩) hHeld ?_ ?_
                                  rotate_left
                                  · rintro w' ⟨s0, s1, s2, s3, s4, s5⟩
                                    go_simp
                                    with_reducible rfl
                                  rotate_left
                                  · simp only [Act.put, List.setIfInBounds_toArray, List.set_cons_zero, List.set_cons_succ, i64_w, i32_w]
                                    rfl
                                  refine take_ (i := 12) (N := some 92) (v := ?_) (a' := ?_) #[true, true, true, true, true, true, true, true, true, true, true, true, true, false, false, false, false, false, false, false, false, false, false, false, false, false, false, false] rfl rfl (take_ofW HT_.out HW_.out (by kernel_rfl)) (fun _ _ _ h => h) (Or.inl ⟨by rfl, ?_⟩) hHeld ?_ ?_
                                  rotate_left
                                  · rintro w' ⟨s0, s1, s2, s3, s4, s5⟩
                                    go_simp
                                    with_reducible rfl
                                  rotate_left
                                  · simp only [Act.put, List.setIfInBounds_toArray, List.set_cons_zero, List.set_cons_succ, i64_w, i32_w]
                                    rfl
                                  refine pure_ (i := 13) (N := some 93) (v := ?_) (a' := ?_) #[true, true, true, true, true, true, true, true, true, true, true, true, true, true, false, false, false, false, false, false, false, false, false, false, false, false, false, false] rfl rfl (any_of HT_.out (by kernel_rfl)) (fun _ _ _ h => h) (Or.inl ⟨by rfl, ?_⟩) ?_ ?_
                                  rotate_left
                                  · intro w'
                                    go_simp
                                    with_reducible rfl
                                  rotate_left
                                  · simp only [Act.put, List.setIfInBounds_toArray, List.set_cons_zero, List.set_cons_succ, i64_w, i32_w]
                                    rfl
                                  refine pure_ (i := 14) (N := some 94) (v := ?_) (a' := ?_) #[true, true, true, true, true, true, true, true, true, true, true, true, true, true, true, false, false, false, false, false, false, false, false, false, false, false, false, false] rfl rfl (any_of HT_.out (by kernel_rfl)) (fun _ _ _ h => h) (Or.inl ⟨by rfl, ?_⟩) ?_ ?_
                                  rotate_left
                                  · intro w'
                                    go_simp
                                    with_reducible rfl
                                  rotate_left
                                  · simp only [Act.put, List.setIfInBounds_toArray, List.set_cons_zero, List.set_cons_succ, i64_w, i32_w]
                                    rfl
                                  refine pure_ (i := 15) (N := some 95) (v := ?_) (a' := ?_) #[true, true, true, true, true, true, true, true, true, true, true, true, true, true, true, true, false, false, false, false, false, false, false, false, false, false, false, false] rfl rfl (any_of HT_.out (by kernel_rfl)) (fun _ _ _ h => h) (Or.inl ⟨by rfl, ?_⟩) ?_ ?_
                                  rotate_left
                                  · intro w'
                                    go_simp
                                    with_reducible rfl
                                  rotate_left
                                  · simp only [Act.put, List.setIfInBounds_toArray, List.set_cons_zero, List.set_cons_succ, i64_w, i32_w]
                                    rfl
                                  refine pure_ (i := 16) (N := some 96) (v := ?_) (a' := ?_) #[true, true, true, true, true, true, true, true, true, true, true, true, true, true, true, true, true, false, false, false, false, false, false, false, false, false, false, false] rfl rfl (any_of HT_.out (by kernel_rfl)) (fun _ _ _ h => h) (Or.inl ⟨by rfl, ?_⟩) ?_ ?_
                                  rotate_left
                                  · intro w'
                                    go_simp
                                    with_reducible rfl
                                  rotate_left
                                  · simp only [Act.put, List.setIfInBounds_toArray, List.set_cons_zero, List.set_cons_succ, i64_w, i32_w]
                                    rfl
                                  refine pure_ (i := 18) (N := some 98) (v := ?_) (a' := ?_) #[true, true, true, true, true, true, true, true, true, true, true, true, true, true, true, true, true, false, true, false, false, false, false, false, false, false, false, false] rfl rfl (any_of HT_.out (by kernel_rfl)) (fun _ _ _ h => h) (Or.inl ⟨by rfl, ?_⟩) ?_ ?_
                                  rotate_left
                                  · intro w'
                                    go_simp
                                    with_reducible rfl
                                  rotate_left
                                  · simp only [Act.put, List.setIfInBounds_toArray, List.set_cons_zero, List.set_cons_succ, i64_w, i32_w]
                                    rfl
                                  refine pure_ (i := 19) (N := some 99) (v := ?_) (a' := ?_) #[true, true, true, true, true, true, true, true, true, true, true, true, true, true, true, true, true, false, true, true, false, false, false, false, false, false, false, false] rfl rfl (any_of HT_.out (by kernel_rfl)) (fun _ _ _ h => h) (Or.inl ⟨by rfl, ?_⟩) ?_ ?_
                                  rotate_left
                                  · intro w'
                                    go_simp
                                    with_reducible rfl
                                  rotate_left
                                  · simp only [Act.put, List.setIfInBounds_toArray, List.set_cons_zero, List.set_cons_succ, i64_w, i32_w]
                                    rfl
                                  refine pure_ (i := 20) (N := some 100) (v := ?_) (a' := ?_) #[true, true, true, true, true, true, true, true, true, true, true, true, true, true, true, true, true, false, true, true, true, false, false, false, false, false, false, false] rfl rfl (any_of HT_.out (by kernel_rfl)) (fun _ _ _ h => h) (Or.inl ⟨by rfl, ?_⟩) ?_ ?_
                                  rotate_left
                                  · intro w'
                                    go_simp
                                    with_reducible rfl
                                  rotate_left
                                  · simp only [Act.put, List.setIfInBounds_toArray, List.set_cons_zero, List.set_cons_succ, i64_w, i32_w]
                                    rfl
                                  refine pure_ (i := 21) (N := some 101) (v := ?_) (a' := ?_) #[true, true, true, true, true, true, true, true, true, true, true, true, true, true, true, true, true, false, true, true, true, true, false, false, false, false, false, false] rfl rfl (any_of HT_.out (by kernel_rfl)) (fun _ _ _ h => h) (Or.inl ⟨by rfl, ?_⟩) ?_ ?_
                                  rotate_left
                                  · intro w'
                                    go_simp
                                    with_reducible rfl
                                  rotate_left
                                  · simp only [Act.put, List.setIfInBounds_toArray, List.set_cons_zero, List.set_cons_succ, i64_w, i32_w]
                                    rfl
                                  refine pure_ (i := 22) (N := some 102) (v := ?_) (a' := ?_) #[true, true, true, true, true, true, true, true, true, true, true, true, true, true, true, true, true, false, true, true, true, true, true, false, false, false, false, false] rfl rfl (any_of HT_.out (by kernel_rfl)) (fun _ _ _ h => h) (Or.inl ⟨by rfl, ?_⟩) ?_ ?_
                                  rotate_left
                                  · intro w'
                                    go_simp
                                    with_reducible rfl
                                  rotate_left
                                  · simp only [Act.put, List.setIfInBounds_toArray, List.set_cons_zero, List.set_cons_succ, i64_w, i32_w]
                                    rfl
                                  refine pure_ (i := 23) (N := some 103) (v := ?_) (a' := ?_) #[true, true, true, true, true, true, true, true, true, true, true, true, true, true, true, true, true, false, true, true, true, true, true, true, false, false, false, false] rfl rfl (any_of HT_.out (by kernel_rfl)) (fun _ _ _ h => h) (Or.inl ⟨by rfl, ?_⟩) ?_ ?_
                                  rotate_left
                                  · intro w'
                                    go_simp
                                    with_reducible rfl
                                  rotate_left
                                  · simp only [Act.put, List.setIfInBounds_toArray, List.set_cons_zero, List.set_cons_succ, i64_w, i32_w]
                                    rfl
                                  refine pure_ (i := 24) (N := some 104) (v := ?_) (a' := ?_) #[true, true, true, true, true, true, true, true, true, true, true, true, true, true, true, true, true, false, true, true, true, true, true, true, true, false, false, false] rfl rfl (any_of HT_.out (by kernel_rfl)) (fun _ _ _ h => h) (Or.inl ⟨by rfl, ?_⟩) ?_ ?_
                                  rotate_left
                                  · intro w'
                                    go_simp
                                    with_reducible rfl
                                  rotate_left
                                  · simp only [Act.put, List.setIfInBounds_toArray, List.set_cons_zero, List.set_cons_succ, i64_w, i32_w]
                                    rfl
                                  refine take_ (i := 17) (N := some 97) (v := ?_) (a' := ?_) #[true, true, true, true, true, true, true, true, true, true, true, true, true, true, true, true, true, true, true, true, true, true, true, true, true, false, false, false] rfl rfl (take_ofW HT_.out HW_.out (by kernel_rfl)) (fun _ _ _ h => h) (Or.inl ⟨by rfl, ?_⟩) hHeld ?_ ?_
                                  rotate_left
                                  · rintro w' ⟨s0, s1, s2, s3, s4, s5⟩
                                    go_simp
                                    with_reducible rfl
                                  rotate_left
                                  · simp only [Act.put, List.setIfInBounds_toArray, List.set_cons_zero, List.set_cons_succ, i64_w, i32_w]
                                    rfl
                                  refine take_ (i := 25) (N := some 105) (v := ?_) (a' := ?_) #[true, true, true, true, true, true, true, true, true, true, true, true, true, true, true, true, true, true, true, true, true, true, true, true, true, true, false, false] rfl rfl (take_ofW HT_.out HW_.out (by kernel_rfl)) (fun _ _ _ h => h) (Or.inl ⟨by rfl, ?_⟩) hHeld ?_ ?_
                                  rotate_left
                                  · rintro w' ⟨s0, s1, s2, s3, s4, s5⟩
                                    go_simp
                                    with_reducible rfl
                                  rotate_left
                                  · simp only [Act.put, List.setIfInBounds_toArray, List.set_cons_zero, List.set_cons_succ, i64_w, i32_w]
                                    rfl
                                  refine pure_ (i := 26) (N := some 106) (v := ?_) (a' := ?_) #[true, true, true, true, true, true, true, true, true, true, true, true, true, true, true, true, true, true, true, true, true, true, true, true, true, true, true, false] rfl rfl (any_of HT_.out (by kernel_rfl)) (fun _ _ _ h => h) (Or.inl ⟨by rfl, ?_⟩) ?_ ?_
                                  rotate_left
                                  · intro w'
                                    go_simp
                                    with_reducible rfl
                                  rotate_left
                                  · simp only [Act.put, List.setIfInBounds_toArray, List.set_cons_zero, List.set_cons_succ, i64_w, i32_w]
                                    rfl
                                  refine pure_ (i := 27) (N := some 107) (v := ?_) (a' := ?_) #[true, true, true, true, true, true, true, true, true, true, true, true, true, true, true, true, true, true, true, true, true, true, true, true, true, true, true, true] rfl rfl (any_of HT_.out (by kernel_rfl)) (fun _ _ _ h => h) (Or.inl ⟨by rfl, ?_⟩) ?_ ?_
                                  rotate_left
                                  · intro w'
                                    go_simp
                                    with_reducible rfl
                                  rotate_left
                                  · simp only [Act.put, List.setIfInBounds_toArray, List.set_cons_zero, List.set_cons_succ, i64_w, i32_w]
                                    rfl
                                  refine done_ (done_of HT_.out (by kernel_rfl)) ?_
                                  have ⟨hcz119_0, hcz119_1, hcz119_2⟩ := cz3_ BK306.out
                                  have ⟨hfz119_0, hfz119_1, hfz119_2⟩ := fz3_ BK306.out
                                  have ⟨hcz120_0, hcz120_1, hcz120_2⟩ := cz3_ BK281.out
                                  have ⟨hfz120_0, hfz120_1, hfz120_2⟩ := fz3_ BK281.out
                                  have ⟨hcz121_0, hcz121_1, hcz121_2⟩ := cz3_ BK320.out
                                  have ⟨hfz121_0, hfz121_1, hfz121_2⟩ := fz3_ BK320.out
                                  have ⟨hcz122_0, hcz122_1, hcz122_2⟩ := cz3_ BK293.out
                                  have ⟨hfz122_0, hfz122_1, hfz122_2⟩ := fz3_ BK293.out
                                  try go_wp2
                                  go_roundg k3
                                  case measure => have := HJ1.out; have := HK2.out; have := HK3.out; omega
                                  case rel => exact ⟨(wrap64 (x8_3 + 1)), (t294), (t295), (t298), (t308), (t309), (t312), (.slice Ao89 t295.length co89), (.slice Ao90 t298.length co90), (.slice Ao109 t309.length co109), (.slice Ao110 t312.length co110), (by first | rfl | (simp; done) | (simp [*]; done)), H', ⟨by have := HJ1.out; have := HK2.out; have := HK3.out; omega⟩, ⟨by (with_reducible repeat (first | apply Kd.V_alloc | apply Kd.V_drewN | apply Kd.V_drew)); exact Kd.V_mono (v3_ (g := gb293) (Kd.V_far (p := ⟨gb281, 2, none⟩) (Kd.V_far (p := ⟨gb281, 1, none⟩) (Kd.V_far (p := ⟨gb281, 0, none⟩) (Kd.V_mono (Kd.V_mono HO297.out (fun k_ hk => (⟨hk, hk.1⟩ : _ ∧ k_ ≠ gb281))) (fun k_ hk => (⟨hk, hk.1.2.1⟩ : _ ∧ k_ ≠ gb293))) (fun _ hk => hk.1.2) (.int .i64 t294)) (fun _ hk => hk.1.2) (.slice Ao89 t295.length co89)) (fun _ hk => hk.1.2) (.slice Ao90 t298.length co90))) (fun _ hk => ⟨hk.1.1.1, hk.1.1.2.1⟩)⟩, ⟨by (with_reducible repeat (first | apply Kd.V_alloc | apply Kd.V_drewN | apply Kd.V_drew)); exact Kd.V_mono (v3_ (g := gb293) (Kd.V_far (p := ⟨gb281, 2, none⟩) (Kd.V_far (p := ⟨gb281, 1, none⟩) (Kd.V_far (p := ⟨gb281, 0, none⟩) (Kd.V_mono (Kd.V_mono HO300.out (fun k_ hk => (⟨hk, hk.1⟩ : _ ∧ k_ ≠ gb281))) (fun k_ hk => (⟨hk, hk.1.2.1⟩ : _ ∧ k_ ≠ gb293))) (fun _ hk => hk.1.2) (.int .i64 t294)) (fun _ hk => hk.1.2) (.slice Ao89 t295.length co89)) (fun _ hk => hk.1.2) (.slice Ao90 t298.length co90))) (fun _ hk => ⟨hk.1.1.1, hk.1.1.2.1⟩)⟩, ⟨by (with_reducible repeat (first | apply Kd.V_alloc | apply Kd.V_drewN | apply Kd.V_drew)); exact Kd.V_mono (v3_ (g := gb293) (Kd.V_far (p := ⟨gb281, 2, none⟩) (Kd.V_far (p := ⟨gb281, 1, none⟩) (Kd.V_far (p := ⟨gb281, 0, none⟩) (Kd.V_mono (Kd.V_mono HO311.out (fun k_ hk => (⟨hk, hk.1⟩ : _ ∧ k_ ≠ gb281))) (fun k_ hk => (⟨hk, hk.1.2.1⟩ : _ ∧ k_ ≠ gb293))) (fun _ hk => hk.1.2) (.int .i64 t294)) (fun _ hk => hk.1.2) (.slice Ao89 t295.length co89)) (fun _ hk => hk.1.2) (.slice Ao90 t298.length co90))) (fun _ hk => ⟨hk.1.1.1, hk.1.1.2.1⟩)⟩, ⟨by (with_reducible repeat (first | apply Kd.V_alloc | apply Kd.V_drewN | apply Kd.V_drew)); exact Kd.V_mono (v3_ (g := gb293) (Kd.V_far (p := ⟨gb281, 2, none⟩) (Kd.V_far (p := ⟨gb281, 1, none⟩) (Kd.V_far (p := ⟨gb281, 0, none⟩) (Kd.V_mono (Kd.V_mono HO314.out (fun k_ hk => (⟨hk, hk.1⟩ : _ ∧ k_ ≠ gb281))) (fun k_ hk => (⟨hk, hk.1.2.1⟩ : _ ∧ k_ ≠ gb293))) (fun _ hk => hk.1.2) (.int .i64 t294)) (fun _ hk => hk.1.2) (.slice Ao89 t295.length co89)) (fun _ hk => hk.1.2) (.slice Ao90 t298.length co90))) (fun _ hk => ⟨hk.1.1.1, hk.1.1.2.1⟩)⟩, ⟨by (with_reducible repeat (first | refine blk_drewN ?_ _ | refine blk_drew ?_ | refine blk_alloc ?_ _)); refine blk_far ?_ NB281_293.out _; (with_reducible repeat (first | refine blk_drewN ?_ _ | refine blk_drew ?_ | refine blk_alloc ?_ _)); refine blk_far ?_ NB281_293.out _; (with_reducible repeat (first | refine blk_drewN ?_ _ | refine blk_drew ?_ | refine blk_alloc ?_ _)); refine blk_far ?_ NB281_293.out _; (with_reducible repeat (first | refine blk_drewN ?_ _ | refine blk_drew ?_ | refine blk_alloc ?_ _)); refine blk_put (cs := #[.int .i64 t294, .slice Ao89 t295.length co89, .slice Ao81 x282002_3.length co81]) ?_ 2 _ rfl; (with_reducible repeat (first | refine blk_drewN ?_ _ | refine blk_drew ?_ | refine blk_alloc ?_ _)); refine blk_put (cs := #[.int .i64 t294, .slice Ao80 x282001_3.length co80, .slice Ao81 x282002_3.length co81]) ?_ 1 _ rfl; (with_reducible repeat (first | refine blk_drewN ?_ _ | refine blk_drew ?_ | refine blk_alloc ?_ _)); refine blk_put (cs := #[.int .i64 x282000_3, .slice Ao80 x282001_3.length co80, .slice Ao81 x282002_3.length co81]) ?_ 0 _ rfl; (with_reducible repeat (first | refine blk_drewN ?_ _ | refine blk_drew ?_ | refine blk_alloc ?_ _)); exact BK281.out⟩, ⟨by (with_reducible repeat (first | refine blk_drewN ?_ _ | refine blk_drew ?_ | refine blk_alloc ?_ _)); refine blk_put (cs := #[.int .i64 t308, .slice Ao109 t309.length co109, .slice Ao99 x294002_3.length co99]) ?_ 2 _ rfl; (with_reducible repeat (first | refine blk_drewN ?_ _ | refine blk_drew ?_ | refine blk_alloc ?_ _)); refine blk_put (cs := #[.int .i64 t308, .slice Ao98 x294001_3.length co98, .slice Ao99 x294002_3.length co99]) ?_ 1 _ rfl; (with_reducible repeat (first | refine blk_drewN ?_ _ | refine blk_drew ?_ | refine blk_alloc ?_ _)); refine blk_put (cs := #[.int .i64 x294000_3, .slice Ao98 x294001_3.length co98, .slice Ao99 x294002_3.length co99]) ?_ 0 _ rfl; (with_reducible repeat (first | refine blk_drewN ?_ _ | refine blk_drew ?_ | refine blk_alloc ?_ _)); refine blk_far ?_ NB293_281.out _; (with_reducible repeat (first | refine blk_drewN ?_ _ | refine blk_drew ?_ | refine blk_alloc ?_ _)); refine blk_far ?_ NB293_281.out _; (with_reducible repeat (first | refine blk_drewN ?_ _ | refine blk_drew ?_ | refine blk_alloc ?_ _)); refine blk_far ?_ NB293_281.out _; (with_reducible repeat (first | refine blk_drewN ?_ _ | refine blk_drew ?_ | refine blk_alloc ?_ _)); exact BK293.out⟩, ⟨by repeat (first | (with_reducible first | exact HB.out | apply below_alloc | apply pw_below_drewN | apply below_drew1 | refine below_set ?_ GE281.out | refine below_set ?_ GE293.out | refine below_set ?_ GE306.out | refine below_set ?_ GE307.out | refine below_set ?_ GE320.out | refine below_set ?_ GE321.out) | exact HB.out)⟩⟩
                                · rw [if_neg c77] at H
                                  have c77b0 : (t315 == (rd l0 (ji74))) = false := beq_eq_false_iff_ne.mpr c77
                                  have c77b1 : (t315 != (rd l0 (ji74))) = true := bne_iff_ne.mpr c77
                                  exact absurd (hT.out.symm.trans (Option.some.inj H).symm) (by decide)
                              · rw [if_neg c76] at H
                                exact absurd H (by simp)
                            · rw [if_neg c75] at H
                              exact absurd H (by simp)
                          · rw [if_neg c73] at H
                            have c73b0 : (t301 == (rd l0 x8_3)) = false := beq_eq_false_iff_ne.mpr c73
                            have c73b1 : (t301 != (rd l0 x8_3)) = true := bne_iff_ne.mpr c73
                            exact absurd (hT.out.symm.trans (Option.some.inj H).symm) (by decide)
                        · rw [if_neg c72] at H
                          exact absurd H (by simp)
                      · rw [if_neg c71] at H
                        have c71b0 : (t319 == 0) = false := beq_eq_false_iff_ne.mpr c71
                        have c71b1 : (t319 != 0) = true := bne_iff_ne.mpr c71
                        exact absurd (hT.out.symm.trans (Option.some.inj H).symm) (by decide)
                    · rw [if_neg c70] at H
                      have c70b0 : (t305 == 0) = false := beq_eq_false_iff_ne.mpr c70
                      have c70b1 : (t305 != 0) = true := bne_iff_ne.mpr c70
                      exact absurd (hT.out.symm.trans (Option.some.inj H).symm) (by decide)
                  · rw [if_neg c67] at H
                    have c67b0 : decide (x8_3 < (l0.length : Int)) = false := decide_eq_false c67
                    clear c67
                    by_cases c287 : (x282001_3.length : Int) = 0
                    · rw [if_pos c287] at H
                      have c287b0 : ((x282001_3.length : Int) == 0) = true := beq_iff_eq.mpr c287
                      have c287b1 : ((x282001_3.length : Int) != 0) = false := bne_eq_false_iff_eq.mpr c287
                      clear c287
                      by_cases c288 : (x294001_3.length : Int) = 0
                      · rw [if_pos c288] at H
                        have c288b0 : ((x294001_3.length : Int) == 0) = true := beq_iff_eq.mpr c288
                        have c288b1 : ((x294001_3.length : Int) != 0) = false := bne_eq_false_iff_eq.mpr c288
                        clear c288
                        obtain rfl := Option.some.inj H
                        have hnb289 := NB281_293.out
                        have hnc289 := NB293_281.out
                        have ⟨hcz290_0, hcz290_1, hcz290_2⟩ := cz3_ BK281.out
                        have ⟨hfz290_0, hfz290_1, hfz290_2⟩ := fz3_ BK281.out
                        obtain ⟨Ao291, co291, eo291⟩ := Kd.V_slice HO_282001.out
                        subst eo291
                        have ⟨hcz292_0, hcz292_1, hcz292_2⟩ := cz3_ BK293.out
                        have ⟨hfz292_0, hfz292_1, hfz292_2⟩ := fz3_ BK293.out
                        obtain ⟨Ao293, co293, eo293⟩ := Kd.V_slice HO_294001.out
                        subst eo293
                        obtain ⟨Ao294, co294, eo294⟩ := Kd.V_slice HO_282002.out
                        subst eo294
                        go_wp2
                        go_ret
                        exact ⟨by first | rfl | (simp [errW_none, errW_some] <;> rfl) | (simp [*, errW_none, errW_some] <;> rfl), by repeat (first | (with_reducible first | exact HB.out | apply below_alloc | apply pw_below_drewN | apply below_drew1 | refine below_set ?_ GE281.out | refine below_set ?_ GE293.out) | exact HB.out)⟩
                      · rw [if_neg c288] at H
                        have c288b0 : ((x294001_3.length : Int) == 0) = false := beq_eq_false_iff_ne.mpr c288
                        have c288b1 : ((x294001_3.length : Int) != 0) = true := bne_iff_ne.mpr c288
                        have c288b2 : ¬ (x294001_3 = []) := fun h_ => c288 (by rw [h_]; rfl)
                        exact absurd (hT.out.symm.trans (Option.some.inj H).symm) (by decide)
                    · rw [if_neg c287] at H
                      have c287b0 : ((x282001_3.length : Int) == 0) = false := beq_eq_false_iff_ne.mpr c287
                      have c287b1 : ((x282001_3.length : Int) != 0) = true := bne_iff_ne.mpr c287
                      have c287b2 : ¬ (x282001_3 = []) := fun h_ => c287 (by rw [h_]; rfl)
                      exact absurd (hT.out.symm.trans (Option.some.inj H).symm) (by decide)

/-- THE ONE PURE STATEMENT of chamberlainlaw06_NetOrder: yours. -/
def chamberlainlaw06_NetOrder.Pure : Prop := ∀ (l0 : List Int), l0.length ≤ maxLen → l0.length * 4 ≤ 140737488351232 → (∀ x ∈ l0, (Lit.int .u32 x).wf = true) → ∃ k, chamberlainlaw06_NetOrder.f k l0 = some true
theorem chamberlainlaw06_NetOrder.walk (P : chamberlainlaw06_NetOrder.Pure) (a0 : Option Addr) (len0 cap0 : Nat) (z0 : List Int) (w : World) (w0 : (a0 = none ∧ len0 = 0 ∧ cap0 = 0 ∧ z0 = []) ∨ ∃ x, a0 = some x ∧ len0 ≤ cap0 ∧ cap0 ≤ maxLen ∧ z0.length = cap0 ∧ (∀ i, i < z0.length → w.cell? (x.add i) = some (.int .u32 (z0.getD i 0))) ∧ ∀ n ∈ z0, (Lit.int .u32 n).wf = true) (y0 : len0 * 4 ≤ 140737488351232) :
    Calls Try.prog 5 #[.slice a0 len0 cap0] w fun e w' => e = .returned (.bool true) ∧ Below w.heap.size w w' := by
  obtain ⟨l0, rfl, hr0, hm0, hw0, hc0⟩ := ReadsInt.ofRowC w0
  obtain ⟨k, h⟩ := P l0 hm0 y0 hw0
  refine (chamberlainlaw06_NetOrder.calls k _ _ l0 true w (Kd.C_of_reads (d := (0 : Int)) (h1 := fun _ => rfl) hr0) hc0 h rfl).mono ?_
  rintro e w' ⟨rfl, hd⟩
  exact ⟨rfl, hd⟩

end Go.Proofs.Ytlbfdmoocgjiaaa.PNetOrder
