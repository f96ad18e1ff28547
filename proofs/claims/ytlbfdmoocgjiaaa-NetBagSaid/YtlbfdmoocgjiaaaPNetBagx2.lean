-- Written for this claim by wip/tools/myprint.py (print.py's forms; proofs of the faked functions by hand).
import Derived.Test.YtlbfdmoocgjiaaaPNetBagx1
import Derived.Test.YtlbfdmoocgjiaaaPNetBagx0
namespace Go.Proofs.Ytlbfdmoocgjiaaa.PNetBag
open Go.RowKit Go.Proofs.YtlbfdmoocgjiaaaW.PrintWords Go.Proofs.YtlbfdmoocgjiaaaW.PrintLast Go.Proofs.YtlbfdmoocgjiaaaW.PrintMore
attribute [local go_sem] max2_int min2_int max_two min_two max_three min_three max_four min_four   -- for this text's walks alone
set_option linter.unusedVariables false
set_option linter.unusedSimpArgs false

/-! ### net_Send: function 12 -/
theorem nsend.w64 {x : Int} (h1 : -9223372036854775808 ≤ x) (h2 : x ≤ 9223372036854775807) : wrap64 x = x := by unfold wrap64; omega
theorem nsend.rdL_nat (xs : List (List (List Int))) (i : Nat) (h : i < xs.length) : rd_L3 xs (i : Int) = xs[i] := by
  unfold rd_L3
  simp [List.getD_eq_getElem?_getD, h]
theorem nsend.grow_eq (n : Nat) (h : n < 5864062014805) : slices_Grow_uint32_uint32.f [] (n : Int) = some [] := by
  unfold slices_Grow_uint32_uint32.f
  rw [if_neg (by omega), if_neg (by simp)]
  by_cases c : (n : Int) > 0
  · rw [if_pos c, if_pos (by omega), if_pos (by simp; omega)]
    simp
  · rw [if_neg c]
theorem nsend.concat_l1 (ll : List (List (List Int))) (hll : ll.length ≤ 1000000) : ∀ (d k i : Nat) (acc : List (List Int)), ll.length - i = d → i ≤ ll.length → acc.length + ((ll.drop i).map List.length).sum < 5864062014805 → d < k →
    slices_Concat_uint32_uint32.l1 k acc ll (ll.length : Int) (i : Int) = some (acc ++ (ll.drop i).flatten) := by
  intro d
  induction d with
  | zero =>
    intro k i acc h1 h2 h3 h4
    obtain ⟨k, rfl⟩ : ∃ m, k = m + 1 := ⟨k - 1, by omega⟩
    rw [slices_Concat_uint32_uint32.l1, if_neg (by omega), List.drop_eq_nil_of_le (by omega)]
    simp
  | succ d ih =>
    intro k i acc h1 h2 h3 h4
    obtain ⟨k, rfl⟩ : ∃ m, k = m + 1 := ⟨k - 1, by omega⟩
    have hi : i < ll.length := by omega
    rw [List.drop_eq_getElem_cons hi] at h3 ⊢
    simp only [List.map_cons, List.sum_cons] at h3
    rw [slices_Concat_uint32_uint32.l1, if_pos (by omega), if_pos (by omega), if_pos (by omega), nsend.rdL_nat ll i hi, if_pos (by omega), nsend.w64 (by omega) (by omega)]
    have ei : (i : Int) + 1 = ((i + 1 : Nat) : Int) := by omega
    rw [ei, ih k (i + 1) _ (by omega) (by omega) (by rw [List.length_append]; omega) (by omega), List.flatten_cons, List.append_assoc]
theorem nsend.concat_l0 (ll : List (List (List Int))) (hll : ll.length ≤ 1000000) (hs : (ll.map List.length).sum < 5864062014805) : ∀ (d k i s : Nat), ll.length - i = d → i ≤ ll.length → s + ((ll.drop i).map List.length).sum = (ll.map List.length).sum → d + ll.length + 1 < k →
    slices_Concat_uint32_uint32.l0 k ll (s : Int) ll (ll.length : Int) (i : Int) = some ll.flatten := by
  intro d
  induction d with
  | zero =>
    intro k i s h1 h2 h3 h4
    obtain ⟨k, rfl⟩ : ∃ m, k = m + 1 := ⟨k - 1, by omega⟩
    rw [List.drop_eq_nil_of_le (by omega)] at h3
    simp only [List.map_nil, List.sum_nil, Nat.add_zero] at h3
    rw [slices_Concat_uint32_uint32.l0, if_neg (by omega), nsend.grow_eq s (by omega), Option.bind_some]
    have h := nsend.concat_l1 ll hll ll.length k 0 [] (by omega) (by omega) (by simpa using hs) (by omega)
    simp only [Int.natCast_zero, List.drop_zero, List.nil_append] at h
    exact h
  | succ d ih =>
    intro k i s h1 h2 h3 h4
    obtain ⟨k, rfl⟩ : ∃ m, k = m + 1 := ⟨k - 1, by omega⟩
    have hi : i < ll.length := by omega
    rw [List.drop_eq_getElem_cons hi] at h3
    simp only [List.map_cons, List.sum_cons] at h3
    rw [slices_Concat_uint32_uint32.l0, if_pos (by omega), if_pos (by omega), if_pos (by omega), nsend.rdL_nat ll i hi, nsend.w64 (x := (s : Int) + (ll[i].length : Int)) (by omega) (by omega), if_neg (by omega), nsend.w64 (by omega) (by omega)]
    have ei : (i : Int) + 1 = ((i + 1 : Nat) : Int) := by omega
    have es : (s : Int) + (ll[i].length : Int) = ((s + ll[i].length : Nat) : Int) := by omega
    rw [ei, es]
    exact ih k (i + 1) _ (by omega) (by omega) (by omega) (by omega)
theorem nsend.concat_eq (ll : List (List (List Int))) (k : Nat) (hll : ll.length ≤ 1000000) (hs : (ll.map List.length).sum < 5864062014805) (hk : ll.length + ll.length + 1 < k) : slices_Concat_uint32_uint32.f k ll = some ll.flatten := by
  unfold slices_Concat_uint32_uint32.f
  have h := nsend.concat_l0 ll hll hs ll.length k 0 0 (by omega) (by omega) (by simp) (by omega)
  simp only [Int.natCast_zero] at h
  exact h
theorem nsend.rows {W : World} {OK : Nat → Prop} {base base2 : Nat} {A6 A1 : Option Addr} {c6 c1 : Nat} {s : List (List Int)} {l : List Int} (hnew : ∀ k, W.heap.size ≤ k → OK k)
    (hV : Kd.V (Kd.slice 26 (Kd.int .u32)) 27 W base OK (.slice A6 s.length c6) s) (hL : Kd.V (Kd.int .u32) 26 W base2 OK (.slice A1 l.length c1) l) (n : Nat) :
    Kd.V (Kd.slice 27 (Kd.slice 26 (Kd.int .u32))) 23 ((W.alloc (.cells #[.slice A1 l.length c1] 27)).alloc (.cells #[.slice A6 s.length c6, .slice (some ⟨W.heap.size, 0, none⟩) 1 1] 23)) n OK (.slice (some ⟨W.heap.size + 1, 0, none⟩) 2 2) [s, [l]] := by
  obtain ⟨Wb, hWb⟩ : ∃ Wb : World, Wb = W.alloc (.cells #[.slice A1 l.length c1] 27) := ⟨_, rfl⟩
  obtain ⟨Wc, hWc⟩ : ∃ Wc : World, Wc = Wb.alloc (.cells #[.slice A6 s.length c6, .slice (some ⟨W.heap.size, 0, none⟩) 1 1] 23) := ⟨_, rfl⟩
  rw [← hWb, ← hWc]
  have sb : Wb.heap.size = W.heap.size + 1 := by rw [hWb]; simp
  have bb : Wb.heap[W.heap.size]? = some (.cells #[.slice A1 l.length c1] 27 (0, 0)) := by rw [hWb]; exact (MapKept.heap_alloc _ _).1
  have bc : Wc.heap[W.heap.size + 1]? = some (.cells #[.slice A6 s.length c6, .slice (some ⟨W.heap.size, 0, none⟩) 1 1] 23 (0, 0)) := by rw [hWc, ← sb]; exact (MapKept.heap_alloc _ _).1
  have bb' : Wc.heap[W.heap.size]? = some (.cells #[.slice A1 l.length c1] 27 (0, 0)) := by rw [hWc]; exact blk_alloc bb _
  have hB : Below W.heap.size W Wc := by rw [hWc, hWb]; exact below_alloc (below_alloc (Below.refl _ _) _) _
  obtain ⟨_, hc6, F1⟩ := Kd.V_at (Kd.V_below hV hB)
  obtain ⟨_, hc1, F2⟩ := Kd.V_at (Kd.V_below hL hB)
  have F3 : Kd.F (Kd.slice 26 (Kd.int .u32)) Wc OK (some ⟨W.heap.size, 0, none⟩) 1 [l] :=
    nrow.F_block [l] [[.slice A1 l.length c1]] bb' (hnew _ (Nat.le_refl _)) rfl
      (fun j x c hx hc => by
        have : j = 0 := by have := (List.getElem?_eq_some_iff.1 hx).1; simpa using this
        subst this
        cases hx
        cases hc
        exact ⟨Kd.FK_slice_mk hc1 F2, rfl⟩)
      (fun j c hc i u hu => by
        have : j = 0 := by have := (List.getElem?_eq_some_iff.1 hc).1; simpa using this
        subst this
        cases hc
        simpa using hu) (by simp)
  refine ⟨some ⟨W.heap.size + 1, 0, none⟩, 2, rfl, Nat.le_refl _, ?_⟩
  refine nrow.F_block [s, [l]] [[.slice A6 s.length c6], [.slice (some ⟨W.heap.size, 0, none⟩) 1 1]] bc (hnew _ (by omega)) rfl ?_ ?_ (by simp)
  · intro j x c hx hc
    have hj := (List.getElem?_eq_some_iff.1 hx).1
    simp only [List.length_cons, List.length_nil] at hj
    rcases Nat.lt_or_ge j 1 with q | q
    · obtain rfl : j = 0 := by omega
      cases hx
      cases hc
      exact ⟨Kd.FK_slice_mk hc6 F1, rfl⟩
    · obtain rfl : j = 1 := by omega
      cases hx
      cases hc
      exact ⟨fun W' hW => ⟨_, 1, rfl, Nat.le_refl _, F3 W' hW⟩, rfl⟩
  · intro j c hc i u hu
    have hj := (List.getElem?_eq_some_iff.1 hc).1
    simp only [List.length_cons, List.length_nil] at hj
    rcases Nat.lt_or_ge j 1 with q | q
    · obtain rfl : j = 0 := by omega
      cases hc
      have hi := (List.getElem?_eq_some_iff.1 hu).1
      simp only [List.length_cons, List.length_nil] at hi
      obtain rfl : i = 0 := by omega
      exact hu
    · obtain rfl : j = 1 := by omega
      cases hc
      have hi := (List.getElem?_eq_some_iff.1 hu).1
      simp only [List.length_cons, List.length_nil] at hi
      obtain rfl : i = 0 := by omega
      exact hu
def net_Send.f (a0_0 : Int) (l0_1 : List (S29)) (l0_2 : List (List Int)) (a1_0 : Int) (l1_1 : List Int) : Option (Int × (List (S29)) × (List (List Int)) × Int) := if wrap64 (a0_0 - (l0_1.length : Int)) < 1 then some (a0_0, l0_1, l0_2, 10) else if l0_1.length < 1000000 then (if l0_2.length < 1000000 then some (a0_0, l0_1 ++ [(⟨a1_0, l1_1⟩ : S29)], l0_2 ++ [l1_1], 0) else none) else none
set_option maxHeartbeats 8000000 in
set_option maxRecDepth 100000 in
theorem net_Send.calls (a0_0 : Int) (P0_1_ : Nat → Prop) (A0_1 : Option Addr) (c0_1 : Nat) (l0_1 : List (S29)) (P0_2_ : Nat → Prop) (A0_2 : Option Addr) (c0_2 : Nat) (l0_2 : List (List Int)) (a1_0 : Int) (P1_1_ : Nat → Prop) (A1_1 : Option Addr) (c1_1 : Nat) (l1_1 : List Int) (r1 : Int) (r2 : List (S29)) (r3 : List (List Int)) (r4 : Int) (w : World) (hs0_1 : Kd.V k29 29 w w.heap.size (fun k_ => P0_1_ k_) (.slice A0_1 l0_1.length c0_1) l0_1) (hs0_2 : Kd.V (Kd.slice 26 (Kd.int .u32)) 27 w w.heap.size (fun k_ => P0_2_ k_) (.slice A0_2 l0_2.length c0_2) l0_2) (hs1_1 : Kd.V (Kd.int .u32) 26 w w.heap.size (fun k_ => P1_1_ k_) (.slice A1_1 l1_1.length c1_1) l1_1) (h : net_Send.f a0_0 l0_1 l0_2 a1_0 l1_1 = some (r1, r2, r3, r4)) :
    Calls Try.prog 12 #[.agg #[.int .i64 a0_0, .slice A0_1 l0_1.length c0_1, .slice A0_2 l0_2.length c0_2], .agg #[.int .u32 a1_0, .slice A1_1 l1_1.length c1_1]] w fun e w' => ∃ v1_ v2_ : Value, e = .returned (.tuple #[.agg #[.int .i64 r1, v1_, v2_], .int .i64 r4]) ∧ Kd.V k29 29 w' w.heap.size (fun k_ => ((P0_1_ k_ ∨ P0_2_ k_ ∨ P1_1_ k_) ∨ w.heap.size ≤ k_)) v1_ r2 ∧ Kd.V (Kd.slice 26 (Kd.int .u32)) 27 w' w.heap.size (fun k_ => ((P0_1_ k_ ∨ P0_2_ k_ ∨ P1_1_ k_) ∨ w.heap.size ≤ k_)) v2_ r3 ∧ Below w.heap.size w w' := by
  unfold net_Send.f at h
  obtain ⟨W0, hW0⟩ : ∃ W0 : World, W0 = ((w.alloc (.cells #[.int .i64 a0_0, .slice A0_1 l0_1.length c0_1, .slice A0_2 l0_2.length c0_2] 25)).alloc (.cells #[.int .u32 a1_0, .slice A1_1 l1_1.length c1_1] 29)).alloc (.cells #[.int .i64 0, .slice none 0 0, .slice none 0 0] 25) := ⟨_, rfl⟩
  have B0 : W0.heap[w.heap.size]? = some (.cells #[.int .i64 a0_0, .slice A0_1 l0_1.length c0_1, .slice A0_2 l0_2.length c0_2] 25 (0, 0)) := by rw [hW0]; refine blk_alloc ?_ _; refine blk_alloc ?_ _; have := (MapKept.heap_alloc (w) (.cells #[.int .i64 a0_0, .slice A0_1 l0_1.length c0_1, .slice A0_2 l0_2.length c0_2] 25)).1; simpa using this
  have B1 : W0.heap[w.heap.size + 1]? = some (.cells #[.int .u32 a1_0, .slice A1_1 l1_1.length c1_1] 29 (0, 0)) := by rw [hW0]; refine blk_alloc ?_ _; have := (MapKept.heap_alloc ((w.alloc (.cells #[.int .i64 a0_0, .slice A0_1 l0_1.length c0_1, .slice A0_2 l0_2.length c0_2] 25))) (.cells #[.int .u32 a1_0, .slice A1_1 l1_1.length c1_1] 29)).1; simpa using this
  have B2 : W0.heap[w.heap.size + 1 + 1]? = some (.cells #[.int .i64 0, .slice none 0 0, .slice none 0 0] 25 (0, 0)) := by rw [hW0]; have := (MapKept.heap_alloc (((w.alloc (.cells #[.int .i64 a0_0, .slice A0_1 l0_1.length c0_1, .slice A0_2 l0_2.length c0_2] 25)).alloc (.cells #[.int .u32 a1_0, .slice A1_1 l1_1.length c1_1] 29))) (.cells #[.int .i64 0, .slice none 0 0, .slice none 0 0] 25)).1; simpa using this
  have hB0 : Below w.heap.size w W0 := by rw [hW0]; exact below_alloc (below_alloc (below_alloc (Below.refl _ _) _) _) _
  have hz0 : w.heap.size + 1 + 1 + 1 ≤ W0.heap.size := by rw [hW0]; simp
  have Hw0 := Aside0.mk hW0
  clear hW0
  obtain ⟨_, hc1, F1⟩ := Kd.V_at hs0_1
  obtain ⟨_, hc2, F2⟩ := Kd.V_at hs0_2
  obtain ⟨_, hc3, F3⟩ := Kd.V_at hs1_1
  clear hs0_1 hs0_2 hs1_1
  obtain ⟨t, ht⟩ : ∃ t, t = wrap64 (a0_0 - (l0_1.length : Int)) := ⟨_, rfl⟩
  rw [← ht] at h
  have HT := Aside0.mk (show net_Free.f a0_0 l0_1 l0_2 = some t by rw [ht]; rfl)
  clear ht
  by_cases c3 : t < 1
  · rw [if_pos c3] at h
    simp only [Option.some.injEq, Prod.mk.injEq] at h
    obtain ⟨rfl, rfl, rfl, rfl⟩ := h
    have c3b : decide (t < 1) = true := decide_eq_true c3
    clear c3
    have c_0_0 : W0.cell? ⟨w.heap.size, 0, none⟩ = some (.int .i64 a0_0) := (blk_cell B0 0).trans rfl
    have c_0_1 : W0.cell? ⟨w.heap.size, 1, none⟩ = some (.slice A0_1 l0_1.length c0_1) := (blk_cell B0 1).trans rfl
    have c_0_2 : W0.cell? ⟨w.heap.size, 2, none⟩ = some (.slice A0_2 l0_2.length c0_2) := (blk_cell B0 2).trans rfl
    have z_0_0 := blk_frozen B0 0
    have z_0_1 := blk_frozen B0 1
    have z_0_2 := blk_frozen B0 2
    have c_1_0 : W0.cell? ⟨w.heap.size + 1, 0, none⟩ = some (.int .u32 a1_0) := (blk_cell B1 0).trans rfl
    have c_1_1 : W0.cell? ⟨w.heap.size + 1, 1, none⟩ = some (.slice A1_1 l1_1.length c1_1) := (blk_cell B1 1).trans rfl
    have z_1_0 := blk_frozen B1 0
    have z_1_1 := blk_frozen B1 1
    have c_2_0 : W0.cell? ⟨w.heap.size + 1 + 1, 0, none⟩ = some (.int .i64 0) := (blk_cell B2 0).trans rfl
    have c_2_1 : W0.cell? ⟨w.heap.size + 1 + 1, 1, none⟩ = some (.slice none 0 0) := (blk_cell B2 1).trans rfl
    have c_2_2 : W0.cell? ⟨w.heap.size + 1 + 1, 2, none⟩ = some (.slice none 0 0) := (blk_cell B2 2).trans rfl
    have z_2_0 := blk_frozen B2 0
    have z_2_1 := blk_frozen B2 1
    have z_2_2 := blk_frozen B2 2
    have lt_ : w.heap.size + 1 + 1 < W0.heap.size := by have := hz0; omega
    go_enter Try.func12, Try.ntmps12
    go_wp2_with fail
    rw [← Hw0.out]
    clear Hw0
    clear c_0_0 c_0_1 c_0_2 z_0_0 z_0_1 z_0_2 c_1_0 c_1_1 z_1_0 z_1_1 c_2_0 c_2_1 c_2_2 z_2_0 z_2_1 z_2_2 lt_
    refine (net_Free.calls a0_0 _ _ l0_1 _ _ l0_2 t _ (Kd.F_now (Kd.F_below F1 hB0)) hc1 (Kd.F_now (Kd.F_below F2 hB0)) hc2 HT.out).mono ?_
    rintro e W1 ⟨rfl, hb1⟩
    have B102 := blk_below B0 hb1
    have B103 := blk_below B1 hb1
    have B104 := blk_below B2 hb1
    have hB101 := hB0.trans (hb1.mono hB0.size)
    have hz101 : w.heap.size + 1 + 1 + 1 ≤ W1.heap.size := Nat.le_trans hz0 hb1.size
    clear B0 B1 B2 hB0 hz0
    clear hb1
    have V1 := Kd.V_mk (e := 29) (base := 0) hc1 (nrow.mv (R := fun k => P0_1_ k ∨ P0_2_ k ∨ P1_1_ k) (m := w.heap.size + 1 + 1 + 1) hB101 (fun k hk => .inl hk) F1)
    have V2 := Kd.V_mk (e := 27) (base := 0) hc2 (nrow.mv (R := fun k => P0_1_ k ∨ P0_2_ k ∨ P1_1_ k) (m := w.heap.size + 1 + 1 + 1) hB101 (fun k hk => .inr (.inl hk)) F2)
    have c_0_0 : W1.cell? ⟨w.heap.size, 0, none⟩ = some (.int .i64 a0_0) := (blk_cell B102 0).trans rfl
    have c_0_1 : W1.cell? ⟨w.heap.size, 1, none⟩ = some (.slice A0_1 l0_1.length c0_1) := (blk_cell B102 1).trans rfl
    have c_0_2 : W1.cell? ⟨w.heap.size, 2, none⟩ = some (.slice A0_2 l0_2.length c0_2) := (blk_cell B102 2).trans rfl
    have z_0_0 := blk_frozen B102 0
    have z_0_1 := blk_frozen B102 1
    have z_0_2 := blk_frozen B102 2
    have c_1_0 : W1.cell? ⟨w.heap.size + 1, 0, none⟩ = some (.int .u32 a1_0) := (blk_cell B103 0).trans rfl
    have c_1_1 : W1.cell? ⟨w.heap.size + 1, 1, none⟩ = some (.slice A1_1 l1_1.length c1_1) := (blk_cell B103 1).trans rfl
    have z_1_0 := blk_frozen B103 0
    have z_1_1 := blk_frozen B103 1
    have c_2_0 : W1.cell? ⟨w.heap.size + 1 + 1, 0, none⟩ = some (.int .i64 0) := (blk_cell B104 0).trans rfl
    have c_2_1 : W1.cell? ⟨w.heap.size + 1 + 1, 1, none⟩ = some (.slice none 0 0) := (blk_cell B104 1).trans rfl
    have c_2_2 : W1.cell? ⟨w.heap.size + 1 + 1, 2, none⟩ = some (.slice none 0 0) := (blk_cell B104 2).trans rfl
    have z_2_0 := blk_frozen B104 0
    have z_2_1 := blk_frozen B104 1
    have z_2_2 := blk_frozen B104 2
    have lt_ : w.heap.size + 1 + 1 < W1.heap.size := by have := hz101; omega
    go_wp2
    clear c_0_0 c_0_1 c_0_2 z_0_0 z_0_1 z_0_2 c_1_0 c_1_1 z_1_0 z_1_1 c_2_0 c_2_1 c_2_2 z_2_0 z_2_1 z_2_2 lt_
    have n105 : w.heap.size ≠ w.heap.size + 1 + 1 := by omega
    have n106 : w.heap.size + 1 ≠ w.heap.size + 1 + 1 := by omega
    have n107 : ∀ k, ((P0_1_ k ∨ P0_2_ k ∨ P1_1_ k) ∧ k < w.heap.size ∨ w.heap.size + 1 + 1 + 1 ≤ k) → k ≠ w.heap.size + 1 + 1 := fun k hk => by omega
    have n108 : w.heap.size ≤ w.heap.size + 1 + 1 := by omega
    have B110 := (blk_put (cs' := #[.int .i64 a0_0, .slice A0_1 l0_1.length c0_1, .slice A0_2 l0_2.length c0_2]) (blk_put (cs' := #[.int .i64 a0_0, .slice A0_1 l0_1.length c0_1, .slice none 0 0]) (blk_put (cs' := #[.int .i64 a0_0, .slice none 0 0, .slice none 0 0]) B104 0 (.int .i64 a0_0) rfl) 1 (.slice A0_1 l0_1.length c0_1) rfl) 2 (.slice A0_2 l0_2.length c0_2) rfl)
    have B111 := (blk_far (p := ⟨w.heap.size + 1 + 1, 2, none⟩) (blk_far (p := ⟨w.heap.size + 1 + 1, 1, none⟩) (blk_far (p := ⟨w.heap.size + 1 + 1, 0, none⟩) B102 n105 (.int .i64 a0_0)) n105 (.slice A0_1 l0_1.length c0_1)) n105 (.slice A0_2 l0_2.length c0_2))
    have B112 := (blk_far (p := ⟨w.heap.size + 1 + 1, 2, none⟩) (blk_far (p := ⟨w.heap.size + 1 + 1, 1, none⟩) (blk_far (p := ⟨w.heap.size + 1 + 1, 0, none⟩) B103 n106 (.int .i64 a0_0)) n106 (.slice A0_1 l0_1.length c0_1)) n106 (.slice A0_2 l0_2.length c0_2))
    have V113 := (Kd.V_far (p := ⟨w.heap.size + 1 + 1, 2, none⟩) (Kd.V_far (p := ⟨w.heap.size + 1 + 1, 1, none⟩) (Kd.V_far (p := ⟨w.heap.size + 1 + 1, 0, none⟩) V1 n107 (.int .i64 a0_0)) n107 (.slice A0_1 l0_1.length c0_1)) n107 (.slice A0_2 l0_2.length c0_2))
    have V114 := (Kd.V_far (p := ⟨w.heap.size + 1 + 1, 2, none⟩) (Kd.V_far (p := ⟨w.heap.size + 1 + 1, 1, none⟩) (Kd.V_far (p := ⟨w.heap.size + 1 + 1, 0, none⟩) V2 n107 (.int .i64 a0_0)) n107 (.slice A0_1 l0_1.length c0_1)) n107 (.slice A0_2 l0_2.length c0_2))
    have hB115 := (below_set (g := w.heap.size + 1 + 1) (j := 2) (v := .slice A0_2 l0_2.length c0_2) (below_set (g := w.heap.size + 1 + 1) (j := 1) (v := .slice A0_1 l0_1.length c0_1) (below_set (g := w.heap.size + 1 + 1) (j := 0) (v := .int .i64 a0_0) hB101 n108) n108) n108)
    have hz116 : w.heap.size + 1 + 1 + 1 ≤ (((W1.setCell ⟨w.heap.size + 1 + 1, 0, none⟩ (.int .i64 a0_0)).setCell ⟨w.heap.size + 1 + 1, 1, none⟩ (.slice A0_1 l0_1.length c0_1)).setCell ⟨w.heap.size + 1 + 1, 2, none⟩ (.slice A0_2 l0_2.length c0_2)).heap.size := by simpa [World.setCell] using hz101
    clear B102 B103 B104 V1 V2 hB101 hz101 n105 n106 n107 n108
    obtain ⟨W109, hW109⟩ : ∃ W_ : World, W_ = (((W1.setCell ⟨w.heap.size + 1 + 1, 0, none⟩ (.int .i64 a0_0)).setCell ⟨w.heap.size + 1 + 1, 1, none⟩ (.slice A0_1 l0_1.length c0_1)).setCell ⟨w.heap.size + 1 + 1, 2, none⟩ (.slice A0_2 l0_2.length c0_2)) := ⟨_, rfl⟩
    rw [← hW109] at B110 B111 B112 V113 V114 hB115 hz116 ⊢
    clear hW109
    refine bodyPost_ret (results_ct rfl _ _ (w.heap.size + 1 + 1) 25 #[.int .i64 a0_0, .slice A0_1 l0_1.length c0_1, .slice A0_2 l0_2.length c0_2] (0, 0) _ rfl B110 Try.underlying25 rfl (by kernel_rfl)) rfl ?_
    exact ⟨_, _, rfl, Kd.V_mono V113 (fun k hk => hk.elim (fun h => .inl h.1) (fun h => .inr (by omega))), Kd.V_mono V114 (fun k hk => hk.elim (fun h => .inl h.1) (fun h => .inr (by omega))), hB115⟩
  rw [if_neg c3] at h
  have c3b : decide (t < 1) = false := decide_eq_false c3
  clear c3
  by_cases hm : l0_1.length < 1000000
  rotate_left
  · rw [if_neg hm] at h; cases h
  rw [if_pos hm] at h
  by_cases hm2 : l0_2.length < 1000000
  rotate_left
  · rw [if_neg hm2] at h; cases h
  rw [if_pos hm2] at h
  simp only [Option.some.injEq, Prod.mk.injEq] at h
  obtain ⟨rfl, rfl, rfl, rfl⟩ := h
  have HW := Aside0.mk (show net_with.f a0_0 l0_1 l0_2 a1_0 l1_1 = some (a0_0, l0_1 ++ [(⟨a1_0, l1_1⟩ : S29)], l0_2) by unfold net_with.f; rw [if_pos hm])
  have HC := Aside0.mk (show slices_Concat_uint32_uint32.f 100 [l0_2, [l1_1]] = some (l0_2 ++ [l1_1]) by rw [nsend.concat_eq _ 100 (by simp) (by simp; omega) (by simp)]; simp)
  clear hm hm2
  have c_0_0 : W0.cell? ⟨w.heap.size, 0, none⟩ = some (.int .i64 a0_0) := (blk_cell B0 0).trans rfl
  have c_0_1 : W0.cell? ⟨w.heap.size, 1, none⟩ = some (.slice A0_1 l0_1.length c0_1) := (blk_cell B0 1).trans rfl
  have c_0_2 : W0.cell? ⟨w.heap.size, 2, none⟩ = some (.slice A0_2 l0_2.length c0_2) := (blk_cell B0 2).trans rfl
  have z_0_0 := blk_frozen B0 0
  have z_0_1 := blk_frozen B0 1
  have z_0_2 := blk_frozen B0 2
  have c_1_0 : W0.cell? ⟨w.heap.size + 1, 0, none⟩ = some (.int .u32 a1_0) := (blk_cell B1 0).trans rfl
  have c_1_1 : W0.cell? ⟨w.heap.size + 1, 1, none⟩ = some (.slice A1_1 l1_1.length c1_1) := (blk_cell B1 1).trans rfl
  have z_1_0 := blk_frozen B1 0
  have z_1_1 := blk_frozen B1 1
  have c_2_0 : W0.cell? ⟨w.heap.size + 1 + 1, 0, none⟩ = some (.int .i64 0) := (blk_cell B2 0).trans rfl
  have c_2_1 : W0.cell? ⟨w.heap.size + 1 + 1, 1, none⟩ = some (.slice none 0 0) := (blk_cell B2 1).trans rfl
  have c_2_2 : W0.cell? ⟨w.heap.size + 1 + 1, 2, none⟩ = some (.slice none 0 0) := (blk_cell B2 2).trans rfl
  have z_2_0 := blk_frozen B2 0
  have z_2_1 := blk_frozen B2 1
  have z_2_2 := blk_frozen B2 2
  have lt_ : w.heap.size + 1 + 1 < W0.heap.size := by have := hz0; omega
  go_enter Try.func12, Try.ntmps12
  go_wp2_with fail
  rw [← Hw0.out]
  clear Hw0
  clear c_0_0 c_0_1 c_0_2 z_0_0 z_0_1 z_0_2 c_1_0 c_1_1 z_1_0 z_1_1 c_2_0 c_2_1 c_2_2 z_2_0 z_2_1 z_2_2 lt_
  refine (net_Free.calls a0_0 _ _ l0_1 _ _ l0_2 t _ (Kd.F_now (Kd.F_below F1 hB0)) hc1 (Kd.F_now (Kd.F_below F2 hB0)) hc2 HT.out).mono ?_
  rintro e W1 ⟨rfl, hb1⟩
  have B102 := blk_below B0 hb1
  have B103 := blk_below B1 hb1
  have B104 := blk_below B2 hb1
  have hB101 := hB0.trans (hb1.mono hB0.size)
  have hz101 : w.heap.size + 1 + 1 + 1 ≤ W1.heap.size := Nat.le_trans hz0 hb1.size
  clear B0 B1 B2 hB0 hz0
  clear hb1
  have c_0_0 : W1.cell? ⟨w.heap.size, 0, none⟩ = some (.int .i64 a0_0) := (blk_cell B102 0).trans rfl
  have c_0_1 : W1.cell? ⟨w.heap.size, 1, none⟩ = some (.slice A0_1 l0_1.length c0_1) := (blk_cell B102 1).trans rfl
  have c_0_2 : W1.cell? ⟨w.heap.size, 2, none⟩ = some (.slice A0_2 l0_2.length c0_2) := (blk_cell B102 2).trans rfl
  have z_0_0 := blk_frozen B102 0
  have z_0_1 := blk_frozen B102 1
  have z_0_2 := blk_frozen B102 2
  have c_1_0 : W1.cell? ⟨w.heap.size + 1, 0, none⟩ = some (.int .u32 a1_0) := (blk_cell B103 0).trans rfl
  have c_1_1 : W1.cell? ⟨w.heap.size + 1, 1, none⟩ = some (.slice A1_1 l1_1.length c1_1) := (blk_cell B103 1).trans rfl
  have z_1_0 := blk_frozen B103 0
  have z_1_1 := blk_frozen B103 1
  have c_2_0 : W1.cell? ⟨w.heap.size + 1 + 1, 0, none⟩ = some (.int .i64 0) := (blk_cell B104 0).trans rfl
  have c_2_1 : W1.cell? ⟨w.heap.size + 1 + 1, 1, none⟩ = some (.slice none 0 0) := (blk_cell B104 1).trans rfl
  have c_2_2 : W1.cell? ⟨w.heap.size + 1 + 1, 2, none⟩ = some (.slice none 0 0) := (blk_cell B104 2).trans rfl
  have z_2_0 := blk_frozen B104 0
  have z_2_1 := blk_frozen B104 1
  have z_2_2 := blk_frozen B104 2
  have lt_ : w.heap.size + 1 + 1 < W1.heap.size := by have := hz101; omega
  go_wp2_with fail
  clear c_0_0 c_0_1 c_0_2 z_0_0 z_0_1 z_0_2 c_1_0 c_1_1 z_1_0 z_1_1 c_2_0 c_2_1 c_2_2 z_2_0 z_2_1 z_2_2 lt_
  have VA := Kd.V_mk (e := 29) (base := W1.heap.size) hc1 (Kd.F_below (Kd.F_bound F1) hB101)
  have VB := Kd.V_mk (e := 27) (base := W1.heap.size) hc2 (Kd.F_below (Kd.F_bound F2) hB101)
  have VC := Kd.V_mk (e := 26) (base := W1.heap.size) hc3 (Kd.F_below (Kd.F_bound F3) hB101)
  refine (net_with.calls a0_0 (fun k => P0_1_ k ∧ k < w.heap.size) _ _ l0_1 (fun k => P0_2_ k ∧ k < w.heap.size) _ _ l0_2 a1_0 (fun k => P1_1_ k ∧ k < w.heap.size) _ _ l1_1 a0_0 (l0_1 ++ [(⟨a1_0, l1_1⟩ : S29)]) l0_2 _ VA VB VC HW.out).mono ?_
  rintro e W2 ⟨v1, v2, rfl, hv1, hv2, hb2⟩
  clear VA VB VC
  have U1 := Kd.V_mono (ok' := fun k => (P0_1_ k ∨ P0_2_ k ∨ P1_1_ k) ∧ k < w.heap.size ∨ w.heap.size + 1 + 1 + 1 ≤ k) hv1 (fun k hk => hk.elim (fun h => .inl (h.elim (fun h => ⟨.inl h.1, h.2⟩) (fun h => h.elim (fun h => ⟨.inr (.inl h.1), h.2⟩) (fun h => ⟨.inr (.inr h.1), h.2⟩)))) (fun h => .inr (by have := hz101; omega)))
  have U2 := Kd.V_mono (ok' := fun k => (P0_1_ k ∨ P0_2_ k ∨ P1_1_ k) ∧ k < w.heap.size ∨ w.heap.size + 1 + 1 + 1 ≤ k) hv2 (fun k hk => hk.elim (fun h => .inl (h.elim (fun h => ⟨.inl h.1, h.2⟩) (fun h => h.elim (fun h => ⟨.inr (.inl h.1), h.2⟩) (fun h => ⟨.inr (.inr h.1), h.2⟩)))) (fun h => .inr (by have := hz101; omega)))
  clear hv1 hv2
  obtain ⟨A5, c5, e5⟩ := Kd.V_slice U1
  rw [show (l0_1 ++ [(⟨a1_0, l1_1⟩ : S29)]).length = l0_1.length + 1 by simp] at e5
  subst e5
  obtain ⟨A6, c6, e6⟩ := Kd.V_slice U2
  subst e6
  have B106 := blk_below B102 hb2
  have B107 := blk_below B103 hb2
  have B108 := blk_below B104 hb2
  have hB105 := hB101.trans (hb2.mono hB101.size)
  have hz105 : w.heap.size + 1 + 1 + 1 ≤ W2.heap.size := Nat.le_trans hz101 hb2.size
  clear B102 B103 B104 hB101 hz101
  clear hb2
  have c_0_0 : W2.cell? ⟨w.heap.size, 0, none⟩ = some (.int .i64 a0_0) := (blk_cell B106 0).trans rfl
  have c_0_1 : W2.cell? ⟨w.heap.size, 1, none⟩ = some (.slice A0_1 l0_1.length c0_1) := (blk_cell B106 1).trans rfl
  have c_0_2 : W2.cell? ⟨w.heap.size, 2, none⟩ = some (.slice A0_2 l0_2.length c0_2) := (blk_cell B106 2).trans rfl
  have z_0_0 := blk_frozen B106 0
  have z_0_1 := blk_frozen B106 1
  have z_0_2 := blk_frozen B106 2
  have c_1_0 : W2.cell? ⟨w.heap.size + 1, 0, none⟩ = some (.int .u32 a1_0) := (blk_cell B107 0).trans rfl
  have c_1_1 : W2.cell? ⟨w.heap.size + 1, 1, none⟩ = some (.slice A1_1 l1_1.length c1_1) := (blk_cell B107 1).trans rfl
  have z_1_0 := blk_frozen B107 0
  have z_1_1 := blk_frozen B107 1
  have c_2_0 : W2.cell? ⟨w.heap.size + 1 + 1, 0, none⟩ = some (.int .i64 0) := (blk_cell B108 0).trans rfl
  have c_2_1 : W2.cell? ⟨w.heap.size + 1 + 1, 1, none⟩ = some (.slice none 0 0) := (blk_cell B108 1).trans rfl
  have c_2_2 : W2.cell? ⟨w.heap.size + 1 + 1, 2, none⟩ = some (.slice none 0 0) := (blk_cell B108 2).trans rfl
  have z_2_0 := blk_frozen B108 0
  have z_2_1 := blk_frozen B108 1
  have z_2_2 := blk_frozen B108 2
  have lt_ : w.heap.size + 1 + 1 < W2.heap.size := by have := hz105; omega
  go_upto_region 4 with (fail)
  clear c_0_0 c_0_1 c_0_2 z_0_0 z_0_1 z_0_2 c_1_0 c_1_1 z_1_0 z_1_1 c_2_0 c_2_1 c_2_2 z_2_0 z_2_1 z_2_2 lt_
  have n109 : w.heap.size + 1 ≠ w.heap.size := by omega
  have n110 : w.heap.size + 1 + 1 ≠ w.heap.size := by omega
  have n111 : ∀ k, ((P0_1_ k ∨ P0_2_ k ∨ P1_1_ k) ∧ k < w.heap.size ∨ w.heap.size + 1 + 1 + 1 ≤ k) → k ≠ w.heap.size := fun k hk => by omega
  have n112 : w.heap.size ≤ w.heap.size := by omega
  have B114 := (blk_put (cs' := #[.int .i64 a0_0, .slice A5 (l0_1.length + 1) c5, .slice A6 l0_2.length c6]) (blk_put (cs' := #[.int .i64 a0_0, .slice A5 (l0_1.length + 1) c5, .slice A0_2 l0_2.length c0_2]) (blk_put (cs' := #[.int .i64 a0_0, .slice A0_1 l0_1.length c0_1, .slice A0_2 l0_2.length c0_2]) B106 0 (.int .i64 a0_0) rfl) 1 (.slice A5 (l0_1.length + 1) c5) rfl) 2 (.slice A6 l0_2.length c6) rfl)
  have B115 := (blk_far (p := ⟨w.heap.size, 2, none⟩) (blk_far (p := ⟨w.heap.size, 1, none⟩) (blk_far (p := ⟨w.heap.size, 0, none⟩) B107 n109 (.int .i64 a0_0)) n109 (.slice A5 (l0_1.length + 1) c5)) n109 (.slice A6 l0_2.length c6))
  have B116 := (blk_far (p := ⟨w.heap.size, 2, none⟩) (blk_far (p := ⟨w.heap.size, 1, none⟩) (blk_far (p := ⟨w.heap.size, 0, none⟩) B108 n110 (.int .i64 a0_0)) n110 (.slice A5 (l0_1.length + 1) c5)) n110 (.slice A6 l0_2.length c6))
  have V117 := (Kd.V_far (p := ⟨w.heap.size, 2, none⟩) (Kd.V_far (p := ⟨w.heap.size, 1, none⟩) (Kd.V_far (p := ⟨w.heap.size, 0, none⟩) U1 n111 (.int .i64 a0_0)) n111 (.slice A5 (l0_1.length + 1) c5)) n111 (.slice A6 l0_2.length c6))
  have V118 := (Kd.V_far (p := ⟨w.heap.size, 2, none⟩) (Kd.V_far (p := ⟨w.heap.size, 1, none⟩) (Kd.V_far (p := ⟨w.heap.size, 0, none⟩) U2 n111 (.int .i64 a0_0)) n111 (.slice A5 (l0_1.length + 1) c5)) n111 (.slice A6 l0_2.length c6))
  have hB119 := (below_set (g := w.heap.size) (j := 2) (v := .slice A6 l0_2.length c6) (below_set (g := w.heap.size) (j := 1) (v := .slice A5 (l0_1.length + 1) c5) (below_set (g := w.heap.size) (j := 0) (v := .int .i64 a0_0) hB105 n112) n112) n112)
  have hz120 : w.heap.size + 1 + 1 + 1 ≤ (((W2.setCell ⟨w.heap.size, 0, none⟩ (.int .i64 a0_0)).setCell ⟨w.heap.size, 1, none⟩ (.slice A5 (l0_1.length + 1) c5)).setCell ⟨w.heap.size, 2, none⟩ (.slice A6 l0_2.length c6)).heap.size := by simpa [World.setCell] using hz105
  clear B106 B107 B108 U1 U2 hB105 hz105 n109 n110 n111 n112
  obtain ⟨W113, hW113⟩ : ∃ W_ : World, W_ = (((W2.setCell ⟨w.heap.size, 0, none⟩ (.int .i64 a0_0)).setCell ⟨w.heap.size, 1, none⟩ (.slice A5 (l0_1.length + 1) c5)).setCell ⟨w.heap.size, 2, none⟩ (.slice A6 l0_2.length c6)) := ⟨_, rfl⟩
  rw [← hW113] at B114 B115 B116 V117 V118 hB119 hz120 ⊢
  clear hW113
  have c_0_0 : W113.cell? ⟨w.heap.size, 0, none⟩ = some (.int .i64 a0_0) := (blk_cell B114 0).trans rfl
  have c_0_1 : W113.cell? ⟨w.heap.size, 1, none⟩ = some (.slice A5 (l0_1.length + 1) c5) := (blk_cell B114 1).trans rfl
  have c_0_2 : W113.cell? ⟨w.heap.size, 2, none⟩ = some (.slice A6 l0_2.length c6) := (blk_cell B114 2).trans rfl
  have z_0_0 := blk_frozen B114 0
  have z_0_1 := blk_frozen B114 1
  have z_0_2 := blk_frozen B114 2
  have c_1_0 : W113.cell? ⟨w.heap.size + 1, 0, none⟩ = some (.int .u32 a1_0) := (blk_cell B115 0).trans rfl
  have c_1_1 : W113.cell? ⟨w.heap.size + 1, 1, none⟩ = some (.slice A1_1 l1_1.length c1_1) := (blk_cell B115 1).trans rfl
  have z_1_0 := blk_frozen B115 0
  have z_1_1 := blk_frozen B115 1
  have c_2_0 : W113.cell? ⟨w.heap.size + 1 + 1, 0, none⟩ = some (.int .i64 0) := (blk_cell B116 0).trans rfl
  have c_2_1 : W113.cell? ⟨w.heap.size + 1 + 1, 1, none⟩ = some (.slice none 0 0) := (blk_cell B116 1).trans rfl
  have c_2_2 : W113.cell? ⟨w.heap.size + 1 + 1, 2, none⟩ = some (.slice none 0 0) := (blk_cell B116 2).trans rfl
  have z_2_0 := blk_frozen B116 0
  have z_2_1 := blk_frozen B116 1
  have z_2_2 := blk_frozen B116 2
  have lt_ : w.heap.size + 1 + 1 < W113.heap.size := by have := hz120; omega
  go_wp2_with fail
  clear c_0_0 c_0_1 c_0_2 z_0_0 z_0_1 z_0_2 c_1_0 c_1_1 z_1_0 z_1_1 c_2_0 c_2_1 c_2_2 z_2_0 z_2_1 z_2_2 lt_
  have UL := Kd.V_mk (e := 26) (base := 0) hc3 (nrow.mv (R := fun k => P0_1_ k ∨ P0_2_ k ∨ P1_1_ k) (m := w.heap.size + 1 + 1 + 1) hB119 (fun k hk => .inr (.inr hk)) F3)
  refine (slices_Concat_uint32_uint32.calls 100 (fun k => (P0_1_ k ∨ P0_2_ k ∨ P1_1_ k) ∧ k < w.heap.size ∨ w.heap.size + 1 + 1 + 1 ≤ k) _ _ [l0_2, [l1_1]] (l0_2 ++ [l1_1]) _ (nsend.rows (fun k hk => .inr (Nat.le_trans hz120 hk)) V118 UL _) HC.out).mono ?_
  rintro e W5 ⟨v7, rfl, hv7, hb7⟩
  obtain ⟨A7, c7, e7⟩ := Kd.N_slice hv7
  rw [show (l0_2 ++ [l1_1]).length = l0_2.length + 1 by simp] at e7
  subst e7
  clear UL
  have hb := show Below W113.heap.size W113 W5 from (below_alloc (below_alloc (Below.refl _ _) _) _).trans (hb7.mono (by simp <;> omega))
  have U7 := Kd.V_mono (ok' := fun k => (P0_1_ k ∨ P0_2_ k ∨ P1_1_ k) ∧ k < w.heap.size ∨ w.heap.size + 1 + 1 + 1 ≤ k) (Kd.N_V (base' := 0) hv7) (fun k hk => hk.elim (fun h => h) (fun h => .inr (by have := hz120; simp at h; omega)))
  clear hv7 hb7
  clear V118
  have B122 := blk_below B114 hb
  have B123 := blk_below B115 hb
  have B124 := blk_below B116 hb
  have V125 := Kd.V_below V117 hb
  have hB121 := hB119.trans (hb.mono hB119.size)
  have hz121 : w.heap.size + 1 + 1 + 1 ≤ W5.heap.size := Nat.le_trans hz120 hb.size
  clear B114 B115 B116 V117 hB119 hz120
  clear hb
  have c_0_0 : W5.cell? ⟨w.heap.size, 0, none⟩ = some (.int .i64 a0_0) := (blk_cell B122 0).trans rfl
  have c_0_1 : W5.cell? ⟨w.heap.size, 1, none⟩ = some (.slice A5 (l0_1.length + 1) c5) := (blk_cell B122 1).trans rfl
  have c_0_2 : W5.cell? ⟨w.heap.size, 2, none⟩ = some (.slice A6 l0_2.length c6) := (blk_cell B122 2).trans rfl
  have z_0_0 := blk_frozen B122 0
  have z_0_1 := blk_frozen B122 1
  have z_0_2 := blk_frozen B122 2
  have c_1_0 : W5.cell? ⟨w.heap.size + 1, 0, none⟩ = some (.int .u32 a1_0) := (blk_cell B123 0).trans rfl
  have c_1_1 : W5.cell? ⟨w.heap.size + 1, 1, none⟩ = some (.slice A1_1 l1_1.length c1_1) := (blk_cell B123 1).trans rfl
  have z_1_0 := blk_frozen B123 0
  have z_1_1 := blk_frozen B123 1
  have c_2_0 : W5.cell? ⟨w.heap.size + 1 + 1, 0, none⟩ = some (.int .i64 0) := (blk_cell B124 0).trans rfl
  have c_2_1 : W5.cell? ⟨w.heap.size + 1 + 1, 1, none⟩ = some (.slice none 0 0) := (blk_cell B124 1).trans rfl
  have c_2_2 : W5.cell? ⟨w.heap.size + 1 + 1, 2, none⟩ = some (.slice none 0 0) := (blk_cell B124 2).trans rfl
  have z_2_0 := blk_frozen B124 0
  have z_2_1 := blk_frozen B124 1
  have z_2_2 := blk_frozen B124 2
  have lt_ : w.heap.size + 1 + 1 < W5.heap.size := by have := hz121; omega
  go_upto_region 5 with (fail)
  clear c_0_0 c_0_1 c_0_2 z_0_0 z_0_1 z_0_2 c_1_0 c_1_1 z_1_0 z_1_1 c_2_0 c_2_1 c_2_2 z_2_0 z_2_1 z_2_2 lt_
  have n126 : w.heap.size + 1 ≠ w.heap.size := by omega
  have n127 : w.heap.size + 1 + 1 ≠ w.heap.size := by omega
  have n128 : ∀ k, ((P0_1_ k ∨ P0_2_ k ∨ P1_1_ k) ∧ k < w.heap.size ∨ w.heap.size + 1 + 1 + 1 ≤ k) → k ≠ w.heap.size := fun k hk => by omega
  have n129 : w.heap.size ≤ w.heap.size := by omega
  have B131 := (blk_put (cs' := #[.int .i64 a0_0, .slice A5 (l0_1.length + 1) c5, .slice A7 (l0_2.length + 1) c7]) B122 2 (.slice A7 (l0_2.length + 1) c7) rfl)
  have B132 := (blk_far (p := ⟨w.heap.size, 2, none⟩) B123 n126 (.slice A7 (l0_2.length + 1) c7))
  have B133 := (blk_far (p := ⟨w.heap.size, 2, none⟩) B124 n127 (.slice A7 (l0_2.length + 1) c7))
  have V134 := (Kd.V_far (p := ⟨w.heap.size, 2, none⟩) V125 n128 (.slice A7 (l0_2.length + 1) c7))
  have V135 := (Kd.V_far (p := ⟨w.heap.size, 2, none⟩) U7 n128 (.slice A7 (l0_2.length + 1) c7))
  have hB136 := (below_set (g := w.heap.size) (j := 2) (v := .slice A7 (l0_2.length + 1) c7) hB121 n129)
  have hz137 : w.heap.size + 1 + 1 + 1 ≤ (W5.setCell ⟨w.heap.size, 2, none⟩ (.slice A7 (l0_2.length + 1) c7)).heap.size := by simpa [World.setCell] using hz121
  clear B122 B123 B124 V125 U7 hB121 hz121 n126 n127 n128 n129
  obtain ⟨W130, hW130⟩ : ∃ W_ : World, W_ = (W5.setCell ⟨w.heap.size, 2, none⟩ (.slice A7 (l0_2.length + 1) c7)) := ⟨_, rfl⟩
  rw [← hW130] at B131 B132 B133 V134 V135 hB136 hz137 ⊢
  clear hW130
  have c_0_0 : W130.cell? ⟨w.heap.size, 0, none⟩ = some (.int .i64 a0_0) := (blk_cell B131 0).trans rfl
  have c_0_1 : W130.cell? ⟨w.heap.size, 1, none⟩ = some (.slice A5 (l0_1.length + 1) c5) := (blk_cell B131 1).trans rfl
  have c_0_2 : W130.cell? ⟨w.heap.size, 2, none⟩ = some (.slice A7 (l0_2.length + 1) c7) := (blk_cell B131 2).trans rfl
  have z_0_0 := blk_frozen B131 0
  have z_0_1 := blk_frozen B131 1
  have z_0_2 := blk_frozen B131 2
  have c_1_0 : W130.cell? ⟨w.heap.size + 1, 0, none⟩ = some (.int .u32 a1_0) := (blk_cell B132 0).trans rfl
  have c_1_1 : W130.cell? ⟨w.heap.size + 1, 1, none⟩ = some (.slice A1_1 l1_1.length c1_1) := (blk_cell B132 1).trans rfl
  have z_1_0 := blk_frozen B132 0
  have z_1_1 := blk_frozen B132 1
  have c_2_0 : W130.cell? ⟨w.heap.size + 1 + 1, 0, none⟩ = some (.int .i64 0) := (blk_cell B133 0).trans rfl
  have c_2_1 : W130.cell? ⟨w.heap.size + 1 + 1, 1, none⟩ = some (.slice none 0 0) := (blk_cell B133 1).trans rfl
  have c_2_2 : W130.cell? ⟨w.heap.size + 1 + 1, 2, none⟩ = some (.slice none 0 0) := (blk_cell B133 2).trans rfl
  have z_2_0 := blk_frozen B133 0
  have z_2_1 := blk_frozen B133 1
  have z_2_2 := blk_frozen B133 2
  have lt_ : w.heap.size + 1 + 1 < W130.heap.size := by have := hz137; omega
  go_wp2
  clear c_0_0 c_0_1 c_0_2 z_0_0 z_0_1 z_0_2 c_1_0 c_1_1 z_1_0 z_1_1 c_2_0 c_2_1 c_2_2 z_2_0 z_2_1 z_2_2 lt_
  have n138 : w.heap.size ≠ w.heap.size + 1 + 1 := by omega
  have n139 : w.heap.size + 1 ≠ w.heap.size + 1 + 1 := by omega
  have n140 : ∀ k, ((P0_1_ k ∨ P0_2_ k ∨ P1_1_ k) ∧ k < w.heap.size ∨ w.heap.size + 1 + 1 + 1 ≤ k) → k ≠ w.heap.size + 1 + 1 := fun k hk => by omega
  have n141 : w.heap.size ≤ w.heap.size + 1 + 1 := by omega
  have B143 := (blk_put (cs' := #[.int .i64 a0_0, .slice A5 (l0_1.length + 1) c5, .slice A7 (l0_2.length + 1) c7]) (blk_put (cs' := #[.int .i64 a0_0, .slice A5 (l0_1.length + 1) c5, .slice none 0 0]) (blk_put (cs' := #[.int .i64 a0_0, .slice none 0 0, .slice none 0 0]) B133 0 (.int .i64 a0_0) rfl) 1 (.slice A5 (l0_1.length + 1) c5) rfl) 2 (.slice A7 (l0_2.length + 1) c7) rfl)
  have B144 := (blk_far (p := ⟨w.heap.size + 1 + 1, 2, none⟩) (blk_far (p := ⟨w.heap.size + 1 + 1, 1, none⟩) (blk_far (p := ⟨w.heap.size + 1 + 1, 0, none⟩) B131 n138 (.int .i64 a0_0)) n138 (.slice A5 (l0_1.length + 1) c5)) n138 (.slice A7 (l0_2.length + 1) c7))
  have B145 := (blk_far (p := ⟨w.heap.size + 1 + 1, 2, none⟩) (blk_far (p := ⟨w.heap.size + 1 + 1, 1, none⟩) (blk_far (p := ⟨w.heap.size + 1 + 1, 0, none⟩) B132 n139 (.int .i64 a0_0)) n139 (.slice A5 (l0_1.length + 1) c5)) n139 (.slice A7 (l0_2.length + 1) c7))
  have V146 := (Kd.V_far (p := ⟨w.heap.size + 1 + 1, 2, none⟩) (Kd.V_far (p := ⟨w.heap.size + 1 + 1, 1, none⟩) (Kd.V_far (p := ⟨w.heap.size + 1 + 1, 0, none⟩) V134 n140 (.int .i64 a0_0)) n140 (.slice A5 (l0_1.length + 1) c5)) n140 (.slice A7 (l0_2.length + 1) c7))
  have V147 := (Kd.V_far (p := ⟨w.heap.size + 1 + 1, 2, none⟩) (Kd.V_far (p := ⟨w.heap.size + 1 + 1, 1, none⟩) (Kd.V_far (p := ⟨w.heap.size + 1 + 1, 0, none⟩) V135 n140 (.int .i64 a0_0)) n140 (.slice A5 (l0_1.length + 1) c5)) n140 (.slice A7 (l0_2.length + 1) c7))
  have hB148 := (below_set (g := w.heap.size + 1 + 1) (j := 2) (v := .slice A7 (l0_2.length + 1) c7) (below_set (g := w.heap.size + 1 + 1) (j := 1) (v := .slice A5 (l0_1.length + 1) c5) (below_set (g := w.heap.size + 1 + 1) (j := 0) (v := .int .i64 a0_0) hB136 n141) n141) n141)
  have hz149 : w.heap.size + 1 + 1 + 1 ≤ (((W130.setCell ⟨w.heap.size + 1 + 1, 0, none⟩ (.int .i64 a0_0)).setCell ⟨w.heap.size + 1 + 1, 1, none⟩ (.slice A5 (l0_1.length + 1) c5)).setCell ⟨w.heap.size + 1 + 1, 2, none⟩ (.slice A7 (l0_2.length + 1) c7)).heap.size := by simpa [World.setCell] using hz137
  clear B131 B132 B133 V134 V135 hB136 hz137 n138 n139 n140 n141
  obtain ⟨W142, hW142⟩ : ∃ W_ : World, W_ = (((W130.setCell ⟨w.heap.size + 1 + 1, 0, none⟩ (.int .i64 a0_0)).setCell ⟨w.heap.size + 1 + 1, 1, none⟩ (.slice A5 (l0_1.length + 1) c5)).setCell ⟨w.heap.size + 1 + 1, 2, none⟩ (.slice A7 (l0_2.length + 1) c7)) := ⟨_, rfl⟩
  rw [← hW142] at B143 B144 B145 V146 V147 hB148 hz149 ⊢
  clear hW142
  refine bodyPost_ret (results_ct rfl _ _ (w.heap.size + 1 + 1) 25 #[.int .i64 a0_0, .slice A5 (l0_1.length + 1) c5, .slice A7 (l0_2.length + 1) c7] (0, 0) _ rfl B143 Try.underlying25 rfl (by kernel_rfl)) rfl ?_
  exact ⟨_, _, rfl, Kd.V_mono V146 (fun k hk => hk.elim (fun h => .inl h.1) (fun h => .inr (by omega))), Kd.V_mono V147 (fun k hk => hk.elim (fun h => .inl h.1) (fun h => .inr (by omega))), hB148⟩

end Go.Proofs.Ytlbfdmoocgjiaaa.PNetBag
