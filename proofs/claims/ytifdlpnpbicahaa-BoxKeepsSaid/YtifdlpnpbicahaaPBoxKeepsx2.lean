-- Written for this claim by wip/tools/myprint.py (print.py's forms; proofs of the faked functions by hand).
import Derived.Test.YtifdlpnpbicahaaPBoxKeepsx0
import Derived.Test.YtifdlpnpbicahaaPBoxKeepsx1
namespace Go.Proofs.Ytifdlpnpbicahaa.PBoxKeeps
open Go.RowKit Go.Proofs.YtifdlpnpbicahaaW.PrintWords Go.Proofs.YtifdlpnpbicahaaW.PrintLast Go.Proofs.YtifdlpnpbicahaaW.PrintMore
attribute [local go_sem] max2_int min2_int max_two min_two max_three min_three max_four min_four   -- for this text's walks alone
set_option linter.unusedVariables false
set_option linter.unusedSimpArgs false

/-! ### box_Seal: function 12 -/
theorem bseal.w64 {x : Int} (h1 : -9223372036854775808 ≤ x) (h2 : x ≤ 9223372036854775807) : wrap64 x = x := by unfold wrap64; omega
theorem bseal.rdL_nat (xs : List (List S43)) (i : Nat) (h : i < xs.length) : rd_L3 xs (i : Int) = xs[i] := by
  unfold rd_L3
  simp [List.getD_eq_getElem?_getD, h]
theorem bseal.grow_eq (n : Nat) (h : n < 3518437208883) : api_Sealed_26.f [] (n : Int) = some [] := by
  unfold api_Sealed_26.f
  rw [if_neg (by omega), if_neg (by simp)]
  by_cases c : (n : Int) > 0
  · rw [if_pos c, if_pos (by omega), if_pos (by simp; omega)]
    simp
  · rw [if_neg c]
theorem bseal.concat_l1 (ll : List (List S43)) (hll : ll.length ≤ 1000000) : ∀ (d k i : Nat) (acc : List S43), ll.length - i = d → i ≤ ll.length → acc.length + ((ll.drop i).map List.length).sum < 3518437208883 → d < k →
    api_Sealed_23.l1 k acc ll (ll.length : Int) (i : Int) = some (acc ++ (ll.drop i).flatten) := by
  intro d
  induction d with
  | zero =>
    intro k i acc h1 h2 h3 h4
    obtain ⟨k, rfl⟩ : ∃ m, k = m + 1 := ⟨k - 1, by omega⟩
    rw [api_Sealed_23.l1, if_neg (by omega), List.drop_eq_nil_of_le (by omega)]
    simp
  | succ d ih =>
    intro k i acc h1 h2 h3 h4
    obtain ⟨k, rfl⟩ : ∃ m, k = m + 1 := ⟨k - 1, by omega⟩
    have hi : i < ll.length := by omega
    rw [List.drop_eq_getElem_cons hi] at h3 ⊢
    simp only [List.map_cons, List.sum_cons] at h3
    rw [api_Sealed_23.l1, if_pos (by omega), if_pos (by omega), if_pos (by omega), bseal.rdL_nat ll i hi, if_pos (by omega), bseal.w64 (by omega) (by omega)]
    have ei : (i : Int) + 1 = ((i + 1 : Nat) : Int) := by omega
    rw [ei, ih k (i + 1) _ (by omega) (by omega) (by rw [List.length_append]; omega) (by omega), List.flatten_cons, List.append_assoc]
theorem bseal.concat_l0 (ll : List (List S43)) (hll : ll.length ≤ 1000000) (hs : (ll.map List.length).sum < 3518437208883) : ∀ (d k i s : Nat), ll.length - i = d → i ≤ ll.length → s + ((ll.drop i).map List.length).sum = (ll.map List.length).sum → d + ll.length + 1 < k →
    api_Sealed_23.l0 k ll (s : Int) ll (ll.length : Int) (i : Int) = some ll.flatten := by
  intro d
  induction d with
  | zero =>
    intro k i s h1 h2 h3 h4
    obtain ⟨k, rfl⟩ : ∃ m, k = m + 1 := ⟨k - 1, by omega⟩
    rw [List.drop_eq_nil_of_le (by omega)] at h3
    simp only [List.map_nil, List.sum_nil, Nat.add_zero] at h3
    rw [api_Sealed_23.l0, if_neg (by omega), bseal.grow_eq s (by omega), Option.bind_some]
    have h := bseal.concat_l1 ll hll ll.length k 0 [] (by omega) (by omega) (by simpa using hs) (by omega)
    simp only [Int.natCast_zero, List.drop_zero, List.nil_append] at h
    exact h
  | succ d ih =>
    intro k i s h1 h2 h3 h4
    obtain ⟨k, rfl⟩ : ∃ m, k = m + 1 := ⟨k - 1, by omega⟩
    have hi : i < ll.length := by omega
    rw [List.drop_eq_getElem_cons hi] at h3
    simp only [List.map_cons, List.sum_cons] at h3
    rw [api_Sealed_23.l0, if_pos (by omega), if_pos (by omega), if_pos (by omega), bseal.rdL_nat ll i hi, bseal.w64 (x := (s : Int) + (ll[i].length : Int)) (by omega) (by omega), if_neg (by omega), bseal.w64 (by omega) (by omega)]
    have ei : (i : Int) + 1 = ((i + 1 : Nat) : Int) := by omega
    have es : (s : Int) + (ll[i].length : Int) = ((s + ll[i].length : Nat) : Int) := by omega
    rw [ei, es]
    exact ih k (i + 1) _ (by omega) (by omega) (by omega) (by omega)
theorem bseal.concat_eq (ll : List (List S43)) (k : Nat) (hll : ll.length ≤ 1000000) (hs : (ll.map List.length).sum < 3518437208883) (hk : ll.length + ll.length + 1 < k) : api_Sealed_23.f k ll = some ll.flatten := by
  unfold api_Sealed_23.f
  have h := bseal.concat_l0 ll hll hs ll.length k 0 0 (by omega) (by omega) (by simp) (by omega)
  simp only [Int.natCast_zero] at h
  exact h

def box_Seal.f (a0_0 : Int) (l0_1 : List (S43)) (a1 : Int) (a2 : Int) (a3 : Int) (l4 : List Int) : Option (Int × (List (S43)) × Int) := if (l4.length : Int) > 64 then some (a0_0, l0_1, 3) else if 0 ≤ bfind.pos a1 l0_1 then some (a0_0, l0_1, 8) else if wrap64 (a0_0 - (l0_1.length : Int)) < 1 then some (a0_0, l0_1, 10) else if l0_1.length < 1000000 then some (a0_0, l0_1 ++ [⟨a1, a2, a3, l4⟩], 0) else none
/-- What find answers, in the walk's form. -/
theorem bseal.found (a0 a1 : Int) (l : List S43) : ∃ r1 r2 r3 r4, box_find.f a0 l a1 = some (r1, r2, r3, r4, decide (0 ≤ bfind.pos a1 l)) := by
  unfold box_find.f
  by_cases h : bfind.pos a1 l < 0
  · exact ⟨_, _, _, _, by rw [if_pos h, show decide (0 ≤ bfind.pos a1 l) = false from decide_eq_false (by omega)]⟩
  · exact ⟨_, _, _, _, by rw [if_neg h, show decide (0 ≤ bfind.pos a1 l) = true from decide_eq_true (by omega)]⟩
theorem bseal.add0 (g n : Nat) : (⟨g, 0, none⟩ : Addr).add n = ⟨g, n, none⟩ := by
  unfold Addr.add
  by_cases h : n = 0
  · subst h; rfl
  · simp [h]
/-- A row whose cells a block holds, its elements with their footprints. -/
theorem bseal.F_block {α : Type} {d : Kd α} {W : World} {ok : Nat → Prop} {g : Nat} {cs : Array Value} {t : TypeId} (xs : List α) (rows : List (List Value)) (hb : W.heap[g]? = some (.cells cs t (0, 0))) (hok : ok g) (hl : rows.length = xs.length)
    (hr : ∀ (j : Nat) (x : α) (c : List Value), xs[j]? = some x → rows[j]? = some c → Kd.FK d W ok x c ∧ c.length = d.sz) (hc : ∀ (j : Nat) (c : List Value), rows[j]? = some c → ∀ (i : Nat) (u : Value), c[i]? = some u → cs[j * d.sz + i]? = some u) (hn : xs.length ≤ 9223372036854775807) :
    Kd.F d W ok (some ⟨g, 0, none⟩) xs.length xs := by
  intro W' hW
  have hb' : W'.heap[g]? = some (.cells cs t (0, 0)) := (hW g hok (blk_lt hb)).trans hb
  refine ⟨rfl, hn, fun _ => ⟨⟨g, 0, none⟩, rfl, fun j p hp => ?_⟩⟩
  have hj : j < xs.length := (List.getElem?_eq_some_iff.1 hp).1
  obtain ⟨c, hcj⟩ : ∃ c, rows[j]? = some c := ⟨rows[j]'(by omega), List.getElem?_eq_getElem (by omega)⟩
  obtain ⟨h1, h2⟩ := hr j p c hp hcj
  refine ⟨c, h2, h1 W' hW, fun i u hu => ?_⟩
  have := blk_cell hb' (j * d.sz + i)
  rw [hc j c hcj i u hu] at this
  rw [show (⟨g, 0, none⟩ : Addr).add (j * d.sz + i) = ⟨g, j * d.sz + i, none⟩ from bseal.add0 _ _]
  exact this
theorem bseal.rows (w w3 : World) (P : Nat → Prop) (base base2 : Nat) (A0 : Option Addr) (c0 : Nat) (l : List S43) (a1 a2 a3 : Int) (A5 : Option Addr) (c5 : Nat) (l4 : List Int)
    (hV : Kd.V k43 43 w3 base (fun k => P k ∧ k < w.heap.size) (.slice A0 l.length c0) l) (hR : Kd.R (Kd.int .u32) 25 w3 base2 (fun k => (P k ∧ k < w.heap.size) ∨ w.heap.size + 1 < k) (.slice A5 l4.length c5) l4) (hlt : w.heap.size + 1 < w3.heap.size) (n : Nat) :
    Kd.V (Kd.slice 43 k43) 22 (((w3.alloc (.cells #[.int .u32 a1, .int .u32 a2, .int .u32 a3, .slice A5 l4.length c5] 43)).alloc (.cells #[.int .u32 a1, .int .u32 a2, .int .u32 a3, .slice A5 l4.length c5] 43)).alloc (.cells #[.slice A0 l.length c0, .slice (some ⟨w3.heap.size + 1, 0, none⟩) 1 1] 22)) n
      (fun k => (P k ∧ k < w.heap.size) ∨ w.heap.size + 1 < k) (.slice (some ⟨w3.heap.size + 1 + 1, 0, none⟩) 2 2) [l, [(⟨a1, a2, a3, l4⟩ : S43)]] := by
  obtain ⟨Wa, hWa⟩ : ∃ Wa : World, Wa = w3.alloc (.cells #[.int .u32 a1, .int .u32 a2, .int .u32 a3, .slice A5 l4.length c5] 43) := ⟨_, rfl⟩
  obtain ⟨Wb, hWb⟩ : ∃ Wb : World, Wb = Wa.alloc (.cells #[.int .u32 a1, .int .u32 a2, .int .u32 a3, .slice A5 l4.length c5] 43) := ⟨_, rfl⟩
  obtain ⟨Wc, hWc⟩ : ∃ Wc : World, Wc = Wb.alloc (.cells #[.slice A0 l.length c0, .slice (some ⟨w3.heap.size + 1, 0, none⟩) 1 1] 22) := ⟨_, rfl⟩
  rw [← hWa, ← hWb, ← hWc]
  have sa : Wa.heap.size = w3.heap.size + 1 := by rw [hWa]; simp
  have sb : Wb.heap.size = w3.heap.size + 1 + 1 := by rw [hWb]; simp [sa]
  have bb : Wb.heap[w3.heap.size + 1]? = some (.cells #[.int .u32 a1, .int .u32 a2, .int .u32 a3, .slice A5 l4.length c5] 43 (0, 0)) := by rw [hWb, ← sa]; exact (MapKept.heap_alloc _ _).1
  have bc : Wc.heap[w3.heap.size + 1 + 1]? = some (.cells #[.slice A0 l.length c0, .slice (some ⟨w3.heap.size + 1, 0, none⟩) 1 1] 22 (0, 0)) := by rw [hWc, ← sb]; exact (MapKept.heap_alloc _ _).1
  have bb' : Wc.heap[w3.heap.size + 1]? = some (.cells #[.int .u32 a1, .int .u32 a2, .int .u32 a3, .slice A5 l4.length c5] 43 (0, 0)) := by rw [hWc]; exact blk_alloc bb _
  have hB : Below w3.heap.size w3 Wc := by rw [hWc, hWb, hWa]; exact below_alloc (below_alloc (below_alloc (Below.refl _ _) _) _) _
  have V1 := Kd.V_mono (ok' := fun k => (P k ∧ k < w.heap.size) ∨ w.heap.size + 1 < k) (Kd.V_below hV hB) (fun k hk => .inl hk)
  have V2 := Kd.V_below (Kd.R_V (base' := 0) hR) hB
  obtain ⟨_, hc0, F1⟩ := Kd.V_at V1
  obtain ⟨_, hc5, F2⟩ := Kd.V_at V2
  have F3 : Kd.F k43 Wc (fun k => (P k ∧ k < w.heap.size) ∨ w.heap.size + 1 < k) (some ⟨w3.heap.size + 1, 0, none⟩) 1 [(⟨a1, a2, a3, l4⟩ : S43)] :=
    bseal.F_block [(⟨a1, a2, a3, l4⟩ : S43)] [[.int .u32 a1, .int .u32 a2, .int .u32 a3, .slice A5 l4.length c5]] bb' (.inr (by omega)) rfl
      (fun j x c hx hc => by
        have : j = 0 := by have := (List.getElem?_eq_some_iff.1 hx).1; simpa using this
        subst this
        cases hx
        cases hc
        exact ⟨k43_mkF Wc _ _ hc5 F2, rfl⟩)
      (fun j c hc i u hu => by
        have : j = 0 := by have := (List.getElem?_eq_some_iff.1 hc).1; simpa using this
        subst this
        cases hc
        simpa using hu) (by simp)
  refine ⟨some ⟨w3.heap.size + 1 + 1, 0, none⟩, 2, rfl, Nat.le_refl _, ?_⟩
  refine bseal.F_block [l, [(⟨a1, a2, a3, l4⟩ : S43)]] [[.slice A0 l.length c0], [.slice (some ⟨w3.heap.size + 1, 0, none⟩) 1 1]] bc (.inr (by omega)) rfl ?_ ?_ (by simp)
  · intro j x c hx hc
    have hj := (List.getElem?_eq_some_iff.1 hx).1
    simp only [List.length_cons, List.length_nil] at hj
    rcases Nat.lt_or_ge j 1 with q | q
    · obtain rfl : j = 0 := by omega
      cases hx
      cases hc
      exact ⟨fun W' hW => ⟨A0, c0, rfl, hc0, F1 W' hW⟩, rfl⟩
    · obtain rfl : j = 1 := by omega
      cases hx
      cases hc
      exact ⟨fun W' hW => ⟨_, 1, rfl, Nat.le_refl _, F3 W' hW⟩, rfl⟩
  · intro j c hc i u hu
    have hj := (List.getElem?_eq_some_iff.1 hc).1
    simp only [List.length_cons, List.length_nil] at hj
    rcases Nat.lt_or_ge j 1 with q | q
    · obtain rfl : j = 0 := by omega
      cases hc
      have hi := (List.getElem?_eq_some_iff.1 hu).1
      simp only [List.length_cons, List.length_nil] at hi
      obtain rfl : i = 0 := by omega
      exact hu
    · obtain rfl : j = 1 := by omega
      cases hc
      have hi := (List.getElem?_eq_some_iff.1 hu).1
      simp only [List.length_cons, List.length_nil] at hi
      obtain rfl : i = 0 := by omega
      exact hu
set_option maxHeartbeats 8000000 in
set_option maxRecDepth 100000 in
theorem box_Seal.calls (a0_0 : Int) (P0_1_ : Nat → Prop) (A0_1 : Option Addr) (c0_1 : Nat) (l0_1 : List (S43)) (a1 : Int) (a2 : Int) (a3 : Int) (A4 : Option Addr) (c4 : Nat) (l4 : List Int) (r1 : Int) (r2 : List (S43)) (r3 : Int) (w : World) (hs0_1 : Kd.V k43 43 w w.heap.size (fun k_ => P0_1_ k_) (.slice A0_1 l0_1.length c0_1) l0_1) (hr4 : Kd.C (Kd.int .u32) w A4 l4.length l4) (hc4 : l4.length ≤ c4) (h : box_Seal.f a0_0 l0_1 a1 a2 a3 l4 = some (r1, r2, r3)) :
    Calls Try.prog 12 #[.agg #[.int .i64 a0_0, .slice A0_1 l0_1.length c0_1], .int .u32 a1, .int .u32 a2, .int .u32 a3, .slice A4 l4.length c4] w fun e w' => ∃ v1_ : Value, e = .returned (.tuple #[.agg #[.int .i64 r1, v1_], .int .i64 r3]) ∧ Kd.V k43 43 w' w.heap.size (fun k_ => (P0_1_ k_ ∨ w.heap.size ≤ k_)) v1_ r2 ∧ Below w.heap.size w w' := by
  obtain ⟨f1, f2, f3, f4, hf⟩ := bseal.found a0_0 a1 l0_1
  have HF := Aside0.mk hf
  clear hf
  have HS := Aside0.mk (Kd.V_bound hs0_1)
  have HR4 := Aside0.mk hr4
  have HC4 := Aside0.mk hc4
  clear hs0_1 hr4 hc4
  unfold box_Seal.f at h
  have Hh := Aside0.mk h
  clear h
  obtain ⟨W1, hW1⟩ : ∃ W1 : World, W1 = w.alloc (.cells #[.int .i64 a0_0, .slice A0_1 l0_1.length c0_1] 24) := ⟨_, rfl⟩
  obtain ⟨W2, hW2⟩ : ∃ W2 : World, W2 = W1.alloc (.cells #[.int .i64 0, .slice none 0 0] 24) := ⟨_, rfl⟩
  have s1 : W1.heap.size = w.heap.size + 1 := by rw [hW1]; simp
  have s2 : W2.heap.size = w.heap.size + 1 + 1 := by rw [hW2]; simp [s1]
  have b1 : W1.heap[w.heap.size]? = some (.cells #[.int .i64 a0_0, .slice A0_1 l0_1.length c0_1] 24 (0, 0)) := by rw [hW1]; exact (MapKept.heap_alloc _ _).1
  have b2 : W2.heap[w.heap.size + 1]? = some (.cells #[.int .i64 0, .slice none 0 0] 24 (0, 0)) := by rw [hW2, ← s1]; exact (MapKept.heap_alloc _ _).1
  have b1' : W2.heap[w.heap.size]? = some (.cells #[.int .i64 a0_0, .slice A0_1 l0_1.length c0_1] 24 (0, 0)) := by rw [hW2]; exact blk_alloc b1 _
  have hB2 : Below w.heap.size w W2 := by rw [hW2, hW1]; exact ((Below.refl _ w).alloc (Nat.le_refl _) _).alloc (by simp) _
  have HV2 := Aside0.mk (Kd.V_below HS.out hB2)
  have HB2 := Aside0.mk hB2
  have Hs2 := Aside0.mk s2
  have Hb1 := Aside0.mk b1'
  have Hb2 := Aside0.mk b2
  have Hw := Aside0.mk (hW2.trans (by rw [hW1]))
  have hk0 : W2.cell? ⟨w.heap.size, 0, none⟩ = some (.int .i64 a0_0) := (blk_cell b1' 0).trans rfl
  have hk1 : W2.cell? ⟨w.heap.size, 1, none⟩ = some (.slice A0_1 l0_1.length c0_1) := (blk_cell b1' 1).trans rfl
  clear b1 b2 b1' hB2 s1 s2 hW1 hW2 HS
  by_cases c1 : (l4.length : Int) > 64
  · have c1b0 : decide (64 < (l4.length : Int)) = true := decide_eq_true c1
    have c1b1 : decide (64 < l4.length) = true := decide_eq_true (by omega)
    have h := Hh.out
    rw [if_pos c1] at h
    simp only [Option.some.injEq, Prod.mk.injEq] at h
    obtain ⟨rfl, rfl, rfl⟩ := h
    clear Hh c1
    go_enter Try.func12, Try.ntmps12
    go_wp2_with (rw [← Hw.out]; go_at_call 21; refine (box_find.calls a0_0 _ _ _ l0_1 a1 f1 f2 f3 f4 _ _ HV2.out HF.out).mono ?_; rintro e w1 ⟨v3, rfl, hv3, hb1⟩; obtain ⟨A3, c3, rfl⟩ := Kd.V_slice hv3; clear hv3; have hlt5 : w.heap.size < w1.heap.size := (by have := hb1.size; have := Hs2.out; omega); have hlt10 : w.heap.size + 1 < w1.heap.size := (by have := hb1.size; have := Hs2.out; omega); have B5 := Aside0.mk (blk_below Hb1.out hb1); have B10 := Aside0.mk (blk_below Hb2.out hb1); have HV3 := Aside0.mk (Kd.V_below HV2.out hb1); have HB3 := Aside0.mk (HB2.out.trans (hb1.mono (by have := Hs2.out; omega))); clear hb1; have q0 : w1.cell? ⟨w.heap.size, 0, none⟩ = some (.int .i64 a0_0) := (blk_cell B5.out 0).trans rfl; have q1 : w1.cell? ⟨w.heap.size, 1, none⟩ = some (.slice A0_1 l0_1.length c0_1) := (blk_cell B5.out 1).trans rfl; have p0 : w1.cell? ⟨w.heap.size + 1, 0, none⟩ = some (.int .i64 0) := (blk_cell B10.out 0).trans rfl; have p1 : w1.cell? ⟨w.heap.size + 1, 1, none⟩ = some (.slice none 0 0) := (blk_cell B10.out 1).trans rfl; have g0 := blk_frozen B10.out 0; have g1 := blk_frozen B10.out 1)
    refine bodyPost_ret (results_ct rfl _ _ (w.heap.size + 1) 24 #[.int .i64 a0_0, .slice A0_1 l0_1.length c0_1] (0, 0) _ rfl (by refine blk_alloc ?_ _; refine blk_put (cs := #[.int .i64 a0_0, .slice none 0 0]) ?_ 1 _ rfl; exact blk_put (cs := #[.int .i64 0, .slice none 0 0]) B10.out 0 _ rfl) Try.underlying24 rfl (by kernel_rfl)) rfl ?_
    have hg : w.heap.size ≤ w.heap.size + 1 := by omega
    have hne : ∀ k, P0_1_ k ∧ k < w.heap.size → k ≠ w.heap.size + 1 := fun k hk => by have := hk.2; omega
    exact ⟨_, rfl, Kd.V_alloc (Kd.V_mono (Kd.V_far (p := ⟨w.heap.size + 1, 1, none⟩) (Kd.V_far (p := ⟨w.heap.size + 1, 0, none⟩) HV3.out hne _) hne _) (fun k hk => .inl hk.1)) _, below_alloc (below_set (below_set HB3.out hg) hg) _⟩

  have c1b0 : decide (64 < (l4.length : Int)) = false := decide_eq_false c1
  have c1b1 : decide (64 < l4.length) = false := decide_eq_false (by omega)
  have hl4 : l4.length ≤ 64 := by omega
  have h := Hh.out
  clear Hh
  rw [if_neg c1] at h
  by_cases c2 : 0 ≤ bfind.pos a1 l0_1
  · rw [if_pos c2] at h
    simp only [Option.some.injEq, Prod.mk.injEq] at h
    obtain ⟨rfl, rfl, rfl⟩ := h
    have c2b : decide (0 ≤ bfind.pos a1 l0_1) = true := decide_eq_true c2
    rw [c2b] at HF
    clear c1 c2 c2b
    go_enter Try.func12, Try.ntmps12
    go_wp2_with (rw [← Hw.out]; go_at_call 21; refine (box_find.calls a0_0 _ _ _ l0_1 a1 f1 f2 f3 f4 _ _ HV2.out HF.out).mono ?_; rintro e w1 ⟨v3, rfl, hv3, hb1⟩; obtain ⟨A3, c3, rfl⟩ := Kd.V_slice hv3; clear hv3; have hlt5 : w.heap.size < w1.heap.size := (by have := hb1.size; have := Hs2.out; omega); have hlt10 : w.heap.size + 1 < w1.heap.size := (by have := hb1.size; have := Hs2.out; omega); have B5 := Aside0.mk (blk_below Hb1.out hb1); have B10 := Aside0.mk (blk_below Hb2.out hb1); have HV3 := Aside0.mk (Kd.V_below HV2.out hb1); have HB3 := Aside0.mk (HB2.out.trans (hb1.mono (by have := Hs2.out; omega))); clear hb1; have q0 : w1.cell? ⟨w.heap.size, 0, none⟩ = some (.int .i64 a0_0) := (blk_cell B5.out 0).trans rfl; have q1 : w1.cell? ⟨w.heap.size, 1, none⟩ = some (.slice A0_1 l0_1.length c0_1) := (blk_cell B5.out 1).trans rfl; have p0 : w1.cell? ⟨w.heap.size + 1, 0, none⟩ = some (.int .i64 0) := (blk_cell B10.out 0).trans rfl; have p1 : w1.cell? ⟨w.heap.size + 1, 1, none⟩ = some (.slice none 0 0) := (blk_cell B10.out 1).trans rfl; have g0 := blk_frozen B10.out 0; have g1 := blk_frozen B10.out 1)
    refine bodyPost_ret (results_ct rfl _ _ (w.heap.size + 1) 24 #[.int .i64 a0_0, .slice A0_1 l0_1.length c0_1] (0, 0) _ rfl (by refine blk_alloc ?_ _; refine blk_put (cs := #[.int .i64 a0_0, .slice none 0 0]) ?_ 1 _ rfl; exact blk_put (cs := #[.int .i64 0, .slice none 0 0]) B10.out 0 _ rfl) Try.underlying24 rfl (by kernel_rfl)) rfl ?_
    have hg : w.heap.size ≤ w.heap.size + 1 := by omega
    have hne : ∀ k, P0_1_ k ∧ k < w.heap.size → k ≠ w.heap.size + 1 := fun k hk => by have := hk.2; omega
    exact ⟨_, rfl, Kd.V_alloc (Kd.V_mono (Kd.V_far (p := ⟨w.heap.size + 1, 1, none⟩) (Kd.V_far (p := ⟨w.heap.size + 1, 0, none⟩) HV3.out hne _) hne _) (fun k hk => .inl hk.1)) _, below_alloc (below_set (below_set HB3.out hg) hg) _⟩

  rw [if_neg c2] at h
  have c2b : decide (0 ≤ bfind.pos a1 l0_1) = false := decide_eq_false c2
  rw [c2b] at HF
  clear c1 c2 c2b
  have HL := Aside0.mk hl4
  clear hl4
  obtain ⟨t, ht⟩ : ∃ t, t = wrap64 (a0_0 - (l0_1.length : Int)) := ⟨_, rfl⟩
  rw [← ht] at h
  have HT := Aside0.mk (show box_Free.f a0_0 l0_1 = some t by rw [ht]; rfl)
  clear ht
  by_cases c3 : t < 1
  · rw [if_pos c3] at h
    simp only [Option.some.injEq, Prod.mk.injEq] at h
    obtain ⟨rfl, rfl, rfl⟩ := h
    have c3b : decide (t < 1) = true := decide_eq_true c3
    clear c3
    go_enter Try.func12, Try.ntmps12
    go_wp2_with (first | (rw [← Hw.out]; go_at_call 21; refine (box_find.calls a0_0 _ _ _ l0_1 a1 f1 f2 f3 f4 _ _ HV2.out HF.out).mono ?_; rintro e w1 ⟨v3, rfl, hv3, hb1⟩; obtain ⟨A3, c3, rfl⟩ := Kd.V_slice hv3; clear hv3; have hlt5 : w.heap.size < w1.heap.size := (by have := hb1.size; have := Hs2.out; omega); have hlt10 : w.heap.size + 1 < w1.heap.size := (by have := hb1.size; have := Hs2.out; omega); have B5 := Aside0.mk (blk_below Hb1.out hb1); have B10 := Aside0.mk (blk_below Hb2.out hb1); have HV3 := Aside0.mk (Kd.V_below HV2.out hb1); have HB3 := Aside0.mk (HB2.out.trans (hb1.mono (by have := Hs2.out; omega))); clear hb1; have q0 : w1.cell? ⟨w.heap.size, 0, none⟩ = some (.int .i64 a0_0) := (blk_cell B5.out 0).trans rfl; have q1 : w1.cell? ⟨w.heap.size, 1, none⟩ = some (.slice A0_1 l0_1.length c0_1) := (blk_cell B5.out 1).trans rfl; have p0 : w1.cell? ⟨w.heap.size + 1, 0, none⟩ = some (.int .i64 0) := (blk_cell B10.out 0).trans rfl; have p1 : w1.cell? ⟨w.heap.size + 1, 1, none⟩ = some (.slice none 0 0) := (blk_cell B10.out 1).trans rfl; have g0 := blk_frozen B10.out 0; have g1 := blk_frozen B10.out 1) | (go_at_call 18; refine (box_Free.calls a0_0 _ _ l0_1 t _ (Kd.C_alloc (Kd.V_reads' HV3.out).2.2 _) (Kd.V_reads' HV3.out).2.1 HT.out).mono ?_; rintro e w2 ⟨rfl, hb2⟩; have hB12 := Aside0.mk (below_alloc (Below.refl w1.heap.size w1) _ |>.trans (hb2.mono (by simp))); have hB2w := Aside0.mk (hb2); have hlt5' : w.heap.size < w2.heap.size := (by have := hB12.out.size; omega); have hlt10' : w.heap.size + 1 < w2.heap.size := (by have := hB12.out.size; omega); clear hlt5 hlt10 q0 q1 p0 p1 g0 g1 hb2; have B5' := Aside0.mk (blk_below B5.out hB12.out); have B10' := Aside0.mk (blk_below B10.out hB12.out); have HV4 := Aside0.mk (Kd.V_below HV3.out hB12.out); have HB4 := Aside0.mk (HB3.out.trans (hB12.out.mono HB3.out.size)); have q0 : w2.cell? ⟨w.heap.size, 0, none⟩ = some (.int .i64 a0_0) := (blk_cell B5'.out 0).trans rfl; have q1 : w2.cell? ⟨w.heap.size, 1, none⟩ = some (.slice A0_1 l0_1.length c0_1) := (blk_cell B5'.out 1).trans rfl; have p0 : w2.cell? ⟨w.heap.size + 1, 0, none⟩ = some (.int .i64 0) := (blk_cell B10'.out 0).trans rfl; have p1 : w2.cell? ⟨w.heap.size + 1, 1, none⟩ = some (.slice none 0 0) := (blk_cell B10'.out 1).trans rfl; have g0 := blk_frozen B10'.out 0; have g1 := blk_frozen B10'.out 1))
    refine bodyPost_ret (results_ct rfl _ _ (w.heap.size + 1) 24 #[.int .i64 a0_0, .slice A0_1 l0_1.length c0_1] (0, 0) _ rfl (by refine blk_put (cs := #[.int .i64 a0_0, .slice none 0 0]) ?_ 1 _ rfl; exact blk_put (cs := #[.int .i64 0, .slice none 0 0]) B10'.out 0 _ rfl) Try.underlying24 rfl (by kernel_rfl)) rfl ?_
    have hg : w.heap.size ≤ w.heap.size + 1 := by omega
    have hne : ∀ k, P0_1_ k ∧ k < w.heap.size → k ≠ w.heap.size + 1 := fun k hk => by have := hk.2; omega
    exact ⟨_, rfl, (Kd.V_mono (Kd.V_far (p := ⟨w.heap.size + 1, 1, none⟩) (Kd.V_far (p := ⟨w.heap.size + 1, 0, none⟩) HV4.out hne _) hne _) (fun k hk => .inl hk.1)), (below_set (below_set HB4.out hg) hg)⟩

  rw [if_neg c3] at h
  have c3b : decide (t < 1) = false := decide_eq_false c3
  clear c3
  by_cases c4 : ¬ l0_1.length < 1000000
  · rw [if_neg c4] at h; cases h
  replace c4 := Decidable.not_not.mp c4
  rw [if_pos c4] at h
  have HM := Aside0.mk c4
  have HCAT := Aside0.mk (show api_Sealed_23.f 100 [l0_1, [(⟨a1, a2, a3, l4⟩ : S43)]] = some (l0_1 ++ [(⟨a1, a2, a3, l4⟩ : S43)]) by rw [bseal.concat_eq _ 100 (by simp) (by simp; omega) (by simp)]; simp)
  have HCL := Aside0.mk (show slices_Clone_uint32_uint32.f l4 = some l4 by unfold slices_Clone_uint32_uint32.f; rw [Option.bind_some, if_pos (by have := HL.out; simp; omega)]; rfl)
  simp only [Option.some.injEq, Prod.mk.injEq] at h
  obtain ⟨rfl, rfl, rfl⟩ := h
  clear c4
  go_enter Try.func12, Try.ntmps12
  go_wp2_with (first | (rw [← Hw.out]; go_at_call 21; refine (box_find.calls a0_0 _ _ _ l0_1 a1 f1 f2 f3 f4 _ _ HV2.out HF.out).mono ?_; rintro e w1 ⟨v3, rfl, hv3, hb1⟩; obtain ⟨A3, c3, rfl⟩ := Kd.V_slice hv3; clear hv3; have hlt5 : w.heap.size < w1.heap.size := (by have := hb1.size; have := Hs2.out; omega); have hlt10 : w.heap.size + 1 < w1.heap.size := (by have := hb1.size; have := Hs2.out; omega); have B5 := Aside0.mk (blk_below Hb1.out hb1); have B10 := Aside0.mk (blk_below Hb2.out hb1); have HV3 := Aside0.mk (Kd.V_below HV2.out hb1); have HB3 := Aside0.mk (HB2.out.trans (hb1.mono (by have := Hs2.out; omega))); clear hb1; have q0 : w1.cell? ⟨w.heap.size, 0, none⟩ = some (.int .i64 a0_0) := (blk_cell B5.out 0).trans rfl; have q1 : w1.cell? ⟨w.heap.size, 1, none⟩ = some (.slice A0_1 l0_1.length c0_1) := (blk_cell B5.out 1).trans rfl; have p0 : w1.cell? ⟨w.heap.size + 1, 0, none⟩ = some (.int .i64 0) := (blk_cell B10.out 0).trans rfl; have p1 : w1.cell? ⟨w.heap.size + 1, 1, none⟩ = some (.slice none 0 0) := (blk_cell B10.out 1).trans rfl; have g0 := blk_frozen B10.out 0; have g1 := blk_frozen B10.out 1) | (go_at_call 18; refine (box_Free.calls a0_0 _ _ l0_1 t _ (Kd.C_alloc (Kd.V_reads' HV3.out).2.2 _) (Kd.V_reads' HV3.out).2.1 HT.out).mono ?_; rintro e w2 ⟨rfl, hb2⟩; have hB12 := Aside0.mk (below_alloc (Below.refl w1.heap.size w1) _ |>.trans (hb2.mono (by simp))); have hB2w := Aside0.mk (hb2); have hlt5' : w.heap.size < w2.heap.size := (by have := hB12.out.size; omega); have hlt10' : w.heap.size + 1 < w2.heap.size := (by have := hB12.out.size; omega); clear hlt5 hlt10 q0 q1 p0 p1 g0 g1 hb2; have B5' := Aside0.mk (blk_below B5.out hB12.out); have B10' := Aside0.mk (blk_below B10.out hB12.out); have HV4 := Aside0.mk (Kd.V_below HV3.out hB12.out); have HB4 := Aside0.mk (HB3.out.trans (hB12.out.mono HB3.out.size)); have q0 : w2.cell? ⟨w.heap.size, 0, none⟩ = some (.int .i64 a0_0) := (blk_cell B5'.out 0).trans rfl; have q1 : w2.cell? ⟨w.heap.size, 1, none⟩ = some (.slice A0_1 l0_1.length c0_1) := (blk_cell B5'.out 1).trans rfl; have p0 : w2.cell? ⟨w.heap.size + 1, 0, none⟩ = some (.int .i64 0) := (blk_cell B10'.out 0).trans rfl; have p1 : w2.cell? ⟨w.heap.size + 1, 1, none⟩ = some (.slice none 0 0) := (blk_cell B10'.out 1).trans rfl; have g0 := blk_frozen B10'.out 0; have g1 := blk_frozen B10'.out 1) | (go_at_call 22; refine (slices_Clone_uint32_uint32.calls A4 c4 l4 l4 _ (Kd.C_below HR4.out HB4.out) HC4.out HCL.out).mono ?_; rintro e w3 ⟨v5, rfl, ho5, hb3⟩; have HO5 := Aside0.mk (Kd.R_mono (ok' := fun k => (P0_1_ k ∧ k < w.heap.size) ∨ w.heap.size + 1 < k) (Kd.R_bound ho5) (fun k hk => .inr (by have := hk.2.1; omega))); obtain ⟨A5, c5, rfl⟩ := Kd.R_slice ho5; clear ho5; have HLT := Aside0.mk (show w.heap.size + 1 < w3.heap.size by have := hb3.size; omega); clear hlt5' hlt10' q0 q1 p0 p1 g0 g1; have B5'' := Aside0.mk (blk_below B5'.out hb3); have B10'' := Aside0.mk (blk_below B10'.out hb3); have HV5 := Aside0.mk (Kd.V_below HV4.out hb3); have HB5 := Aside0.mk (HB4.out.trans (hb3.mono HB4.out.size)); clear hb3; have hlt5'' : w.heap.size < w3.heap.size := (by have := HLT.out; omega); have hlt10'' : w.heap.size + 1 < w3.heap.size := HLT.out; have q0 : w3.cell? ⟨w.heap.size, 0, none⟩ = some (.int .i64 a0_0) := (blk_cell B5''.out 0).trans rfl; have q1 : w3.cell? ⟨w.heap.size, 1, none⟩ = some (.slice A0_1 l0_1.length c0_1) := (blk_cell B5''.out 1).trans rfl) | (go_at_call 23; refine (api_Sealed_23.calls 100 _ _ _ [l0_1, [(⟨a1, a2, a3, l4⟩ : S43)]] (l0_1 ++ [(⟨a1, a2, a3, l4⟩ : S43)]) _ (bseal.rows w w3 P0_1_ _ _ A0_1 c0_1 l0_1 a1 a2 a3 A5 c5 l4 HV5.out HO5.out HLT.out _) HCAT.out).mono ?_; rintro e w7 ⟨v7, rfl, ho7, hb7⟩; obtain ⟨A7, c7, e7⟩ := Kd.N_slice ho7; subst e7; rw [show (l0_1 ++ [(⟨a1, a2, a3, l4⟩ : S43)]).length = l0_1.length + 1 from by simp] at ho7; have HB7 := Aside0.mk (show Below w3.heap.size w3 w7 from (below_alloc (below_alloc (below_alloc (Below.refl _ _) _) _) _).trans (hb7.mono (by simp; omega))); have HO7 := Aside0.mk (Kd.V_mono (ok' := fun k => (P0_1_ k ∧ k < w.heap.size) ∨ w.heap.size + 1 < k) (Kd.N_V (base' := w.heap.size) ho7) (fun k hk => by rcases hk with hk | hk; (exact hk); (refine .inr ?_; have := HLT.out; simp at hk; omega))); clear ho7 hb7 hlt5'' hlt10'' q0 q1; have B5c := Aside0.mk (blk_below B5''.out HB7.out); have B10c := Aside0.mk (blk_below B10''.out HB7.out); have q0 : w7.cell? ⟨w.heap.size, 0, none⟩ = some (.int .i64 a0_0) := (blk_cell B5c.out 0).trans rfl; have q1 : w7.cell? ⟨w.heap.size, 1, none⟩ = some (.slice A0_1 l0_1.length c0_1) := (blk_cell B5c.out 1).trans rfl; have z0 := blk_frozen B5c.out 0; have z1 := blk_frozen B5c.out 1; have p0 : w7.cell? ⟨w.heap.size + 1, 0, none⟩ = some (.int .i64 0) := (blk_cell B10c.out 0).trans rfl; have p1 : w7.cell? ⟨w.heap.size + 1, 1, none⟩ = some (.slice none 0 0) := (blk_cell B10c.out 1).trans rfl; have g0 := blk_frozen B10c.out 0; have g1 := blk_frozen B10c.out 1))
  refine bodyPost_ret (results_ct rfl _ _ (w.heap.size + 1) 24 #[.int .i64 a0_0, .slice A7 (l0_1.length + 1) c7] (0, 0) _ rfl (by refine blk_put (cs := #[.int .i64 a0_0, .slice none 0 0]) ?_ 1 _ rfl; refine blk_put (cs := #[.int .i64 0, .slice none 0 0]) ?_ 0 _ rfl; exact blk_far B10c.out (by simp) _) Try.underlying24 rfl (by kernel_rfl)) rfl ?_
  have hg : w.heap.size ≤ w.heap.size + 1 := by omega
  have hne5 : ∀ k, ((P0_1_ k ∧ k < w.heap.size) ∨ w.heap.size + 1 < k) → k ≠ w.heap.size := fun k hk => by omega
  have hne : ∀ k, ((P0_1_ k ∧ k < w.heap.size) ∨ w.heap.size + 1 < k) → k ≠ w.heap.size + 1 := fun k hk => by omega
  exact ⟨_, rfl, Kd.V_mono (Kd.V_far (p := ⟨w.heap.size + 1, 1, none⟩) (Kd.V_far (p := ⟨w.heap.size + 1, 0, none⟩) (Kd.V_far (p := ⟨w.heap.size, 1, none⟩) HO7.out hne5 _) hne _) hne _) (fun k hk => by rcases hk with hk | hk; (exact .inl hk.1); (exact .inr (by omega))), below_set (below_set (below_set (HB5.out.trans (HB7.out.mono (by have := HLT.out; omega))) (Nat.le_refl _)) hg) hg⟩

/-! ### box_Open: function 14 -/
def box_Open.f (a0_0 : Int) (l0_1 : List (S43)) (a1 : Int) (a2 : Int) (a3 : Int) : Option (List Int × Bool) := (box_find.f a0_0 l0_1 a3).bind fun bt150 => (if bt150.2.2.2.2 = true then (if bt150.2.1 = a1 then (if bt150.2.2.1 = a2 then ((slices_Clone_uint32_uint32.f bt150.2.2.2.1).bind fun t158 => (some (t158, true))) else (some (([] : List Int), false))) else (some (([] : List Int), false))) else (some (([] : List Int), false)))
set_option maxHeartbeats 8000000 in
set_option maxRecDepth 100000 in
theorem box_Open.calls (a0_0 : Int) (A0_1 : Option Addr) (c0_1 : Nat) (l0_1 : List (S43)) (a1 : Int) (a2 : Int) (a3 : Int) (r1 : List Int) (r2 : Bool) (w : World) (hr0_1 : Kd.C k43 w A0_1 l0_1.length l0_1) (hc0_1 : l0_1.length ≤ c0_1) (h : box_Open.f a0_0 l0_1 a1 a2 a3 = some (r1, r2)) :
    Calls Try.prog 14 #[.agg #[.int .i64 a0_0, .slice A0_1 l0_1.length c0_1], .int .u32 a1, .int .u32 a2, .int .u32 a3] w fun e w' => ∃ v0_ : Value, e = .returned (.tuple #[v0_, .bool r2]) ∧ Kd.R (Kd.int .u32) 25 w' w.heap.size (fun _ => True) v0_ r1 ∧ Below w.heap.size w w' := by
  have hu24 := Try.underlying24
  have hu43 := Try.underlying43
  have HR0_1 := Aside0.mk hr0_1
  have HC0_1 := Aside0.mk hc0_1
  clear hr0_1 hc0_1
  have HB := Aside0.mk (Below.refl w.heap.size w)
  have H : ((box_find.f a0_0 l0_1 a3).bind fun bt150 => (if bt150.2.2.2.2 = true then (if bt150.2.1 = a1 then (if bt150.2.2.1 = a2 then ((slices_Clone_uint32_uint32.f bt150.2.2.2.1).bind fun t158 => (some (t158, true))) else (some (([] : List Int), false))) else (some (([] : List Int), false))) else (some (([] : List Int), false)))) = some (r1, r2) := h
  clear h
  replace H := Option.bind_eq_some_iff.mp H
  obtain ⟨⟨t150, t151, t152, t153, t156⟩, A50, H⟩ := H
  replace H : (if t156 = true then (if t151 = a1 then (if t152 = a2 then ((slices_Clone_uint32_uint32.f t153).bind fun t158 => (some (t158, true))) else (some (([] : List Int), false))) else (some (([] : List Int), false))) else (some (([] : List Int), false))) = some (r1, r2) := H
  have A5 := Aside0.mk A50
  clear A50
  by_cases c6 : t156 = true
  · subst c6
    have H1 : (if t151 = a1 then (if t152 = a2 then ((slices_Clone_uint32_uint32.f t153).bind fun t158 => (some (t158, true))) else (some (([] : List Int), false))) else (some (([] : List Int), false))) = some (r1, r2) := by rw [if_pos rfl] at H; exact H
    clear H
    have H := H1
    clear H1
    by_cases c7 : t151 = a1
    · rw [if_pos c7] at H
      have c7b0 : (t151 == a1) = true := beq_iff_eq.mpr c7
      have c7b1 : (t151 != a1) = false := bne_eq_false_iff_eq.mpr c7
      clear c7
      by_cases c8 : t152 = a2
      · rw [if_pos c8] at H
        have c8b0 : (t152 == a2) = true := beq_iff_eq.mpr c8
        have c8b1 : (t152 != a2) = false := bne_eq_false_iff_eq.mpr c8
        clear c8
        replace H := Option.bind_eq_some_iff.mp H
        obtain ⟨t158, A90, H⟩ := H
        replace H : (some (t158, true)) = some (r1, r2) := H
        have A9 := Aside0.mk A90
        clear A90
        simp only [Option.some.injEq, Prod.mk.injEq] at H
        obtain ⟨rfl, rfl⟩ := H
        go_enter Try.func14, Try.ntmps14
        go_wp2_with (first | ((with_reducible refine gate_dst (N := 4) rfl ?_); refine box_event ?hg (N := 4) ?hd (cs := #[.int .i64 a0_0, .slice A0_1 l0_1.length c0_1]) (t := 24) ?hr ?_; (case hd => rfl); (case hg => rfl); (case hr => first | (go_simp; done) | (go_simp; rfl)); intro gb149 hg w10 hbox hb; have n0_ := Aside0.mk (bs_ hb); have n1_ := Aside0.mk (hbox); have n2_ := Aside0.mk ((ge_ hg : w.heap.size ≤ gb149)); have n3_ := Aside0.mk ((ge_ hg : w.heap.size ≤ gb149)); clear HB; have HB := n0_; have BK149 := n1_; have GW149 := n2_; have GE149 := n3_; clear n0_ n1_ n2_ n3_; clear hb hbox hg; have ⟨hcz11_0, hcz11_1⟩ := cz2_ BK149.out; have ⟨hfz11_0, hfz11_1⟩ := fz2_ BK149.out) | ((with_reducible refine gate_callee (f := 21) rfl ?_); refine goesL_ (some 15) rfl rfl Try.func21 (by kernel_rfl) rfl #[.agg #[.int .i64 a0_0, .slice A0_1 l0_1.length c0_1], .int .u32 a3] rfl (by (try simp only [List.map_toArray, List.map_cons, List.map_nil]); first | done | rfl | (simp only [List.length_drop, List.length_take]; rfl)) ?_; (with_reducible refine (box_find.calls a0_0 (fun k_ => k_ < w.heap.size) _ _ l0_1 a3 t150 t151 t152 t153 true _ ?side1 A5.out).mono ?_); (case side1 => exact Kd.V_mk HC0_1.out (Kd.F_below (Kd.C_F k43_heap HR0_1.out) (by repeat (first | (with_reducible first | exact HB.out | apply below_alloc | apply pw_below_drewN | apply below_drew1 | refine below_set ?_ GE149.out) | exact HB.out)))); rintro e w12 ⟨v154, rfl, ho0, hb⟩; refine ⟨_, rfl, ?_⟩; have n0_ := Aside0.mk (Kd.V_lower (Kd.V_mono (ok' := fun k_ => k_ ≠ gb149) ho0 (fun k_ hk_ => Or.elim hk_ (fun hs_ => fun e_ => Nat.not_le.2 hs_ (by rw [e_]; exact GW149.out)) (fun hn_ => (fb_ BK149.out k_ hn_)))) (below_size (by repeat (first | (with_reducible first | exact HB.out | apply below_alloc | apply pw_below_drewN | apply below_drew1 | refine below_set ?_ GE149.out) | exact HB.out)))); have n1_ := Aside0.mk (bb_ BK149.out hb); have n2_ := Aside0.mk (bs_ hb); clear BK149 HB; have HO155 := n0_; have BK149 := n1_; have HB := n2_; clear n0_ n1_ n2_; (try clear hb); (try clear hb2); (try clear hk); (try clear hi); (try clear ho0)) | ((with_reducible refine gate_dst (N := 10) rfl ?_); refine box_event ?hg (N := 10) ?hd (cs := #[.int .u32 0, .int .u32 0, .int .u32 0, .slice none 0 0]) (t := 43) ?hr ?_; (case hd => rfl); (case hg => rfl); (case hr => first | (go_simp; done) | (go_simp; rfl)); intro gb157 hg w13 hbox hb; have n0_ := Aside0.mk (ve_ HO155.out gb157 hg hb); have n2_ := Aside0.mk (bs_ hb); have n3_ := Aside0.mk (hbox); have n5_ := Aside0.mk ((ge_ hg : w.heap.size ≤ gb157)); have n6_ := Aside0.mk ((by rw [hg]; exact Nat.ne_of_lt (blk_lt (g := gb149) (o := .cells #[.int .i64 a0_0, .slice A0_1 l0_1.length c0_1] 24 (0, 0)) (by (with_reducible repeat (first | refine blk_drewN ?_ _ | refine blk_drew ?_ | refine blk_alloc ?_ _)); exact BK149.out)) : gb149 ≠ gb157)); have n7_ := Aside0.mk ((by rw [hg]; exact Nat.ne_of_gt (blk_lt (g := gb149) (o := .cells #[.int .i64 a0_0, .slice A0_1 l0_1.length c0_1] 24 (0, 0)) (by (with_reducible repeat (first | refine blk_drewN ?_ _ | refine blk_drew ?_ | refine blk_alloc ?_ _)); exact BK149.out)) : gb157 ≠ gb149)); clear HO155 BK149 HB; have HO155 := n0_; have HB := n2_; have BK157 := n3_; have GE157 := n5_; have NB149_157 := n6_; have NB157_149 := n7_; clear n0_ n2_ n3_ n5_ n6_ n7_; clear hb hbox hg; have hnb14 := NB157_149.out; have hnc14 := NB149_157.out; have ⟨hcz15_0, hcz15_1, hcz15_2, hcz15_3⟩ := cz4_ BK157.out; have ⟨hfz15_0, hfz15_1, hfz15_2, hfz15_3⟩ := fz4_ BK157.out; obtain ⟨Ao16, co16, eo16⟩ := Kd.V_slice HO155.out; subst eo16) | ((with_reducible refine gate_callee (f := 22) rfl ?_); refine goesL_ (some 34) rfl rfl Try.func22 (by kernel_rfl) rfl #[.slice Ao16 t153.length co16] rfl (by (try simp only [List.map_toArray, List.map_cons, List.map_nil]); first | done | rfl | (simp only [List.length_drop, List.length_take]; rfl)) ?_; (with_reducible refine (slices_Clone_uint32_uint32.calls _ _ t153 t158 _ ?side1 ?side2 A9.out).mono ?_); (case side1 => refine (Kd.V_reads' (e := 25) (base := w.heap.size) (ok := fun k_ => (k_ ≠ gb149 ∧ k_ ≠ gb157)) (n := t153.length) (c := co16) ?_).2.2; exact (by (with_reducible repeat (first | apply Kd.V_alloc | apply Kd.V_drewN | apply Kd.V_drew)); exact (Kd.V_mono (v4_ (g := gb157) (Kd.V_mono HO155.out (fun k_ hk => (⟨hk, hk.2⟩ : _ ∧ k_ ≠ gb157)))) (fun _ h_ => h_.1)))); (case side2 => exact (Kd.V_reads' HO155.out).2.1); rintro e w17 ⟨v159, rfl, ho0, hb⟩; refine ⟨_, rfl, ?_⟩; have n1_ := Aside0.mk (Kd.R_lower ho0 (below_size (by repeat (first | (with_reducible first | exact HB.out | apply below_alloc | apply pw_below_drewN | apply below_drew1 | refine below_set ?_ GE149.out | refine below_set ?_ GE157.out) | exact HB.out)))); have n4_ := Aside0.mk (bs_ hb); clear HO155 BK157 HB; have HO160 := n1_; have HB := n4_; clear n1_ n4_; (try clear hb); (try clear hb2); (try clear hk); (try clear hi); (try clear ho0)))
        go_ret2
        exact ⟨_, by first | rfl | (simp [errW_none, errW_some] <;> rfl) | (simp [*, errW_none, errW_some] <;> rfl), by (with_reducible repeat (first | apply Kd.R_alloc | apply Kd.R_drewN | apply Kd.R_drew)); exact HO160.out, by repeat (first | (with_reducible first | exact HB.out | apply below_alloc | apply pw_below_drewN | apply below_drew1 | refine below_set ?_ GE149.out | refine below_set ?_ GE157.out) | exact HB.out)⟩
      · rw [if_neg c8] at H
        have c8b0 : (t152 == a2) = false := beq_eq_false_iff_ne.mpr c8
        have c8b1 : (t152 != a2) = true := bne_iff_ne.mpr c8
        simp only [Option.some.injEq, Prod.mk.injEq] at H
        obtain ⟨rfl, rfl⟩ := H
        go_enter Try.func14, Try.ntmps14
        go_wp2_with (first | ((with_reducible refine gate_dst (N := 4) rfl ?_); refine box_event ?hg (N := 4) ?hd (cs := #[.int .i64 a0_0, .slice A0_1 l0_1.length c0_1]) (t := 24) ?hr ?_; (case hd => rfl); (case hg => rfl); (case hr => first | (go_simp; done) | (go_simp; rfl)); intro gb149 hg w18 hbox hb; have n0_ := Aside0.mk (bs_ hb); have n1_ := Aside0.mk (hbox); have n2_ := Aside0.mk ((ge_ hg : w.heap.size ≤ gb149)); have n3_ := Aside0.mk ((ge_ hg : w.heap.size ≤ gb149)); clear HB; have HB := n0_; have BK149 := n1_; have GW149 := n2_; have GE149 := n3_; clear n0_ n1_ n2_ n3_; clear hb hbox hg; have ⟨hcz19_0, hcz19_1⟩ := cz2_ BK149.out; have ⟨hfz19_0, hfz19_1⟩ := fz2_ BK149.out) | ((with_reducible refine gate_callee (f := 21) rfl ?_); refine goesL_ (some 15) rfl rfl Try.func21 (by kernel_rfl) rfl #[.agg #[.int .i64 a0_0, .slice A0_1 l0_1.length c0_1], .int .u32 a3] rfl (by (try simp only [List.map_toArray, List.map_cons, List.map_nil]); first | done | rfl | (simp only [List.length_drop, List.length_take]; rfl)) ?_; (with_reducible refine (box_find.calls a0_0 (fun k_ => k_ < w.heap.size) _ _ l0_1 a3 t150 t151 t152 t153 true _ ?side1 A5.out).mono ?_); (case side1 => exact Kd.V_mk HC0_1.out (Kd.F_below (Kd.C_F k43_heap HR0_1.out) (by repeat (first | (with_reducible first | exact HB.out | apply below_alloc | apply pw_below_drewN | apply below_drew1 | refine below_set ?_ GE149.out) | exact HB.out)))); rintro e w20 ⟨v154, rfl, ho0, hb⟩; refine ⟨_, rfl, ?_⟩; have n0_ := Aside0.mk (Kd.V_lower (Kd.V_mono (ok' := fun k_ => k_ ≠ gb149) ho0 (fun k_ hk_ => Or.elim hk_ (fun hs_ => fun e_ => Nat.not_le.2 hs_ (by rw [e_]; exact GW149.out)) (fun hn_ => (fb_ BK149.out k_ hn_)))) (below_size (by repeat (first | (with_reducible first | exact HB.out | apply below_alloc | apply pw_below_drewN | apply below_drew1 | refine below_set ?_ GE149.out) | exact HB.out)))); have n1_ := Aside0.mk (bb_ BK149.out hb); have n2_ := Aside0.mk (bs_ hb); clear BK149 HB; have HO155 := n0_; have BK149 := n1_; have HB := n2_; clear n0_ n1_ n2_; (try clear hb); (try clear hb2); (try clear hk); (try clear hi); (try clear ho0)) | ((with_reducible refine gate_dst (N := 10) rfl ?_); refine box_event ?hg (N := 10) ?hd (cs := #[.int .u32 0, .int .u32 0, .int .u32 0, .slice none 0 0]) (t := 43) ?hr ?_; (case hd => rfl); (case hg => rfl); (case hr => first | (go_simp; done) | (go_simp; rfl)); intro gb157 hg w21 hbox hb; have n0_ := Aside0.mk (ve_ HO155.out gb157 hg hb); have n2_ := Aside0.mk (bs_ hb); have n3_ := Aside0.mk (hbox); have n5_ := Aside0.mk ((ge_ hg : w.heap.size ≤ gb157)); have n6_ := Aside0.mk ((by rw [hg]; exact Nat.ne_of_lt (blk_lt (g := gb149) (o := .cells #[.int .i64 a0_0, .slice A0_1 l0_1.length c0_1] 24 (0, 0)) (by (with_reducible repeat (first | refine blk_drewN ?_ _ | refine blk_drew ?_ | refine blk_alloc ?_ _)); exact BK149.out)) : gb149 ≠ gb157)); have n7_ := Aside0.mk ((by rw [hg]; exact Nat.ne_of_gt (blk_lt (g := gb149) (o := .cells #[.int .i64 a0_0, .slice A0_1 l0_1.length c0_1] 24 (0, 0)) (by (with_reducible repeat (first | refine blk_drewN ?_ _ | refine blk_drew ?_ | refine blk_alloc ?_ _)); exact BK149.out)) : gb157 ≠ gb149)); clear HO155 BK149 HB; have HO155 := n0_; have HB := n2_; have BK157 := n3_; have GE157 := n5_; have NB149_157 := n6_; have NB157_149 := n7_; clear n0_ n2_ n3_ n5_ n6_ n7_; clear hb hbox hg; have hnb22 := NB157_149.out; have hnc22 := NB149_157.out; have ⟨hcz23_0, hcz23_1, hcz23_2, hcz23_3⟩ := cz4_ BK157.out; have ⟨hfz23_0, hfz23_1, hfz23_2, hfz23_3⟩ := fz4_ BK157.out; obtain ⟨Ao24, co24, eo24⟩ := Kd.V_slice HO155.out; subst eo24))
        go_ret2
        exact ⟨_, by first | rfl | (simp [errW_none, errW_some] <;> rfl) | (simp [*, errW_none, errW_some] <;> rfl), by first | exact Kd.R_nil _ _ _ _ _ | exact Kd.N_nil _ _ _ _ _ | exact Kd.V_nil _ _ _ _ _ | exact Kd.Q_nil _ _ _ _ _ | exact Kd.S_nil _ _ _ _ _, by repeat (first | (with_reducible first | exact HB.out | apply below_alloc | apply pw_below_drewN | apply below_drew1 | refine below_set ?_ GE149.out | refine below_set ?_ GE157.out) | exact HB.out)⟩
    · rw [if_neg c7] at H
      have c7b0 : (t151 == a1) = false := beq_eq_false_iff_ne.mpr c7
      have c7b1 : (t151 != a1) = true := bne_iff_ne.mpr c7
      simp only [Option.some.injEq, Prod.mk.injEq] at H
      obtain ⟨rfl, rfl⟩ := H
      go_enter Try.func14, Try.ntmps14
      go_wp2_with (first | ((with_reducible refine gate_dst (N := 4) rfl ?_); refine box_event ?hg (N := 4) ?hd (cs := #[.int .i64 a0_0, .slice A0_1 l0_1.length c0_1]) (t := 24) ?hr ?_; (case hd => rfl); (case hg => rfl); (case hr => first | (go_simp; done) | (go_simp; rfl)); intro gb149 hg w25 hbox hb; have n0_ := Aside0.mk (bs_ hb); have n1_ := Aside0.mk (hbox); have n2_ := Aside0.mk ((ge_ hg : w.heap.size ≤ gb149)); have n3_ := Aside0.mk ((ge_ hg : w.heap.size ≤ gb149)); clear HB; have HB := n0_; have BK149 := n1_; have GW149 := n2_; have GE149 := n3_; clear n0_ n1_ n2_ n3_; clear hb hbox hg; have ⟨hcz26_0, hcz26_1⟩ := cz2_ BK149.out; have ⟨hfz26_0, hfz26_1⟩ := fz2_ BK149.out) | ((with_reducible refine gate_callee (f := 21) rfl ?_); refine goesL_ (some 15) rfl rfl Try.func21 (by kernel_rfl) rfl #[.agg #[.int .i64 a0_0, .slice A0_1 l0_1.length c0_1], .int .u32 a3] rfl (by (try simp only [List.map_toArray, List.map_cons, List.map_nil]); first | done | rfl | (simp only [List.length_drop, List.length_take]; rfl)) ?_; (with_reducible refine (box_find.calls a0_0 (fun k_ => k_ < w.heap.size) _ _ l0_1 a3 t150 t151 t152 t153 true _ ?side1 A5.out).mono ?_); (case side1 => exact Kd.V_mk HC0_1.out (Kd.F_below (Kd.C_F k43_heap HR0_1.out) (by repeat (first | (with_reducible first | exact HB.out | apply below_alloc | apply pw_below_drewN | apply below_drew1 | refine below_set ?_ GE149.out) | exact HB.out)))); rintro e w27 ⟨v154, rfl, ho0, hb⟩; refine ⟨_, rfl, ?_⟩; have n0_ := Aside0.mk (Kd.V_lower (Kd.V_mono (ok' := fun k_ => k_ ≠ gb149) ho0 (fun k_ hk_ => Or.elim hk_ (fun hs_ => fun e_ => Nat.not_le.2 hs_ (by rw [e_]; exact GW149.out)) (fun hn_ => (fb_ BK149.out k_ hn_)))) (below_size (by repeat (first | (with_reducible first | exact HB.out | apply below_alloc | apply pw_below_drewN | apply below_drew1 | refine below_set ?_ GE149.out) | exact HB.out)))); have n1_ := Aside0.mk (bb_ BK149.out hb); have n2_ := Aside0.mk (bs_ hb); clear BK149 HB; have HO155 := n0_; have BK149 := n1_; have HB := n2_; clear n0_ n1_ n2_; (try clear hb); (try clear hb2); (try clear hk); (try clear hi); (try clear ho0)) | ((with_reducible refine gate_dst (N := 10) rfl ?_); refine box_event ?hg (N := 10) ?hd (cs := #[.int .u32 0, .int .u32 0, .int .u32 0, .slice none 0 0]) (t := 43) ?hr ?_; (case hd => rfl); (case hg => rfl); (case hr => first | (go_simp; done) | (go_simp; rfl)); intro gb157 hg w28 hbox hb; have n0_ := Aside0.mk (ve_ HO155.out gb157 hg hb); have n2_ := Aside0.mk (bs_ hb); have n3_ := Aside0.mk (hbox); have n5_ := Aside0.mk ((ge_ hg : w.heap.size ≤ gb157)); have n6_ := Aside0.mk ((by rw [hg]; exact Nat.ne_of_lt (blk_lt (g := gb149) (o := .cells #[.int .i64 a0_0, .slice A0_1 l0_1.length c0_1] 24 (0, 0)) (by (with_reducible repeat (first | refine blk_drewN ?_ _ | refine blk_drew ?_ | refine blk_alloc ?_ _)); exact BK149.out)) : gb149 ≠ gb157)); have n7_ := Aside0.mk ((by rw [hg]; exact Nat.ne_of_gt (blk_lt (g := gb149) (o := .cells #[.int .i64 a0_0, .slice A0_1 l0_1.length c0_1] 24 (0, 0)) (by (with_reducible repeat (first | refine blk_drewN ?_ _ | refine blk_drew ?_ | refine blk_alloc ?_ _)); exact BK149.out)) : gb157 ≠ gb149)); clear HO155 BK149 HB; have HO155 := n0_; have HB := n2_; have BK157 := n3_; have GE157 := n5_; have NB149_157 := n6_; have NB157_149 := n7_; clear n0_ n2_ n3_ n5_ n6_ n7_; clear hb hbox hg; have hnb29 := NB157_149.out; have hnc29 := NB149_157.out; have ⟨hcz30_0, hcz30_1, hcz30_2, hcz30_3⟩ := cz4_ BK157.out; have ⟨hfz30_0, hfz30_1, hfz30_2, hfz30_3⟩ := fz4_ BK157.out; obtain ⟨Ao31, co31, eo31⟩ := Kd.V_slice HO155.out; subst eo31))
      go_ret2
      exact ⟨_, by first | rfl | (simp [errW_none, errW_some] <;> rfl) | (simp [*, errW_none, errW_some] <;> rfl), by first | exact Kd.R_nil _ _ _ _ _ | exact Kd.N_nil _ _ _ _ _ | exact Kd.V_nil _ _ _ _ _ | exact Kd.Q_nil _ _ _ _ _ | exact Kd.S_nil _ _ _ _ _, by repeat (first | (with_reducible first | exact HB.out | apply below_alloc | apply pw_below_drewN | apply below_drew1 | refine below_set ?_ GE149.out | refine below_set ?_ GE157.out) | exact HB.out)⟩
  · replace c6 := Bool.eq_false_iff.mpr c6
    subst c6
    have H1 : (some (([] : List Int), false)) = some (r1, r2) := by rw [if_neg (show ¬ (false = true) by decide)] at H; exact H
    clear H
    have H := H1
    clear H1
    simp only [Option.some.injEq, Prod.mk.injEq] at H
    obtain ⟨rfl, rfl⟩ := H
    go_enter Try.func14, Try.ntmps14
    go_wp2_with (first | ((with_reducible refine gate_dst (N := 4) rfl ?_); refine box_event ?hg (N := 4) ?hd (cs := #[.int .i64 a0_0, .slice A0_1 l0_1.length c0_1]) (t := 24) ?hr ?_; (case hd => rfl); (case hg => rfl); (case hr => first | (go_simp; done) | (go_simp; rfl)); intro gb149 hg w32 hbox hb; have n0_ := Aside0.mk (bs_ hb); have n1_ := Aside0.mk (hbox); have n2_ := Aside0.mk ((ge_ hg : w.heap.size ≤ gb149)); have n3_ := Aside0.mk ((ge_ hg : w.heap.size ≤ gb149)); clear HB; have HB := n0_; have BK149 := n1_; have GW149 := n2_; have GE149 := n3_; clear n0_ n1_ n2_ n3_; clear hb hbox hg; have ⟨hcz33_0, hcz33_1⟩ := cz2_ BK149.out; have ⟨hfz33_0, hfz33_1⟩ := fz2_ BK149.out) | ((with_reducible refine gate_callee (f := 21) rfl ?_); refine goesL_ (some 15) rfl rfl Try.func21 (by kernel_rfl) rfl #[.agg #[.int .i64 a0_0, .slice A0_1 l0_1.length c0_1], .int .u32 a3] rfl (by (try simp only [List.map_toArray, List.map_cons, List.map_nil]); first | done | rfl | (simp only [List.length_drop, List.length_take]; rfl)) ?_; (with_reducible refine (box_find.calls a0_0 (fun k_ => k_ < w.heap.size) _ _ l0_1 a3 t150 t151 t152 t153 false _ ?side1 A5.out).mono ?_); (case side1 => exact Kd.V_mk HC0_1.out (Kd.F_below (Kd.C_F k43_heap HR0_1.out) (by repeat (first | (with_reducible first | exact HB.out | apply below_alloc | apply pw_below_drewN | apply below_drew1 | refine below_set ?_ GE149.out) | exact HB.out)))); rintro e w34 ⟨v154, rfl, ho0, hb⟩; refine ⟨_, rfl, ?_⟩; have n0_ := Aside0.mk (Kd.V_lower (Kd.V_mono (ok' := fun k_ => k_ ≠ gb149) ho0 (fun k_ hk_ => Or.elim hk_ (fun hs_ => fun e_ => Nat.not_le.2 hs_ (by rw [e_]; exact GW149.out)) (fun hn_ => (fb_ BK149.out k_ hn_)))) (below_size (by repeat (first | (with_reducible first | exact HB.out | apply below_alloc | apply pw_below_drewN | apply below_drew1 | refine below_set ?_ GE149.out) | exact HB.out)))); have n1_ := Aside0.mk (bb_ BK149.out hb); have n2_ := Aside0.mk (bs_ hb); clear BK149 HB; have HO155 := n0_; have BK149 := n1_; have HB := n2_; clear n0_ n1_ n2_; (try clear hb); (try clear hb2); (try clear hk); (try clear hi); (try clear ho0)) | ((with_reducible refine gate_dst (N := 10) rfl ?_); refine box_event ?hg (N := 10) ?hd (cs := #[.int .u32 0, .int .u32 0, .int .u32 0, .slice none 0 0]) (t := 43) ?hr ?_; (case hd => rfl); (case hg => rfl); (case hr => first | (go_simp; done) | (go_simp; rfl)); intro gb157 hg w35 hbox hb; have n0_ := Aside0.mk (ve_ HO155.out gb157 hg hb); have n2_ := Aside0.mk (bs_ hb); have n3_ := Aside0.mk (hbox); have n5_ := Aside0.mk ((ge_ hg : w.heap.size ≤ gb157)); have n6_ := Aside0.mk ((by rw [hg]; exact Nat.ne_of_lt (blk_lt (g := gb149) (o := .cells #[.int .i64 a0_0, .slice A0_1 l0_1.length c0_1] 24 (0, 0)) (by (with_reducible repeat (first | refine blk_drewN ?_ _ | refine blk_drew ?_ | refine blk_alloc ?_ _)); exact BK149.out)) : gb149 ≠ gb157)); have n7_ := Aside0.mk ((by rw [hg]; exact Nat.ne_of_gt (blk_lt (g := gb149) (o := .cells #[.int .i64 a0_0, .slice A0_1 l0_1.length c0_1] 24 (0, 0)) (by (with_reducible repeat (first | refine blk_drewN ?_ _ | refine blk_drew ?_ | refine blk_alloc ?_ _)); exact BK149.out)) : gb157 ≠ gb149)); clear HO155 BK149 HB; have HO155 := n0_; have HB := n2_; have BK157 := n3_; have GE157 := n5_; have NB149_157 := n6_; have NB157_149 := n7_; clear n0_ n2_ n3_ n5_ n6_ n7_; clear hb hbox hg; have hnb36 := NB157_149.out; have hnc36 := NB149_157.out; have ⟨hcz37_0, hcz37_1, hcz37_2, hcz37_3⟩ := cz4_ BK157.out; have ⟨hfz37_0, hfz37_1, hfz37_2, hfz37_3⟩ := fz4_ BK157.out; obtain ⟨Ao38, co38, eo38⟩ := Kd.V_slice HO155.out; subst eo38))
    go_ret2
    exact ⟨_, by first | rfl | (simp [errW_none, errW_some] <;> rfl) | (simp [*, errW_none, errW_some] <;> rfl), by first | exact Kd.R_nil _ _ _ _ _ | exact Kd.N_nil _ _ _ _ _ | exact Kd.V_nil _ _ _ _ _ | exact Kd.Q_nil _ _ _ _ _ | exact Kd.S_nil _ _ _ _ _, by repeat (first | (with_reducible first | exact HB.out | apply below_alloc | apply pw_below_drewN | apply below_drew1 | refine below_set ?_ GE149.out | refine below_set ?_ GE157.out) | exact HB.out)⟩

/-! ### chamberlainref01_Same: function 17 -/
def chamberlainref01_Same.l0 : Nat → List Int → List Int → Int → Option (Bool)
  | 0, _, _, _ => none
  | k + 1, x0, x1, x5 => if x5 < (x0.length : Int) then (if 0 ≤ x5 then (if x5 < (x1.length : Int) then (if (rd x0 x5) = (rd x1 x5) then (chamberlainref01_Same.l0 k x0 x1 (wrap64 (x5 + 1))) else (some false)) else (none)) else (none)) else (some true)
def chamberlainref01_Same.f (k : Nat) (l0 : List Int) (l1 : List Int) : Option (Bool) := if (l0.length : Int) = (l1.length : Int) then (chamberlainref01_Same.l0 k l0 l1 0) else (some false)
theorem chamberlainref01_Same.mono_l : ∀ k, (∀ y0 y1 y2, LeO (chamberlainref01_Same.l0 k y0 y1 y2) (chamberlainref01_Same.l0 (k + 1) y0 y1 y2))
  | 0 => fun _ _ _ r h => by simp [chamberlainref01_Same.l0] at h
  | k + 1 => by
    have ih0 := chamberlainref01_Same.mono_l k
    · intro y0 y1 y2
      unfold chamberlainref01_Same.l0
      repeat' first
      | (with_reducible exact ih0 _ _ _)
      | (with_reducible exact LeO.refl _)
      | (with_reducible exact LeO.none _)
      | (with_reducible refine LeO.ite ?_ ?_)
      | (with_reducible refine LeO.bind ?_ (fun _ => ?_))
      | exact ih0 _ _ _
      | exact LeO.none _
      | refine LeO.ite ?_ ?_
      | refine LeO.bind ?_ (fun _ => ?_)
theorem chamberlainref01_Same.mono : ∀ a0 a1 k, LeO (chamberlainref01_Same.f k a0 a1) (chamberlainref01_Same.f (k + 1) a0 a1) := by
  intro a0 a1 k
  have ih0 := chamberlainref01_Same.mono_l k
  unfold chamberlainref01_Same.f
  repeat' first
      | (with_reducible exact ih0 _ _ _)
      | (with_reducible exact LeO.refl _)
      | (with_reducible exact LeO.none _)
      | (with_reducible refine LeO.ite ?_ ?_)
      | (with_reducible refine LeO.bind ?_ (fun _ => ?_))
      | exact ih0 _ _ _
      | exact LeO.none _
      | refine LeO.ite ?_ ?_
      | refine LeO.bind ?_ (fun _ => ?_)
set_option maxHeartbeats 8000000 in
set_option maxRecDepth 100000 in
theorem chamberlainref01_Same.calls (k : Nat) (A0 : Option Addr) (c0 : Nat) (l0 : List Int) (A1 : Option Addr) (c1 : Nat) (l1 : List Int) (r : Bool) (w : World) (hr0 : Kd.C (Kd.int .u32) w A0 l0.length l0) (hc0 : l0.length ≤ c0) (hr1 : Kd.C (Kd.int .u32) w A1 l1.length l1) (hc1 : l1.length ≤ c1) (h : chamberlainref01_Same.f k l0 l1 = some r) :
    Calls Try.prog 17 #[.slice A0 l0.length c0, .slice A1 l1.length c1] w fun e w' => e = .returned (.bool r) ∧ Drawn0 w w' := by
  have HR0 := Aside0.mk hr0
  have HC0 := Aside0.mk hc0
  clear hr0 hc0
  have HR1 := Aside0.mk hr1
  have HC1 := Aside0.mk hc1
  clear hr1 hc1
  have H : (if (l0.length : Int) = (l1.length : Int) then (chamberlainref01_Same.l0 k l0 l1 0) else (some false)) = some r := h
  clear h
  by_cases c3 : (l0.length : Int) = (l1.length : Int)
  · rw [if_pos c3] at H
    have c3b0 : ((l0.length : Int) == (l1.length : Int)) = true := beq_iff_eq.mpr c3
    have c3b1 : ((l0.length : Int) != (l1.length : Int)) = false := bne_eq_false_iff_eq.mpr c3
    have c3b2 : (l0.length == l1.length) = true := by first | simpa using c3 | (simp at c3 ⊢; omega)
    clear c3
    have H' := Aside0.mk H
    clear H
    go_enter Try.func17, Try.ntmps17
    go_wp2
    repeat (go_quiet (fail); try go_wp2)
    go_loopg [5] k (fun kq v5 w' => ∃ (x5_1 : Int), v5 = .int .i64 x5_1 ∧ Aside0 (chamberlainref01_Same.l0 kq l0 l1 x5_1 = some r) ∧ Aside0 (kq ≤ k) ∧ Drawn0 w w')
    case atStart => exact ⟨(0), (by first | rfl | (simp; done) | (simp [*]; done)), H', ⟨Nat.le_refl _⟩, by repeat (first | exact Drawn0.refl _ | apply Drawn0.step)⟩
    case round =>
      clear H'
      try clear c1
      try clear p2
      try clear c3
      try clear c3b0
      try clear c3b1
      try clear c3b2
      obtain ⟨x5_1, rfl, HA, HK1, ⟨m1, rfl⟩⟩ := hrel
      cases gk with
      | zero => exact absurd HA.out (by simp [chamberlainref01_Same.l0])
      | succ k1 =>
        have H := HA.out
        clear HA
        simp only [chamberlainref01_Same.l0] at H
        by_cases c4 : x5_1 < (l0.length : Int)
        · rw [if_pos c4] at H
          have c4b0 : decide (x5_1 < (l0.length : Int)) = true := decide_eq_true c4
          clear c4
          by_cases c5 : 0 ≤ x5_1
          · rw [if_pos c5] at H
            have c5b0 : decide (0 ≤ x5_1) = true := decide_eq_true c5
            clear c5
            by_cases c6 : x5_1 < (l1.length : Int)
            · rw [if_pos c6] at H
              have c6b0 : decide (x5_1 < (l1.length : Int)) = true := decide_eq_true c6
              clear c6
              by_cases c7 : (rd l0 x5_1) = (rd l1 x5_1)
              · rw [if_pos c7] at H
                have c7b0 : ((rd l0 x5_1) == (rd l1 x5_1)) = true := beq_iff_eq.mpr c7
                have c7b1 : ((rd l0 x5_1) != (rd l1 x5_1)) = false := bne_eq_false_iff_eq.mpr c7
                clear c7
                have H' := Aside0.mk H
                clear H
                have p161 : 0 ≤ (x5_1 : Int) := of_decide_eq_true (by first | (with_reducible assumption) | assumption)
                have q161 : x5_1 < (l0.length : Int) := of_decide_eq_true (by first | (with_reducible assumption) | assumption)
                obtain ⟨ad161, e161, hx161_0⟩ := Kd.at_int HR0.out x5_1 p161 q161
                cases e161
                replace p161 := eq_true p161
                replace q161 := eq_true q161
                have p162 : 0 ≤ (x5_1 : Int) := of_decide_eq_true (by first | (with_reducible assumption) | assumption)
                have q162 : x5_1 < (l1.length : Int) := of_decide_eq_true (by first | (with_reducible assumption) | assumption)
                obtain ⟨ad162, e162, hx162_0⟩ := Kd.at_int HR1.out x5_1 p162 q162
                cases e162
                replace p162 := eq_true p162
                replace q162 := eq_true q162
                go_wp2
                repeat (go_quiet (fail); try go_wp2)
                go_roundg k1
                case measure => have := HK1.out; omega
                case rel => exact ⟨(wrap64 (x5_1 + 1)), (by first | rfl | (simp; done) | (simp [*]; done)), H', ⟨by have := HK1.out; omega⟩, by repeat (first | exact Drawn0.refl _ | apply Drawn0.step)⟩
              · rw [if_neg c7] at H
                have c7b0 : ((rd l0 x5_1) == (rd l1 x5_1)) = false := beq_eq_false_iff_ne.mpr c7
                have c7b1 : ((rd l0 x5_1) != (rd l1 x5_1)) = true := bne_iff_ne.mpr c7
                obtain rfl := Option.some.inj H
                have p161 : 0 ≤ (x5_1 : Int) := of_decide_eq_true (by first | (with_reducible assumption) | assumption)
                have q161 : x5_1 < (l0.length : Int) := of_decide_eq_true (by first | (with_reducible assumption) | assumption)
                obtain ⟨ad161, e161, hx161_0⟩ := Kd.at_int HR0.out x5_1 p161 q161
                cases e161
                replace p161 := eq_true p161
                replace q161 := eq_true q161
                have p162 : 0 ≤ (x5_1 : Int) := of_decide_eq_true (by first | (with_reducible assumption) | assumption)
                have q162 : x5_1 < (l1.length : Int) := of_decide_eq_true (by first | (with_reducible assumption) | assumption)
                obtain ⟨ad162, e162, hx162_0⟩ := Kd.at_int HR1.out x5_1 p162 q162
                cases e162
                replace p162 := eq_true p162
                replace q162 := eq_true q162
                go_wp2
                repeat (go_quiet (fail); try go_wp2)
                go_ret
                exact ⟨by first | rfl | (simp; done) | (simp [*]; done), by repeat (first | exact Drawn0.refl _ | apply Drawn0.step)⟩
            · rw [if_neg c6] at H
              exact absurd H (by simp)
          · rw [if_neg c5] at H
            exact absurd H (by simp)
        · rw [if_neg c4] at H
          have c4b0 : decide (x5_1 < (l0.length : Int)) = false := decide_eq_false c4
          clear c4
          obtain rfl := Option.some.inj H
          go_wp2
          repeat (go_quiet (fail); try go_wp2)
          go_ret
          exact ⟨by first | rfl | (simp; done) | (simp [*]; done), by repeat (first | exact Drawn0.refl _ | apply Drawn0.step)⟩
  · rw [if_neg c3] at H
    have c3b0 : ((l0.length : Int) == (l1.length : Int)) = false := beq_eq_false_iff_ne.mpr c3
    have c3b1 : ((l0.length : Int) != (l1.length : Int)) = true := bne_iff_ne.mpr c3
    have c3b2 : (l0.length == l1.length) = false := by first | simpa using c3 | (simp at c3 ⊢; omega)
    obtain rfl := Option.some.inj H
    go_enter Try.func17, Try.ntmps17
    go_wp2
    repeat (go_quiet (fail); try go_wp2)
    go_ret
    exact ⟨by first | rfl | (simp; done) | (simp [*]; done), by repeat (first | exact Drawn0.refl _ | apply Drawn0.step)⟩

end Go.Proofs.Ytifdlpnpbicahaa.PBoxKeeps
