-- Written for this claim by wip/tools/myprint.py (print.py's forms; proofs of the faked functions by hand).
import Derived.Test.YtlbfdmoocgjiaaaPNetBagx1
import Derived.Test.YtlbfdmoocgjiaaaPNetBagx2
import Derived.Test.YtlbfdmoocgjiaaaPNetBagx0
namespace Go.Proofs.Ytlbfdmoocgjiaaa.PNetBag
open Go.RowKit Go.Proofs.YtlbfdmoocgjiaaaW.PrintWords Go.Proofs.YtlbfdmoocgjiaaaW.PrintLast Go.Proofs.YtlbfdmoocgjiaaaW.PrintMore
attribute [local go_sem] max2_int min2_int max_two min_two max_three min_three max_four min_four   -- for this text's walks alone
set_option linter.unusedVariables false
set_option linter.unusedSimpArgs false

/-! ### net_in: function 24 -/
def net_in.f (a0_0 : Int) (l0_1 : List (S29)) (l0_2 : List (List Int)) (a1 : Int) : Option (Bool) := if a1 ≥ 0 then (some (decide (a1 < (l0_1.length : Int)))) else (some false)
set_option maxHeartbeats 8000000 in
set_option maxRecDepth 100000 in
theorem net_in.calls (a0_0 : Int) (A0_1 : Option Addr) (c0_1 : Nat) (l0_1 : List (S29)) (A0_2 : Option Addr) (c0_2 : Nat) (l0_2 : List (List Int)) (a1 : Int) (r : Bool) (w : World) (hr0_1 : Kd.C k29 w A0_1 l0_1.length l0_1) (hc0_1 : l0_1.length ≤ c0_1) (hr0_2 : Kd.C (Kd.slice 26 (Kd.int .u32)) w A0_2 l0_2.length l0_2) (hc0_2 : l0_2.length ≤ c0_2) (h : net_in.f a0_0 l0_1 l0_2 a1 = some r) :
    Calls Try.prog 24 #[.agg #[.int .i64 a0_0, .slice A0_1 l0_1.length c0_1, .slice A0_2 l0_2.length c0_2], .int .i64 a1] w fun e w' => e = .returned (.bool r) ∧ Below w.heap.size w w' := by
  have hu25 := Try.underlying25
  have HR0_1 := Aside0.mk hr0_1
  have HC0_1 := Aside0.mk hc0_1
  clear hr0_1 hc0_1
  have HR0_2 := Aside0.mk hr0_2
  have HC0_2 := Aside0.mk hc0_2
  clear hr0_2 hc0_2
  have HB := Aside0.mk (Below.refl w.heap.size w)
  have H : (if a1 ≥ 0 then (some (decide (a1 < (l0_1.length : Int)))) else (some false)) = some r := h
  clear h
  by_cases c3 : a1 ≥ 0
  · rw [if_pos c3] at H
    have c3b0 : decide (0 ≤ a1) = true := decide_eq_true c3
    clear c3
    obtain rfl := Option.some.inj H
    go_enter Try.func24, Try.ntmps24
    go_wp2_with (first | ((with_reducible refine gate_dst (N := 2) rfl ?_); (try (refine gate_guard (by rfl) ?_; dsimp only)); refine box_event ?hg (N := 2) ?hd (cs := #[.int .i64 a0_0, .slice A0_1 l0_1.length c0_1, .slice A0_2 l0_2.length c0_2]) (t := 25) ?hr ?_; (case hd => rfl); (case hg => rfl); (case hr => first | (go_simp; done) | (go_simp; rfl)); intro gb156 hg w4 hbox hb; have n0_ := Aside0.mk (below_step (by repeat (first | (with_reducible first | exact HB.out | apply below_alloc | apply pw_below_drewN | apply below_drew1) | exact HB.out)) hb); have n1_ := Aside0.mk (hbox); have n2_ := Aside0.mk ((by rw [hg]; exact (below_size (by repeat (first | (with_reducible first | exact HB.out | apply below_alloc | apply pw_below_drewN | apply below_drew1) | exact HB.out))) : w.heap.size ≤ gb156)); have n3_ := Aside0.mk ((by rw [hg]; exact (below_size (by repeat (first | (with_reducible first | exact HB.out | apply below_alloc | apply pw_below_drewN | apply below_drew1) | exact HB.out))) : w.heap.size ≤ gb156)); clear HB; have HB := n0_; have BK156 := n1_; have GW156 := n2_; have GE156 := n3_; clear n0_ n1_ n2_ n3_; clear hb hbox hg; have hcz5_0 : w4.cell? ⟨gb156, 0, none⟩ = some (.int .i64 a0_0) := (blk_cell BK156.out 0).trans rfl; have hcz5_1 : w4.cell? ⟨gb156, 1, none⟩ = some (.slice A0_1 l0_1.length c0_1) := (blk_cell BK156.out 1).trans rfl; have hcz5_2 : w4.cell? ⟨gb156, 2, none⟩ = some (.slice A0_2 l0_2.length c0_2) := (blk_cell BK156.out 2).trans rfl; have hfz5_0 := blk_frozen BK156.out 0; have hfz5_1 := blk_frozen BK156.out 1; have hfz5_2 := blk_frozen BK156.out 2))
    go_ret
    exact ⟨by first | rfl | (simp [errW_none, errW_some] <;> rfl) | (simp [*, errW_none, errW_some] <;> rfl), by repeat (first | (with_reducible first | exact HB.out | apply below_alloc | apply pw_below_drewN | apply below_drew1 | refine below_set ?_ GE156.out) | exact HB.out)⟩
  · rw [if_neg c3] at H
    have c3b0 : decide (0 ≤ a1) = false := decide_eq_false c3
    clear c3
    obtain rfl := Option.some.inj H
    go_enter Try.func24, Try.ntmps24
    go_wp2_with (first | ((with_reducible refine gate_dst (N := 2) rfl ?_); (try (refine gate_guard (by rfl) ?_; dsimp only)); refine box_event ?hg (N := 2) ?hd (cs := #[.int .i64 a0_0, .slice A0_1 l0_1.length c0_1, .slice A0_2 l0_2.length c0_2]) (t := 25) ?hr ?_; (case hd => rfl); (case hg => rfl); (case hr => first | (go_simp; done) | (go_simp; rfl)); intro gb156 hg w6 hbox hb; have n0_ := Aside0.mk (below_step (by repeat (first | (with_reducible first | exact HB.out | apply below_alloc | apply pw_below_drewN | apply below_drew1) | exact HB.out)) hb); have n1_ := Aside0.mk (hbox); have n2_ := Aside0.mk ((by rw [hg]; exact (below_size (by repeat (first | (with_reducible first | exact HB.out | apply below_alloc | apply pw_below_drewN | apply below_drew1) | exact HB.out))) : w.heap.size ≤ gb156)); have n3_ := Aside0.mk ((by rw [hg]; exact (below_size (by repeat (first | (with_reducible first | exact HB.out | apply below_alloc | apply pw_below_drewN | apply below_drew1) | exact HB.out))) : w.heap.size ≤ gb156)); clear HB; have HB := n0_; have BK156 := n1_; have GW156 := n2_; have GE156 := n3_; clear n0_ n1_ n2_ n3_; clear hb hbox hg))
    go_ret
    exact ⟨by first | rfl | (simp [errW_none, errW_some] <;> rfl) | (simp [*, errW_none, errW_some] <;> rfl), by repeat (first | (with_reducible first | exact HB.out | apply below_alloc | apply pw_below_drewN | apply below_drew1 | refine below_set ?_ GE156.out) | exact HB.out)⟩

-- NOT PRINTED: function 25 (api_Gram_25)

/-! ### api_Gram_26: function 26 -/
def api_Gram_26.f (l0 : List (S29)) : Option ((List (S29))) := (some (([] : List (S29)) : List (S29))).bind fun y157 => (if y157.length + l0.length < 4398046511104 then (some (y157 ++ l0)) else (none))
set_option maxHeartbeats 8000000 in
set_option maxRecDepth 100000 in
theorem api_Gram_26.calls (P0_ : Nat → Prop) (A0 : Option Addr) (c0 : Nat) (l0 : List (S29)) (r : List (S29)) (w : World) (hs0 : Kd.V k29 29 w w.heap.size (fun k_ => P0_ k_) (.slice A0 l0.length c0) l0) (h : api_Gram_26.f l0 = some r) :
    Calls Try.prog 26 #[.slice A0 l0.length c0] w fun e w' => ∃ v0_ : Value, e = .returned (v0_) ∧ Kd.N k29 29 w' w.heap.size (fun k_ => (P0_ k_ ∨ w.heap.size ≤ k_)) v0_ r ∧ Below w.heap.size w w' := by
  rcases A0 with _ | x0
  · have hl0 : l0 = [] := by
      rcases l0 with _ | ⟨y, ys⟩
      · rfl
      · obtain ⟨ad, had, _⟩ := (Kd.V_reads' hs0).2.2.2.2 (by simp)
        cases had
    subst hl0
    have hr : r = [] := by
      have h2 := h
      simp [api_Gram_26.f] at h2
      exact h2
    subst hr
    clear h hs0
    have ke := fun (w : World) (a : Option Addr) (n c n' c' : Nat) => Lib.run_eql_slice_nil (P := Try.prog) w 22 29 a n c n' c' Try.underlying22
    go_enter Try.func26, Try.ntmps26
    go_wp2
    go_ret
    exact ⟨_, rfl, Kd.N_nil _ _ _ _ _, Below.refl _ _⟩
  have ke := fun (w : World) (n c n' c' : Nat) => Lib.run_eql_slice_nil (P := Try.prog) w 22 29 (some x0) n c n' c' Try.underlying22
  have HO0 := Aside0.mk (show Kd.V k29 29 w w.heap.size (fun k_ => (P0_ k_ ∨ w.heap.size ≤ k_)) (.slice (some x0) l0.length c0) l0 from Kd.V_mono hs0 (fun k_ hk => .inl hk))
  have HB := Aside0.mk (Below.refl w.heap.size w)
  have H : ((some (([] : List (S29)) : List (S29))).bind fun y157 => (if y157.length + l0.length < 4398046511104 then (some (y157 ++ l0)) else (none))) = some r := h
  clear h
  obtain ⟨y157, hy157⟩ : ∃ y_ : List (S29), y_ = (([] : List (S29))) := ⟨_, rfl⟩
  replace H : (if y157.length + l0.length < 4398046511104 then (some (y157 ++ l0)) else (none)) = some r := by first | (rw [hy157]; with_reducible exact H) | (have H2_ := (Option.bind_some _ _).symm.trans H; rw [hy157]; with_reducible exact H2_) | (have H2_ := (Option.bind_some _ _).symm.trans H; with_reducible exact H2_) | with_reducible exact H | (rw [hy157]; exact H) | exact H
  have Ny157 := Aside0.mk hy157
  clear hy157
  by_cases c2 : y157.length + l0.length < 4398046511104
  · rw [if_pos c2] at H
    have LMc2 := Aside0.mk c2
    clear c2
    obtain ⟨y160, hy160⟩ : ∃ y_ : List (S29), y_ = (y157 ++ l0) := ⟨_, rfl⟩
    replace H : (some y160) = some r := by first | (rw [hy160]; with_reducible exact H) | (have H2_ := (Option.bind_some _ _).symm.trans H; rw [hy160]; with_reducible exact H2_) | (have H2_ := (Option.bind_some _ _).symm.trans H; with_reducible exact H2_) | with_reducible exact H | (rw [hy160]; exact H) | exact H
    have Ny160 := Aside0.mk hy160
    clear hy160
    obtain rfl := Option.some.inj H
    go_enter Try.func26, Try.ntmps26
    go_wp2_with (first | ((with_reducible refine gate_dst (N := 5) rfl ?_); refine Kd.N_lit k29 _ 29 ?hg (N' := 5) ?hd (xs := ([] : List (S29))) (inner := []) (ok := (fun k_ => (P0_ k_ ∨ w.heap.size ≤ k_))) (okp := (fun k_ => (P0_ k_ ∨ w.heap.size ≤ k_))) ?hr ?hp (fun _ hk => hk) ((show ∀ k_, w.heap.size ≤ k_ → (fun k_ => (P0_ k_ ∨ w.heap.size ≤ k_)) k_ from fun k_ hk => (.inr (Nat.le_trans (below_size (by repeat (first | (with_reducible first | exact HB.out | apply below_alloc | apply pw_below_drewN | apply below_drew1) | exact HB.out))) hk))) _ (Nat.le_refl _)) (Below.refl _ _) (Nat.le_refl _) (by simp) ?_; (case hd => rfl); (case hg => rfl); (case hr => first | (go_simp; done) | (go_simp; rfl)); (case hp => exact (Reps.none _ _)); intro v158 w3 ho4 hb hg_ hnew_; clear hg_ hnew_; (first | rw [← Ny157.out] at ho4 | (simp only [Int.reduceToNat] at ho4; rw [← Ny157.out] at ho4)); have n0_ := Aside0.mk (Kd.V_elder' (by (with_reducible repeat (first | apply Kd.V_alloc | apply Kd.V_drewN | apply Kd.V_drew)); exact HO0.out) (Kd.N_base ho4) hb); have n1_ := Aside0.mk (Kd.N_lower ho4 (below_size (by repeat (first | (with_reducible first | exact HB.out | apply below_alloc | apply pw_below_drewN | apply below_drew1) | exact HB.out)))); have n2_ := Aside0.mk (below_step (by repeat (first | (with_reducible first | exact HB.out | apply below_alloc | apply pw_below_drewN | apply below_drew1) | exact HB.out)) hb); clear HO0; clear HB; have HO0 := n0_; have HO159 := n1_; have HB := n2_; clear n0_ n1_ n2_; clear hb ho4) | ((with_reducible refine gate_builtin (b := .append) (xs := #[.tmp 5, .tmp 6]) rfl ?_); at_builtin; refine Kd.N_append_rows k29 (w0 := w) w.heap.size rfl (.tmp 5) (.tmp 6) 22 29 (.agg #[(.int .u32 0), (.slice none 0 0)]) 32 rfl Try.underlying22 info29 rfl (by decide) (by omega) v158 y157 l0 _ _ _ (fun k_ => (P0_ k_ ∨ w.heap.size ≤ k_)) (fun k_ => ((fun k_ => (P0_ k_ ∨ w.heap.size ≤ k_))) k_ ∧ some k_ ≠ (v158 : Value).ownBlock) rfl rfl ?aO ?aR (fun _ hk => hk) ?aF ?aB ?aS ?aL ?_; (case aR => exact (by skip; exact Kd.V_F (Kd.V_mono (ok' := (fun k_ => ((fun k_ => (P0_ k_ ∨ w.heap.size ≤ k_))) k_ ∧ some k_ ≠ (v158 : Value).ownBlock)) (HO0.out) (fun k_ hk => ⟨hk.1, hk.2⟩)))); (case aB => exact (by repeat (first | (with_reducible first | exact HB.out | apply below_alloc | apply pw_below_drewN | apply below_drew1) | exact HB.out))); (case aF => exact (fun k_ hk => (.inr (Nat.le_trans (below_size (by repeat (first | (with_reducible first | exact HB.out | apply below_alloc | apply pw_below_drewN | apply below_drew1) | exact HB.out))) hk)))); (case aO => exact (by (with_reducible repeat (first | apply Kd.N_alloc | apply Kd.N_drewN | apply Kd.N_drew)); exact HO159.out)); (case aS => exact (below_size (by repeat (first | (with_reducible first | exact HB.out | apply below_alloc | apply pw_below_drewN | apply below_drew1) | exact HB.out)))); (case aL => have := LMc2.out; omega); intro v161 w5 ho hb hg hat; rw [← Ny160.out] at ho; have n0_ := Aside0.mk (Kd.V_afterv (ok := (fun k_ => (P0_ k_ ∨ w.heap.size ≤ k_))) (by (with_reducible repeat (first | apply Kd.V_alloc | apply Kd.V_drewN | apply Kd.V_drew)); exact HO0.out) hg hat); have n1_ := Aside0.mk (hb); have n2_ := Aside0.mk (ho); clear HO0; clear HB; clear HO159; have HO0 := n0_; have HB := n1_; have HO162 := n2_; clear n0_ n1_ n2_; clear ho hb hg hat))
    go_ret
    exact ⟨_, by first | rfl | (simp [errW_none, errW_some] <;> rfl) | (simp [*, errW_none, errW_some] <;> rfl), by (with_reducible repeat (first | apply Kd.N_alloc | apply Kd.N_drewN | apply Kd.N_drew)); exact HO162.out, by repeat (first | (with_reducible first | exact HB.out | apply below_alloc | apply pw_below_drewN | apply below_drew1) | exact HB.out)⟩
  · rw [if_neg c2] at H
    exact absurd H (by simp)

/-! ### net_Take: function 14 -/
def net_Take.f (a0_0 : Int) (l0_1 : List (S29)) (l0_2 : List (List Int)) (a1 : Int) : Option (Int × (List (S29)) × (List (List Int)) × Int × (List Int) × Int) := if a1 < 0 then some (a0_0, l0_1, l0_2, 0, [], 1) else if a1 ≥ (l0_1.length : Int) then some (a0_0, l0_1, l0_2, 0, [], 1) else if l0_1.length < 1000000 then some (a0_0, l0_1.eraseIdx a1.toNat, l0_2, (rd_T29 l0_1 a1).f0, (rd_T29 l0_1 a1).f1, 0) else none
theorem ndel.run_clear (W : World) (ty : TypeId) (g o c : Nat) (hc : ∀ j, j < 2 → (W.cell? ⟨g, o + j, none⟩).isSome = true) (hf : ∀ j, j < 2 → W.frozen? ⟨g, o + j, none⟩ = false) :
    (Builtin.clear_ #[22] ty #[.slice (some ⟨g, o, none⟩) 1 c]).run Try.prog W = .ok (.tuple #[]) (W.setCells g o [.int .u32 0, .slice none 0 0]) := by
  have hv : ∀ w, (zeroValue 29).run Try.prog w = .ok (.agg #[.int .u32 0, .slice none 0 0]) w := fun w => by kernel_rfl
  have hst := run_storeCells_cells (P := Try.prog) g o [.int .u32 0, .slice none 0 0] 0 W (by simpa using hc) (by simpa using hf) (by intro v hv; simp only [List.mem_cons, List.not_mem_nil, or_false] at hv; rcases hv with rfl | rfl <;> rfl)
  simp only [Nat.add_zero] at hst
  have hz : (Builtin.zeroCells (Value.agg #[.int .u32 0, .slice none 0 0]).cells 1).toList = [.int .u32 0, .slice none 0 0] := by kernel_rfl
  simp [Builtin.clear_, run_underlying Try.underlying22, hv, hz, hst]
/-- Cells behind the row's own are written: the row stays. -/
theorem ndel.spare {α : Type} {d : Kd α} {e : TypeId} {W : World} {base g m c o : Nat} {ok : Nat → Prop} {xs : List α} {vs : List Value} {cells : Array Value} (h : Kd.N d e W base ok (.slice (some ⟨g, 0, none⟩) m c) xs) (ho : m * d.sz ≤ o) (hg : W.heap[g]? = some (.cells cells e (0, 0))) (hs : o + vs.length ≤ cells.size) :
    Kd.N d e (W.setCells g o vs) base ok (.slice (some ⟨g, 0, none⟩) m c) xs := by
  obtain ⟨h0, rows, hl, hR, hf⟩ := h
  have hob : (Value.slice (some ⟨g, 0, none⟩) m c).ownBlock = some g := rfl
  refine ⟨h0, rows, hl, ?_, fun j x c hx hc => Kd.FK_step (hf j x c hx hc) (fun k hk _ => setCells_far vs o k (fun e_ => hk.2 (by rw [e_]; exact hob.symm)))⟩
  obtain ⟨h1, inner, hown, hr⟩ := hR
  refine ⟨h1, inner, ?_, hr⟩
  obtain ⟨hlen, hrow⟩ := hown
  refine ⟨hlen, ?_⟩
  rcases hrow with ⟨q, _⟩ | ⟨g', cap, cur, q, hbg, hh, hc1, hc2, hc3, htk⟩
  · cases q
  · injection q with q1 q2 q3
    injection q1 with q1
    injection q1 with q1 _ _
    subst q1
    rw [hg] at hh
    injection hh with hh
    injection hh with hh _ _
    subst hh
    obtain ⟨cur', c1, c2, c3⟩ := setCells_row vs o W cells hg hs
    refine .inr ⟨g, cap, cur', by rw [q2, q3], hbg, c1, hc1, hc2, by rw [c2]; exact hc3, ?_⟩
    have hlc : rows.length * (Kd.raw d.sz).sz ≤ o := by show rows.length * d.sz ≤ o; rw [← q2]; exact ho
    rw [c3, List.append_assoc, List.take_append_of_le_length (by simp only [List.length_take, Array.length_toList]; omega), List.take_take, Nat.min_eq_left hlc]
    exact htk
theorem ndel.size {α : Type} {d : Kd α} {e : TypeId} {W : World} {base g m c : Nat} {ok : Nat → Prop} {xs : List α} (h : Kd.N d e W base ok (.slice (some ⟨g, 0, none⟩) m c) xs) : ∃ cells : Array Value, W.heap[g]? = some (.cells cells e (0, 0)) ∧ cells.size = c * d.sz := by
  obtain ⟨_, rows, _, hR, _⟩ := h
  obtain ⟨_, inner, hown, _⟩ := hR
  rcases hown.2 with ⟨q, _⟩ | ⟨g', cap, cur, q, _, hh, _, _, hc3, _⟩
  · cases q
  · injection q with q1 q2 q3
    injection q1 with q1
    injection q1 with q1 _ _
    subst q1
    subst q3
    exact ⟨cur, hh, hc3⟩
theorem ndel.calls {w0 W : World} {base g c i : Nat} {ok : Nat → Prop} {l : List S29} (hN : Kd.N k29 29 W base ok (.slice (some ⟨g, 0, none⟩) l.length c) l) (hi : i < l.length) (hm : l.length < 1000000) (HB : Below base w0 W) (hbase : base ≤ W.heap.size) {a1 : Int} (ha : a1 = (i : Int)) :
    Calls Try.prog 25 #[.slice (some ⟨g, 0, none⟩) l.length c, .int .i64 a1, .int .i64 (a1 + 1)] W fun e w' => e = .returned (.slice (some ⟨g, 0, none⟩) (l.length - 1) c) ∧ Kd.N k29 29 w' base ok (.slice (some ⟨g, 0, none⟩) (l.length - 1) c) (l.eraseIdx i) ∧ Below base w0 w' := by
  subst ha
  have hcap : l.length ≤ c := (Kd.N_reads' hN).2.1
  obtain ⟨cells, hcells⟩ := Kd.N_typed hN g rfl
  have HN := Aside0.mk hN
  have HHB := Aside0.mk HB
  clear hN HB
  have p1 : (0 : Int) ≤ (i : Int) := by omega
  have p2 : (i : Int) ≤ (i : Int) + 1 := by omega
  have p3 : (i : Int) + 1 ≤ (l.length : Int) := by omega
  have p4 : (l.length : Int) ≤ (c : Int) := by omega
  have p5 : ((i : Int) == (i : Int) + 1) = false := beq_eq_false_iff_ne.2 (by omega)
  have p6 : (i : Int) ≤ (c : Int) := by omega
  have p7 : (0 : Int) ≤ (i : Int) + 1 := by omega
  go_enter Try.func25, Try.ntmps25
  go_upto_region 5 with (fail)
  refine start_ (n := 8) (S := fun _ => True) (ds := []) #[false, false, false, false, false, false, false, false] (by kernel_rfl) rfl rfl trivial (fun hHeld => ?_)
  obtain ⟨Wd, hWd⟩ : ∃ Wd : World, Wd = W.drew := ⟨_, rfl⟩
  have HNd := Aside0.mk (Kd.N_drew HN.out)
  have HBd := Aside0.mk (show Below base w0 W.drew from HHB.out.trans ((below_drew (Below.refl _ _)).mono hbase))
  have hbd : base ≤ W.drew.heap.size := hbase
  rw [← hWd] at HNd HBd hbd ⊢
  clear hWd HN HHB hbase hcells
  refine pure_ (i := 0) (N := some 20) (v := ?_) (a' := ?_) #[true, false, false, false, false, false, false, false] rfl rfl (by kernel_rfl) (fun _ _ _ h => h) (Or.inl ⟨by rfl, ?_⟩) ?_ ?_
  rotate_left
  · intro w'
    go_simp
    with_reducible rfl
  rotate_left
  · simp only [Act.put, List.setIfInBounds_toArray, List.set_cons_zero, List.set_cons_succ, i64_w, i32_w]
    rfl
  refine pure_ (i := 1) (N := some 21) (v := ?_) (a' := ?_) #[true, true, false, false, false, false, false, false] rfl rfl (by kernel_rfl) (fun _ _ _ h => h) (Or.inl ⟨by rfl, ?_⟩) ?_ ?_
  rotate_left
  · intro w'
    go_simp
    with_reducible rfl
  rotate_left
  · simp only [Act.put, List.setIfInBounds_toArray, List.set_cons_zero, List.set_cons_succ, i64_w, i32_w]
    rfl
  refine pure_ (i := 2) (N := some 22) (v := ?_) (a' := ?_) #[true, true, true, false, false, false, false, false] rfl rfl (by kernel_rfl) (fun _ _ _ h => h) (Or.inl ⟨by rfl, ?_⟩) ?_ ?_
  rotate_left
  · intro w'
    go_simp
    with_reducible rfl
  rotate_left
  · simp only [Act.put, List.setIfInBounds_toArray, List.set_cons_zero, List.set_cons_succ, i64_w, i32_w]
    rfl
  refine pure_ (i := 3) (N := some 23) (v := ?_) (a' := ?_) #[true, true, true, true, false, false, false, false] rfl rfl (by kernel_rfl) (fun _ _ _ h => h) (Or.inl ⟨by rfl, ?_⟩) ?_ ?_
  rotate_left
  · intro w'
    go_simp
    with_reducible rfl
  rotate_left
  · simp only [Act.put, List.setIfInBounds_toArray, List.set_cons_zero, List.set_cons_succ, i64_w, i32_w]
    rfl
  refine pure_ (i := 4) (N := some 24) (v := ?_) (a' := ?_) #[true, true, true, true, true, false, false, false] rfl rfl (by kernel_rfl) (fun _ _ _ h => h) (Or.inl ⟨by rfl, ?_⟩) ?_ ?_
  rotate_left
  · intro w'
    go_simp
    with_reducible rfl
  rotate_left
  · simp only [Act.put, List.setIfInBounds_toArray, List.set_cons_zero, List.set_cons_succ, i64_w, i32_w]
    rfl
  refine pure_ (i := 5) (N := some 25) (v := ?_) (a' := ?_) #[true, true, true, true, true, true, false, false] rfl rfl (by kernel_rfl) (fun _ _ _ h => h) (Or.inl ⟨by rfl, ?_⟩) ?_ ?_
  rotate_left
  · intro w'
    go_simp
    with_reducible rfl
  rotate_left
  · simp only [Act.put, List.setIfInBounds_toArray, List.set_cons_zero, List.set_cons_succ, i64_w, i32_w]
    rfl
  refine one_ (i := 6) (N := some 26) #[true, true, true, true, true, true, true, false] rfl rfl (by kernel_rfl) (by simp) (fun K hK => ?_)
  refine Kd.N_delete_step k29 (w0 := w0) base (by rfl) (.tmp 22) (.tmp 25) 22 29 rfl Try.underlying22 (by kernel_rfl) (g := g) (n := l.length) (c := c) (k := i) (m := l.length - (i + 1)) (c2 := c - (i + 1)) (A := if c = i + 1 then some ⟨g, 0, none⟩ else some ⟨g, (i + 1) * 2, none⟩) (xs := l) (ok := ok) rfl rfl (by rw [Option.map_some, nrow.add0]; rfl) rfl HNd.out hi HBd.out hbd ?_
  intro W1 hN1 hB1 hg1
  clear HNd HBd
  refine hK.out _ _ trivial (fun hHeld => ?_)
  clear hK K
  refine norm_ (a' := ?_) ?_ ?_
  rotate_left
  · show Act.put _ (some 26) _ = _
    simp only [Act.put, List.setIfInBounds_toArray, List.set_cons_zero, List.set_cons_succ, i64_w, i32_w]
    rfl
  refine pure_ (i := 7) (N := some 0) (v := ?_) (a' := ?_) #[true, true, true, true, true, true, true, true] rfl rfl (by kernel_rfl) (fun _ _ _ h => h) (Or.inl ⟨by rfl, ?_⟩) ?_ ?_
  rotate_left
  · intro w'
    go_simp
    with_reducible rfl
  rotate_left
  · simp only [Act.put, List.setIfInBounds_toArray, List.set_cons_zero, List.set_cons_succ, i64_w, i32_w]
    rfl
  refine done_ (by kernel_rfl) ?_
  clear hHeld
  obtain ⟨m, hm1⟩ : ∃ m, l.length - 1 = m := ⟨_, rfl⟩
  rw [hm1] at hN1
  simp only [hm1]
  have hlm : l.length = m + 1 := by omega
  obtain ⟨cells, hcl, hcs⟩ := ndel.size hN1
  have hcs2 : cells.size = c * 2 := hcs
  have q1 : (0 : Int) ≤ (m : Int) := by omega
  have q2 : (m : Int) ≤ (l.length : Int) := by omega
  have q3 : (l.length : Int) ≤ (c : Int) := by omega
  have q4 : ¬ c = m := by omega
  have hrun : ∀ ty, (Builtin.clear_ #[22] ty #[.slice (some ⟨g, m * 2, none⟩) (l.length - m) (c - m)]).run Try.prog W1 = .ok (.tuple #[]) (W1.setCells g (m * 2) [.int .u32 0, .slice none 0 0]) := fun ty => by
    rw [show l.length - m = 1 by omega]
    exact ndel.run_clear W1 ty g (m * 2) (c - m) (fun j hj => by rw [blk_cell hcl, Array.getElem?_eq_getElem (by omega)]; rfl) (fun j _ => blk_frozen hcl _)
  have HD := Aside0.mk (ndel.spare (vs := [.int .u32 0, .slice none 0 0]) hN1 (Nat.le_refl (m * 2)) hcl (by simp; omega))
  have HB2 := Aside0.mk (show Below base w0 (W1.setCells g (m * 2) [.int .u32 0, .slice none 0 0]) from (hB1.setCell (p := ⟨g, m * 2, none⟩) (Kd.N_base hN1 g rfl) _).setCell (p := ⟨g, m * 2 + 1, none⟩) (Kd.N_base hN1 g rfl) _)
  have Hlm := Aside0.mk hlm
  have Hcs := Aside0.mk hcs2
  clear hm1 hlm hcs hcs2 hN1 hB1 hg1 hcl
  go_wp2
  all_goals
    go_ret
    have := Hlm.out
    rw [show l.length - 1 = m by omega]
    first | exact ⟨rfl, HD.out, HB2.out⟩ | (obtain rfl : c = i + 1 := (by assumption); exact ⟨rfl, HD.out, HB2.out⟩)
set_option maxHeartbeats 8000000 in
set_option maxRecDepth 100000 in
theorem net_Take.calls (a0_0 : Int) (P0_1_ : Nat → Prop) (A0_1 : Option Addr) (c0_1 : Nat) (l0_1 : List (S29)) (P0_2_ : Nat → Prop) (A0_2 : Option Addr) (c0_2 : Nat) (l0_2 : List (List Int)) (a1 : Int) (r1 : Int) (r2 : List (S29)) (r3 : List (List Int)) (r4 : Int) (r5 : List Int) (r6 : Int) (w : World) (hs0_1 : Kd.V k29 29 w w.heap.size (fun k_ => P0_1_ k_) (.slice A0_1 l0_1.length c0_1) l0_1) (hs0_2 : Kd.V (Kd.slice 26 (Kd.int .u32)) 27 w w.heap.size (fun k_ => P0_2_ k_) (.slice A0_2 l0_2.length c0_2) l0_2) (h : net_Take.f a0_0 l0_1 l0_2 a1 = some (r1, r2, r3, r4, r5, r6)) :
    Calls Try.prog 14 #[.agg #[.int .i64 a0_0, .slice A0_1 l0_1.length c0_1, .slice A0_2 l0_2.length c0_2], .int .i64 a1] w fun e w' => ∃ v1_ v2_ v4_ : Value, e = .returned (.tuple #[.agg #[.int .i64 r1, v1_, v2_], .agg #[.int .u32 r4, v4_], .int .i64 r6]) ∧ Kd.V k29 29 w' w.heap.size (fun k_ => ((P0_1_ k_ ∨ P0_2_ k_) ∨ w.heap.size ≤ k_)) v1_ r2 ∧ Kd.V (Kd.slice 26 (Kd.int .u32)) 27 w' w.heap.size (fun k_ => ((P0_1_ k_ ∨ P0_2_ k_) ∨ w.heap.size ≤ k_)) v2_ r3 ∧ Kd.V (Kd.int .u32) 26 w' w.heap.size (fun k_ => ((P0_1_ k_ ∨ P0_2_ k_) ∨ w.heap.size ≤ k_)) v4_ r5 ∧ Below w.heap.size w w' := by
  unfold net_Take.f at h
  obtain ⟨W0, hW0⟩ : ∃ W0 : World, W0 = ((w.alloc (.cells #[.int .i64 a0_0, .slice A0_1 l0_1.length c0_1, .slice A0_2 l0_2.length c0_2] 25)).alloc (.cells #[.int .i64 0, .slice none 0 0, .slice none 0 0] 25)).alloc (.cells #[.int .u32 0, .slice none 0 0] 29) := ⟨_, rfl⟩
  have B0 : W0.heap[w.heap.size]? = some (.cells #[.int .i64 a0_0, .slice A0_1 l0_1.length c0_1, .slice A0_2 l0_2.length c0_2] 25 (0, 0)) := by rw [hW0]; refine blk_alloc ?_ _; refine blk_alloc ?_ _; have := (MapKept.heap_alloc (w) (.cells #[.int .i64 a0_0, .slice A0_1 l0_1.length c0_1, .slice A0_2 l0_2.length c0_2] 25)).1; simpa using this
  have B1 : W0.heap[w.heap.size + 1]? = some (.cells #[.int .i64 0, .slice none 0 0, .slice none 0 0] 25 (0, 0)) := by rw [hW0]; refine blk_alloc ?_ _; have := (MapKept.heap_alloc ((w.alloc (.cells #[.int .i64 a0_0, .slice A0_1 l0_1.length c0_1, .slice A0_2 l0_2.length c0_2] 25))) (.cells #[.int .i64 0, .slice none 0 0, .slice none 0 0] 25)).1; simpa using this
  have B2 : W0.heap[w.heap.size + 1 + 1]? = some (.cells #[.int .u32 0, .slice none 0 0] 29 (0, 0)) := by rw [hW0]; have := (MapKept.heap_alloc (((w.alloc (.cells #[.int .i64 a0_0, .slice A0_1 l0_1.length c0_1, .slice A0_2 l0_2.length c0_2] 25)).alloc (.cells #[.int .i64 0, .slice none 0 0, .slice none 0 0] 25))) (.cells #[.int .u32 0, .slice none 0 0] 29)).1; simpa using this
  have hB0 : Below w.heap.size w W0 := by rw [hW0]; exact below_alloc (below_alloc (below_alloc (Below.refl _ _) _) _) _
  have hz0 : w.heap.size + 1 + 1 + 1 ≤ W0.heap.size := by rw [hW0]; simp
  have Hw0 := Aside0.mk hW0
  clear hW0
  obtain ⟨_, hc1, F1⟩ := Kd.V_at hs0_1
  obtain ⟨_, hc2, F2⟩ := Kd.V_at hs0_2
  clear hs0_1 hs0_2
  by_cases c1 : a1 < 0
  · rw [if_pos c1] at h
    simp only [Option.some.injEq, Prod.mk.injEq] at h
    obtain ⟨rfl, rfl, rfl, rfl, rfl, rfl⟩ := h
    have HI := Aside0.mk (show net_in.f a0_0 l0_1 l0_2 a1 = some false by unfold net_in.f; rw [if_neg (by omega)])
    clear c1
    have c_0_0 : W0.cell? ⟨w.heap.size, 0, none⟩ = some (.int .i64 a0_0) := (blk_cell B0 0).trans rfl
    have c_0_1 : W0.cell? ⟨w.heap.size, 1, none⟩ = some (.slice A0_1 l0_1.length c0_1) := (blk_cell B0 1).trans rfl
    have c_0_2 : W0.cell? ⟨w.heap.size, 2, none⟩ = some (.slice A0_2 l0_2.length c0_2) := (blk_cell B0 2).trans rfl
    have z_0_0 := blk_frozen B0 0
    have z_0_1 := blk_frozen B0 1
    have z_0_2 := blk_frozen B0 2
    have c_1_0 : W0.cell? ⟨w.heap.size + 1, 0, none⟩ = some (.int .i64 0) := (blk_cell B1 0).trans rfl
    have c_1_1 : W0.cell? ⟨w.heap.size + 1, 1, none⟩ = some (.slice none 0 0) := (blk_cell B1 1).trans rfl
    have c_1_2 : W0.cell? ⟨w.heap.size + 1, 2, none⟩ = some (.slice none 0 0) := (blk_cell B1 2).trans rfl
    have z_1_0 := blk_frozen B1 0
    have z_1_1 := blk_frozen B1 1
    have z_1_2 := blk_frozen B1 2
    have c_2_0 : W0.cell? ⟨w.heap.size + 1 + 1, 0, none⟩ = some (.int .u32 0) := (blk_cell B2 0).trans rfl
    have c_2_1 : W0.cell? ⟨w.heap.size + 1 + 1, 1, none⟩ = some (.slice none 0 0) := (blk_cell B2 1).trans rfl
    have z_2_0 := blk_frozen B2 0
    have z_2_1 := blk_frozen B2 1
    have lt_ : w.heap.size + 1 + 1 < W0.heap.size := by have := hz0; omega
    go_enter Try.func14, Try.ntmps14
    go_wp2_with fail
    rw [← Hw0.out]
    clear Hw0
    clear c_0_0 c_0_1 c_0_2 z_0_0 z_0_1 z_0_2 c_1_0 c_1_1 c_1_2 z_1_0 z_1_1 z_1_2 c_2_0 c_2_1 z_2_0 z_2_1 lt_
    refine (net_in.calls a0_0 _ _ l0_1 _ _ l0_2 a1 false _ (Kd.F_now (Kd.F_below F1 hB0)) hc1 (Kd.F_now (Kd.F_below F2 hB0)) hc2 HI.out).mono ?_
    rintro e W1 ⟨rfl, hb1⟩
    have B102 := blk_below B0 hb1
    have B103 := blk_below B1 hb1
    have B104 := blk_below B2 hb1
    have hB101 := hB0.trans (hb1.mono hB0.size)
    have hz101 : w.heap.size + 1 + 1 + 1 ≤ W1.heap.size := Nat.le_trans hz0 hb1.size
    clear B0 B1 B2 hB0 hz0
    clear hb1
    have V1 := Kd.V_mk (e := 29) (base := 0) hc1 (nrow.mv (R := fun k => P0_1_ k ∨ P0_2_ k) (m := w.heap.size + 1 + 1 + 1) hB101 (fun k hk => .inl hk) F1)
    have V2 := Kd.V_mk (e := 27) (base := 0) hc2 (nrow.mv (R := fun k => P0_1_ k ∨ P0_2_ k) (m := w.heap.size + 1 + 1 + 1) hB101 (fun k hk => .inr hk) F2)
    have c_0_0 : W1.cell? ⟨w.heap.size, 0, none⟩ = some (.int .i64 a0_0) := (blk_cell B102 0).trans rfl
    have c_0_1 : W1.cell? ⟨w.heap.size, 1, none⟩ = some (.slice A0_1 l0_1.length c0_1) := (blk_cell B102 1).trans rfl
    have c_0_2 : W1.cell? ⟨w.heap.size, 2, none⟩ = some (.slice A0_2 l0_2.length c0_2) := (blk_cell B102 2).trans rfl
    have z_0_0 := blk_frozen B102 0
    have z_0_1 := blk_frozen B102 1
    have z_0_2 := blk_frozen B102 2
    have c_1_0 : W1.cell? ⟨w.heap.size + 1, 0, none⟩ = some (.int .i64 0) := (blk_cell B103 0).trans rfl
    have c_1_1 : W1.cell? ⟨w.heap.size + 1, 1, none⟩ = some (.slice none 0 0) := (blk_cell B103 1).trans rfl
    have c_1_2 : W1.cell? ⟨w.heap.size + 1, 2, none⟩ = some (.slice none 0 0) := (blk_cell B103 2).trans rfl
    have z_1_0 := blk_frozen B103 0
    have z_1_1 := blk_frozen B103 1
    have z_1_2 := blk_frozen B103 2
    have c_2_0 : W1.cell? ⟨w.heap.size + 1 + 1, 0, none⟩ = some (.int .u32 0) := (blk_cell B104 0).trans rfl
    have c_2_1 : W1.cell? ⟨w.heap.size + 1 + 1, 1, none⟩ = some (.slice none 0 0) := (blk_cell B104 1).trans rfl
    have z_2_0 := blk_frozen B104 0
    have z_2_1 := blk_frozen B104 1
    have lt_ : w.heap.size + 1 + 1 < W1.heap.size := by have := hz101; omega
    go_wp2
    clear c_0_0 c_0_1 c_0_2 z_0_0 z_0_1 z_0_2 c_1_0 c_1_1 c_1_2 z_1_0 z_1_1 z_1_2 c_2_0 c_2_1 z_2_0 z_2_1 lt_
    have n105 : w.heap.size ≠ w.heap.size + 1 := by omega
    have n106 : w.heap.size + 1 + 1 ≠ w.heap.size + 1 := by omega
    have n107 : ∀ k, ((P0_1_ k ∨ P0_2_ k) ∧ k < w.heap.size ∨ w.heap.size + 1 + 1 + 1 ≤ k) → k ≠ w.heap.size + 1 := fun k hk => by omega
    have n108 : w.heap.size ≤ w.heap.size + 1 := by omega
    have B110 := (blk_put (cs' := #[.int .i64 a0_0, .slice A0_1 l0_1.length c0_1, .slice A0_2 l0_2.length c0_2]) (blk_put (cs' := #[.int .i64 a0_0, .slice A0_1 l0_1.length c0_1, .slice none 0 0]) (blk_put (cs' := #[.int .i64 a0_0, .slice none 0 0, .slice none 0 0]) B103 0 (.int .i64 a0_0) rfl) 1 (.slice A0_1 l0_1.length c0_1) rfl) 2 (.slice A0_2 l0_2.length c0_2) rfl)
    have B111 := (blk_far (p := ⟨w.heap.size + 1, 2, none⟩) (blk_far (p := ⟨w.heap.size + 1, 1, none⟩) (blk_far (p := ⟨w.heap.size + 1, 0, none⟩) B102 n105 (.int .i64 a0_0)) n105 (.slice A0_1 l0_1.length c0_1)) n105 (.slice A0_2 l0_2.length c0_2))
    have B112 := (blk_far (p := ⟨w.heap.size + 1, 2, none⟩) (blk_far (p := ⟨w.heap.size + 1, 1, none⟩) (blk_far (p := ⟨w.heap.size + 1, 0, none⟩) B104 n106 (.int .i64 a0_0)) n106 (.slice A0_1 l0_1.length c0_1)) n106 (.slice A0_2 l0_2.length c0_2))
    have V113 := (Kd.V_far (p := ⟨w.heap.size + 1, 2, none⟩) (Kd.V_far (p := ⟨w.heap.size + 1, 1, none⟩) (Kd.V_far (p := ⟨w.heap.size + 1, 0, none⟩) V1 n107 (.int .i64 a0_0)) n107 (.slice A0_1 l0_1.length c0_1)) n107 (.slice A0_2 l0_2.length c0_2))
    have V114 := (Kd.V_far (p := ⟨w.heap.size + 1, 2, none⟩) (Kd.V_far (p := ⟨w.heap.size + 1, 1, none⟩) (Kd.V_far (p := ⟨w.heap.size + 1, 0, none⟩) V2 n107 (.int .i64 a0_0)) n107 (.slice A0_1 l0_1.length c0_1)) n107 (.slice A0_2 l0_2.length c0_2))
    have hB115 := (below_set (g := w.heap.size + 1) (j := 2) (v := .slice A0_2 l0_2.length c0_2) (below_set (g := w.heap.size + 1) (j := 1) (v := .slice A0_1 l0_1.length c0_1) (below_set (g := w.heap.size + 1) (j := 0) (v := .int .i64 a0_0) hB101 n108) n108) n108)
    have hz116 : w.heap.size + 1 + 1 + 1 ≤ (((W1.setCell ⟨w.heap.size + 1, 0, none⟩ (.int .i64 a0_0)).setCell ⟨w.heap.size + 1, 1, none⟩ (.slice A0_1 l0_1.length c0_1)).setCell ⟨w.heap.size + 1, 2, none⟩ (.slice A0_2 l0_2.length c0_2)).heap.size := by simpa [World.setCell] using hz101
    clear B102 B103 B104 V1 V2 hB101 hz101 n105 n106 n107 n108
    obtain ⟨W109, hW109⟩ : ∃ W_ : World, W_ = (((W1.setCell ⟨w.heap.size + 1, 0, none⟩ (.int .i64 a0_0)).setCell ⟨w.heap.size + 1, 1, none⟩ (.slice A0_1 l0_1.length c0_1)).setCell ⟨w.heap.size + 1, 2, none⟩ (.slice A0_2 l0_2.length c0_2)) := ⟨_, rfl⟩
    rw [← hW109] at B110 B111 B112 V113 V114 hB115 hz116 ⊢
    clear hW109
    have n117 : w.heap.size ≠ w.heap.size + 1 + 1 := by omega
    have n118 : w.heap.size + 1 ≠ w.heap.size + 1 + 1 := by omega
    have n119 : ∀ k, ((P0_1_ k ∨ P0_2_ k) ∧ k < w.heap.size ∨ w.heap.size + 1 + 1 + 1 ≤ k) → k ≠ w.heap.size + 1 + 1 := fun k hk => by omega
    have n120 : w.heap.size ≤ w.heap.size + 1 + 1 := by omega
    have B122 := (blk_put (cs' := #[.int .u32 0, .slice none 0 0]) (blk_put (cs' := #[.int .u32 0, .slice none 0 0]) B112 0 (.int .u32 0) rfl) 1 (.slice none 0 0) rfl)
    have B123 := (blk_far (p := ⟨w.heap.size + 1 + 1, 1, none⟩) (blk_far (p := ⟨w.heap.size + 1 + 1, 0, none⟩) B111 n117 (.int .u32 0)) n117 (.slice none 0 0))
    have B124 := (blk_far (p := ⟨w.heap.size + 1 + 1, 1, none⟩) (blk_far (p := ⟨w.heap.size + 1 + 1, 0, none⟩) B110 n118 (.int .u32 0)) n118 (.slice none 0 0))
    have V125 := (Kd.V_far (p := ⟨w.heap.size + 1 + 1, 1, none⟩) (Kd.V_far (p := ⟨w.heap.size + 1 + 1, 0, none⟩) V113 n119 (.int .u32 0)) n119 (.slice none 0 0))
    have V126 := (Kd.V_far (p := ⟨w.heap.size + 1 + 1, 1, none⟩) (Kd.V_far (p := ⟨w.heap.size + 1 + 1, 0, none⟩) V114 n119 (.int .u32 0)) n119 (.slice none 0 0))
    have hB127 := (below_set (g := w.heap.size + 1 + 1) (j := 1) (v := .slice none 0 0) (below_set (g := w.heap.size + 1 + 1) (j := 0) (v := .int .u32 0) hB115 n120) n120)
    have hz128 : w.heap.size + 1 + 1 + 1 ≤ ((W109.setCell ⟨w.heap.size + 1 + 1, 0, none⟩ (.int .u32 0)).setCell ⟨w.heap.size + 1 + 1, 1, none⟩ (.slice none 0 0)).heap.size := by simpa [World.setCell] using hz116
    clear B111 B110 B112 V113 V114 hB115 hz116 n117 n118 n119 n120
    obtain ⟨W121, hW121⟩ : ∃ W_ : World, W_ = ((W109.setCell ⟨w.heap.size + 1 + 1, 0, none⟩ (.int .u32 0)).setCell ⟨w.heap.size + 1 + 1, 1, none⟩ (.slice none 0 0)) := ⟨_, rfl⟩
    rw [← hW121] at B122 B123 B124 V125 V126 hB127 hz128 ⊢
    clear hW121
    have V4 := Kd.V_nil (Kd.int .u32) 26 W121 w.heap.size (fun k => (P0_1_ k ∨ P0_2_ k) ∧ k < w.heap.size ∨ w.heap.size + 1 + 1 + 1 ≤ k)
    refine bodyPost_ret (results_list (rs := [.cell 4 25, .cell 5 29, .tmp 6]) rfl (by simp) (.cell (w.heap.size + 1) 25 #[.int .i64 a0_0, .slice A0_1 l0_1.length c0_1, .slice A0_2 l0_2.length c0_2] (0, 0) _ rfl B124 Try.underlying25 rfl (by kernel_rfl) (.cell (w.heap.size + 1 + 1) 29 #[.int .u32 0, .slice none 0 0] (0, 0) _ rfl B122 Try.underlying29 rfl (by kernel_rfl) (.tmp .nil)))) rfl ?_
    exact ⟨_, _, _, rfl, Kd.V_mono V125 (fun k hk => hk.elim (fun h => .inl h.1) (fun h => .inr (by omega))), Kd.V_mono V126 (fun k hk => hk.elim (fun h => .inl h.1) (fun h => .inr (by omega))), Kd.V_mono V4 (fun k hk => hk.elim (fun h => .inl h.1) (fun h => .inr (by omega))), hB127⟩
  rw [if_neg c1] at h
  have c1p : 0 ≤ a1 := by omega
  by_cases c2 : a1 ≥ (l0_1.length : Int)
  · rw [if_pos c2] at h
    simp only [Option.some.injEq, Prod.mk.injEq] at h
    obtain ⟨rfl, rfl, rfl, rfl, rfl, rfl⟩ := h
    have HI := Aside0.mk (show net_in.f a0_0 l0_1 l0_2 a1 = some false by unfold net_in.f; rw [if_pos (by omega), show decide (a1 < (l0_1.length : Int)) = false from decide_eq_false (by omega)])
    clear c1 c2 c1p
    have c_0_0 : W0.cell? ⟨w.heap.size, 0, none⟩ = some (.int .i64 a0_0) := (blk_cell B0 0).trans rfl
    have c_0_1 : W0.cell? ⟨w.heap.size, 1, none⟩ = some (.slice A0_1 l0_1.length c0_1) := (blk_cell B0 1).trans rfl
    have c_0_2 : W0.cell? ⟨w.heap.size, 2, none⟩ = some (.slice A0_2 l0_2.length c0_2) := (blk_cell B0 2).trans rfl
    have z_0_0 := blk_frozen B0 0
    have z_0_1 := blk_frozen B0 1
    have z_0_2 := blk_frozen B0 2
    have c_1_0 : W0.cell? ⟨w.heap.size + 1, 0, none⟩ = some (.int .i64 0) := (blk_cell B1 0).trans rfl
    have c_1_1 : W0.cell? ⟨w.heap.size + 1, 1, none⟩ = some (.slice none 0 0) := (blk_cell B1 1).trans rfl
    have c_1_2 : W0.cell? ⟨w.heap.size + 1, 2, none⟩ = some (.slice none 0 0) := (blk_cell B1 2).trans rfl
    have z_1_0 := blk_frozen B1 0
    have z_1_1 := blk_frozen B1 1
    have z_1_2 := blk_frozen B1 2
    have c_2_0 : W0.cell? ⟨w.heap.size + 1 + 1, 0, none⟩ = some (.int .u32 0) := (blk_cell B2 0).trans rfl
    have c_2_1 : W0.cell? ⟨w.heap.size + 1 + 1, 1, none⟩ = some (.slice none 0 0) := (blk_cell B2 1).trans rfl
    have z_2_0 := blk_frozen B2 0
    have z_2_1 := blk_frozen B2 1
    have lt_ : w.heap.size + 1 + 1 < W0.heap.size := by have := hz0; omega
    go_enter Try.func14, Try.ntmps14
    go_wp2_with fail
    rw [← Hw0.out]
    clear Hw0
    clear c_0_0 c_0_1 c_0_2 z_0_0 z_0_1 z_0_2 c_1_0 c_1_1 c_1_2 z_1_0 z_1_1 z_1_2 c_2_0 c_2_1 z_2_0 z_2_1 lt_
    refine (net_in.calls a0_0 _ _ l0_1 _ _ l0_2 a1 false _ (Kd.F_now (Kd.F_below F1 hB0)) hc1 (Kd.F_now (Kd.F_below F2 hB0)) hc2 HI.out).mono ?_
    rintro e W1 ⟨rfl, hb1⟩
    have B102 := blk_below B0 hb1
    have B103 := blk_below B1 hb1
    have B104 := blk_below B2 hb1
    have hB101 := hB0.trans (hb1.mono hB0.size)
    have hz101 : w.heap.size + 1 + 1 + 1 ≤ W1.heap.size := Nat.le_trans hz0 hb1.size
    clear B0 B1 B2 hB0 hz0
    clear hb1
    have V1 := Kd.V_mk (e := 29) (base := 0) hc1 (nrow.mv (R := fun k => P0_1_ k ∨ P0_2_ k) (m := w.heap.size + 1 + 1 + 1) hB101 (fun k hk => .inl hk) F1)
    have V2 := Kd.V_mk (e := 27) (base := 0) hc2 (nrow.mv (R := fun k => P0_1_ k ∨ P0_2_ k) (m := w.heap.size + 1 + 1 + 1) hB101 (fun k hk => .inr hk) F2)
    have c_0_0 : W1.cell? ⟨w.heap.size, 0, none⟩ = some (.int .i64 a0_0) := (blk_cell B102 0).trans rfl
    have c_0_1 : W1.cell? ⟨w.heap.size, 1, none⟩ = some (.slice A0_1 l0_1.length c0_1) := (blk_cell B102 1).trans rfl
    have c_0_2 : W1.cell? ⟨w.heap.size, 2, none⟩ = some (.slice A0_2 l0_2.length c0_2) := (blk_cell B102 2).trans rfl
    have z_0_0 := blk_frozen B102 0
    have z_0_1 := blk_frozen B102 1
    have z_0_2 := blk_frozen B102 2
    have c_1_0 : W1.cell? ⟨w.heap.size + 1, 0, none⟩ = some (.int .i64 0) := (blk_cell B103 0).trans rfl
    have c_1_1 : W1.cell? ⟨w.heap.size + 1, 1, none⟩ = some (.slice none 0 0) := (blk_cell B103 1).trans rfl
    have c_1_2 : W1.cell? ⟨w.heap.size + 1, 2, none⟩ = some (.slice none 0 0) := (blk_cell B103 2).trans rfl
    have z_1_0 := blk_frozen B103 0
    have z_1_1 := blk_frozen B103 1
    have z_1_2 := blk_frozen B103 2
    have c_2_0 : W1.cell? ⟨w.heap.size + 1 + 1, 0, none⟩ = some (.int .u32 0) := (blk_cell B104 0).trans rfl
    have c_2_1 : W1.cell? ⟨w.heap.size + 1 + 1, 1, none⟩ = some (.slice none 0 0) := (blk_cell B104 1).trans rfl
    have z_2_0 := blk_frozen B104 0
    have z_2_1 := blk_frozen B104 1
    have lt_ : w.heap.size + 1 + 1 < W1.heap.size := by have := hz101; omega
    go_wp2
    clear c_0_0 c_0_1 c_0_2 z_0_0 z_0_1 z_0_2 c_1_0 c_1_1 c_1_2 z_1_0 z_1_1 z_1_2 c_2_0 c_2_1 z_2_0 z_2_1 lt_
    have n105 : w.heap.size ≠ w.heap.size + 1 := by omega
    have n106 : w.heap.size + 1 + 1 ≠ w.heap.size + 1 := by omega
    have n107 : ∀ k, ((P0_1_ k ∨ P0_2_ k) ∧ k < w.heap.size ∨ w.heap.size + 1 + 1 + 1 ≤ k) → k ≠ w.heap.size + 1 := fun k hk => by omega
    have n108 : w.heap.size ≤ w.heap.size + 1 := by omega
    have B110 := (blk_put (cs' := #[.int .i64 a0_0, .slice A0_1 l0_1.length c0_1, .slice A0_2 l0_2.length c0_2]) (blk_put (cs' := #[.int .i64 a0_0, .slice A0_1 l0_1.length c0_1, .slice none 0 0]) (blk_put (cs' := #[.int .i64 a0_0, .slice none 0 0, .slice none 0 0]) B103 0 (.int .i64 a0_0) rfl) 1 (.slice A0_1 l0_1.length c0_1) rfl) 2 (.slice A0_2 l0_2.length c0_2) rfl)
    have B111 := (blk_far (p := ⟨w.heap.size + 1, 2, none⟩) (blk_far (p := ⟨w.heap.size + 1, 1, none⟩) (blk_far (p := ⟨w.heap.size + 1, 0, none⟩) B102 n105 (.int .i64 a0_0)) n105 (.slice A0_1 l0_1.length c0_1)) n105 (.slice A0_2 l0_2.length c0_2))
    have B112 := (blk_far (p := ⟨w.heap.size + 1, 2, none⟩) (blk_far (p := ⟨w.heap.size + 1, 1, none⟩) (blk_far (p := ⟨w.heap.size + 1, 0, none⟩) B104 n106 (.int .i64 a0_0)) n106 (.slice A0_1 l0_1.length c0_1)) n106 (.slice A0_2 l0_2.length c0_2))
    have V113 := (Kd.V_far (p := ⟨w.heap.size + 1, 2, none⟩) (Kd.V_far (p := ⟨w.heap.size + 1, 1, none⟩) (Kd.V_far (p := ⟨w.heap.size + 1, 0, none⟩) V1 n107 (.int .i64 a0_0)) n107 (.slice A0_1 l0_1.length c0_1)) n107 (.slice A0_2 l0_2.length c0_2))
    have V114 := (Kd.V_far (p := ⟨w.heap.size + 1, 2, none⟩) (Kd.V_far (p := ⟨w.heap.size + 1, 1, none⟩) (Kd.V_far (p := ⟨w.heap.size + 1, 0, none⟩) V2 n107 (.int .i64 a0_0)) n107 (.slice A0_1 l0_1.length c0_1)) n107 (.slice A0_2 l0_2.length c0_2))
    have hB115 := (below_set (g := w.heap.size + 1) (j := 2) (v := .slice A0_2 l0_2.length c0_2) (below_set (g := w.heap.size + 1) (j := 1) (v := .slice A0_1 l0_1.length c0_1) (below_set (g := w.heap.size + 1) (j := 0) (v := .int .i64 a0_0) hB101 n108) n108) n108)
    have hz116 : w.heap.size + 1 + 1 + 1 ≤ (((W1.setCell ⟨w.heap.size + 1, 0, none⟩ (.int .i64 a0_0)).setCell ⟨w.heap.size + 1, 1, none⟩ (.slice A0_1 l0_1.length c0_1)).setCell ⟨w.heap.size + 1, 2, none⟩ (.slice A0_2 l0_2.length c0_2)).heap.size := by simpa [World.setCell] using hz101
    clear B102 B103 B104 V1 V2 hB101 hz101 n105 n106 n107 n108
    obtain ⟨W109, hW109⟩ : ∃ W_ : World, W_ = (((W1.setCell ⟨w.heap.size + 1, 0, none⟩ (.int .i64 a0_0)).setCell ⟨w.heap.size + 1, 1, none⟩ (.slice A0_1 l0_1.length c0_1)).setCell ⟨w.heap.size + 1, 2, none⟩ (.slice A0_2 l0_2.length c0_2)) := ⟨_, rfl⟩
    rw [← hW109] at B110 B111 B112 V113 V114 hB115 hz116 ⊢
    clear hW109
    have n117 : w.heap.size ≠ w.heap.size + 1 + 1 := by omega
    have n118 : w.heap.size + 1 ≠ w.heap.size + 1 + 1 := by omega
    have n119 : ∀ k, ((P0_1_ k ∨ P0_2_ k) ∧ k < w.heap.size ∨ w.heap.size + 1 + 1 + 1 ≤ k) → k ≠ w.heap.size + 1 + 1 := fun k hk => by omega
    have n120 : w.heap.size ≤ w.heap.size + 1 + 1 := by omega
    have B122 := (blk_put (cs' := #[.int .u32 0, .slice none 0 0]) (blk_put (cs' := #[.int .u32 0, .slice none 0 0]) B112 0 (.int .u32 0) rfl) 1 (.slice none 0 0) rfl)
    have B123 := (blk_far (p := ⟨w.heap.size + 1 + 1, 1, none⟩) (blk_far (p := ⟨w.heap.size + 1 + 1, 0, none⟩) B111 n117 (.int .u32 0)) n117 (.slice none 0 0))
    have B124 := (blk_far (p := ⟨w.heap.size + 1 + 1, 1, none⟩) (blk_far (p := ⟨w.heap.size + 1 + 1, 0, none⟩) B110 n118 (.int .u32 0)) n118 (.slice none 0 0))
    have V125 := (Kd.V_far (p := ⟨w.heap.size + 1 + 1, 1, none⟩) (Kd.V_far (p := ⟨w.heap.size + 1 + 1, 0, none⟩) V113 n119 (.int .u32 0)) n119 (.slice none 0 0))
    have V126 := (Kd.V_far (p := ⟨w.heap.size + 1 + 1, 1, none⟩) (Kd.V_far (p := ⟨w.heap.size + 1 + 1, 0, none⟩) V114 n119 (.int .u32 0)) n119 (.slice none 0 0))
    have hB127 := (below_set (g := w.heap.size + 1 + 1) (j := 1) (v := .slice none 0 0) (below_set (g := w.heap.size + 1 + 1) (j := 0) (v := .int .u32 0) hB115 n120) n120)
    have hz128 : w.heap.size + 1 + 1 + 1 ≤ ((W109.setCell ⟨w.heap.size + 1 + 1, 0, none⟩ (.int .u32 0)).setCell ⟨w.heap.size + 1 + 1, 1, none⟩ (.slice none 0 0)).heap.size := by simpa [World.setCell] using hz116
    clear B111 B110 B112 V113 V114 hB115 hz116 n117 n118 n119 n120
    obtain ⟨W121, hW121⟩ : ∃ W_ : World, W_ = ((W109.setCell ⟨w.heap.size + 1 + 1, 0, none⟩ (.int .u32 0)).setCell ⟨w.heap.size + 1 + 1, 1, none⟩ (.slice none 0 0)) := ⟨_, rfl⟩
    rw [← hW121] at B122 B123 B124 V125 V126 hB127 hz128 ⊢
    clear hW121
    have V4 := Kd.V_nil (Kd.int .u32) 26 W121 w.heap.size (fun k => (P0_1_ k ∨ P0_2_ k) ∧ k < w.heap.size ∨ w.heap.size + 1 + 1 + 1 ≤ k)
    refine bodyPost_ret (results_list (rs := [.cell 4 25, .cell 5 29, .tmp 6]) rfl (by simp) (.cell (w.heap.size + 1) 25 #[.int .i64 a0_0, .slice A0_1 l0_1.length c0_1, .slice A0_2 l0_2.length c0_2] (0, 0) _ rfl B124 Try.underlying25 rfl (by kernel_rfl) (.cell (w.heap.size + 1 + 1) 29 #[.int .u32 0, .slice none 0 0] (0, 0) _ rfl B122 Try.underlying29 rfl (by kernel_rfl) (.tmp .nil)))) rfl ?_
    exact ⟨_, _, _, rfl, Kd.V_mono V125 (fun k hk => hk.elim (fun h => .inl h.1) (fun h => .inr (by omega))), Kd.V_mono V126 (fun k hk => hk.elim (fun h => .inl h.1) (fun h => .inr (by omega))), Kd.V_mono V4 (fun k hk => hk.elim (fun h => .inl h.1) (fun h => .inr (by omega))), hB127⟩
  rw [if_neg c2] at h
  have c2p : a1 < (l0_1.length : Int) := by omega
  have HI := Aside0.mk (show net_in.f a0_0 l0_1 l0_2 a1 = some true by unfold net_in.f; rw [if_pos (by omega), show decide (a1 < (l0_1.length : Int)) = true from decide_eq_true c2p])
  clear c1 c2
  by_cases hm : l0_1.length < 1000000
  rotate_left
  · rw [if_neg hm] at h; cases h
  rw [if_pos hm] at h
  simp only [Option.some.injEq, Prod.mk.injEq] at h
  obtain ⟨rfl, rfl, rfl, rfl, rfl, rfl⟩ := h
  have HCL := Aside0.mk (show api_Gram_26.f l0_1 = some l0_1 by unfold api_Gram_26.f; rw [Option.bind_some, if_pos (by simp; omega)]; rfl)
  have HM := Aside0.mk hm
  clear hm
  obtain ⟨n, hn⟩ : ∃ n, n = a1.toNat := ⟨_, rfl⟩
  have Hna := Aside0.mk (show a1 = (n : Int) by omega)
  have hnl : n < l0_1.length := by omega
  have hn6 : a1 < 1000000 := by have := HM.out; omega
  rw [← hn]
  clear hn
  obtain ⟨ad, AE, cE, rfl, hx0, hx1, hlE, FE⟩ := ndbl.elem F1 a1 c1p c2p
  have Hx0 := Aside0.mk hx0
  have Hx1 := Aside0.mk hx1
  have p : (0 ≤ a1) = True := eq_true c1p
  have q : (a1 < (l0_1.length : Int)) = True := eq_true c2p
  clear hx0 hx1 c2p
  have c_0_0 : W0.cell? ⟨w.heap.size, 0, none⟩ = some (.int .i64 a0_0) := (blk_cell B0 0).trans rfl
  have c_0_1 : W0.cell? ⟨w.heap.size, 1, none⟩ = some (.slice (some ad) l0_1.length c0_1) := (blk_cell B0 1).trans rfl
  have c_0_2 : W0.cell? ⟨w.heap.size, 2, none⟩ = some (.slice A0_2 l0_2.length c0_2) := (blk_cell B0 2).trans rfl
  have z_0_0 := blk_frozen B0 0
  have z_0_1 := blk_frozen B0 1
  have z_0_2 := blk_frozen B0 2
  have c_1_0 : W0.cell? ⟨w.heap.size + 1, 0, none⟩ = some (.int .i64 0) := (blk_cell B1 0).trans rfl
  have c_1_1 : W0.cell? ⟨w.heap.size + 1, 1, none⟩ = some (.slice none 0 0) := (blk_cell B1 1).trans rfl
  have c_1_2 : W0.cell? ⟨w.heap.size + 1, 2, none⟩ = some (.slice none 0 0) := (blk_cell B1 2).trans rfl
  have z_1_0 := blk_frozen B1 0
  have z_1_1 := blk_frozen B1 1
  have z_1_2 := blk_frozen B1 2
  have c_2_0 : W0.cell? ⟨w.heap.size + 1 + 1, 0, none⟩ = some (.int .u32 0) := (blk_cell B2 0).trans rfl
  have c_2_1 : W0.cell? ⟨w.heap.size + 1 + 1, 1, none⟩ = some (.slice none 0 0) := (blk_cell B2 1).trans rfl
  have z_2_0 := blk_frozen B2 0
  have z_2_1 := blk_frozen B2 1
  have lt_ : w.heap.size + 1 + 1 < W0.heap.size := by have := hz0; omega
  go_enter Try.func14, Try.ntmps14
  go_wp2_with fail
  rw [← Hw0.out]
  clear Hw0
  clear c_0_0 c_0_1 c_0_2 z_0_0 z_0_1 z_0_2 c_1_0 c_1_1 c_1_2 z_1_0 z_1_1 z_1_2 c_2_0 c_2_1 z_2_0 z_2_1 lt_
  refine (net_in.calls a0_0 _ _ l0_1 _ _ l0_2 a1 true _ (Kd.F_now (Kd.F_below F1 hB0)) hc1 (Kd.F_now (Kd.F_below F2 hB0)) hc2 HI.out).mono ?_
  rintro e W1 ⟨rfl, hb1⟩
  have B102 := blk_below B0 hb1
  have B103 := blk_below B1 hb1
  have B104 := blk_below B2 hb1
  have hB101 := hB0.trans (hb1.mono hB0.size)
  have hz101 : w.heap.size + 1 + 1 + 1 ≤ W1.heap.size := Nat.le_trans hz0 hb1.size
  clear B0 B1 B2 hB0 hz0
  clear hb1
  have c_0_0 : W1.cell? ⟨w.heap.size, 0, none⟩ = some (.int .i64 a0_0) := (blk_cell B102 0).trans rfl
  have c_0_1 : W1.cell? ⟨w.heap.size, 1, none⟩ = some (.slice (some ad) l0_1.length c0_1) := (blk_cell B102 1).trans rfl
  have c_0_2 : W1.cell? ⟨w.heap.size, 2, none⟩ = some (.slice A0_2 l0_2.length c0_2) := (blk_cell B102 2).trans rfl
  have z_0_0 := blk_frozen B102 0
  have z_0_1 := blk_frozen B102 1
  have z_0_2 := blk_frozen B102 2
  have c_1_0 : W1.cell? ⟨w.heap.size + 1, 0, none⟩ = some (.int .i64 0) := (blk_cell B103 0).trans rfl
  have c_1_1 : W1.cell? ⟨w.heap.size + 1, 1, none⟩ = some (.slice none 0 0) := (blk_cell B103 1).trans rfl
  have c_1_2 : W1.cell? ⟨w.heap.size + 1, 2, none⟩ = some (.slice none 0 0) := (blk_cell B103 2).trans rfl
  have z_1_0 := blk_frozen B103 0
  have z_1_1 := blk_frozen B103 1
  have z_1_2 := blk_frozen B103 2
  have c_2_0 : W1.cell? ⟨w.heap.size + 1 + 1, 0, none⟩ = some (.int .u32 0) := (blk_cell B104 0).trans rfl
  have c_2_1 : W1.cell? ⟨w.heap.size + 1 + 1, 1, none⟩ = some (.slice none 0 0) := (blk_cell B104 1).trans rfl
  have z_2_0 := blk_frozen B104 0
  have z_2_1 := blk_frozen B104 1
  have lt_ : w.heap.size + 1 + 1 < W1.heap.size := by have := hz101; omega
  have ex0 := pw_cell_below hB101 Hx0.out
  have ex1 := pw_cell_below hB101 Hx1.out
  go_upto_region 4 with (fail)
  clear c_0_0 c_0_1 c_0_2 z_0_0 z_0_1 z_0_2 c_1_0 c_1_1 c_1_2 z_1_0 z_1_1 z_1_2 c_2_0 c_2_1 z_2_0 z_2_1 lt_
  clear ex0 ex1
  obtain ⟨g7, hg7⟩ : ∃ g_, g_ = W1.heap.size := ⟨_, rfl⟩
  have BN_ := (MapKept.heap_alloc W1 (.cells #[.int .u32 (rd_T29 l0_1 a1).f0, .slice AE (rd_T29 l0_1 a1).f1.length cE] 29)).1
  rw [← hg7] at BN_ ⊢
  have g7_lo : w.heap.size + 1 + 1 + 1 ≤ g7 := by rw [hg7]; exact hz101
  obtain ⟨W105, hW105⟩ : ∃ W_ : World, W_ = W1.alloc (.cells #[.int .u32 (rd_T29 l0_1 a1).f0, .slice AE (rd_T29 l0_1 a1).f1.length cE] 29) := ⟨_, rfl⟩
  rw [← hW105] at BN_ ⊢
  have hal_ : Below W1.heap.size W1 W105 := by rw [hW105]; exact below_alloc (Below.refl _ _) _
  have BM_ := BN_
  clear BN_ hW105 hg7
  have B107 := blk_below B102 hal_
  have B108 := blk_below B103 hal_
  have B109 := blk_below B104 hal_
  have hB106 := hB101.trans (hal_.mono hB101.size)
  have hz106 : w.heap.size + 1 + 1 + 1 ≤ W105.heap.size := Nat.le_trans hz101 hal_.size
  clear B102 B103 B104 hB101 hz101
  have B110 := BM_
  clear BM_ hal_
  have c_0_0 : W105.cell? ⟨w.heap.size, 0, none⟩ = some (.int .i64 a0_0) := (blk_cell B107 0).trans rfl
  have c_0_1 : W105.cell? ⟨w.heap.size, 1, none⟩ = some (.slice (some ad) l0_1.length c0_1) := (blk_cell B107 1).trans rfl
  have c_0_2 : W105.cell? ⟨w.heap.size, 2, none⟩ = some (.slice A0_2 l0_2.length c0_2) := (blk_cell B107 2).trans rfl
  have z_0_0 := blk_frozen B107 0
  have z_0_1 := blk_frozen B107 1
  have z_0_2 := blk_frozen B107 2
  have c_1_0 : W105.cell? ⟨w.heap.size + 1, 0, none⟩ = some (.int .i64 0) := (blk_cell B108 0).trans rfl
  have c_1_1 : W105.cell? ⟨w.heap.size + 1, 1, none⟩ = some (.slice none 0 0) := (blk_cell B108 1).trans rfl
  have c_1_2 : W105.cell? ⟨w.heap.size + 1, 2, none⟩ = some (.slice none 0 0) := (blk_cell B108 2).trans rfl
  have z_1_0 := blk_frozen B108 0
  have z_1_1 := blk_frozen B108 1
  have z_1_2 := blk_frozen B108 2
  have c_2_0 : W105.cell? ⟨w.heap.size + 1 + 1, 0, none⟩ = some (.int .u32 0) := (blk_cell B109 0).trans rfl
  have c_2_1 : W105.cell? ⟨w.heap.size + 1 + 1, 1, none⟩ = some (.slice none 0 0) := (blk_cell B109 1).trans rfl
  have z_2_0 := blk_frozen B109 0
  have z_2_1 := blk_frozen B109 1
  have c_3_0 : W105.cell? ⟨g7, 0, none⟩ = some (.int .u32 (rd_T29 l0_1 a1).f0) := (blk_cell B110 0).trans rfl
  have c_3_1 : W105.cell? ⟨g7, 1, none⟩ = some (.slice AE (rd_T29 l0_1 a1).f1.length cE) := (blk_cell B110 1).trans rfl
  have z_3_0 := blk_frozen B110 0
  have z_3_1 := blk_frozen B110 1
  have lt_ : w.heap.size + 1 + 1 < W105.heap.size := by have := hz106; omega
  go_wp2_with fail
  clear c_0_0 c_0_1 c_0_2 z_0_0 z_0_1 z_0_2 c_1_0 c_1_1 c_1_2 z_1_0 z_1_1 z_1_2 c_2_0 c_2_1 z_2_0 z_2_1 c_3_0 c_3_1 z_3_0 z_3_1 lt_
  have VA := Kd.V_mk (e := 29) (base := W105.heap.size) hc1 (Kd.F_below (Kd.F_bound F1) hB106)
  refine (api_Gram_26.calls (fun k => P0_1_ k ∧ k < w.heap.size) _ _ l0_1 l0_1 _ VA HCL.out).mono ?_
  rintro e W4 ⟨v4, rfl, hN4, hb4⟩
  clear VA
  obtain ⟨g8, c8, e8, hg8, _⟩ := Kd.N_form hN4 (by omega)
  subst e8
  have hb4z := hb4.size
  go_wp2_with fail
  refine (ndel.calls (w0 := W105) (base := W105.heap.size) hN4 hnl HM.out hb4 hb4z Hna.out).mono ?_
  rintro e W5 ⟨rfl, hN5, hb5⟩
  clear hN4 hb4 hb4z
  have U1 := Kd.V_mono (ok' := fun k => (P0_1_ k ∨ P0_2_ k) ∧ k < w.heap.size ∨ w.heap.size + 1 + 1 + 1 ≤ k) (Kd.N_V (base' := 0) hN5) (fun k hk => hk.elim (fun h => .inl ⟨.inl h.1, h.2⟩) (fun h => .inr (by have := hz106; omega)))
  clear hN5
  have e9 : l0_1.length - 1 = (l0_1.eraseIdx n).length := by rw [List.length_eraseIdx, if_pos hnl]
  rw [e9] at U1 ⊢
  have B112 := blk_below B107 hb5
  have B113 := blk_below B108 hb5
  have B114 := blk_below B109 hb5
  have B115 := blk_below B110 hb5
  have hB111 := hB106.trans (hb5.mono hB106.size)
  have hz111 : w.heap.size + 1 + 1 + 1 ≤ W5.heap.size := Nat.le_trans hz106 hb5.size
  clear B107 B108 B109 B110 hB106 hz106
  clear hb5
  have c_0_0 : W5.cell? ⟨w.heap.size, 0, none⟩ = some (.int .i64 a0_0) := (blk_cell B112 0).trans rfl
  have c_0_1 : W5.cell? ⟨w.heap.size, 1, none⟩ = some (.slice (some ad) l0_1.length c0_1) := (blk_cell B112 1).trans rfl
  have c_0_2 : W5.cell? ⟨w.heap.size, 2, none⟩ = some (.slice A0_2 l0_2.length c0_2) := (blk_cell B112 2).trans rfl
  have z_0_0 := blk_frozen B112 0
  have z_0_1 := blk_frozen B112 1
  have z_0_2 := blk_frozen B112 2
  have c_1_0 : W5.cell? ⟨w.heap.size + 1, 0, none⟩ = some (.int .i64 0) := (blk_cell B113 0).trans rfl
  have c_1_1 : W5.cell? ⟨w.heap.size + 1, 1, none⟩ = some (.slice none 0 0) := (blk_cell B113 1).trans rfl
  have c_1_2 : W5.cell? ⟨w.heap.size + 1, 2, none⟩ = some (.slice none 0 0) := (blk_cell B113 2).trans rfl
  have z_1_0 := blk_frozen B113 0
  have z_1_1 := blk_frozen B113 1
  have z_1_2 := blk_frozen B113 2
  have c_2_0 : W5.cell? ⟨w.heap.size + 1 + 1, 0, none⟩ = some (.int .u32 0) := (blk_cell B114 0).trans rfl
  have c_2_1 : W5.cell? ⟨w.heap.size + 1 + 1, 1, none⟩ = some (.slice none 0 0) := (blk_cell B114 1).trans rfl
  have z_2_0 := blk_frozen B114 0
  have z_2_1 := blk_frozen B114 1
  have c_3_0 : W5.cell? ⟨g7, 0, none⟩ = some (.int .u32 (rd_T29 l0_1 a1).f0) := (blk_cell B115 0).trans rfl
  have c_3_1 : W5.cell? ⟨g7, 1, none⟩ = some (.slice AE (rd_T29 l0_1 a1).f1.length cE) := (blk_cell B115 1).trans rfl
  have z_3_0 := blk_frozen B115 0
  have z_3_1 := blk_frozen B115 1
  have lt_ : w.heap.size + 1 + 1 < W5.heap.size := by have := hz111; omega
  go_upto_region 5 with (fail)
  clear c_0_0 c_0_1 c_0_2 z_0_0 z_0_1 z_0_2 c_1_0 c_1_1 c_1_2 z_1_0 z_1_1 z_1_2 c_2_0 c_2_1 z_2_0 z_2_1 c_3_0 c_3_1 z_3_0 z_3_1 lt_
  have n116 : w.heap.size + 1 ≠ w.heap.size := by omega
  have n117 : w.heap.size + 1 + 1 ≠ w.heap.size := by omega
  have n118 : g7 ≠ w.heap.size := by omega
  have n119 : ∀ k, ((P0_1_ k ∨ P0_2_ k) ∧ k < w.heap.size ∨ w.heap.size + 1 + 1 + 1 ≤ k) → k ≠ w.heap.size := fun k hk => by omega
  have n120 : w.heap.size ≤ w.heap.size := by omega
  have B122 := (blk_put (cs' := #[.int .i64 a0_0, .slice (some ⟨g8, 0, none⟩) (l0_1.eraseIdx n).length c8, .slice A0_2 l0_2.length c0_2]) B112 1 (.slice (some ⟨g8, 0, none⟩) (l0_1.eraseIdx n).length c8) rfl)
  have B123 := (blk_far (p := ⟨w.heap.size, 1, none⟩) B113 n116 (.slice (some ⟨g8, 0, none⟩) (l0_1.eraseIdx n).length c8))
  have B124 := (blk_far (p := ⟨w.heap.size, 1, none⟩) B114 n117 (.slice (some ⟨g8, 0, none⟩) (l0_1.eraseIdx n).length c8))
  have B125 := (blk_far (p := ⟨w.heap.size, 1, none⟩) B115 n118 (.slice (some ⟨g8, 0, none⟩) (l0_1.eraseIdx n).length c8))
  have V126 := (Kd.V_far (p := ⟨w.heap.size, 1, none⟩) U1 n119 (.slice (some ⟨g8, 0, none⟩) (l0_1.eraseIdx n).length c8))
  have hB127 := (below_set (g := w.heap.size) (j := 1) (v := .slice (some ⟨g8, 0, none⟩) (l0_1.eraseIdx n).length c8) hB111 n120)
  have hz128 : w.heap.size + 1 + 1 + 1 ≤ (W5.setCell ⟨w.heap.size, 1, none⟩ (.slice (some ⟨g8, 0, none⟩) (l0_1.eraseIdx n).length c8)).heap.size := by simpa [World.setCell] using hz111
  clear B112 B113 B114 B115 U1 hB111 hz111 n116 n117 n118 n119 n120
  obtain ⟨W121, hW121⟩ : ∃ W_ : World, W_ = (W5.setCell ⟨w.heap.size, 1, none⟩ (.slice (some ⟨g8, 0, none⟩) (l0_1.eraseIdx n).length c8)) := ⟨_, rfl⟩
  rw [← hW121] at B122 B123 B124 B125 V126 hB127 hz128 ⊢
  clear hW121
  refine start_ (n := 5) (S := fun w' => w'.cell? ⟨w.heap.size, 0, none⟩ = some (.int .i64 a0_0) ∧ w'.cell? ⟨w.heap.size, 1, none⟩ = some (.slice (some ⟨g8, 0, none⟩) (l0_1.eraseIdx n).length c8) ∧ w'.cell? ⟨w.heap.size, 2, none⟩ = some (.slice A0_2 l0_2.length c0_2) ∧ w'.cell? ⟨g7, 0, none⟩ = some (.int .u32 (rd_T29 l0_1 a1).f0) ∧ w'.cell? ⟨g7, 1, none⟩ = some (.slice AE (rd_T29 l0_1 a1).f1.length cE)) (ds := []) #[false, false, false, false, false] (by kernel_rfl) rfl rfl ⟨(blk_cell (blk_drew B122) 0).trans rfl, (blk_cell (blk_drew B122) 1).trans rfl, (blk_cell (blk_drew B122) 2).trans rfl, (blk_cell (blk_drew B125) 0).trans rfl, (blk_cell (blk_drew B125) 1).trans rfl⟩ (fun hHeld => ?_)
  obtain ⟨W129, hW129⟩ : ∃ W_ : World, W_ = W121.drew := ⟨_, rfl⟩
  rw [← hW129] at hHeld ⊢
  have hbd_ : Below W121.heap.size W121 W129 := by rw [hW129]; exact below_drew (Below.refl _ _)
  clear hW129
  have B131 := blk_below B122 hbd_
  have B132 := blk_below B123 hbd_
  have B133 := blk_below B124 hbd_
  have B134 := blk_below B125 hbd_
  have V135 := Kd.V_below V126 hbd_
  have hB130 := hB127.trans (hbd_.mono hB127.size)
  have hz130 : w.heap.size + 1 + 1 + 1 ≤ W129.heap.size := Nat.le_trans hz128 hbd_.size
  clear B122 B123 B124 B125 V126 hB127 hz128
  clear hbd_
  refine take_ (i := 0) (N := some 27) (v := ?_) (a' := ?_) #[true, false, false, false, false] rfl rfl (by kernel_rfl) (fun _ _ _ h => h) (Or.inl ⟨by rfl, ?_⟩) hHeld ?_ ?_
  rotate_left
  · rintro w' ⟨s0, s1, s2, s3, s4⟩
    go_simp
    with_reducible rfl
  rotate_left
  · simp only [Act.put, List.setIfInBounds_toArray, List.set_cons_zero, List.set_cons_succ, i64_w, i32_w]
    rfl
  refine take_ (i := 1) (N := some 28) (v := ?_) (a' := ?_) #[true, true, false, false, false] rfl rfl (by kernel_rfl) (fun _ _ _ h => h) (Or.inl ⟨by rfl, ?_⟩) hHeld ?_ ?_
  rotate_left
  · rintro w' ⟨s0, s1, s2, s3, s4⟩
    go_simp
    with_reducible rfl
  rotate_left
  · simp only [Act.put, List.setIfInBounds_toArray, List.set_cons_zero, List.set_cons_succ, i64_w, i32_w]
    rfl
  refine one_ (i := 2) (N := none) #[true, true, true, false, false] rfl rfl (by kernel_rfl) (by decide) (fun K hK => ?_)
  have c_1_0 : W129.cell? ⟨w.heap.size + 1, 0, none⟩ = some (.int .i64 0) := (blk_cell B132 0).trans rfl
  have c_1_1 : W129.cell? ⟨w.heap.size + 1, 1, none⟩ = some (.slice none 0 0) := (blk_cell B132 1).trans rfl
  have c_1_2 : W129.cell? ⟨w.heap.size + 1, 2, none⟩ = some (.slice none 0 0) := (blk_cell B132 2).trans rfl
  have z_1_0 := blk_frozen B132 0
  have z_1_1 := blk_frozen B132 1
  have z_1_2 := blk_frozen B132 2
  have lt_ : w.heap.size + 1 + 1 < W129.heap.size := by have := hz130; omega
  refine skip_ (w1 := ?_) (by rfl) rfl ?_ ?_
  rotate_left
  · go_simp
    rfl
  clear c_1_0 c_1_1 c_1_2 z_1_0 z_1_1 z_1_2 lt_
  have HKs := Aside0.mk hK
  clear hK
  have n136 : w.heap.size ≠ w.heap.size + 1 := by omega
  have n137 : w.heap.size + 1 + 1 ≠ w.heap.size + 1 := by omega
  have n138 : g7 ≠ w.heap.size + 1 := by omega
  have n139 : ∀ k, ((P0_1_ k ∨ P0_2_ k) ∧ k < w.heap.size ∨ w.heap.size + 1 + 1 + 1 ≤ k) → k ≠ w.heap.size + 1 := fun k hk => by omega
  have n140 : w.heap.size ≤ w.heap.size + 1 := by omega
  have B142 := (blk_put (cs' := #[.int .i64 a0_0, .slice (some ⟨g8, 0, none⟩) (l0_1.eraseIdx n).length c8, .slice A0_2 l0_2.length c0_2]) (blk_put (cs' := #[.int .i64 a0_0, .slice (some ⟨g8, 0, none⟩) (l0_1.eraseIdx n).length c8, .slice none 0 0]) (blk_put (cs' := #[.int .i64 a0_0, .slice none 0 0, .slice none 0 0]) B132 0 (.int .i64 a0_0) rfl) 1 (.slice (some ⟨g8, 0, none⟩) (l0_1.eraseIdx n).length c8) rfl) 2 (.slice A0_2 l0_2.length c0_2) rfl)
  have B143 := (blk_far (p := ⟨w.heap.size + 1, 2, none⟩) (blk_far (p := ⟨w.heap.size + 1, 1, none⟩) (blk_far (p := ⟨w.heap.size + 1, 0, none⟩) B131 n136 (.int .i64 a0_0)) n136 (.slice (some ⟨g8, 0, none⟩) (l0_1.eraseIdx n).length c8)) n136 (.slice A0_2 l0_2.length c0_2))
  have B144 := (blk_far (p := ⟨w.heap.size + 1, 2, none⟩) (blk_far (p := ⟨w.heap.size + 1, 1, none⟩) (blk_far (p := ⟨w.heap.size + 1, 0, none⟩) B133 n137 (.int .i64 a0_0)) n137 (.slice (some ⟨g8, 0, none⟩) (l0_1.eraseIdx n).length c8)) n137 (.slice A0_2 l0_2.length c0_2))
  have B145 := (blk_far (p := ⟨w.heap.size + 1, 2, none⟩) (blk_far (p := ⟨w.heap.size + 1, 1, none⟩) (blk_far (p := ⟨w.heap.size + 1, 0, none⟩) B134 n138 (.int .i64 a0_0)) n138 (.slice (some ⟨g8, 0, none⟩) (l0_1.eraseIdx n).length c8)) n138 (.slice A0_2 l0_2.length c0_2))
  have V146 := (Kd.V_far (p := ⟨w.heap.size + 1, 2, none⟩) (Kd.V_far (p := ⟨w.heap.size + 1, 1, none⟩) (Kd.V_far (p := ⟨w.heap.size + 1, 0, none⟩) V135 n139 (.int .i64 a0_0)) n139 (.slice (some ⟨g8, 0, none⟩) (l0_1.eraseIdx n).length c8)) n139 (.slice A0_2 l0_2.length c0_2))
  have hB147 := (below_set (g := w.heap.size + 1) (j := 2) (v := .slice A0_2 l0_2.length c0_2) (below_set (g := w.heap.size + 1) (j := 1) (v := .slice (some ⟨g8, 0, none⟩) (l0_1.eraseIdx n).length c8) (below_set (g := w.heap.size + 1) (j := 0) (v := .int .i64 a0_0) hB130 n140) n140) n140)
  have hz148 : w.heap.size + 1 + 1 + 1 ≤ (((W129.setCell ⟨w.heap.size + 1, 0, none⟩ (.int .i64 a0_0)).setCell ⟨w.heap.size + 1, 1, none⟩ (.slice (some ⟨g8, 0, none⟩) (l0_1.eraseIdx n).length c8)).setCell ⟨w.heap.size + 1, 2, none⟩ (.slice A0_2 l0_2.length c0_2)).heap.size := by simpa [World.setCell] using hz130
  clear B131 B132 B133 B134 V135 hB130 hz130 n136 n137 n138 n139 n140
  obtain ⟨W141, hW141⟩ : ∃ W_ : World, W_ = (((W129.setCell ⟨w.heap.size + 1, 0, none⟩ (.int .i64 a0_0)).setCell ⟨w.heap.size + 1, 1, none⟩ (.slice (some ⟨g8, 0, none⟩) (l0_1.eraseIdx n).length c8)).setCell ⟨w.heap.size + 1, 2, none⟩ (.slice A0_2 l0_2.length c0_2)) := ⟨_, rfl⟩
  rw [← hW141] at B142 B143 B144 B145 V146 hB147 hz148 ⊢
  clear hW141
  refine HKs.out.out _ _ ⟨(blk_cell B143 0).trans rfl, (blk_cell B143 1).trans rfl, (blk_cell B143 2).trans rfl, (blk_cell B145 0).trans rfl, (blk_cell B145 1).trans rfl⟩ (fun hHeld => ?_)
  clear HKs K
  refine one_ (i := 3) (N := none) #[true, true, true, true, false] rfl rfl (by kernel_rfl) (by decide) (fun K hK => ?_)
  have c_2_0 : W141.cell? ⟨w.heap.size + 1 + 1, 0, none⟩ = some (.int .u32 0) := (blk_cell B144 0).trans rfl
  have c_2_1 : W141.cell? ⟨w.heap.size + 1 + 1, 1, none⟩ = some (.slice none 0 0) := (blk_cell B144 1).trans rfl
  have z_2_0 := blk_frozen B144 0
  have z_2_1 := blk_frozen B144 1
  have lt_ : w.heap.size + 1 + 1 < W141.heap.size := by have := hz148; omega
  refine skip_ (w1 := ?_) (by rfl) rfl ?_ ?_
  rotate_left
  · go_simp
    rfl
  clear c_2_0 c_2_1 z_2_0 z_2_1 lt_
  have HKs := Aside0.mk hK
  clear hK
  have n149 : w.heap.size ≠ w.heap.size + 1 + 1 := by omega
  have n150 : w.heap.size + 1 ≠ w.heap.size + 1 + 1 := by omega
  have n151 : g7 ≠ w.heap.size + 1 + 1 := by omega
  have n152 : ∀ k, ((P0_1_ k ∨ P0_2_ k) ∧ k < w.heap.size ∨ w.heap.size + 1 + 1 + 1 ≤ k) → k ≠ w.heap.size + 1 + 1 := fun k hk => by omega
  have n153 : w.heap.size ≤ w.heap.size + 1 + 1 := by omega
  have B155 := (blk_put (cs' := #[.int .u32 (rd_T29 l0_1 a1).f0, .slice AE (rd_T29 l0_1 a1).f1.length cE]) (blk_put (cs' := #[.int .u32 (rd_T29 l0_1 a1).f0, .slice none 0 0]) B144 0 (.int .u32 (rd_T29 l0_1 a1).f0) rfl) 1 (.slice AE (rd_T29 l0_1 a1).f1.length cE) rfl)
  have B156 := (blk_far (p := ⟨w.heap.size + 1 + 1, 1, none⟩) (blk_far (p := ⟨w.heap.size + 1 + 1, 0, none⟩) B143 n149 (.int .u32 (rd_T29 l0_1 a1).f0)) n149 (.slice AE (rd_T29 l0_1 a1).f1.length cE))
  have B157 := (blk_far (p := ⟨w.heap.size + 1 + 1, 1, none⟩) (blk_far (p := ⟨w.heap.size + 1 + 1, 0, none⟩) B142 n150 (.int .u32 (rd_T29 l0_1 a1).f0)) n150 (.slice AE (rd_T29 l0_1 a1).f1.length cE))
  have B158 := (blk_far (p := ⟨w.heap.size + 1 + 1, 1, none⟩) (blk_far (p := ⟨w.heap.size + 1 + 1, 0, none⟩) B145 n151 (.int .u32 (rd_T29 l0_1 a1).f0)) n151 (.slice AE (rd_T29 l0_1 a1).f1.length cE))
  have V159 := (Kd.V_far (p := ⟨w.heap.size + 1 + 1, 1, none⟩) (Kd.V_far (p := ⟨w.heap.size + 1 + 1, 0, none⟩) V146 n152 (.int .u32 (rd_T29 l0_1 a1).f0)) n152 (.slice AE (rd_T29 l0_1 a1).f1.length cE))
  have hB160 := (below_set (g := w.heap.size + 1 + 1) (j := 1) (v := .slice AE (rd_T29 l0_1 a1).f1.length cE) (below_set (g := w.heap.size + 1 + 1) (j := 0) (v := .int .u32 (rd_T29 l0_1 a1).f0) hB147 n153) n153)
  have hz161 : w.heap.size + 1 + 1 + 1 ≤ ((W141.setCell ⟨w.heap.size + 1 + 1, 0, none⟩ (.int .u32 (rd_T29 l0_1 a1).f0)).setCell ⟨w.heap.size + 1 + 1, 1, none⟩ (.slice AE (rd_T29 l0_1 a1).f1.length cE)).heap.size := by simpa [World.setCell] using hz148
  clear B143 B142 B144 B145 V146 hB147 hz148 n149 n150 n151 n152 n153
  obtain ⟨W154, hW154⟩ : ∃ W_ : World, W_ = ((W141.setCell ⟨w.heap.size + 1 + 1, 0, none⟩ (.int .u32 (rd_T29 l0_1 a1).f0)).setCell ⟨w.heap.size + 1 + 1, 1, none⟩ (.slice AE (rd_T29 l0_1 a1).f1.length cE)) := ⟨_, rfl⟩
  rw [← hW154] at B155 B156 B157 B158 V159 hB160 hz161 ⊢
  clear hW154
  refine HKs.out.out _ _ ⟨(blk_cell B156 0).trans rfl, (blk_cell B156 1).trans rfl, (blk_cell B156 2).trans rfl, (blk_cell B158 0).trans rfl, (blk_cell B158 1).trans rfl⟩ (fun hHeld => ?_)
  clear HKs K
  refine pure_ (i := 4) (N := some 6) (v := ?_) (a' := ?_) #[true, true, true, true, true] rfl rfl (by kernel_rfl) (fun _ _ _ h => h) (Or.inl ⟨by rfl, ?_⟩) ?_ ?_
  rotate_left
  · intro w'
    go_simp
    with_reducible rfl
  rotate_left
  · simp only [Act.put, List.setIfInBounds_toArray, List.set_cons_zero, List.set_cons_succ, i64_w, i32_w]
    rfl
  refine done_ (by kernel_rfl) ?_
  go_wp2
  have V2 := Kd.V_mk (e := 27) (base := 0) hc2 (nrow.mv (R := fun k => P0_1_ k ∨ P0_2_ k) (m := w.heap.size + 1 + 1 + 1) hB160 (fun k hk => .inr hk) F2)
  have V4 := Kd.V_mk (e := 26) (base := 0) hlE (nrow.mv (R := fun k => P0_1_ k ∨ P0_2_ k) (m := w.heap.size + 1 + 1 + 1) hB160 (fun k hk => .inl hk) FE)
  refine bodyPost_ret (results_list (rs := [.cell 4 25, .cell 5 29, .tmp 6]) rfl (by simp) (.cell (w.heap.size + 1) 25 #[.int .i64 a0_0, .slice (some ⟨g8, 0, none⟩) (l0_1.eraseIdx n).length c8, .slice A0_2 l0_2.length c0_2] (0, 0) _ rfl B157 Try.underlying25 rfl (by kernel_rfl) (.cell (w.heap.size + 1 + 1) 29 #[.int .u32 (rd_T29 l0_1 a1).f0, .slice AE (rd_T29 l0_1 a1).f1.length cE] (0, 0) _ rfl B155 Try.underlying29 rfl (by kernel_rfl) (.tmp .nil)))) rfl ?_
  exact ⟨_, _, _, rfl, Kd.V_mono V159 (fun k hk => hk.elim (fun h => .inl h.1) (fun h => .inr (by omega))), Kd.V_mono V2 (fun k hk => hk.elim (fun h => .inl h.1) (fun h => .inr (by omega))), Kd.V_mono V4 (fun k hk => hk.elim (fun h => .inl h.1) (fun h => .inr (by omega))), hB160⟩

/-! ### net_Double: function 16 -/
def net_Double.f (a0_0 : Int) (l0_1 : List (S29)) (l0_2 : List (List Int)) (a1 : Int) : Option (Int × (List (S29)) × (List (List Int)) × Int) := if a1 < 0 then some (a0_0, l0_1, l0_2, 1) else if a1 ≥ (l0_1.length : Int) then some (a0_0, l0_1, l0_2, 1) else if wrap64 (a0_0 - (l0_1.length : Int)) < 1 then some (a0_0, l0_1, l0_2, 10) else if l0_1.length < 1000000 then some (a0_0, l0_1 ++ [rd_T29 l0_1 a1], l0_2, 0) else none
set_option maxHeartbeats 8000000 in
set_option maxRecDepth 100000 in
theorem net_Double.calls (a0_0 : Int) (P0_1_ : Nat → Prop) (A0_1 : Option Addr) (c0_1 : Nat) (l0_1 : List (S29)) (P0_2_ : Nat → Prop) (A0_2 : Option Addr) (c0_2 : Nat) (l0_2 : List (List Int)) (a1 : Int) (r1 : Int) (r2 : List (S29)) (r3 : List (List Int)) (r4 : Int) (w : World) (hs0_1 : Kd.V k29 29 w w.heap.size (fun k_ => P0_1_ k_) (.slice A0_1 l0_1.length c0_1) l0_1) (hs0_2 : Kd.V (Kd.slice 26 (Kd.int .u32)) 27 w w.heap.size (fun k_ => P0_2_ k_) (.slice A0_2 l0_2.length c0_2) l0_2) (h : net_Double.f a0_0 l0_1 l0_2 a1 = some (r1, r2, r3, r4)) :
    Calls Try.prog 16 #[.agg #[.int .i64 a0_0, .slice A0_1 l0_1.length c0_1, .slice A0_2 l0_2.length c0_2], .int .i64 a1] w fun e w' => ∃ v1_ v2_ : Value, e = .returned (.tuple #[.agg #[.int .i64 r1, v1_, v2_], .int .i64 r4]) ∧ Kd.V k29 29 w' w.heap.size (fun k_ => ((P0_1_ k_ ∨ P0_2_ k_) ∨ w.heap.size ≤ k_)) v1_ r2 ∧ Kd.V (Kd.slice 26 (Kd.int .u32)) 27 w' w.heap.size (fun k_ => ((P0_1_ k_ ∨ P0_2_ k_) ∨ w.heap.size ≤ k_)) v2_ r3 ∧ Below w.heap.size w w' := by
  unfold net_Double.f at h
  obtain ⟨W0, hW0⟩ : ∃ W0 : World, W0 = (w.alloc (.cells #[.int .i64 a0_0, .slice A0_1 l0_1.length c0_1, .slice A0_2 l0_2.length c0_2] 25)).alloc (.cells #[.int .i64 0, .slice none 0 0, .slice none 0 0] 25) := ⟨_, rfl⟩
  have B0 : W0.heap[w.heap.size]? = some (.cells #[.int .i64 a0_0, .slice A0_1 l0_1.length c0_1, .slice A0_2 l0_2.length c0_2] 25 (0, 0)) := by rw [hW0]; refine blk_alloc ?_ _; have := (MapKept.heap_alloc (w) (.cells #[.int .i64 a0_0, .slice A0_1 l0_1.length c0_1, .slice A0_2 l0_2.length c0_2] 25)).1; simpa using this
  have B1 : W0.heap[w.heap.size + 1]? = some (.cells #[.int .i64 0, .slice none 0 0, .slice none 0 0] 25 (0, 0)) := by rw [hW0]; have := (MapKept.heap_alloc ((w.alloc (.cells #[.int .i64 a0_0, .slice A0_1 l0_1.length c0_1, .slice A0_2 l0_2.length c0_2] 25))) (.cells #[.int .i64 0, .slice none 0 0, .slice none 0 0] 25)).1; simpa using this
  have hB0 : Below w.heap.size w W0 := by rw [hW0]; exact below_alloc (below_alloc (Below.refl _ _) _) _
  have hz0 : w.heap.size + 1 + 1 ≤ W0.heap.size := by rw [hW0]; simp
  have Hw0 := Aside0.mk hW0
  clear hW0
  obtain ⟨_, hc1, F1⟩ := Kd.V_at hs0_1
  obtain ⟨_, hc2, F2⟩ := Kd.V_at hs0_2
  clear hs0_1 hs0_2
  obtain ⟨t, ht⟩ : ∃ t, t = wrap64 (a0_0 - (l0_1.length : Int)) := ⟨_, rfl⟩
  rw [← ht] at h
  have HT := Aside0.mk (show net_Free.f a0_0 l0_1 l0_2 = some t by rw [ht]; rfl)
  clear ht
  by_cases c1 : a1 < 0
  · rw [if_pos c1] at h
    simp only [Option.some.injEq, Prod.mk.injEq] at h
    obtain ⟨rfl, rfl, rfl, rfl⟩ := h
    have HI := Aside0.mk (show net_in.f a0_0 l0_1 l0_2 a1 = some false by unfold net_in.f; rw [if_neg (by omega)])
    clear c1
    have c_0_0 : W0.cell? ⟨w.heap.size, 0, none⟩ = some (.int .i64 a0_0) := (blk_cell B0 0).trans rfl
    have c_0_1 : W0.cell? ⟨w.heap.size, 1, none⟩ = some (.slice A0_1 l0_1.length c0_1) := (blk_cell B0 1).trans rfl
    have c_0_2 : W0.cell? ⟨w.heap.size, 2, none⟩ = some (.slice A0_2 l0_2.length c0_2) := (blk_cell B0 2).trans rfl
    have z_0_0 := blk_frozen B0 0
    have z_0_1 := blk_frozen B0 1
    have z_0_2 := blk_frozen B0 2
    have c_1_0 : W0.cell? ⟨w.heap.size + 1, 0, none⟩ = some (.int .i64 0) := (blk_cell B1 0).trans rfl
    have c_1_1 : W0.cell? ⟨w.heap.size + 1, 1, none⟩ = some (.slice none 0 0) := (blk_cell B1 1).trans rfl
    have c_1_2 : W0.cell? ⟨w.heap.size + 1, 2, none⟩ = some (.slice none 0 0) := (blk_cell B1 2).trans rfl
    have z_1_0 := blk_frozen B1 0
    have z_1_1 := blk_frozen B1 1
    have z_1_2 := blk_frozen B1 2
    have lt_ : w.heap.size + 1 < W0.heap.size := by have := hz0; omega
    go_enter Try.func16, Try.ntmps16
    go_wp2_with fail
    rw [← Hw0.out]
    clear Hw0
    clear c_0_0 c_0_1 c_0_2 z_0_0 z_0_1 z_0_2 c_1_0 c_1_1 c_1_2 z_1_0 z_1_1 z_1_2 lt_
    refine (net_in.calls a0_0 _ _ l0_1 _ _ l0_2 a1 false _ (Kd.F_now (Kd.F_below F1 hB0)) hc1 (Kd.F_now (Kd.F_below F2 hB0)) hc2 HI.out).mono ?_
    rintro e W1 ⟨rfl, hb1⟩
    have B102 := blk_below B0 hb1
    have B103 := blk_below B1 hb1
    have hB101 := hB0.trans (hb1.mono hB0.size)
    have hz101 : w.heap.size + 1 + 1 ≤ W1.heap.size := Nat.le_trans hz0 hb1.size
    clear B0 B1 hB0 hz0
    clear hb1
    have V1 := Kd.V_mk (e := 29) (base := 0) hc1 (nrow.mv (R := fun k => P0_1_ k ∨ P0_2_ k) (m := w.heap.size + 1 + 1) hB101 (fun k hk => .inl hk) F1)
    have V2 := Kd.V_mk (e := 27) (base := 0) hc2 (nrow.mv (R := fun k => P0_1_ k ∨ P0_2_ k) (m := w.heap.size + 1 + 1) hB101 (fun k hk => .inr hk) F2)
    have c_0_0 : W1.cell? ⟨w.heap.size, 0, none⟩ = some (.int .i64 a0_0) := (blk_cell B102 0).trans rfl
    have c_0_1 : W1.cell? ⟨w.heap.size, 1, none⟩ = some (.slice A0_1 l0_1.length c0_1) := (blk_cell B102 1).trans rfl
    have c_0_2 : W1.cell? ⟨w.heap.size, 2, none⟩ = some (.slice A0_2 l0_2.length c0_2) := (blk_cell B102 2).trans rfl
    have z_0_0 := blk_frozen B102 0
    have z_0_1 := blk_frozen B102 1
    have z_0_2 := blk_frozen B102 2
    have c_1_0 : W1.cell? ⟨w.heap.size + 1, 0, none⟩ = some (.int .i64 0) := (blk_cell B103 0).trans rfl
    have c_1_1 : W1.cell? ⟨w.heap.size + 1, 1, none⟩ = some (.slice none 0 0) := (blk_cell B103 1).trans rfl
    have c_1_2 : W1.cell? ⟨w.heap.size + 1, 2, none⟩ = some (.slice none 0 0) := (blk_cell B103 2).trans rfl
    have z_1_0 := blk_frozen B103 0
    have z_1_1 := blk_frozen B103 1
    have z_1_2 := blk_frozen B103 2
    have lt_ : w.heap.size + 1 < W1.heap.size := by have := hz101; omega
    go_wp2
    clear c_0_0 c_0_1 c_0_2 z_0_0 z_0_1 z_0_2 c_1_0 c_1_1 c_1_2 z_1_0 z_1_1 z_1_2 lt_
    have n104 : w.heap.size ≠ w.heap.size + 1 := by omega
    have n105 : ∀ k, ((P0_1_ k ∨ P0_2_ k) ∧ k < w.heap.size ∨ w.heap.size + 1 + 1 ≤ k) → k ≠ w.heap.size + 1 := fun k hk => by omega
    have n106 : w.heap.size ≤ w.heap.size + 1 := by omega
    have B108 := (blk_put (cs' := #[.int .i64 a0_0, .slice A0_1 l0_1.length c0_1, .slice A0_2 l0_2.length c0_2]) (blk_put (cs' := #[.int .i64 a0_0, .slice A0_1 l0_1.length c0_1, .slice none 0 0]) (blk_put (cs' := #[.int .i64 a0_0, .slice none 0 0, .slice none 0 0]) B103 0 (.int .i64 a0_0) rfl) 1 (.slice A0_1 l0_1.length c0_1) rfl) 2 (.slice A0_2 l0_2.length c0_2) rfl)
    have B109 := (blk_far (p := ⟨w.heap.size + 1, 2, none⟩) (blk_far (p := ⟨w.heap.size + 1, 1, none⟩) (blk_far (p := ⟨w.heap.size + 1, 0, none⟩) B102 n104 (.int .i64 a0_0)) n104 (.slice A0_1 l0_1.length c0_1)) n104 (.slice A0_2 l0_2.length c0_2))
    have V110 := (Kd.V_far (p := ⟨w.heap.size + 1, 2, none⟩) (Kd.V_far (p := ⟨w.heap.size + 1, 1, none⟩) (Kd.V_far (p := ⟨w.heap.size + 1, 0, none⟩) V1 n105 (.int .i64 a0_0)) n105 (.slice A0_1 l0_1.length c0_1)) n105 (.slice A0_2 l0_2.length c0_2))
    have V111 := (Kd.V_far (p := ⟨w.heap.size + 1, 2, none⟩) (Kd.V_far (p := ⟨w.heap.size + 1, 1, none⟩) (Kd.V_far (p := ⟨w.heap.size + 1, 0, none⟩) V2 n105 (.int .i64 a0_0)) n105 (.slice A0_1 l0_1.length c0_1)) n105 (.slice A0_2 l0_2.length c0_2))
    have hB112 := (below_set (g := w.heap.size + 1) (j := 2) (v := .slice A0_2 l0_2.length c0_2) (below_set (g := w.heap.size + 1) (j := 1) (v := .slice A0_1 l0_1.length c0_1) (below_set (g := w.heap.size + 1) (j := 0) (v := .int .i64 a0_0) hB101 n106) n106) n106)
    have hz113 : w.heap.size + 1 + 1 ≤ (((W1.setCell ⟨w.heap.size + 1, 0, none⟩ (.int .i64 a0_0)).setCell ⟨w.heap.size + 1, 1, none⟩ (.slice A0_1 l0_1.length c0_1)).setCell ⟨w.heap.size + 1, 2, none⟩ (.slice A0_2 l0_2.length c0_2)).heap.size := by simpa [World.setCell] using hz101
    clear B102 B103 V1 V2 hB101 hz101 n104 n105 n106
    obtain ⟨W107, hW107⟩ : ∃ W_ : World, W_ = (((W1.setCell ⟨w.heap.size + 1, 0, none⟩ (.int .i64 a0_0)).setCell ⟨w.heap.size + 1, 1, none⟩ (.slice A0_1 l0_1.length c0_1)).setCell ⟨w.heap.size + 1, 2, none⟩ (.slice A0_2 l0_2.length c0_2)) := ⟨_, rfl⟩
    rw [← hW107] at B108 B109 V110 V111 hB112 hz113 ⊢
    clear hW107
    refine bodyPost_ret (results_ct rfl _ _ (w.heap.size + 1) 25 #[.int .i64 a0_0, .slice A0_1 l0_1.length c0_1, .slice A0_2 l0_2.length c0_2] (0, 0) _ rfl B108 Try.underlying25 rfl (by kernel_rfl)) rfl ?_
    exact ⟨_, _, rfl, Kd.V_mono V110 (fun k hk => hk.elim (fun h => .inl h.1) (fun h => .inr (by omega))), Kd.V_mono V111 (fun k hk => hk.elim (fun h => .inl h.1) (fun h => .inr (by omega))), hB112⟩
  rw [if_neg c1] at h
  have c1p : 0 ≤ a1 := by omega
  by_cases c2 : a1 ≥ (l0_1.length : Int)
  · rw [if_pos c2] at h
    simp only [Option.some.injEq, Prod.mk.injEq] at h
    obtain ⟨rfl, rfl, rfl, rfl⟩ := h
    have HI := Aside0.mk (show net_in.f a0_0 l0_1 l0_2 a1 = some false by unfold net_in.f; rw [if_pos (by omega), show decide (a1 < (l0_1.length : Int)) = false from decide_eq_false (by omega)])
    clear c1 c2 c1p
    have c_0_0 : W0.cell? ⟨w.heap.size, 0, none⟩ = some (.int .i64 a0_0) := (blk_cell B0 0).trans rfl
    have c_0_1 : W0.cell? ⟨w.heap.size, 1, none⟩ = some (.slice A0_1 l0_1.length c0_1) := (blk_cell B0 1).trans rfl
    have c_0_2 : W0.cell? ⟨w.heap.size, 2, none⟩ = some (.slice A0_2 l0_2.length c0_2) := (blk_cell B0 2).trans rfl
    have z_0_0 := blk_frozen B0 0
    have z_0_1 := blk_frozen B0 1
    have z_0_2 := blk_frozen B0 2
    have c_1_0 : W0.cell? ⟨w.heap.size + 1, 0, none⟩ = some (.int .i64 0) := (blk_cell B1 0).trans rfl
    have c_1_1 : W0.cell? ⟨w.heap.size + 1, 1, none⟩ = some (.slice none 0 0) := (blk_cell B1 1).trans rfl
    have c_1_2 : W0.cell? ⟨w.heap.size + 1, 2, none⟩ = some (.slice none 0 0) := (blk_cell B1 2).trans rfl
    have z_1_0 := blk_frozen B1 0
    have z_1_1 := blk_frozen B1 1
    have z_1_2 := blk_frozen B1 2
    have lt_ : w.heap.size + 1 < W0.heap.size := by have := hz0; omega
    go_enter Try.func16, Try.ntmps16
    go_wp2_with fail
    rw [← Hw0.out]
    clear Hw0
    clear c_0_0 c_0_1 c_0_2 z_0_0 z_0_1 z_0_2 c_1_0 c_1_1 c_1_2 z_1_0 z_1_1 z_1_2 lt_
    refine (net_in.calls a0_0 _ _ l0_1 _ _ l0_2 a1 false _ (Kd.F_now (Kd.F_below F1 hB0)) hc1 (Kd.F_now (Kd.F_below F2 hB0)) hc2 HI.out).mono ?_
    rintro e W1 ⟨rfl, hb1⟩
    have B102 := blk_below B0 hb1
    have B103 := blk_below B1 hb1
    have hB101 := hB0.trans (hb1.mono hB0.size)
    have hz101 : w.heap.size + 1 + 1 ≤ W1.heap.size := Nat.le_trans hz0 hb1.size
    clear B0 B1 hB0 hz0
    clear hb1
    have V1 := Kd.V_mk (e := 29) (base := 0) hc1 (nrow.mv (R := fun k => P0_1_ k ∨ P0_2_ k) (m := w.heap.size + 1 + 1) hB101 (fun k hk => .inl hk) F1)
    have V2 := Kd.V_mk (e := 27) (base := 0) hc2 (nrow.mv (R := fun k => P0_1_ k ∨ P0_2_ k) (m := w.heap.size + 1 + 1) hB101 (fun k hk => .inr hk) F2)
    have c_0_0 : W1.cell? ⟨w.heap.size, 0, none⟩ = some (.int .i64 a0_0) := (blk_cell B102 0).trans rfl
    have c_0_1 : W1.cell? ⟨w.heap.size, 1, none⟩ = some (.slice A0_1 l0_1.length c0_1) := (blk_cell B102 1).trans rfl
    have c_0_2 : W1.cell? ⟨w.heap.size, 2, none⟩ = some (.slice A0_2 l0_2.length c0_2) := (blk_cell B102 2).trans rfl
    have z_0_0 := blk_frozen B102 0
    have z_0_1 := blk_frozen B102 1
    have z_0_2 := blk_frozen B102 2
    have c_1_0 : W1.cell? ⟨w.heap.size + 1, 0, none⟩ = some (.int .i64 0) := (blk_cell B103 0).trans rfl
    have c_1_1 : W1.cell? ⟨w.heap.size + 1, 1, none⟩ = some (.slice none 0 0) := (blk_cell B103 1).trans rfl
    have c_1_2 : W1.cell? ⟨w.heap.size + 1, 2, none⟩ = some (.slice none 0 0) := (blk_cell B103 2).trans rfl
    have z_1_0 := blk_frozen B103 0
    have z_1_1 := blk_frozen B103 1
    have z_1_2 := blk_frozen B103 2
    have lt_ : w.heap.size + 1 < W1.heap.size := by have := hz101; omega
    go_wp2
    clear c_0_0 c_0_1 c_0_2 z_0_0 z_0_1 z_0_2 c_1_0 c_1_1 c_1_2 z_1_0 z_1_1 z_1_2 lt_
    have n104 : w.heap.size ≠ w.heap.size + 1 := by omega
    have n105 : ∀ k, ((P0_1_ k ∨ P0_2_ k) ∧ k < w.heap.size ∨ w.heap.size + 1 + 1 ≤ k) → k ≠ w.heap.size + 1 := fun k hk => by omega
    have n106 : w.heap.size ≤ w.heap.size + 1 := by omega
    have B108 := (blk_put (cs' := #[.int .i64 a0_0, .slice A0_1 l0_1.length c0_1, .slice A0_2 l0_2.length c0_2]) (blk_put (cs' := #[.int .i64 a0_0, .slice A0_1 l0_1.length c0_1, .slice none 0 0]) (blk_put (cs' := #[.int .i64 a0_0, .slice none 0 0, .slice none 0 0]) B103 0 (.int .i64 a0_0) rfl) 1 (.slice A0_1 l0_1.length c0_1) rfl) 2 (.slice A0_2 l0_2.length c0_2) rfl)
    have B109 := (blk_far (p := ⟨w.heap.size + 1, 2, none⟩) (blk_far (p := ⟨w.heap.size + 1, 1, none⟩) (blk_far (p := ⟨w.heap.size + 1, 0, none⟩) B102 n104 (.int .i64 a0_0)) n104 (.slice A0_1 l0_1.length c0_1)) n104 (.slice A0_2 l0_2.length c0_2))
    have V110 := (Kd.V_far (p := ⟨w.heap.size + 1, 2, none⟩) (Kd.V_far (p := ⟨w.heap.size + 1, 1, none⟩) (Kd.V_far (p := ⟨w.heap.size + 1, 0, none⟩) V1 n105 (.int .i64 a0_0)) n105 (.slice A0_1 l0_1.length c0_1)) n105 (.slice A0_2 l0_2.length c0_2))
    have V111 := (Kd.V_far (p := ⟨w.heap.size + 1, 2, none⟩) (Kd.V_far (p := ⟨w.heap.size + 1, 1, none⟩) (Kd.V_far (p := ⟨w.heap.size + 1, 0, none⟩) V2 n105 (.int .i64 a0_0)) n105 (.slice A0_1 l0_1.length c0_1)) n105 (.slice A0_2 l0_2.length c0_2))
    have hB112 := (below_set (g := w.heap.size + 1) (j := 2) (v := .slice A0_2 l0_2.length c0_2) (below_set (g := w.heap.size + 1) (j := 1) (v := .slice A0_1 l0_1.length c0_1) (below_set (g := w.heap.size + 1) (j := 0) (v := .int .i64 a0_0) hB101 n106) n106) n106)
    have hz113 : w.heap.size + 1 + 1 ≤ (((W1.setCell ⟨w.heap.size + 1, 0, none⟩ (.int .i64 a0_0)).setCell ⟨w.heap.size + 1, 1, none⟩ (.slice A0_1 l0_1.length c0_1)).setCell ⟨w.heap.size + 1, 2, none⟩ (.slice A0_2 l0_2.length c0_2)).heap.size := by simpa [World.setCell] using hz101
    clear B102 B103 V1 V2 hB101 hz101 n104 n105 n106
    obtain ⟨W107, hW107⟩ : ∃ W_ : World, W_ = (((W1.setCell ⟨w.heap.size + 1, 0, none⟩ (.int .i64 a0_0)).setCell ⟨w.heap.size + 1, 1, none⟩ (.slice A0_1 l0_1.length c0_1)).setCell ⟨w.heap.size + 1, 2, none⟩ (.slice A0_2 l0_2.length c0_2)) := ⟨_, rfl⟩
    rw [← hW107] at B108 B109 V110 V111 hB112 hz113 ⊢
    clear hW107
    refine bodyPost_ret (results_ct rfl _ _ (w.heap.size + 1) 25 #[.int .i64 a0_0, .slice A0_1 l0_1.length c0_1, .slice A0_2 l0_2.length c0_2] (0, 0) _ rfl B108 Try.underlying25 rfl (by kernel_rfl)) rfl ?_
    exact ⟨_, _, rfl, Kd.V_mono V110 (fun k hk => hk.elim (fun h => .inl h.1) (fun h => .inr (by omega))), Kd.V_mono V111 (fun k hk => hk.elim (fun h => .inl h.1) (fun h => .inr (by omega))), hB112⟩
  rw [if_neg c2] at h
  have c2p : a1 < (l0_1.length : Int) := by omega
  have HI := Aside0.mk (show net_in.f a0_0 l0_1 l0_2 a1 = some true by unfold net_in.f; rw [if_pos (by omega), show decide (a1 < (l0_1.length : Int)) = true from decide_eq_true c2p])
  clear c1 c2
  by_cases c3 : t < 1
  · rw [if_pos c3] at h
    simp only [Option.some.injEq, Prod.mk.injEq] at h
    obtain ⟨rfl, rfl, rfl, rfl⟩ := h
    have c3b : decide (t < 1) = true := decide_eq_true c3
    clear c3 c1p c2p
    have c_0_0 : W0.cell? ⟨w.heap.size, 0, none⟩ = some (.int .i64 a0_0) := (blk_cell B0 0).trans rfl
    have c_0_1 : W0.cell? ⟨w.heap.size, 1, none⟩ = some (.slice A0_1 l0_1.length c0_1) := (blk_cell B0 1).trans rfl
    have c_0_2 : W0.cell? ⟨w.heap.size, 2, none⟩ = some (.slice A0_2 l0_2.length c0_2) := (blk_cell B0 2).trans rfl
    have z_0_0 := blk_frozen B0 0
    have z_0_1 := blk_frozen B0 1
    have z_0_2 := blk_frozen B0 2
    have c_1_0 : W0.cell? ⟨w.heap.size + 1, 0, none⟩ = some (.int .i64 0) := (blk_cell B1 0).trans rfl
    have c_1_1 : W0.cell? ⟨w.heap.size + 1, 1, none⟩ = some (.slice none 0 0) := (blk_cell B1 1).trans rfl
    have c_1_2 : W0.cell? ⟨w.heap.size + 1, 2, none⟩ = some (.slice none 0 0) := (blk_cell B1 2).trans rfl
    have z_1_0 := blk_frozen B1 0
    have z_1_1 := blk_frozen B1 1
    have z_1_2 := blk_frozen B1 2
    have lt_ : w.heap.size + 1 < W0.heap.size := by have := hz0; omega
    go_enter Try.func16, Try.ntmps16
    go_wp2_with fail
    rw [← Hw0.out]
    clear Hw0
    clear c_0_0 c_0_1 c_0_2 z_0_0 z_0_1 z_0_2 c_1_0 c_1_1 c_1_2 z_1_0 z_1_1 z_1_2 lt_
    refine (net_in.calls a0_0 _ _ l0_1 _ _ l0_2 a1 true _ (Kd.F_now (Kd.F_below F1 hB0)) hc1 (Kd.F_now (Kd.F_below F2 hB0)) hc2 HI.out).mono ?_
    rintro e W1 ⟨rfl, hb1⟩
    have B102 := blk_below B0 hb1
    have B103 := blk_below B1 hb1
    have hB101 := hB0.trans (hb1.mono hB0.size)
    have hz101 : w.heap.size + 1 + 1 ≤ W1.heap.size := Nat.le_trans hz0 hb1.size
    clear B0 B1 hB0 hz0
    clear hb1
    have c_0_0 : W1.cell? ⟨w.heap.size, 0, none⟩ = some (.int .i64 a0_0) := (blk_cell B102 0).trans rfl
    have c_0_1 : W1.cell? ⟨w.heap.size, 1, none⟩ = some (.slice A0_1 l0_1.length c0_1) := (blk_cell B102 1).trans rfl
    have c_0_2 : W1.cell? ⟨w.heap.size, 2, none⟩ = some (.slice A0_2 l0_2.length c0_2) := (blk_cell B102 2).trans rfl
    have z_0_0 := blk_frozen B102 0
    have z_0_1 := blk_frozen B102 1
    have z_0_2 := blk_frozen B102 2
    have c_1_0 : W1.cell? ⟨w.heap.size + 1, 0, none⟩ = some (.int .i64 0) := (blk_cell B103 0).trans rfl
    have c_1_1 : W1.cell? ⟨w.heap.size + 1, 1, none⟩ = some (.slice none 0 0) := (blk_cell B103 1).trans rfl
    have c_1_2 : W1.cell? ⟨w.heap.size + 1, 2, none⟩ = some (.slice none 0 0) := (blk_cell B103 2).trans rfl
    have z_1_0 := blk_frozen B103 0
    have z_1_1 := blk_frozen B103 1
    have z_1_2 := blk_frozen B103 2
    have lt_ : w.heap.size + 1 < W1.heap.size := by have := hz101; omega
    go_wp2_with fail
    clear c_0_0 c_0_1 c_0_2 z_0_0 z_0_1 z_0_2 c_1_0 c_1_1 c_1_2 z_1_0 z_1_1 z_1_2 lt_
    refine (net_Free.calls a0_0 _ _ l0_1 _ _ l0_2 t _ (Kd.F_now (Kd.F_below F1 hB101)) hc1 (Kd.F_now (Kd.F_below F2 hB101)) hc2 HT.out).mono ?_
    rintro e W2 ⟨rfl, hb2⟩
    have B105 := blk_below B102 hb2
    have B106 := blk_below B103 hb2
    have hB104 := hB101.trans (hb2.mono hB101.size)
    have hz104 : w.heap.size + 1 + 1 ≤ W2.heap.size := Nat.le_trans hz101 hb2.size
    clear B102 B103 hB101 hz101
    clear hb2
    have V1 := Kd.V_mk (e := 29) (base := 0) hc1 (nrow.mv (R := fun k => P0_1_ k ∨ P0_2_ k) (m := w.heap.size + 1 + 1) hB104 (fun k hk => .inl hk) F1)
    have V2 := Kd.V_mk (e := 27) (base := 0) hc2 (nrow.mv (R := fun k => P0_1_ k ∨ P0_2_ k) (m := w.heap.size + 1 + 1) hB104 (fun k hk => .inr hk) F2)
    have c_0_0 : W2.cell? ⟨w.heap.size, 0, none⟩ = some (.int .i64 a0_0) := (blk_cell B105 0).trans rfl
    have c_0_1 : W2.cell? ⟨w.heap.size, 1, none⟩ = some (.slice A0_1 l0_1.length c0_1) := (blk_cell B105 1).trans rfl
    have c_0_2 : W2.cell? ⟨w.heap.size, 2, none⟩ = some (.slice A0_2 l0_2.length c0_2) := (blk_cell B105 2).trans rfl
    have z_0_0 := blk_frozen B105 0
    have z_0_1 := blk_frozen B105 1
    have z_0_2 := blk_frozen B105 2
    have c_1_0 : W2.cell? ⟨w.heap.size + 1, 0, none⟩ = some (.int .i64 0) := (blk_cell B106 0).trans rfl
    have c_1_1 : W2.cell? ⟨w.heap.size + 1, 1, none⟩ = some (.slice none 0 0) := (blk_cell B106 1).trans rfl
    have c_1_2 : W2.cell? ⟨w.heap.size + 1, 2, none⟩ = some (.slice none 0 0) := (blk_cell B106 2).trans rfl
    have z_1_0 := blk_frozen B106 0
    have z_1_1 := blk_frozen B106 1
    have z_1_2 := blk_frozen B106 2
    have lt_ : w.heap.size + 1 < W2.heap.size := by have := hz104; omega
    go_wp2
    clear c_0_0 c_0_1 c_0_2 z_0_0 z_0_1 z_0_2 c_1_0 c_1_1 c_1_2 z_1_0 z_1_1 z_1_2 lt_
    have n107 : w.heap.size ≠ w.heap.size + 1 := by omega
    have n108 : ∀ k, ((P0_1_ k ∨ P0_2_ k) ∧ k < w.heap.size ∨ w.heap.size + 1 + 1 ≤ k) → k ≠ w.heap.size + 1 := fun k hk => by omega
    have n109 : w.heap.size ≤ w.heap.size + 1 := by omega
    have B111 := (blk_put (cs' := #[.int .i64 a0_0, .slice A0_1 l0_1.length c0_1, .slice A0_2 l0_2.length c0_2]) (blk_put (cs' := #[.int .i64 a0_0, .slice A0_1 l0_1.length c0_1, .slice none 0 0]) (blk_put (cs' := #[.int .i64 a0_0, .slice none 0 0, .slice none 0 0]) B106 0 (.int .i64 a0_0) rfl) 1 (.slice A0_1 l0_1.length c0_1) rfl) 2 (.slice A0_2 l0_2.length c0_2) rfl)
    have B112 := (blk_far (p := ⟨w.heap.size + 1, 2, none⟩) (blk_far (p := ⟨w.heap.size + 1, 1, none⟩) (blk_far (p := ⟨w.heap.size + 1, 0, none⟩) B105 n107 (.int .i64 a0_0)) n107 (.slice A0_1 l0_1.length c0_1)) n107 (.slice A0_2 l0_2.length c0_2))
    have V113 := (Kd.V_far (p := ⟨w.heap.size + 1, 2, none⟩) (Kd.V_far (p := ⟨w.heap.size + 1, 1, none⟩) (Kd.V_far (p := ⟨w.heap.size + 1, 0, none⟩) V1 n108 (.int .i64 a0_0)) n108 (.slice A0_1 l0_1.length c0_1)) n108 (.slice A0_2 l0_2.length c0_2))
    have V114 := (Kd.V_far (p := ⟨w.heap.size + 1, 2, none⟩) (Kd.V_far (p := ⟨w.heap.size + 1, 1, none⟩) (Kd.V_far (p := ⟨w.heap.size + 1, 0, none⟩) V2 n108 (.int .i64 a0_0)) n108 (.slice A0_1 l0_1.length c0_1)) n108 (.slice A0_2 l0_2.length c0_2))
    have hB115 := (below_set (g := w.heap.size + 1) (j := 2) (v := .slice A0_2 l0_2.length c0_2) (below_set (g := w.heap.size + 1) (j := 1) (v := .slice A0_1 l0_1.length c0_1) (below_set (g := w.heap.size + 1) (j := 0) (v := .int .i64 a0_0) hB104 n109) n109) n109)
    have hz116 : w.heap.size + 1 + 1 ≤ (((W2.setCell ⟨w.heap.size + 1, 0, none⟩ (.int .i64 a0_0)).setCell ⟨w.heap.size + 1, 1, none⟩ (.slice A0_1 l0_1.length c0_1)).setCell ⟨w.heap.size + 1, 2, none⟩ (.slice A0_2 l0_2.length c0_2)).heap.size := by simpa [World.setCell] using hz104
    clear B105 B106 V1 V2 hB104 hz104 n107 n108 n109
    obtain ⟨W110, hW110⟩ : ∃ W_ : World, W_ = (((W2.setCell ⟨w.heap.size + 1, 0, none⟩ (.int .i64 a0_0)).setCell ⟨w.heap.size + 1, 1, none⟩ (.slice A0_1 l0_1.length c0_1)).setCell ⟨w.heap.size + 1, 2, none⟩ (.slice A0_2 l0_2.length c0_2)) := ⟨_, rfl⟩
    rw [← hW110] at B111 B112 V113 V114 hB115 hz116 ⊢
    clear hW110
    refine bodyPost_ret (results_ct rfl _ _ (w.heap.size + 1) 25 #[.int .i64 a0_0, .slice A0_1 l0_1.length c0_1, .slice A0_2 l0_2.length c0_2] (0, 0) _ rfl B111 Try.underlying25 rfl (by kernel_rfl)) rfl ?_
    exact ⟨_, _, rfl, Kd.V_mono V113 (fun k hk => hk.elim (fun h => .inl h.1) (fun h => .inr (by omega))), Kd.V_mono V114 (fun k hk => hk.elim (fun h => .inl h.1) (fun h => .inr (by omega))), hB115⟩
  rw [if_neg c3] at h
  have c3b : decide (t < 1) = false := decide_eq_false c3
  clear c3
  by_cases hm : l0_1.length < 1000000
  rotate_left
  · rw [if_neg hm] at h; cases h
  rw [if_pos hm] at h
  simp only [Option.some.injEq, Prod.mk.injEq] at h
  obtain ⟨rfl, rfl, rfl, rfl⟩ := h
  have HW := Aside0.mk (show net_with.f a0_0 l0_1 l0_2 (rd_T29 l0_1 a1).f0 (rd_T29 l0_1 a1).f1 = some (a0_0, l0_1 ++ [rd_T29 l0_1 a1], l0_2) by unfold net_with.f; rw [if_pos hm])
  clear hm
  obtain ⟨ad, AE, cE, rfl, hx0, hx1, hlE, FE⟩ := ndbl.elem F1 a1 c1p c2p
  have Hx0 := Aside0.mk hx0
  have Hx1 := Aside0.mk hx1
  have p : (0 ≤ a1) = True := eq_true c1p
  have q : (a1 < (l0_1.length : Int)) = True := eq_true c2p
  clear hx0 hx1 c1p c2p
  have c_0_0 : W0.cell? ⟨w.heap.size, 0, none⟩ = some (.int .i64 a0_0) := (blk_cell B0 0).trans rfl
  have c_0_1 : W0.cell? ⟨w.heap.size, 1, none⟩ = some (.slice (some ad) l0_1.length c0_1) := (blk_cell B0 1).trans rfl
  have c_0_2 : W0.cell? ⟨w.heap.size, 2, none⟩ = some (.slice A0_2 l0_2.length c0_2) := (blk_cell B0 2).trans rfl
  have z_0_0 := blk_frozen B0 0
  have z_0_1 := blk_frozen B0 1
  have z_0_2 := blk_frozen B0 2
  have c_1_0 : W0.cell? ⟨w.heap.size + 1, 0, none⟩ = some (.int .i64 0) := (blk_cell B1 0).trans rfl
  have c_1_1 : W0.cell? ⟨w.heap.size + 1, 1, none⟩ = some (.slice none 0 0) := (blk_cell B1 1).trans rfl
  have c_1_2 : W0.cell? ⟨w.heap.size + 1, 2, none⟩ = some (.slice none 0 0) := (blk_cell B1 2).trans rfl
  have z_1_0 := blk_frozen B1 0
  have z_1_1 := blk_frozen B1 1
  have z_1_2 := blk_frozen B1 2
  have lt_ : w.heap.size + 1 < W0.heap.size := by have := hz0; omega
  go_enter Try.func16, Try.ntmps16
  go_wp2_with fail
  rw [← Hw0.out]
  clear Hw0
  clear c_0_0 c_0_1 c_0_2 z_0_0 z_0_1 z_0_2 c_1_0 c_1_1 c_1_2 z_1_0 z_1_1 z_1_2 lt_
  refine (net_in.calls a0_0 _ _ l0_1 _ _ l0_2 a1 true _ (Kd.F_now (Kd.F_below F1 hB0)) hc1 (Kd.F_now (Kd.F_below F2 hB0)) hc2 HI.out).mono ?_
  rintro e W1 ⟨rfl, hb1⟩
  have B102 := blk_below B0 hb1
  have B103 := blk_below B1 hb1
  have hB101 := hB0.trans (hb1.mono hB0.size)
  have hz101 : w.heap.size + 1 + 1 ≤ W1.heap.size := Nat.le_trans hz0 hb1.size
  clear B0 B1 hB0 hz0
  clear hb1
  have c_0_0 : W1.cell? ⟨w.heap.size, 0, none⟩ = some (.int .i64 a0_0) := (blk_cell B102 0).trans rfl
  have c_0_1 : W1.cell? ⟨w.heap.size, 1, none⟩ = some (.slice (some ad) l0_1.length c0_1) := (blk_cell B102 1).trans rfl
  have c_0_2 : W1.cell? ⟨w.heap.size, 2, none⟩ = some (.slice A0_2 l0_2.length c0_2) := (blk_cell B102 2).trans rfl
  have z_0_0 := blk_frozen B102 0
  have z_0_1 := blk_frozen B102 1
  have z_0_2 := blk_frozen B102 2
  have c_1_0 : W1.cell? ⟨w.heap.size + 1, 0, none⟩ = some (.int .i64 0) := (blk_cell B103 0).trans rfl
  have c_1_1 : W1.cell? ⟨w.heap.size + 1, 1, none⟩ = some (.slice none 0 0) := (blk_cell B103 1).trans rfl
  have c_1_2 : W1.cell? ⟨w.heap.size + 1, 2, none⟩ = some (.slice none 0 0) := (blk_cell B103 2).trans rfl
  have z_1_0 := blk_frozen B103 0
  have z_1_1 := blk_frozen B103 1
  have z_1_2 := blk_frozen B103 2
  have lt_ : w.heap.size + 1 < W1.heap.size := by have := hz101; omega
  go_wp2_with fail
  clear c_0_0 c_0_1 c_0_2 z_0_0 z_0_1 z_0_2 c_1_0 c_1_1 c_1_2 z_1_0 z_1_1 z_1_2 lt_
  refine (net_Free.calls a0_0 _ _ l0_1 _ _ l0_2 t _ (Kd.F_now (Kd.F_below F1 hB101)) hc1 (Kd.F_now (Kd.F_below F2 hB101)) hc2 HT.out).mono ?_
  rintro e W2 ⟨rfl, hb2⟩
  have B105 := blk_below B102 hb2
  have B106 := blk_below B103 hb2
  have hB104 := hB101.trans (hb2.mono hB101.size)
  have hz104 : w.heap.size + 1 + 1 ≤ W2.heap.size := Nat.le_trans hz101 hb2.size
  clear B102 B103 hB101 hz101
  clear hb2
  have c_0_0 : W2.cell? ⟨w.heap.size, 0, none⟩ = some (.int .i64 a0_0) := (blk_cell B105 0).trans rfl
  have c_0_1 : W2.cell? ⟨w.heap.size, 1, none⟩ = some (.slice (some ad) l0_1.length c0_1) := (blk_cell B105 1).trans rfl
  have c_0_2 : W2.cell? ⟨w.heap.size, 2, none⟩ = some (.slice A0_2 l0_2.length c0_2) := (blk_cell B105 2).trans rfl
  have z_0_0 := blk_frozen B105 0
  have z_0_1 := blk_frozen B105 1
  have z_0_2 := blk_frozen B105 2
  have c_1_0 : W2.cell? ⟨w.heap.size + 1, 0, none⟩ = some (.int .i64 0) := (blk_cell B106 0).trans rfl
  have c_1_1 : W2.cell? ⟨w.heap.size + 1, 1, none⟩ = some (.slice none 0 0) := (blk_cell B106 1).trans rfl
  have c_1_2 : W2.cell? ⟨w.heap.size + 1, 2, none⟩ = some (.slice none 0 0) := (blk_cell B106 2).trans rfl
  have z_1_0 := blk_frozen B106 0
  have z_1_1 := blk_frozen B106 1
  have z_1_2 := blk_frozen B106 2
  have lt_ : w.heap.size + 1 < W2.heap.size := by have := hz104; omega
  go_upto_region 5 with (fail)
  clear c_0_0 c_0_1 c_0_2 z_0_0 z_0_1 z_0_2 c_1_0 c_1_1 c_1_2 z_1_0 z_1_1 z_1_2 lt_
  refine start_ (n := 9) (S := fun w' => w'.cell? ⟨w.heap.size, 0, none⟩ = some (.int .i64 a0_0) ∧ w'.cell? ⟨w.heap.size, 1, none⟩ = some (.slice (some ad) l0_1.length c0_1) ∧ w'.cell? ⟨w.heap.size, 2, none⟩ = some (.slice A0_2 l0_2.length c0_2) ∧ w'.cell? (ad.add (a1.toNat * 2)) = some (.int .u32 (rd_T29 l0_1 a1).f0) ∧ w'.cell? ⟨(ad.add (a1.toNat * 2)).block, (ad.add (a1.toNat * 2)).off + 1, none⟩ = some (.slice AE (rd_T29 l0_1 a1).f1.length cE)) (ds := [7]) #[false, false, false, false, false, false, false, false, false] (by kernel_rfl) rfl rfl ⟨(blk_cell (blk_drew B105) 0).trans rfl, (blk_cell (blk_drew B105) 1).trans rfl, (blk_cell (blk_drew B105) 2).trans rfl, pw_cell_below (below_drew hB104) Hx0.out, pw_cell_below (below_drew hB104) Hx1.out⟩ (fun hHeld => ?_)
  obtain ⟨W107, hW107⟩ : ∃ W_ : World, W_ = W2.drew := ⟨_, rfl⟩
  rw [← hW107] at hHeld ⊢
  have hbd_ : Below W2.heap.size W2 W107 := by rw [hW107]; exact below_drew (Below.refl _ _)
  clear hW107
  have B109 := blk_below B105 hbd_
  have B110 := blk_below B106 hbd_
  have hB108 := hB104.trans (hbd_.mono hB104.size)
  have hz108 : w.heap.size + 1 + 1 ≤ W107.heap.size := Nat.le_trans hz104 hbd_.size
  clear B105 B106 hB104 hz104
  clear hbd_
  refine take_ (i := 0) (N := some 17) (v := ?_) (a' := ?_) #[true, false, false, false, false, false, false, false, false] rfl rfl (by kernel_rfl) (fun _ _ _ h => h) (Or.inl ⟨by rfl, ?_⟩) hHeld ?_ ?_
  rotate_left
  · rintro w' ⟨s0, s1, s2, s3, s4⟩
    go_simp
    with_reducible rfl
  rotate_left
  · simp only [Act.put, List.setIfInBounds_toArray, List.set_cons_zero, List.set_cons_succ, i64_w, i32_w]
    rfl
  refine pure_ (i := 1) (N := some 18) (v := ?_) (a' := ?_) #[true, true, false, false, false, false, false, false, false] rfl rfl (by kernel_rfl) (fun _ _ _ h => h) (Or.inl ⟨by rfl, ?_⟩) ?_ ?_
  rotate_left
  · intro w'
    go_simp
    with_reducible rfl
  rotate_left
  · simp only [Act.put, List.setIfInBounds_toArray, List.set_cons_zero, List.set_cons_succ, i64_w, i32_w]
    rfl
  refine take_ (i := 2) (N := some 19) (v := ?_) (a' := ?_) #[true, true, true, false, false, false, false, false, false] rfl rfl (by kernel_rfl) (fun _ _ _ h => h) (Or.inl ⟨by rfl, ?_⟩) hHeld ?_ ?_
  rotate_left
  · rintro w' ⟨s0, s1, s2, s3, s4⟩
    go_simp
    with_reducible rfl
  rotate_left
  · simp only [Act.put, List.setIfInBounds_toArray, List.set_cons_zero, List.set_cons_succ, i64_w, i32_w]
    rfl
  refine pure_ (i := 3) (N := some 20) (v := ?_) (a' := ?_) #[true, true, true, true, false, false, false, false, false] rfl rfl (by kernel_rfl) (fun _ _ _ h => h) (Or.inl ⟨by rfl, ?_⟩) ?_ ?_
  rotate_left
  · intro w'
    go_simp
    with_reducible rfl
  rotate_left
  · simp only [Act.put, List.setIfInBounds_toArray, List.set_cons_zero, List.set_cons_succ, i64_w, i32_w]
    rfl
  refine pure_ (i := 4) (N := some 21) (v := ?_) (a' := ?_) #[true, true, true, true, true, false, false, false, false] rfl rfl (by kernel_rfl) (fun _ _ _ h => h) (Or.inl ⟨by rfl, ?_⟩) ?_ ?_
  rotate_left
  · intro w'
    go_simp
    with_reducible rfl
  rotate_left
  · simp only [Act.put, List.setIfInBounds_toArray, List.set_cons_zero, List.set_cons_succ, i64_w, i32_w]
    rfl
  refine take_ (i := 5) (N := some 22) (v := ?_) (a' := ?_) #[true, true, true, true, true, true, false, false, false] rfl rfl (by kernel_rfl) (fun _ _ _ h => h) (Or.inl ⟨by rfl, ?_⟩) hHeld ?_ ?_
  rotate_left
  · rintro w' ⟨s0, s1, s2, s3, s4⟩
    go_simp
    with_reducible rfl
  rotate_left
  · simp only [Act.put, List.setIfInBounds_toArray, List.set_cons_zero, List.set_cons_succ, i64_w, i32_w]
    rfl
  refine one_ (i := 6) (N := some 23) #[true, true, true, true, true, true, true, false, false] rfl rfl (by kernel_rfl) (by decide) (fun K hK => ?_)
  refine goes_ Try.func22 (by kernel_rfl) rfl #[.agg #[.int .i64 a0_0, .slice (some ad) l0_1.length c0_1, .slice A0_2 l0_2.length c0_2], .agg #[.int .u32 (rd_T29 l0_1 a1).f0, .slice AE (rd_T29 l0_1 a1).f1.length cE]] (by rfl) rfl rfl (by (try simp only [List.map_toArray, List.map_cons, List.map_nil]); first | done | rfl) ?_
  have VA := Kd.V_mk (e := 29) (base := W107.heap.size) hc1 (Kd.F_below (Kd.F_bound F1) hB108)
  have VB := Kd.V_mk (e := 27) (base := W107.heap.size) hc2 (Kd.F_below (Kd.F_bound F2) hB108)
  have VC := Kd.V_mk (e := 26) (base := W107.heap.size) hlE (Kd.F_below (Kd.F_bound FE) hB108)
  refine (net_with.calls a0_0 (fun k => P0_1_ k ∧ k < w.heap.size) _ _ l0_1 (fun k => P0_2_ k ∧ k < w.heap.size) _ _ l0_2 (rd_T29 l0_1 a1).f0 (fun k => P0_1_ k ∧ k < w.heap.size) _ _ (rd_T29 l0_1 a1).f1 a0_0 (l0_1 ++ [rd_T29 l0_1 a1]) l0_2 _ VA VB VC HW.out).mono ?_
  rintro e W5 ⟨v1, v2, rfl, hv1, hv2, hb2⟩
  clear VA VB VC
  refine ⟨_, rfl, ?_⟩
  have U1 := Kd.V_mono (ok' := fun k => (P0_1_ k ∨ P0_2_ k) ∧ k < w.heap.size ∨ w.heap.size + 1 + 1 ≤ k) hv1 (fun k hk => hk.elim (fun h => .inl (h.elim (fun h => ⟨.inl h.1, h.2⟩) (fun h => h.elim (fun h => ⟨.inr h.1, h.2⟩) (fun h => ⟨.inl h.1, h.2⟩)))) (fun h => .inr (by have := hz108; omega)))
  have U2 := Kd.V_mono (ok' := fun k => (P0_1_ k ∨ P0_2_ k) ∧ k < w.heap.size ∨ w.heap.size + 1 + 1 ≤ k) hv2 (fun k hk => hk.elim (fun h => .inl (h.elim (fun h => ⟨.inl h.1, h.2⟩) (fun h => h.elim (fun h => ⟨.inr h.1, h.2⟩) (fun h => ⟨.inl h.1, h.2⟩)))) (fun h => .inr (by have := hz108; omega)))
  clear hv1 hv2
  obtain ⟨A5, c5, e5⟩ := Kd.V_slice U1
  rw [show (l0_1 ++ [rd_T29 l0_1 a1]).length = l0_1.length + 1 by simp] at e5
  subst e5
  obtain ⟨A6, c6, e6⟩ := Kd.V_slice U2
  subst e6
  have B112 := blk_below B109 hb2
  have B113 := blk_below B110 hb2
  have hB111 := hB108.trans (hb2.mono hB108.size)
  have hz111 : w.heap.size + 1 + 1 ≤ W5.heap.size := Nat.le_trans hz108 hb2.size
  clear B109 B110 hB108 hz108
  clear hb2
  refine hK.out _ _ ⟨(blk_cell B112 0).trans rfl, (blk_cell B112 1).trans rfl, (blk_cell B112 2).trans rfl, pw_cell_below hB111 Hx0.out, pw_cell_below hB111 Hx1.out⟩ (fun hHeld => ?_)
  clear hK K
  refine norm_ (a' := ?_) ?_ ?_
  rotate_left
  · show Act.put _ (some 23) _ = _
    simp only [Act.put, List.setIfInBounds_toArray, List.set_cons_zero, List.set_cons_succ, i64_w, i32_w]
    rfl
  refine last_ (i := 7) (N := none) #[true, true, true, true, true, true, true, true, false] rfl rfl (by kernel_rfl) (by decide) (fun K hK => ?_)
  have c_1_0 : W5.cell? ⟨w.heap.size + 1, 0, none⟩ = some (.int .i64 0) := (blk_cell B113 0).trans rfl
  have c_1_1 : W5.cell? ⟨w.heap.size + 1, 1, none⟩ = some (.slice none 0 0) := (blk_cell B113 1).trans rfl
  have c_1_2 : W5.cell? ⟨w.heap.size + 1, 2, none⟩ = some (.slice none 0 0) := (blk_cell B113 2).trans rfl
  have z_1_0 := blk_frozen B113 0
  have z_1_1 := blk_frozen B113 1
  have z_1_2 := blk_frozen B113 2
  have lt_ : w.heap.size + 1 < W5.heap.size := by have := hz111; omega
  refine skip_ (w1 := ?_) (by rfl) rfl ?_ ?_
  rotate_left
  · go_simp
    rfl
  clear c_1_0 c_1_1 c_1_2 z_1_0 z_1_1 z_1_2 lt_
  have HKs := Aside0.mk hK
  clear hK
  have n114 : w.heap.size ≠ w.heap.size + 1 := by omega
  have n115 : ∀ k, ((P0_1_ k ∨ P0_2_ k) ∧ k < w.heap.size ∨ w.heap.size + 1 + 1 ≤ k) → k ≠ w.heap.size + 1 := fun k hk => by omega
  have n116 : w.heap.size ≤ w.heap.size + 1 := by omega
  have B118 := (blk_put (cs' := #[.int .i64 a0_0, .slice A5 (l0_1.length + 1) c5, .slice A6 l0_2.length c6]) (blk_put (cs' := #[.int .i64 a0_0, .slice A5 (l0_1.length + 1) c5, .slice none 0 0]) (blk_put (cs' := #[.int .i64 a0_0, .slice none 0 0, .slice none 0 0]) B113 0 (.int .i64 a0_0) rfl) 1 (.slice A5 (l0_1.length + 1) c5) rfl) 2 (.slice A6 l0_2.length c6) rfl)
  have B119 := (blk_far (p := ⟨w.heap.size + 1, 2, none⟩) (blk_far (p := ⟨w.heap.size + 1, 1, none⟩) (blk_far (p := ⟨w.heap.size + 1, 0, none⟩) B112 n114 (.int .i64 a0_0)) n114 (.slice A5 (l0_1.length + 1) c5)) n114 (.slice A6 l0_2.length c6))
  have V120 := (Kd.V_far (p := ⟨w.heap.size + 1, 2, none⟩) (Kd.V_far (p := ⟨w.heap.size + 1, 1, none⟩) (Kd.V_far (p := ⟨w.heap.size + 1, 0, none⟩) U1 n115 (.int .i64 a0_0)) n115 (.slice A5 (l0_1.length + 1) c5)) n115 (.slice A6 l0_2.length c6))
  have V121 := (Kd.V_far (p := ⟨w.heap.size + 1, 2, none⟩) (Kd.V_far (p := ⟨w.heap.size + 1, 1, none⟩) (Kd.V_far (p := ⟨w.heap.size + 1, 0, none⟩) U2 n115 (.int .i64 a0_0)) n115 (.slice A5 (l0_1.length + 1) c5)) n115 (.slice A6 l0_2.length c6))
  have hB122 := (below_set (g := w.heap.size + 1) (j := 2) (v := .slice A6 l0_2.length c6) (below_set (g := w.heap.size + 1) (j := 1) (v := .slice A5 (l0_1.length + 1) c5) (below_set (g := w.heap.size + 1) (j := 0) (v := .int .i64 a0_0) hB111 n116) n116) n116)
  have hz123 : w.heap.size + 1 + 1 ≤ (((W5.setCell ⟨w.heap.size + 1, 0, none⟩ (.int .i64 a0_0)).setCell ⟨w.heap.size + 1, 1, none⟩ (.slice A5 (l0_1.length + 1) c5)).setCell ⟨w.heap.size + 1, 2, none⟩ (.slice A6 l0_2.length c6)).heap.size := by simpa [World.setCell] using hz111
  clear B112 B113 U1 U2 hB111 hz111 n114 n115 n116
  obtain ⟨W117, hW117⟩ : ∃ W_ : World, W_ = (((W5.setCell ⟨w.heap.size + 1, 0, none⟩ (.int .i64 a0_0)).setCell ⟨w.heap.size + 1, 1, none⟩ (.slice A5 (l0_1.length + 1) c5)).setCell ⟨w.heap.size + 1, 2, none⟩ (.slice A6 l0_2.length c6)) := ⟨_, rfl⟩
  rw [← hW117] at B118 B119 V120 V121 hB122 hz123 ⊢
  clear hW117
  refine HKs.out.out _ _ ?_
  clear HKs K
  refine pure_ (i := 8) (N := some 5) (v := ?_) (a' := ?_) #[true, true, true, true, true, true, true, true, true] rfl rfl (by kernel_rfl) (fun _ _ _ h => h) (Or.inl ⟨by rfl, ?_⟩) ?_ ?_
  rotate_left
  · intro w'
    go_simp
    with_reducible rfl
  rotate_left
  · simp only [Act.put, List.setIfInBounds_toArray, List.set_cons_zero, List.set_cons_succ, i64_w, i32_w]
    rfl
  refine done_ (by kernel_rfl) ?_
  go_wp2
  refine bodyPost_ret (results_ct rfl _ _ (w.heap.size + 1) 25 #[.int .i64 a0_0, .slice A5 (l0_1.length + 1) c5, .slice A6 l0_2.length c6] (0, 0) _ rfl B118 Try.underlying25 rfl (by kernel_rfl)) rfl ?_
  exact ⟨_, _, rfl, Kd.V_mono V120 (fun k hk => hk.elim (fun h => .inl h.1) (fun h => .inr (by omega))), Kd.V_mono V121 (fun k hk => hk.elim (fun h => .inl h.1) (fun h => .inr (by omega))), hB122⟩

/-! ### chamberlainref01_Same: function 21 -/
def chamberlainref01_Same.l0 : Nat → List Int → List Int → Int → Option (Bool)
  | 0, _, _, _ => none
  | k + 1, x0, x1, x5 => if x5 < (x0.length : Int) then (if 0 ≤ x5 then (if x5 < (x1.length : Int) then (if (rd x0 x5) = (rd x1 x5) then (chamberlainref01_Same.l0 k x0 x1 (wrap64 (x5 + 1))) else (some false)) else (none)) else (none)) else (some true)
def chamberlainref01_Same.f (k : Nat) (l0 : List Int) (l1 : List Int) : Option (Bool) := if (l0.length : Int) = (l1.length : Int) then (chamberlainref01_Same.l0 k l0 l1 0) else (some false)
theorem chamberlainref01_Same.mono_l : ∀ k, (∀ y0 y1 y2, LeO (chamberlainref01_Same.l0 k y0 y1 y2) (chamberlainref01_Same.l0 (k + 1) y0 y1 y2))
  | 0 => fun _ _ _ r h => by simp [chamberlainref01_Same.l0] at h
  | k + 1 => by
    have ih0 := chamberlainref01_Same.mono_l k
    · intro y0 y1 y2
      unfold chamberlainref01_Same.l0
      repeat' first
      | (with_reducible exact ih0 _ _ _)
      | (with_reducible exact LeO.refl _)
      | (with_reducible exact LeO.none _)
      | (with_reducible refine LeO.ite ?_ ?_)
      | (with_reducible refine LeO.bind ?_ (fun _ => ?_))
      | exact ih0 _ _ _
      | exact LeO.none _
      | refine LeO.ite ?_ ?_
      | refine LeO.bind ?_ (fun _ => ?_)
theorem chamberlainref01_Same.mono : ∀ a0 a1 k, LeO (chamberlainref01_Same.f k a0 a1) (chamberlainref01_Same.f (k + 1) a0 a1) := by
  intro a0 a1 k
  have ih0 := chamberlainref01_Same.mono_l k
  unfold chamberlainref01_Same.f
  repeat' first
      | (with_reducible exact ih0 _ _ _)
      | (with_reducible exact LeO.refl _)
      | (with_reducible exact LeO.none _)
      | (with_reducible refine LeO.ite ?_ ?_)
      | (with_reducible refine LeO.bind ?_ (fun _ => ?_))
      | exact ih0 _ _ _
      | exact LeO.none _
      | refine LeO.ite ?_ ?_
      | refine LeO.bind ?_ (fun _ => ?_)
set_option maxHeartbeats 8000000 in
set_option maxRecDepth 100000 in
theorem chamberlainref01_Same.calls (k : Nat) (A0 : Option Addr) (c0 : Nat) (l0 : List Int) (A1 : Option Addr) (c1 : Nat) (l1 : List Int) (r : Bool) (w : World) (hr0 : Kd.C (Kd.int .u32) w A0 l0.length l0) (hc0 : l0.length ≤ c0) (hr1 : Kd.C (Kd.int .u32) w A1 l1.length l1) (hc1 : l1.length ≤ c1) (h : chamberlainref01_Same.f k l0 l1 = some r) :
    Calls Try.prog 21 #[.slice A0 l0.length c0, .slice A1 l1.length c1] w fun e w' => e = .returned (.bool r) ∧ Drawn0 w w' := by
  have HR0 := Aside0.mk hr0
  have HC0 := Aside0.mk hc0
  clear hr0 hc0
  have HR1 := Aside0.mk hr1
  have HC1 := Aside0.mk hc1
  clear hr1 hc1
  have H : (if (l0.length : Int) = (l1.length : Int) then (chamberlainref01_Same.l0 k l0 l1 0) else (some false)) = some r := h
  clear h
  by_cases c3 : (l0.length : Int) = (l1.length : Int)
  · rw [if_pos c3] at H
    have c3b0 : ((l0.length : Int) == (l1.length : Int)) = true := beq_iff_eq.mpr c3
    have c3b1 : ((l0.length : Int) != (l1.length : Int)) = false := bne_eq_false_iff_eq.mpr c3
    have c3b2 : (l0.length == l1.length) = true := by first | simpa using c3 | (simp at c3 ⊢; omega)
    clear c3
    have H' := Aside0.mk H
    clear H
    go_enter Try.func21, Try.ntmps21
    go_wp2
    repeat (go_quiet (fail); try go_wp2)
    go_loopg [5] k (fun kq v5 w' => ∃ (x5_1 : Int), v5 = .int .i64 x5_1 ∧ Aside0 (chamberlainref01_Same.l0 kq l0 l1 x5_1 = some r) ∧ Aside0 (kq ≤ k) ∧ Drawn0 w w')
    case atStart => exact ⟨(0), (by first | rfl | (simp; done) | (simp [*]; done)), H', ⟨Nat.le_refl _⟩, by repeat (first | exact Drawn0.refl _ | apply Drawn0.step)⟩
    case round =>
      clear H'
      try clear c1
      try clear c2
      try clear p2
      try clear c3
      try clear c3b0
      try clear c3b1
      try clear c3b2
      obtain ⟨x5_1, rfl, HA, HK1, ⟨m1, rfl⟩⟩ := hrel
      cases gk with
      | zero => exact absurd HA.out (by simp [chamberlainref01_Same.l0])
      | succ k1 =>
        have H := HA.out
        clear HA
        simp only [chamberlainref01_Same.l0] at H
        by_cases c4 : x5_1 < (l0.length : Int)
        · rw [if_pos c4] at H
          have c4b0 : decide (x5_1 < (l0.length : Int)) = true := decide_eq_true c4
          clear c4
          by_cases c5 : 0 ≤ x5_1
          · rw [if_pos c5] at H
            have c5b0 : decide (0 ≤ x5_1) = true := decide_eq_true c5
            clear c5
            by_cases c6 : x5_1 < (l1.length : Int)
            · rw [if_pos c6] at H
              have c6b0 : decide (x5_1 < (l1.length : Int)) = true := decide_eq_true c6
              clear c6
              by_cases c7 : (rd l0 x5_1) = (rd l1 x5_1)
              · rw [if_pos c7] at H
                have c7b0 : ((rd l0 x5_1) == (rd l1 x5_1)) = true := beq_iff_eq.mpr c7
                have c7b1 : ((rd l0 x5_1) != (rd l1 x5_1)) = false := bne_eq_false_iff_eq.mpr c7
                clear c7
                have H' := Aside0.mk H
                clear H
                have p187 : 0 ≤ (x5_1 : Int) := of_decide_eq_true (by first | (with_reducible assumption) | assumption)
                have q187 : x5_1 < (l0.length : Int) := of_decide_eq_true (by first | (with_reducible assumption) | assumption)
                obtain ⟨ad187, e187, hx187_0⟩ := Kd.at_int HR0.out x5_1 p187 q187
                cases e187
                replace p187 := eq_true p187
                replace q187 := eq_true q187
                have p188 : 0 ≤ (x5_1 : Int) := of_decide_eq_true (by first | (with_reducible assumption) | assumption)
                have q188 : x5_1 < (l1.length : Int) := of_decide_eq_true (by first | (with_reducible assumption) | assumption)
                obtain ⟨ad188, e188, hx188_0⟩ := Kd.at_int HR1.out x5_1 p188 q188
                cases e188
                replace p188 := eq_true p188
                replace q188 := eq_true q188
                go_wp2
                repeat (go_quiet (fail); try go_wp2)
                go_roundg k1
                case measure => have := HK1.out; omega
                case rel => exact ⟨(wrap64 (x5_1 + 1)), (by first | rfl | (simp; done) | (simp [*]; done)), H', ⟨by have := HK1.out; omega⟩, by repeat (first | exact Drawn0.refl _ | apply Drawn0.step)⟩
              · rw [if_neg c7] at H
                have c7b0 : ((rd l0 x5_1) == (rd l1 x5_1)) = false := beq_eq_false_iff_ne.mpr c7
                have c7b1 : ((rd l0 x5_1) != (rd l1 x5_1)) = true := bne_iff_ne.mpr c7
                obtain rfl := Option.some.inj H
                have p187 : 0 ≤ (x5_1 : Int) := of_decide_eq_true (by first | (with_reducible assumption) | assumption)
                have q187 : x5_1 < (l0.length : Int) := of_decide_eq_true (by first | (with_reducible assumption) | assumption)
                obtain ⟨ad187, e187, hx187_0⟩ := Kd.at_int HR0.out x5_1 p187 q187
                cases e187
                replace p187 := eq_true p187
                replace q187 := eq_true q187
                have p188 : 0 ≤ (x5_1 : Int) := of_decide_eq_true (by first | (with_reducible assumption) | assumption)
                have q188 : x5_1 < (l1.length : Int) := of_decide_eq_true (by first | (with_reducible assumption) | assumption)
                obtain ⟨ad188, e188, hx188_0⟩ := Kd.at_int HR1.out x5_1 p188 q188
                cases e188
                replace p188 := eq_true p188
                replace q188 := eq_true q188
                go_wp2
                repeat (go_quiet (fail); try go_wp2)
                go_ret
                exact ⟨by first | rfl | (simp; done) | (simp [*]; done), by repeat (first | exact Drawn0.refl _ | apply Drawn0.step)⟩
            · rw [if_neg c6] at H
              exact absurd H (by simp)
          · rw [if_neg c5] at H
            exact absurd H (by simp)
        · rw [if_neg c4] at H
          have c4b0 : decide (x5_1 < (l0.length : Int)) = false := decide_eq_false c4
          clear c4
          obtain rfl := Option.some.inj H
          go_wp2
          repeat (go_quiet (fail); try go_wp2)
          go_ret
          exact ⟨by first | rfl | (simp; done) | (simp [*]; done), by repeat (first | exact Drawn0.refl _ | apply Drawn0.step)⟩
  · rw [if_neg c3] at H
    have c3b0 : ((l0.length : Int) == (l1.length : Int)) = false := beq_eq_false_iff_ne.mpr c3
    have c3b1 : ((l0.length : Int) != (l1.length : Int)) = true := bne_iff_ne.mpr c3
    have c3b2 : (l0.length == l1.length) = false := by first | simpa using c3 | (simp at c3 ⊢; omega)
    obtain rfl := Option.some.inj H
    go_enter Try.func21, Try.ntmps21
    go_wp2
    repeat (go_quiet (fail); try go_wp2)
    go_ret
    exact ⟨by first | rfl | (simp; done) | (simp [*]; done), by repeat (first | exact Drawn0.refl _ | apply Drawn0.step)⟩

/-! ### chamberlainref06_One: function 19 -/
def chamberlainref06_One.f (k : Nat) (a0_0 : Int) (l0_1 : List Int) (a1_0 : Int) (l1_1 : List Int) : Option (Bool) := if a0_0 = a1_0 then ((chamberlainref01_Same.f k l0_1 l1_1).bind fun t191 => (some t191)) else (some false)
theorem chamberlainref06_One.mono : ∀ a0 a1 a2 a3 k, LeO (chamberlainref06_One.f k a0 a1 a2 a3) (chamberlainref06_One.f (k + 1) a0 a1 a2 a3) := by
  intro a0 a1 a2 a3 k
  unfold chamberlainref06_One.f
  repeat' first
      | (with_reducible exact chamberlainref01_Same.mono _ _ _)
      | (with_reducible exact LeO.refl _)
      | (with_reducible exact LeO.none _)
      | (with_reducible refine LeO.ite ?_ ?_)
      | (with_reducible refine LeO.bind ?_ (fun _ => ?_))
      | exact chamberlainref01_Same.mono _ _ _
      | exact LeO.none _
      | refine LeO.ite ?_ ?_
      | refine LeO.bind ?_ (fun _ => ?_)
set_option maxHeartbeats 8000000 in
set_option maxRecDepth 100000 in
theorem chamberlainref06_One.calls (k : Nat) (a0_0 : Int) (A0_1 : Option Addr) (c0_1 : Nat) (l0_1 : List Int) (a1_0 : Int) (A1_1 : Option Addr) (c1_1 : Nat) (l1_1 : List Int) (r : Bool) (w : World) (hr0_1 : Kd.C (Kd.int .u32) w A0_1 l0_1.length l0_1) (hc0_1 : l0_1.length ≤ c0_1) (hr1_1 : Kd.C (Kd.int .u32) w A1_1 l1_1.length l1_1) (hc1_1 : l1_1.length ≤ c1_1) (h : chamberlainref06_One.f k a0_0 l0_1 a1_0 l1_1 = some r) :
    Calls Try.prog 19 #[.agg #[.int .u32 a0_0, .slice A0_1 l0_1.length c0_1], .agg #[.int .u32 a1_0, .slice A1_1 l1_1.length c1_1]] w fun e w' => e = .returned (.bool r) ∧ Below w.heap.size w w' := by
  have hu29 := Try.underlying29
  have HR0_1 := Aside0.mk hr0_1
  have HC0_1 := Aside0.mk hc0_1
  clear hr0_1 hc0_1
  have HR1_1 := Aside0.mk hr1_1
  have HC1_1 := Aside0.mk hc1_1
  clear hr1_1 hc1_1
  have HB := Aside0.mk (Below.refl w.heap.size w)
  have H : (if a0_0 = a1_0 then ((chamberlainref01_Same.f k l0_1 l1_1).bind fun t191 => (some t191)) else (some false)) = some r := h
  clear h
  by_cases c3 : a0_0 = a1_0
  · rw [if_pos c3] at H
    have c3b0 : (a0_0 == a1_0) = true := beq_iff_eq.mpr c3
    have c3b1 : (a0_0 != a1_0) = false := bne_eq_false_iff_eq.mpr c3
    clear c3
    replace H := Option.bind_eq_some_iff.mp H
    obtain ⟨t191, A40, H⟩ := H
    replace H : (some t191) = some r := H
    have A4 := Aside0.mk A40
    clear A40
    obtain rfl := Option.some.inj H
    go_enter Try.func19, Try.ntmps19
    go_wp2_with (first | ((with_reducible refine gate_dst (N := 2) rfl ?_); refine box_event ?hg (N := 2) ?hd (cs := #[.int .u32 a0_0, .slice A0_1 l0_1.length c0_1]) (t := 29) ?hr ?_; (case hd => rfl); (case hg => rfl); (case hr => first | (go_simp; done) | (go_simp; rfl)); intro gb189 hg w5 hbox hb; have n0_ := Aside0.mk (below_step (by repeat (first | (with_reducible first | exact HB.out | apply below_alloc | apply pw_below_drewN | apply below_drew1) | exact HB.out)) hb); have n1_ := Aside0.mk (hbox); have n2_ := Aside0.mk ((by rw [hg]; exact (below_size (by repeat (first | (with_reducible first | exact HB.out | apply below_alloc | apply pw_below_drewN | apply below_drew1) | exact HB.out))) : w.heap.size ≤ gb189)); have n3_ := Aside0.mk ((by rw [hg]; exact (below_size (by repeat (first | (with_reducible first | exact HB.out | apply below_alloc | apply pw_below_drewN | apply below_drew1) | exact HB.out))) : w.heap.size ≤ gb189)); clear HB; have HB := n0_; have BK189 := n1_; have GW189 := n2_; have GE189 := n3_; clear n0_ n1_ n2_ n3_; clear hb hbox hg) | ((with_reducible refine gate_dst (N := 3) rfl ?_); refine box_event ?hg (N := 3) ?hd (cs := #[.int .u32 a1_0, .slice A1_1 l1_1.length c1_1]) (t := 29) ?hr ?_; (case hd => rfl); (case hg => rfl); (case hr => first | (go_simp; done) | (go_simp; rfl)); intro gb190 hg w6 hbox hb; have n0_ := Aside0.mk (blk_below (g := gb189) (o := .cells #[.int .u32 a0_0, .slice A0_1 l0_1.length c0_1] 29 (0, 0)) (by (with_reducible repeat (first | refine blk_drewN ?_ _ | refine blk_drew ?_ | refine blk_alloc ?_ _)); exact BK189.out) hb); have n1_ := Aside0.mk (below_step (by repeat (first | (with_reducible first | exact HB.out | apply below_alloc | apply pw_below_drewN | apply below_drew1 | refine below_set ?_ GE189.out) | exact HB.out)) hb); have n2_ := Aside0.mk (hbox); have n3_ := Aside0.mk ((by rw [hg]; exact (below_size (by repeat (first | (with_reducible first | exact HB.out | apply below_alloc | apply pw_below_drewN | apply below_drew1 | refine below_set ?_ GE189.out) | exact HB.out))) : w.heap.size ≤ gb190)); have n4_ := Aside0.mk ((by rw [hg]; exact (below_size (by repeat (first | (with_reducible first | exact HB.out | apply below_alloc | apply pw_below_drewN | apply below_drew1 | refine below_set ?_ GE189.out) | exact HB.out))) : w.heap.size ≤ gb190)); have n5_ := Aside0.mk ((by rw [hg]; exact Nat.ne_of_lt (blk_lt (g := gb189) (o := .cells #[.int .u32 a0_0, .slice A0_1 l0_1.length c0_1] 29 (0, 0)) (by (with_reducible repeat (first | refine blk_drewN ?_ _ | refine blk_drew ?_ | refine blk_alloc ?_ _)); exact BK189.out)) : gb189 ≠ gb190)); have n6_ := Aside0.mk ((by rw [hg]; exact Nat.ne_of_gt (blk_lt (g := gb189) (o := .cells #[.int .u32 a0_0, .slice A0_1 l0_1.length c0_1] 29 (0, 0)) (by (with_reducible repeat (first | refine blk_drewN ?_ _ | refine blk_drew ?_ | refine blk_alloc ?_ _)); exact BK189.out)) : gb190 ≠ gb189)); clear BK189; clear HB; have BK189 := n0_; have HB := n1_; have BK190 := n2_; have GW190 := n3_; have GE190 := n4_; have NB189_190 := n5_; have NB190_189 := n6_; clear n0_ n1_ n2_ n3_ n4_ n5_ n6_; clear hb hbox hg; have hnb7 := NB189_190.out; have hnc7 := NB190_189.out; have hcz8_0 : w6.cell? ⟨gb189, 0, none⟩ = some (.int .u32 a0_0) := (blk_cell BK189.out 0).trans rfl; have hcz8_1 : w6.cell? ⟨gb189, 1, none⟩ = some (.slice A0_1 l0_1.length c0_1) := (blk_cell BK189.out 1).trans rfl; have hfz8_0 := blk_frozen BK189.out 0; have hfz8_1 := blk_frozen BK189.out 1; have hcz9_0 : w6.cell? ⟨gb190, 0, none⟩ = some (.int .u32 a1_0) := (blk_cell BK190.out 0).trans rfl; have hcz9_1 : w6.cell? ⟨gb190, 1, none⟩ = some (.slice A1_1 l1_1.length c1_1) := (blk_cell BK190.out 1).trans rfl; have hfz9_0 := blk_frozen BK190.out 0; have hfz9_1 := blk_frozen BK190.out 1) | (go_at_call 21; (with_reducible refine (chamberlainref01_Same.calls k _ _ l0_1 _ _ l1_1 t191 _ ?side1 ?side2 ?side3 ?side4 A4.out).mono ?_); (case side1 => repeat (first | exact (Kd.C_below HR0_1.out HB.out) | (with_reducible refine Kd.C_alloc ?_ _) | (with_reducible refine Kd.C_drewN ?_ _) | (with_reducible refine Kd.C_drew ?_))); (case side2 => exact HC0_1.out); (case side3 => repeat (first | exact (Kd.C_below HR1_1.out HB.out) | (with_reducible refine Kd.C_alloc ?_ _) | (with_reducible refine Kd.C_drewN ?_ _) | (with_reducible refine Kd.C_drew ?_))); (case side4 => exact HC1_1.out); rintro e w' ⟨rfl, ⟨nd, rfl⟩⟩))
    go_ret
    exact ⟨by first | rfl | (simp [errW_none, errW_some] <;> rfl) | (simp [*, errW_none, errW_some] <;> rfl), by repeat (first | (with_reducible first | exact HB.out | apply below_alloc | apply pw_below_drewN | apply below_drew1 | refine below_set ?_ GE189.out | refine below_set ?_ GE190.out) | exact HB.out)⟩
  · rw [if_neg c3] at H
    have c3b0 : (a0_0 == a1_0) = false := beq_eq_false_iff_ne.mpr c3
    have c3b1 : (a0_0 != a1_0) = true := bne_iff_ne.mpr c3
    obtain rfl := Option.some.inj H
    go_enter Try.func19, Try.ntmps19
    go_wp2_with (first | ((with_reducible refine gate_dst (N := 2) rfl ?_); refine box_event ?hg (N := 2) ?hd (cs := #[.int .u32 a0_0, .slice A0_1 l0_1.length c0_1]) (t := 29) ?hr ?_; (case hd => rfl); (case hg => rfl); (case hr => first | (go_simp; done) | (go_simp; rfl)); intro gb189 hg w10 hbox hb; have n0_ := Aside0.mk (below_step (by repeat (first | (with_reducible first | exact HB.out | apply below_alloc | apply pw_below_drewN | apply below_drew1) | exact HB.out)) hb); have n1_ := Aside0.mk (hbox); have n2_ := Aside0.mk ((by rw [hg]; exact (below_size (by repeat (first | (with_reducible first | exact HB.out | apply below_alloc | apply pw_below_drewN | apply below_drew1) | exact HB.out))) : w.heap.size ≤ gb189)); have n3_ := Aside0.mk ((by rw [hg]; exact (below_size (by repeat (first | (with_reducible first | exact HB.out | apply below_alloc | apply pw_below_drewN | apply below_drew1) | exact HB.out))) : w.heap.size ≤ gb189)); clear HB; have HB := n0_; have BK189 := n1_; have GW189 := n2_; have GE189 := n3_; clear n0_ n1_ n2_ n3_; clear hb hbox hg) | ((with_reducible refine gate_dst (N := 3) rfl ?_); refine box_event ?hg (N := 3) ?hd (cs := #[.int .u32 a1_0, .slice A1_1 l1_1.length c1_1]) (t := 29) ?hr ?_; (case hd => rfl); (case hg => rfl); (case hr => first | (go_simp; done) | (go_simp; rfl)); intro gb190 hg w11 hbox hb; have n0_ := Aside0.mk (blk_below (g := gb189) (o := .cells #[.int .u32 a0_0, .slice A0_1 l0_1.length c0_1] 29 (0, 0)) (by (with_reducible repeat (first | refine blk_drewN ?_ _ | refine blk_drew ?_ | refine blk_alloc ?_ _)); exact BK189.out) hb); have n1_ := Aside0.mk (below_step (by repeat (first | (with_reducible first | exact HB.out | apply below_alloc | apply pw_below_drewN | apply below_drew1 | refine below_set ?_ GE189.out) | exact HB.out)) hb); have n2_ := Aside0.mk (hbox); have n3_ := Aside0.mk ((by rw [hg]; exact (below_size (by repeat (first | (with_reducible first | exact HB.out | apply below_alloc | apply pw_below_drewN | apply below_drew1 | refine below_set ?_ GE189.out) | exact HB.out))) : w.heap.size ≤ gb190)); have n4_ := Aside0.mk ((by rw [hg]; exact (below_size (by repeat (first | (with_reducible first | exact HB.out | apply below_alloc | apply pw_below_drewN | apply below_drew1 | refine below_set ?_ GE189.out) | exact HB.out))) : w.heap.size ≤ gb190)); have n5_ := Aside0.mk ((by rw [hg]; exact Nat.ne_of_lt (blk_lt (g := gb189) (o := .cells #[.int .u32 a0_0, .slice A0_1 l0_1.length c0_1] 29 (0, 0)) (by (with_reducible repeat (first | refine blk_drewN ?_ _ | refine blk_drew ?_ | refine blk_alloc ?_ _)); exact BK189.out)) : gb189 ≠ gb190)); have n6_ := Aside0.mk ((by rw [hg]; exact Nat.ne_of_gt (blk_lt (g := gb189) (o := .cells #[.int .u32 a0_0, .slice A0_1 l0_1.length c0_1] 29 (0, 0)) (by (with_reducible repeat (first | refine blk_drewN ?_ _ | refine blk_drew ?_ | refine blk_alloc ?_ _)); exact BK189.out)) : gb190 ≠ gb189)); clear BK189; clear HB; have BK189 := n0_; have HB := n1_; have BK190 := n2_; have GW190 := n3_; have GE190 := n4_; have NB189_190 := n5_; have NB190_189 := n6_; clear n0_ n1_ n2_ n3_ n4_ n5_ n6_; clear hb hbox hg; have hnb12 := NB189_190.out; have hnc12 := NB190_189.out; have hcz13_0 : w11.cell? ⟨gb189, 0, none⟩ = some (.int .u32 a0_0) := (blk_cell BK189.out 0).trans rfl; have hcz13_1 : w11.cell? ⟨gb189, 1, none⟩ = some (.slice A0_1 l0_1.length c0_1) := (blk_cell BK189.out 1).trans rfl; have hfz13_0 := blk_frozen BK189.out 0; have hfz13_1 := blk_frozen BK189.out 1; have hcz14_0 : w11.cell? ⟨gb190, 0, none⟩ = some (.int .u32 a1_0) := (blk_cell BK190.out 0).trans rfl; have hcz14_1 : w11.cell? ⟨gb190, 1, none⟩ = some (.slice A1_1 l1_1.length c1_1) := (blk_cell BK190.out 1).trans rfl; have hfz14_0 := blk_frozen BK190.out 0; have hfz14_1 := blk_frozen BK190.out 1))
    go_ret
    exact ⟨by first | rfl | (simp [errW_none, errW_some] <;> rfl) | (simp [*, errW_none, errW_some] <;> rfl), by repeat (first | (with_reducible first | exact HB.out | apply below_alloc | apply pw_below_drewN | apply below_drew1 | refine below_set ?_ GE189.out | refine below_set ?_ GE190.out) | exact HB.out)⟩

end Go.Proofs.Ytlbfdmoocgjiaaa.PNetBag
