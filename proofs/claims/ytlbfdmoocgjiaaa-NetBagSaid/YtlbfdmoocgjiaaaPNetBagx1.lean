-- Written for this claim by wip/tools/myprint.py (print.py's forms; proofs of the faked functions by hand).
import Derived.Test.YtlbfdmoocgjiaaaPNetBagx0
namespace Go.Proofs.Ytlbfdmoocgjiaaa.PNetBag
open Go.RowKit Go.Proofs.YtlbfdmoocgjiaaaW.PrintWords Go.Proofs.YtlbfdmoocgjiaaaW.PrintLast Go.Proofs.YtlbfdmoocgjiaaaW.PrintMore
attribute [local go_sem] max2_int min2_int max_two min_two max_three min_three max_four min_four   -- for this text's walks alone
set_option linter.unusedVariables false
set_option linter.unusedSimpArgs false

/-! ### net_Right: function 10 -/
def net_Right.f (a0_0 : Int) (l0_1 : List (S29)) (l0_2 : List (List Int)) : Option (Bool) := if a0_0 ≥ 0 then (if a0_0 ≤ 64 then (some (decide ((l0_1.length : Int) ≤ a0_0))) else (some false)) else (some false)
set_option maxHeartbeats 8000000 in
set_option maxRecDepth 100000 in
theorem net_Right.calls (a0_0 : Int) (A0_1 : Option Addr) (c0_1 : Nat) (l0_1 : List (S29)) (A0_2 : Option Addr) (c0_2 : Nat) (l0_2 : List (List Int)) (r : Bool) (w : World) (hr0_1 : Kd.C k29 w A0_1 l0_1.length l0_1) (hc0_1 : l0_1.length ≤ c0_1) (hr0_2 : Kd.C (Kd.slice 26 (Kd.int .u32)) w A0_2 l0_2.length l0_2) (hc0_2 : l0_2.length ≤ c0_2) (h : net_Right.f a0_0 l0_1 l0_2 = some r) :
    Calls Try.prog 10 #[.agg #[.int .i64 a0_0, .slice A0_1 l0_1.length c0_1, .slice A0_2 l0_2.length c0_2]] w fun e w' => e = .returned (.bool r) ∧ Below w.heap.size w w' := by
  have hu25 := Try.underlying25
  have HR0_1 := Aside0.mk hr0_1
  have HC0_1 := Aside0.mk hc0_1
  clear hr0_1 hc0_1
  have HR0_2 := Aside0.mk hr0_2
  have HC0_2 := Aside0.mk hc0_2
  clear hr0_2 hc0_2
  have HB := Aside0.mk (Below.refl w.heap.size w)
  have H : (if a0_0 ≥ 0 then (if a0_0 ≤ 64 then (some (decide ((l0_1.length : Int) ≤ a0_0))) else (some false)) else (some false)) = some r := h
  clear h
  by_cases c2 : a0_0 ≥ 0
  · rw [if_pos c2] at H
    have c2b0 : decide (0 ≤ a0_0) = true := decide_eq_true c2
    clear c2
    by_cases c3 : a0_0 ≤ 64
    · rw [if_pos c3] at H
      have c3b0 : decide (a0_0 ≤ 64) = true := decide_eq_true c3
      clear c3
      obtain rfl := Option.some.inj H
      go_enter Try.func10, Try.ntmps10
      go_wp2_with (first | ((with_reducible refine gate_dst (N := 1) rfl ?_); (try (refine gate_guard (by rfl) ?_; dsimp only)); refine box_event ?hg (N := 1) ?hd (cs := #[.int .i64 a0_0, .slice A0_1 l0_1.length c0_1, .slice A0_2 l0_2.length c0_2]) (t := 25) ?hr ?_; (case hd => rfl); (case hg => rfl); (case hr => first | (go_simp; done) | (go_simp; rfl)); intro gb101 hg w4 hbox hb; have n0_ := Aside0.mk (below_step (by repeat (first | (with_reducible first | exact HB.out | apply below_alloc | apply pw_below_drewN | apply below_drew1) | exact HB.out)) hb); have n1_ := Aside0.mk (hbox); have n2_ := Aside0.mk ((by rw [hg]; exact (below_size (by repeat (first | (with_reducible first | exact HB.out | apply below_alloc | apply pw_below_drewN | apply below_drew1) | exact HB.out))) : w.heap.size ≤ gb101)); have n3_ := Aside0.mk ((by rw [hg]; exact (below_size (by repeat (first | (with_reducible first | exact HB.out | apply below_alloc | apply pw_below_drewN | apply below_drew1) | exact HB.out))) : w.heap.size ≤ gb101)); clear HB; have HB := n0_; have BK101 := n1_; have GW101 := n2_; have GE101 := n3_; clear n0_ n1_ n2_ n3_; clear hb hbox hg; have hcz5_0 : w4.cell? ⟨gb101, 0, none⟩ = some (.int .i64 a0_0) := (blk_cell BK101.out 0).trans rfl; have hcz5_1 : w4.cell? ⟨gb101, 1, none⟩ = some (.slice A0_1 l0_1.length c0_1) := (blk_cell BK101.out 1).trans rfl; have hcz5_2 : w4.cell? ⟨gb101, 2, none⟩ = some (.slice A0_2 l0_2.length c0_2) := (blk_cell BK101.out 2).trans rfl; have hfz5_0 := blk_frozen BK101.out 0; have hfz5_1 := blk_frozen BK101.out 1; have hfz5_2 := blk_frozen BK101.out 2))
      go_ret
      exact ⟨by first | rfl | (simp [errW_none, errW_some] <;> rfl) | (simp [*, errW_none, errW_some] <;> rfl), by repeat (first | (with_reducible first | exact HB.out | apply below_alloc | apply pw_below_drewN | apply below_drew1 | refine below_set ?_ GE101.out) | exact HB.out)⟩
    · rw [if_neg c3] at H
      have c3b0 : decide (a0_0 ≤ 64) = false := decide_eq_false c3
      clear c3
      obtain rfl := Option.some.inj H
      go_enter Try.func10, Try.ntmps10
      go_wp2_with (first | ((with_reducible refine gate_dst (N := 1) rfl ?_); (try (refine gate_guard (by rfl) ?_; dsimp only)); refine box_event ?hg (N := 1) ?hd (cs := #[.int .i64 a0_0, .slice A0_1 l0_1.length c0_1, .slice A0_2 l0_2.length c0_2]) (t := 25) ?hr ?_; (case hd => rfl); (case hg => rfl); (case hr => first | (go_simp; done) | (go_simp; rfl)); intro gb101 hg w6 hbox hb; have n0_ := Aside0.mk (below_step (by repeat (first | (with_reducible first | exact HB.out | apply below_alloc | apply pw_below_drewN | apply below_drew1) | exact HB.out)) hb); have n1_ := Aside0.mk (hbox); have n2_ := Aside0.mk ((by rw [hg]; exact (below_size (by repeat (first | (with_reducible first | exact HB.out | apply below_alloc | apply pw_below_drewN | apply below_drew1) | exact HB.out))) : w.heap.size ≤ gb101)); have n3_ := Aside0.mk ((by rw [hg]; exact (below_size (by repeat (first | (with_reducible first | exact HB.out | apply below_alloc | apply pw_below_drewN | apply below_drew1) | exact HB.out))) : w.heap.size ≤ gb101)); clear HB; have HB := n0_; have BK101 := n1_; have GW101 := n2_; have GE101 := n3_; clear n0_ n1_ n2_ n3_; clear hb hbox hg; have hcz7_0 : w6.cell? ⟨gb101, 0, none⟩ = some (.int .i64 a0_0) := (blk_cell BK101.out 0).trans rfl; have hcz7_1 : w6.cell? ⟨gb101, 1, none⟩ = some (.slice A0_1 l0_1.length c0_1) := (blk_cell BK101.out 1).trans rfl; have hcz7_2 : w6.cell? ⟨gb101, 2, none⟩ = some (.slice A0_2 l0_2.length c0_2) := (blk_cell BK101.out 2).trans rfl; have hfz7_0 := blk_frozen BK101.out 0; have hfz7_1 := blk_frozen BK101.out 1; have hfz7_2 := blk_frozen BK101.out 2))
      go_ret
      exact ⟨by first | rfl | (simp [errW_none, errW_some] <;> rfl) | (simp [*, errW_none, errW_some] <;> rfl), by repeat (first | (with_reducible first | exact HB.out | apply below_alloc | apply pw_below_drewN | apply below_drew1 | refine below_set ?_ GE101.out) | exact HB.out)⟩
  · rw [if_neg c2] at H
    have c2b0 : decide (0 ≤ a0_0) = false := decide_eq_false c2
    clear c2
    obtain rfl := Option.some.inj H
    go_enter Try.func10, Try.ntmps10
    go_wp2_with (first | ((with_reducible refine gate_dst (N := 1) rfl ?_); (try (refine gate_guard (by rfl) ?_; dsimp only)); refine box_event ?hg (N := 1) ?hd (cs := #[.int .i64 a0_0, .slice A0_1 l0_1.length c0_1, .slice A0_2 l0_2.length c0_2]) (t := 25) ?hr ?_; (case hd => rfl); (case hg => rfl); (case hr => first | (go_simp; done) | (go_simp; rfl)); intro gb101 hg w8 hbox hb; have n0_ := Aside0.mk (below_step (by repeat (first | (with_reducible first | exact HB.out | apply below_alloc | apply pw_below_drewN | apply below_drew1) | exact HB.out)) hb); have n1_ := Aside0.mk (hbox); have n2_ := Aside0.mk ((by rw [hg]; exact (below_size (by repeat (first | (with_reducible first | exact HB.out | apply below_alloc | apply pw_below_drewN | apply below_drew1) | exact HB.out))) : w.heap.size ≤ gb101)); have n3_ := Aside0.mk ((by rw [hg]; exact (below_size (by repeat (first | (with_reducible first | exact HB.out | apply below_alloc | apply pw_below_drewN | apply below_drew1) | exact HB.out))) : w.heap.size ≤ gb101)); clear HB; have HB := n0_; have BK101 := n1_; have GW101 := n2_; have GE101 := n3_; clear n0_ n1_ n2_ n3_; clear hb hbox hg; have hcz9_0 : w8.cell? ⟨gb101, 0, none⟩ = some (.int .i64 a0_0) := (blk_cell BK101.out 0).trans rfl; have hcz9_1 : w8.cell? ⟨gb101, 1, none⟩ = some (.slice A0_1 l0_1.length c0_1) := (blk_cell BK101.out 1).trans rfl; have hcz9_2 : w8.cell? ⟨gb101, 2, none⟩ = some (.slice A0_2 l0_2.length c0_2) := (blk_cell BK101.out 2).trans rfl; have hfz9_0 := blk_frozen BK101.out 0; have hfz9_1 := blk_frozen BK101.out 1; have hfz9_2 := blk_frozen BK101.out 2))
    go_ret
    exact ⟨by first | rfl | (simp [errW_none, errW_some] <;> rfl) | (simp [*, errW_none, errW_some] <;> rfl), by repeat (first | (with_reducible first | exact HB.out | apply below_alloc | apply pw_below_drewN | apply below_drew1 | refine below_set ?_ GE101.out) | exact HB.out)⟩

/-! ### net_Free: function 20 -/
def net_Free.f (a0_0 : Int) (l0_1 : List (S29)) (l0_2 : List (List Int)) : Option (Int) := some (wrap64 (a0_0 - (l0_1.length : Int)))
set_option maxHeartbeats 8000000 in
set_option maxRecDepth 100000 in
theorem net_Free.calls (a0_0 : Int) (A0_1 : Option Addr) (c0_1 : Nat) (l0_1 : List (S29)) (A0_2 : Option Addr) (c0_2 : Nat) (l0_2 : List (List Int)) (r : Int) (w : World) (hr0_1 : Kd.C k29 w A0_1 l0_1.length l0_1) (hc0_1 : l0_1.length ≤ c0_1) (hr0_2 : Kd.C (Kd.slice 26 (Kd.int .u32)) w A0_2 l0_2.length l0_2) (hc0_2 : l0_2.length ≤ c0_2) (h : net_Free.f a0_0 l0_1 l0_2 = some r) :
    Calls Try.prog 20 #[.agg #[.int .i64 a0_0, .slice A0_1 l0_1.length c0_1, .slice A0_2 l0_2.length c0_2]] w fun e w' => e = .returned (.int .i64 r) ∧ Below w.heap.size w w' := by
  have hu25 := Try.underlying25
  have HR0_1 := Aside0.mk hr0_1
  have HC0_1 := Aside0.mk hc0_1
  clear hr0_1 hc0_1
  have HR0_2 := Aside0.mk hr0_2
  have HC0_2 := Aside0.mk hc0_2
  clear hr0_2 hc0_2
  have HB := Aside0.mk (Below.refl w.heap.size w)
  have H : (some (wrap64 (a0_0 - (l0_1.length : Int)))) = some r := h
  clear h
  obtain rfl := Option.some.inj H
  go_enter Try.func20, Try.ntmps20
  go_wp2_with (first | ((with_reducible refine gate_dst (N := 1) rfl ?_); refine box_event ?hg (N := 1) ?hd (cs := #[.int .i64 a0_0, .slice A0_1 l0_1.length c0_1, .slice A0_2 l0_2.length c0_2]) (t := 25) ?hr ?_; (case hd => rfl); (case hg => rfl); (case hr => first | (go_simp; done) | (go_simp; rfl)); intro gb102 hg w2 hbox hb; have n0_ := Aside0.mk (below_step (by repeat (first | (with_reducible first | exact HB.out | apply below_alloc | apply pw_below_drewN | apply below_drew1) | exact HB.out)) hb); have n1_ := Aside0.mk (hbox); have n2_ := Aside0.mk ((by rw [hg]; exact (below_size (by repeat (first | (with_reducible first | exact HB.out | apply below_alloc | apply pw_below_drewN | apply below_drew1) | exact HB.out))) : w.heap.size ≤ gb102)); have n3_ := Aside0.mk ((by rw [hg]; exact (below_size (by repeat (first | (with_reducible first | exact HB.out | apply below_alloc | apply pw_below_drewN | apply below_drew1) | exact HB.out))) : w.heap.size ≤ gb102)); clear HB; have HB := n0_; have BK102 := n1_; have GW102 := n2_; have GE102 := n3_; clear n0_ n1_ n2_ n3_; clear hb hbox hg; have hcz3_0 : w2.cell? ⟨gb102, 0, none⟩ = some (.int .i64 a0_0) := (blk_cell BK102.out 0).trans rfl; have hcz3_1 : w2.cell? ⟨gb102, 1, none⟩ = some (.slice A0_1 l0_1.length c0_1) := (blk_cell BK102.out 1).trans rfl; have hcz3_2 : w2.cell? ⟨gb102, 2, none⟩ = some (.slice A0_2 l0_2.length c0_2) := (blk_cell BK102.out 2).trans rfl; have hfz3_0 := blk_frozen BK102.out 0; have hfz3_1 := blk_frozen BK102.out 1; have hfz3_2 := blk_frozen BK102.out 2))
  go_ret
  exact ⟨by first | rfl | (simp [errW_none, errW_some] <;> rfl) | (simp [*, errW_none, errW_some] <;> rfl), by repeat (first | (with_reducible first | exact HB.out | apply below_alloc | apply pw_below_drewN | apply below_drew1 | refine below_set ?_ GE102.out) | exact HB.out)⟩

/-! ### net_with: function 22 -/
def net_with.f (a0_0 : Int) (l0_1 : List (S29)) (l0_2 : List (List Int)) (a1_0 : Int) (l1_1 : List Int) : Option (Int × (List (S29)) × (List (List Int))) := if l0_1.length < 1000000 then some (a0_0, l0_1 ++ [(⟨a1_0, l1_1⟩ : S29)], l0_2) else none
theorem nrow.add0 (g n : Nat) : (⟨g, 0, none⟩ : Addr).add n = ⟨g, n, none⟩ := by
  unfold Addr.add
  by_cases h : n = 0
  · subst h; rfl
  · simp [h]
/-- A struct as the one result. -/
theorem nrow.res {P : Program} {fn : Func} {p : Tmp} {ty : TypeId} (h : fn.results = #[.cell p ty]) (tmps : Array Value) (w : World) (g : Nat) (t : TypeId) (cs : Array Value) (fr : Nat × Nat) (d : TypeDesc)
    (hp : tmps.getD p undef = .pointer (some ⟨g, 0, none⟩)) (hg : w.heap[g]? = some (.cells cs t fr))
    (hu : P.underlying ty = some d) (hd : (match d with | .struct _ | .array _ _ => true | _ => false) = true) (hi : (P.info? ty).map (·.size) = some cs.size) :
    (results fn tmps).run P w = .ok (.agg cs) w := by
  have hp' : tmps[p]?.getD undef = .pointer (some ⟨g, 0, none⟩) := by simpa using hp
  simp [results, h, hp', asAddr, run_loadVar_row w g t ty cs fr d hg hu hd hi]
/-- A row whose cells a block holds, its elements with their footprints. -/
theorem nrow.F_block {α : Type} {d : Kd α} {W : World} {ok : Nat → Prop} {g : Nat} {cs : Array Value} {t : TypeId} (xs : List α) (rows : List (List Value)) (hb : W.heap[g]? = some (.cells cs t (0, 0))) (hok : ok g) (hl : rows.length = xs.length)
    (hr : ∀ (j : Nat) (x : α) (c : List Value), xs[j]? = some x → rows[j]? = some c → Kd.FK d W ok x c ∧ c.length = d.sz) (hc : ∀ (j : Nat) (c : List Value), rows[j]? = some c → ∀ (i : Nat) (u : Value), c[i]? = some u → cs[j * d.sz + i]? = some u) (hn : xs.length ≤ 9223372036854775807) :
    Kd.F d W ok (some ⟨g, 0, none⟩) xs.length xs := by
  intro W' hW
  have hb' : W'.heap[g]? = some (.cells cs t (0, 0)) := (hW g hok (blk_lt hb)).trans hb
  refine ⟨rfl, hn, fun _ => ⟨⟨g, 0, none⟩, rfl, fun j p hp => ?_⟩⟩
  have hj : j < xs.length := (List.getElem?_eq_some_iff.1 hp).1
  obtain ⟨c, hcj⟩ : ∃ c, rows[j]? = some c := ⟨rows[j]'(by omega), List.getElem?_eq_getElem (by omega)⟩
  obtain ⟨h1, h2⟩ := hr j p c hp hcj
  refine ⟨c, h2, h1 W' hW, fun i u hu => ?_⟩
  have := blk_cell hb' (j * d.sz + i)
  rw [hc j c hcj i u hu] at this
  rw [show (⟨g, 0, none⟩ : Addr).add (j * d.sz + i) = ⟨g, j * d.sz + i, none⟩ from nrow.add0 _ _]
  exact this
/-- What is read as a row, as cells one behind the other. -/
theorem nrow.olds {α : Type} {d : Kd α} {W : World} {ok : Nat → Prop} {A : Option Addr} {l : List α} (h : Kd.F d W ok A l.length l) (hs : 0 < d.sz) :
    ∃ olds : List Value, olds.length = l.length * d.sz ∧ (∀ b, A = some b → ∀ j u, olds[j]? = some u → W.cell? (b.add j) = some u) ∧ (A = none → l.length = 0) ∧ (∀ (j : Nat) (x : α), l[j]? = some x → Kd.FK d W ok x ((olds.drop (j * d.sz)).take d.sz)) ∧ ∀ u ∈ olds, u.oneCell' = true := by
  have hr := Kd.F_rows h
  rcases Nat.eq_zero_or_pos l.length with h0 | hp
  · have : l = [] := List.eq_nil_of_length_eq_zero h0
    subst this
    exact ⟨[], by simp, fun b _ j u hu => by simp at hu, fun _ => rfl, fun j x hx => by simp at hx, fun u hu => by simp at hu⟩
  · obtain ⟨ad, rfl, _⟩ := hr.2.2 hp
    obtain ⟨inner, hi, hc⟩ := ReadsRow.inner_ hr
    refine ⟨inner, hi.1, fun b e j u hu => (by cases e; exact hc j u hu), (fun e => by cases e), hi.2, fun u hu => ?_⟩
    obtain ⟨j, hj, rfl⟩ := List.getElem_of_mem hu
    have hq : j / d.sz < l.length := Nat.div_lt_of_lt_mul (by rw [Nat.mul_comm, ← hi.1]; exact hj)
    have hk := hi.2 (j / d.sz) _ (List.getElem?_eq_getElem hq)
    refine d.K_one (Kd.FK_now hk) _ (List.mem_iff_getElem?.2 ⟨j % d.sz, ?_⟩)
    rw [List.getElem?_take, if_pos (Nat.mod_lt _ hs), List.getElem?_drop, Nat.mul_comm, Nat.div_add_mod, List.getElem?_eq_getElem hj]
/-- A row that was made by an append: the elder elements, and one more. -/
theorem nrow.Vat {α : Type} {d : Kd α} {e : TypeId} {w1 : World} {ok' : Nat → Prop} {base : Nat} {l : List α} {x : α} {olds news : List Value} {v : Value} (hs : 0 < d.sz) (hown : w1.ownsRow base e d.sz v (l.length + 1) (olds ++ news))
    (ho : olds.length = l.length * d.sz) (hf : ∀ (j : Nat) (x : α), l[j]? = some x → Kd.FK d w1 ok' x ((olds.drop (j * d.sz)).take d.sz)) (hn : news.length = d.sz) (hx : Kd.FK d w1 ok' x news) (hbase : ∀ k, base ≤ k → ok' k) (hm : l.length < 1000000) :
    Kd.V d e w1 0 ok' v (l ++ [x]) := by
  obtain ⟨hlen, hrow⟩ := hown
  rcases hrow with ⟨_, h0⟩ | ⟨g, cap, cur, rfl, hbg, hh, hc1, hc2, hc3, htk⟩
  · omega
  have el : (l ++ [x]).length = l.length + 1 := by simp
  refine ⟨some ⟨g, 0, none⟩, cap, by rw [el], by rw [el]; exact hc1, ?_⟩
  refine nrow.F_block (l ++ [x]) (Kd.chunks d.sz (l.length + 1) (olds ++ news)) hh (hbase g hbg) (by rw [Kd.chunks_length, el]) ?_ ?_ (by rw [el]; omega)
  · intro j y c hy hc
    have hcj := Kd.chunks_get hc
    have hj : j < l.length + 1 := by have := (List.getElem?_eq_some_iff.1 hy).1; rwa [el] at this
    subst hcj
    rcases Nat.lt_or_ge j l.length with q | q
    · rw [List.getElem?_append_left q] at hy
      have hb : j * d.sz + d.sz ≤ olds.length := by rw [ho, ← Nat.succ_mul]; exact Nat.mul_le_mul_right _ q
      rw [List.drop_append_of_le_length (by omega), List.take_append_of_le_length (by rw [List.length_drop]; omega)]
      exact ⟨hf j y hy, by rw [List.length_take, List.length_drop]; omega⟩
    · obtain rfl : j = l.length := by omega
      rw [List.getElem?_append_right (Nat.le_refl _), Nat.sub_self] at hy
      cases hy
      rw [← ho, List.drop_left, ← hn, List.take_length]
      exact ⟨hx, rfl⟩
  · intro j c hc i u hu
    have hcj := Kd.chunks_get hc
    subst hcj
    have hi : i < d.sz := by have := (List.getElem?_eq_some_iff.1 hu).1; rw [List.length_take] at this; omega
    rw [List.getElem?_take, if_pos hi, List.getElem?_drop] at hu
    rw [← htk, List.getElem?_take] at hu
    split at hu
    · rwa [Array.getElem?_toList] at hu
    · cases hu
theorem nrow.V {α : Type} {d : Kd α} {e : TypeId} {W w1 : World} {ok ok' : Nat → Prop} {base : Nat} {l : List α} {x : α} {olds news : List Value} {v : Value} (hs : 0 < d.sz) (hown : w1.ownsRow base e d.sz v (l.length + 1) (olds ++ news)) (hg : W.grownBy w1 none)
    (ho : olds.length = l.length * d.sz) (hf : ∀ (j : Nat) (x : α), l[j]? = some x → Kd.FK d W ok x ((olds.drop (j * d.sz)).take d.sz)) (hn : news.length = d.sz) (hx : Kd.FK d W ok x news) (hok : ∀ k, ok k → ok' k) (hbase : ∀ k, base ≤ k → ok' k) (hm : l.length < 1000000) :
    Kd.V d e w1 0 ok' v (l ++ [x]) :=
  nrow.Vat hs hown ho (fun j y hy => Kd.FK_mono (Kd.FK_step (hf j y hy) (fun k _ hlt => hg.block k hlt (by simp))) hok) hn (Kd.FK_mono (Kd.FK_step hx (fun k _ hlt => hg.block k hlt (by simp))) hok) hbase hm
theorem nrow.mv {α : Type} {d : Kd α} {A : Option Addr} {n m : Nat} {xs : List α} {P R : Nat → Prop} {w W : World} (hb : Below w.heap.size w W) (hp : ∀ k, P k → R k) (h : Kd.F d w P A n xs) : Kd.F d W (fun k => R k ∧ k < w.heap.size ∨ m ≤ k) A n xs := Kd.F_mono (Kd.F_below (Kd.F_bound h) hb) (fun k hk => .inl ⟨hp k hk.1, hk.2⟩)
theorem ndbl.val {P : Program} {ops : Array Oper} {Q : Exit → Act → World → Prop} {oi : Oper} {N : Option Tmp} {a : Act} {w w1 : World} {v : Value} {K : Act → World → Prop} (hw : Region.wanted oi (yielded ops a.tmps) = true) (hN : oi.dst = N) (hrun : (execOp a.eval oi).run P w = .ok (.value v) w1)
    (h : K (a.put N v) w1) : if Region.wanted oi (yielded ops a.tmps) = true then Oper.wp P oi a w K Q else K (a.put N undef) w := by
  rw [if_pos hw]
  unfold Oper.wp
  rw [hrun]
  show K (a.put oi.dst v) w1
  rw [hN]
  exact h
theorem ndbl.elem {W : World} {ok : Nat → Prop} {A : Option Addr} {l : List S29} (h : Kd.F k29 W ok A l.length l) (i : Int) (h0 : 0 ≤ i) (h1 : i < l.length) :
    ∃ ad A1 c1, A = some ad ∧ W.cell? (ad.add (i.toNat * 2)) = some (.int .u32 (rd_T29 l i).f0) ∧ W.cell? ⟨(ad.add (i.toNat * 2)).block, (ad.add (i.toNat * 2)).off + 1, none⟩ = some (.slice A1 (rd_T29 l i).f1.length c1) ∧ (rd_T29 l i).f1.length ≤ c1 ∧ Kd.F (Kd.int .u32) W ok A1 (rd_T29 l i).f1.length (rd_T29 l i).f1 := by
  obtain ⟨ad, A1, c1, hA, hx0, hx1, hl, hi⟩ := at_T29 (Kd.F_now h) i h0 h1
  cases hA
  obtain ⟨ad', cs, he, hcl, hM, hcc, _⟩ := Kd.F_get h z29 i h0 h1
  injection he with he
  subst he
  obtain ⟨ua, uc, rfl, ul, ge⟩ := k29_openF hM
  have hv := hcc 1 _ rfl
  have hv2 : W.cell? ⟨(ad.add (i.toNat * 2)).block, (ad.add (i.toNat * 2)).off + 1, none⟩ = some (.slice ua (rd_T29 l i).f1.length uc) := by
    rw [add_field _ _ 1 (by omega)] at hv
    exact hv
  have e := Option.some.inj (hv2.symm.trans hx1)
  injection e with e1 _ e3
  subst e1
  subst e3
  exact ⟨ad, ua, uc, rfl, hx0, hx1, ul, ge⟩
theorem nwith.cut (A : Option Addr) (n c : Nat) (hn : n ≤ c) (W : World) : (Instr.slice 22 (.slice A n c) none (some (.int .i64 n)) (some (.int .i64 n))).run Try.prog W = .ok (.slice A n n) W := by
  have hu : Try.prog.underlying 22 = some (.slice (Try.prog.elem 22)) := by kernel_rfl
  have hs : ∀ W : World, (sizeOf (Try.prog.elem 22)).run Try.prog W = .ok 2 W := fun W => by kernel_rfl
  have ha : (A.map fun x => x.add 0) = A := by cases A <;> simp [Addr.add]
  rw [run_slice_hm W 22 A n c hu .i64 .i64 n n (by omega) (by omega) (by omega), hs]
  simp [sliced, Result.andThen, ha]
set_option maxHeartbeats 8000000 in
set_option maxRecDepth 100000 in
theorem net_with.calls (a0_0 : Int) (P0_1_ : Nat → Prop) (A0_1 : Option Addr) (c0_1 : Nat) (l0_1 : List (S29)) (P0_2_ : Nat → Prop) (A0_2 : Option Addr) (c0_2 : Nat) (l0_2 : List (List Int)) (a1_0 : Int) (P1_1_ : Nat → Prop) (A1_1 : Option Addr) (c1_1 : Nat) (l1_1 : List Int) (r1 : Int) (r2 : List (S29)) (r3 : List (List Int)) (w : World) (hs0_1 : Kd.V k29 29 w w.heap.size (fun k_ => P0_1_ k_) (.slice A0_1 l0_1.length c0_1) l0_1) (hs0_2 : Kd.V (Kd.slice 26 (Kd.int .u32)) 27 w w.heap.size (fun k_ => P0_2_ k_) (.slice A0_2 l0_2.length c0_2) l0_2) (hs1_1 : Kd.V (Kd.int .u32) 26 w w.heap.size (fun k_ => P1_1_ k_) (.slice A1_1 l1_1.length c1_1) l1_1) (h : net_with.f a0_0 l0_1 l0_2 a1_0 l1_1 = some (r1, r2, r3)) :
    Calls Try.prog 22 #[.agg #[.int .i64 a0_0, .slice A0_1 l0_1.length c0_1, .slice A0_2 l0_2.length c0_2], .agg #[.int .u32 a1_0, .slice A1_1 l1_1.length c1_1]] w fun e w' => ∃ v1_ v2_ : Value, e = .returned (.agg #[.int .i64 r1, v1_, v2_]) ∧ Kd.V k29 29 w' w.heap.size (fun k_ => ((P0_1_ k_ ∨ P0_2_ k_ ∨ P1_1_ k_) ∨ w.heap.size ≤ k_)) v1_ r2 ∧ Kd.V (Kd.slice 26 (Kd.int .u32)) 27 w' w.heap.size (fun k_ => ((P0_1_ k_ ∨ P0_2_ k_ ∨ P1_1_ k_) ∨ w.heap.size ≤ k_)) v2_ r3 ∧ Below w.heap.size w w' := by
  unfold net_with.f at h
  by_cases hm : l0_1.length < 1000000
  rotate_left
  · rw [if_neg hm] at h; cases h
  rw [if_pos hm] at h
  simp only [Option.some.injEq, Prod.mk.injEq] at h
  obtain ⟨rfl, rfl, rfl⟩ := h
  obtain ⟨_, hc1, F1⟩ := Kd.V_at hs0_1
  obtain ⟨_, hc2, F2⟩ := Kd.V_at hs0_2
  obtain ⟨_, hc3, F3⟩ := Kd.V_at hs1_1
  have HM := Aside0.mk hm
  have HL := Aside0.mk (show ∀ W : World, (Instr.slice 22 (.slice A0_1 l0_1.length c0_1) none (some (.int .i64 l0_1.length)) (some (.int .i64 l0_1.length))).run Try.prog W = .ok (.slice A0_1 l0_1.length l0_1.length) W from nwith.cut A0_1 l0_1.length c0_1 hc1)
  obtain ⟨Wn, hWn⟩ : ∃ Wn : World, Wn = ((w.alloc (.cells #[.int .i64 a0_0, .slice A0_1 l0_1.length c0_1, .slice A0_2 l0_2.length c0_2] 25)).alloc (.cells #[.int .u32 a1_0, .slice A1_1 l1_1.length c1_1] 29)).alloc (.cells #[.int .i64 0, .slice none 0 0, .slice none 0 0] 25) := ⟨_, rfl⟩
  clear hs0_1 hs0_2 hs1_1 hm
  go_enter Try.func22, Try.ntmps22
  go_wp2
  rw [← hWn]
  have sz : Wn.heap.size = w.heap.size + 1 + 1 + 1 := by rw [hWn]; simp
  have B1 : Wn.heap[w.heap.size]? = some (.cells #[.int .i64 a0_0, .slice A0_1 l0_1.length c0_1, .slice A0_2 l0_2.length c0_2] 25 (0, 0)) := by rw [hWn]; exact blk_alloc (blk_alloc (MapKept.heap_alloc _ _).1 _) _
  have B2 : Wn.heap[w.heap.size + 1]? = some (.cells #[.int .u32 a1_0, .slice A1_1 l1_1.length c1_1] 29 (0, 0)) := by rw [hWn]; refine blk_alloc ?_ _; have := (MapKept.heap_alloc (w.alloc (.cells #[.int .i64 a0_0, .slice A0_1 l0_1.length c0_1, .slice A0_2 l0_2.length c0_2] 25)) (.cells #[.int .u32 a1_0, .slice A1_1 l1_1.length c1_1] 29)).1; simpa using this
  have B3 : Wn.heap[w.heap.size + 1 + 1]? = some (.cells #[.int .i64 0, .slice none 0 0, .slice none 0 0] 25 (0, 0)) := by rw [hWn]; have := (MapKept.heap_alloc ((w.alloc (.cells #[.int .i64 a0_0, .slice A0_1 l0_1.length c0_1, .slice A0_2 l0_2.length c0_2] 25)).alloc (.cells #[.int .u32 a1_0, .slice A1_1 l1_1.length c1_1] 29)) (.cells #[.int .i64 0, .slice none 0 0, .slice none 0 0] 25)).1; simpa using this
  have hB : Below w.heap.size w Wn := by rw [hWn]; exact below_alloc (below_alloc (below_alloc (Below.refl _ _) _) _) _
  have HN := Aside0.mk hWn
  clear hWn
  refine start_ (n := 14) (S := fun w' => w'.cell? ⟨w.heap.size, 0, none⟩ = some (.int .i64 a0_0) ∧ w'.cell? ⟨w.heap.size, 1, none⟩ = some (.slice A0_1 l0_1.length c0_1) ∧ w'.cell? ⟨w.heap.size, 2, none⟩ = some (.slice A0_2 l0_2.length c0_2) ∧ w'.cell? ⟨w.heap.size + 1, 0, none⟩ = some (.int .u32 a1_0) ∧ w'.cell? ⟨w.heap.size + 1, 1, none⟩ = some (.slice A1_1 l1_1.length c1_1)) (ds := [13]) #[false, false, false, false, false, false, false, false, false, false, false, false, false, false] (by kernel_rfl) rfl rfl ⟨(blk_cell (blk_drew B1) 0).trans rfl, (blk_cell (blk_drew B1) 1).trans rfl, (blk_cell (blk_drew B1) 2).trans rfl, (blk_cell (blk_drew B2) 0).trans rfl, (blk_cell (blk_drew B2) 1).trans rfl⟩ (fun hHeld => ?_)
  refine pure_ (i := 0) (N := some 5) (v := ?_) (a' := ?_) #[true, false, false, false, false, false, false, false, false, false, false, false, false, false] rfl rfl (by kernel_rfl) (fun _ _ _ h => h) (Or.inl ⟨by rfl, ?_⟩) ?_ ?_
  rotate_left
  · intro w'
    go_simp
    with_reducible rfl
  rotate_left
  · simp only [Act.put, List.setIfInBounds_toArray, List.set_cons_zero, List.set_cons_succ, i64_w, i32_w]
    rfl
  refine take_ (i := 1) (N := some 6) (v := ?_) (a' := ?_) #[true, true, false, false, false, false, false, false, false, false, false, false, false, false] rfl rfl (by kernel_rfl) (fun _ _ _ h => h) (Or.inl ⟨by rfl, ?_⟩) hHeld ?_ ?_
  rotate_left
  · rintro w' ⟨s0, s1, s2, s3, s4⟩
    go_simp
    with_reducible rfl
  rotate_left
  · simp only [Act.put, List.setIfInBounds_toArray, List.set_cons_zero, List.set_cons_succ, i64_w, i32_w]
    rfl
  refine pure_ (i := 2) (N := some 7) (v := ?_) (a' := ?_) #[true, true, true, false, false, false, false, false, false, false, false, false, false, false] rfl rfl (by kernel_rfl) (fun _ _ _ h => h) (Or.inl ⟨by rfl, ?_⟩) ?_ ?_
  rotate_left
  · intro w'
    go_simp
    with_reducible rfl
  rotate_left
  · simp only [Act.put, List.setIfInBounds_toArray, List.set_cons_zero, List.set_cons_succ, i64_w, i32_w]
    rfl
  refine take_ (i := 3) (N := some 8) (v := ?_) (a' := ?_) #[true, true, true, true, false, false, false, false, false, false, false, false, false, false] rfl rfl (by kernel_rfl) (fun _ _ _ h => h) (Or.inl ⟨by rfl, ?_⟩) hHeld ?_ ?_
  rotate_left
  · rintro w' ⟨s0, s1, s2, s3, s4⟩
    go_simp
    with_reducible rfl
  rotate_left
  · simp only [Act.put, List.setIfInBounds_toArray, List.set_cons_zero, List.set_cons_succ, i64_w, i32_w]
    rfl
  refine pure_ (i := 4) (N := some 9) (v := ?_) (a' := ?_) #[true, true, true, true, true, false, false, false, false, false, false, false, false, false] rfl rfl (by kernel_rfl) (fun _ _ _ h => h) (Or.inl ⟨by rfl, ?_⟩) ?_ ?_
  rotate_left
  · intro w'
    go_simp
    with_reducible rfl
  rotate_left
  · simp only [Act.put, List.setIfInBounds_toArray, List.set_cons_zero, List.set_cons_succ, i64_w, i32_w]
    rfl
  refine pure_ (i := 5) (N := some 10) (v := ?_) (a' := ?_) #[true, true, true, true, true, true, false, false, false, false, false, false, false, false] rfl rfl (by kernel_rfl) (fun _ _ _ h => h) (Or.inl ⟨by rfl, ?_⟩) ?_ ?_
  rotate_left
  · intro w'
    go_simp
    with_reducible rfl
  rotate_left
  · simp only [Act.put, List.setIfInBounds_toArray, List.set_cons_zero, List.set_cons_succ, i64_w, i32_w]
    rfl
  refine take_ (i := 6) (N := some 11) (v := ?_) (a' := ?_) #[true, true, true, true, true, true, true, false, false, false, false, false, false, false] rfl rfl (by kernel_rfl) (fun _ _ _ h => h) (Or.inl ⟨by rfl, ?_⟩) hHeld ?_ ?_
  rotate_left
  · rintro w' ⟨s0, s1, s2, s3, s4⟩
    go_simp
    with_reducible rfl
  rotate_left
  · simp only [Act.put, List.setIfInBounds_toArray, List.set_cons_zero, List.set_cons_succ, i64_w, i32_w]
    rfl
  refine pure_ (i := 7) (N := some 12) (v := ?_) (a' := ?_) #[true, true, true, true, true, true, true, true, false, false, false, false, false, false] rfl rfl (by kernel_rfl) (fun _ _ _ h => h) (Or.inl ⟨by rfl, ?_⟩) ?_ ?_
  rotate_left
  · intro w'
    go_simp
    with_reducible rfl
  rotate_left
  · simp only [Act.put, List.setIfInBounds_toArray, List.set_cons_zero, List.set_cons_succ, i64_w, i32_w]
    rfl
  refine pure_ (i := 8) (N := some 13) (v := ?_) (a' := ?_) #[true, true, true, true, true, true, true, true, true, false, false, false, false, false] rfl rfl (by kernel_rfl) (fun _ _ _ h => h) (Or.inl ⟨by rfl, ?_⟩) ?_ ?_
  rotate_left
  · intro w'
    have e_ := HL.out w'
    go_simp
    with_reducible rfl
  rotate_left
  · simp only [Act.put, List.setIfInBounds_toArray, List.set_cons_zero, List.set_cons_succ, i64_w, i32_w]
    rfl
  refine take_ (i := 9) (N := some 14) (v := ?_) (a' := ?_) #[true, true, true, true, true, true, true, true, true, true, false, false, false, false] rfl rfl (by kernel_rfl) (fun _ _ _ h => h) (Or.inl ⟨by rfl, ?_⟩) hHeld ?_ ?_
  rotate_left
  · rintro w' ⟨s0, s1, s2, s3, s4⟩
    go_simp
    with_reducible rfl
  rotate_left
  · simp only [Act.put, List.setIfInBounds_toArray, List.set_cons_zero, List.set_cons_succ, i64_w, i32_w]
    rfl
  refine one_ (i := 10) (N := some 15) #[true, true, true, true, true, true, true, true, true, true, true, false, false, false] rfl rfl (by kernel_rfl) (by decide) (fun K hK => ?_)
  obtain ⟨Wd, hWd⟩ : ∃ Wd : World, Wd = Wn.drew := ⟨_, rfl⟩
  have hBd : Below Wn.heap.size Wn Wd := by rw [hWd]; exact below_drew (Below.refl _ _)
  rw [← hWd] at hHeld ⊢
  clear hWd
  have hsd : w.heap.size + 1 + 1 + 1 ≤ Wd.heap.size := by have := hBd.size; omega
  have C1 := blk_below B1 hBd
  have C2 := blk_below B2 hBd
  have C3 := blk_below B3 hBd
  have hBd2 : Below w.heap.size w Wd := hB.trans (hBd.mono (by omega))
  have G1 := Kd.F_mono (ok' := fun k => (P0_1_ k ∨ P0_2_ k ∨ P1_1_ k) ∧ k < w.heap.size ∨ w.heap.size + 1 + 1 + 1 ≤ k) (Kd.F_below (Kd.F_bound F1) hBd2) (fun k hk => .inl ⟨.inl hk.1, hk.2⟩)
  have G2 := Kd.F_mono (ok' := fun k => (P0_1_ k ∨ P0_2_ k ∨ P1_1_ k) ∧ k < w.heap.size ∨ w.heap.size + 1 + 1 + 1 ≤ k) (Kd.F_below (Kd.F_bound F2) hBd2) (fun k hk => .inl ⟨.inr (.inl hk.1), hk.2⟩)
  have G3 := Kd.F_mono (ok' := fun k => (P0_1_ k ∨ P0_2_ k ∨ P1_1_ k) ∧ k < w.heap.size ∨ w.heap.size + 1 + 1 + 1 ≤ k) (Kd.F_below (Kd.F_bound F3) hBd2) (fun k hk => .inl ⟨.inr (.inr hk.1), hk.2⟩)
  have FE := k29_mkF Wd _ (⟨a1_0, l1_1⟩ : S29) hc3 G3
  clear B1 B2 B3 hBd hB HN sz F1 F2 F3 G3 hHeld
  refine Kd.N_lit_step k29 (w0 := w) w.heap.size 29 ?hg (N' := 15) ?hd (xs := [(⟨a1_0, l1_1⟩ : S29)]) (inner := [.int .u32 a1_0, .slice A1_1 l1_1.length c1_1]) (ok := fun k => (P0_1_ k ∨ P0_2_ k ∨ P1_1_ k) ∧ k < w.heap.size ∨ w.heap.size + 1 + 1 + 1 ≤ k) (okp := fun k => (P0_1_ k ∨ P0_2_ k ∨ P1_1_ k) ∧ k < w.heap.size ∨ w.heap.size + 1 + 1 + 1 ≤ k) ?hr ?hp (fun _ hk => hk) (.inr hsd) hBd2 (by omega) (by simp) ?_
  case hd => rfl
  case hg => rfl
  case hr => first | (go_simp; done) | (go_simp; rfl)
  case hp => exact (Reps.none (Kd.FK k29 Wd _) 2).snoc FE rfl
  intro vE W1 hoE hB1 hg1 _
  obtain ⟨AE, cE, hvE⟩ := Kd.N_slice hoE
  subst hvE
  obtain ⟨gE, capE, hvE, _⟩ := Kd.N_form hoE (by simp)
  injection hvE with hAE _ _
  subst hAE
  obtain ⟨cs, hcl, hFK, hcc⟩ := Kd.N_get hoE (⟨0, []⟩ : S29) 0 (by omega) (by simp)
  have D1 := blk_grown C1 hg1 (by simp)
  have D2 := blk_grown C2 hg1 (by simp)
  have D3 := blk_grown C3 hg1 (by simp)
  have hs1 : w.heap.size + 1 + 1 + 1 ≤ W1.heap.size := by have := hg1.size; omega
  have H1 := Kd.F_grown G1 hg1 (fun k _ => by simp)
  have H2 := Kd.F_grown G2 hg1 (fun k _ => by simp)
  clear C1 C2 C3 G1 G2 hg1 hsd FE hBd2
  refine hK.out _ _ ⟨(blk_cell D1 0).trans rfl, (blk_cell D1 1).trans rfl, (blk_cell D1 2).trans rfl, (blk_cell D2 0).trans rfl, (blk_cell D2 1).trans rfl⟩ (fun hHeld => ?_)
  clear hK K
  refine norm_ (a' := ?_) ?_ ?_
  rotate_left
  · show Act.put _ (some 15) _ = _
    simp only [Act.put, List.setIfInBounds_toArray, List.set_cons_zero, List.set_cons_succ, i64_w, i32_w]
    rfl
  obtain ⟨i0, hi, hz0, hz1, hz2⟩ := info_parts info29
  obtain ⟨olds, ho1, ho2, ho3, ho4, _⟩ := nrow.olds H1 (by decide)
  refine one_ (i := 11) (N := some 16) #[true, true, true, true, true, true, true, true, true, true, true, true, false, false] rfl rfl (by kernel_rfl) (by decide) (fun K hK => ?_)
  have Hhi := Aside0.mk hi
  have Hz0 := Aside0.mk hz0
  have Hz1 := Aside0.mk hz1
  have Hz2 := Aside0.mk hz2
  have Ho1 := Aside0.mk ho1
  have Ho2 := Aside0.mk ho2
  have Hcc := Aside0.mk hcc
  have Hcl := Aside0.mk hcl
  clear hi hz0 hz1 hz2 ho1 ho2 hcc hcl
  refine step_append_grows (by rfl) (.tmp 13) (.tmp 15) 22 (by rfl) 29 i0 (.agg #[(.int .u32 0), (.slice none 0 0)]) 2 32 Try.underlying22 Hhi.out Hz0.out Hz1.out Hz2.out (by rfl) (by decide) A0_1 l0_1.length l0_1.length olds (by rfl) (fun h => ⟨ho3 h, ho3 h⟩) Ho1.out Ho2.out ⟨gE, 0, none⟩ 1 cE cs (by rfl) (by rw [Hcl.out]; rfl) (fun j u hu => by have := Hcc.out j u hu; simpa using this) (fun u hu => k29.K_one (Kd.FK_now hFK) u hu) (by omega) (by have := HM.out; unfold maxLen; omega) (by have := HM.out; omega) ?_
  intro vA W2 hoA hg2
  have E1 := blk_grown D1 hg2 (by simp)
  have E2 := blk_grown D2 hg2 (by simp)
  have E3 := blk_grown D3 hg2 (by simp)
  have hVA : Kd.V k29 29 W2 0 (fun k => (P0_1_ k ∨ P0_2_ k ∨ P1_1_ k) ∧ k < w.heap.size ∨ w.heap.size + 1 + 1 + 1 ≤ k) vA (l0_1 ++ [(⟨a1_0, l1_1⟩ : S29)]) := nrow.V (by decide) hoA hg2 Ho1.out ho4 (by rw [Hcl.out]) (Kd.FK_mono hFK (fun k hk => hk.1)) (fun k hk => hk) (fun k hk => .inr (by omega)) HM.out
  have I2 := Kd.F_grown H2 hg2 (fun k _ => by simp)
  have hBw : Below w.heap.size w W2 := (hB1.grown hg2 hB1.size (fun k hk => by cases hk))
  clear D1 D2 D3 H1 H2 hg2 hoA
  obtain ⟨AA, cA, hvA⟩ := Kd.V_slice hVA
  rw [show (l0_1 ++ [(⟨a1_0, l1_1⟩ : S29)]).length = l0_1.length + 1 by simp] at hvA
  subst hvA
  refine hK.out _ _ ⟨(blk_cell E1 0).trans rfl, (blk_cell E1 1).trans rfl, (blk_cell E1 2).trans rfl, (blk_cell E2 0).trans rfl, (blk_cell E2 1).trans rfl⟩ (fun hHeld => ?_)
  clear hK K
  refine norm_ (a' := ?_) ?_ ?_
  rotate_left
  · show Act.put _ (some 16) _ = _
    simp only [Act.put, List.setIfInBounds_toArray, List.set_cons_zero, List.set_cons_succ, i64_w, i32_w]
    rfl
  refine pure_ (i := 12) (N := some 17) (v := ?_) (a' := ?_) #[true, true, true, true, true, true, true, true, true, true, true, true, true, false] rfl rfl (by kernel_rfl) (fun _ _ _ h => h) (Or.inl ⟨by rfl, ?_⟩) ?_ ?_
  rotate_left
  · intro w'
    go_simp
    with_reducible rfl
  rotate_left
  · simp only [Act.put, List.setIfInBounds_toArray, List.set_cons_zero, List.set_cons_succ, i64_w, i32_w]
    rfl
  refine last_ (i := 13) (N := none) #[true, true, true, true, true, true, true, true, true, true, true, true, true, true] rfl rfl (by kernel_rfl) (by decide) (fun K hK => ?_)
  have q1 : W2.cell? ⟨w.heap.size, 1, none⟩ = some (.slice A0_1 l0_1.length c0_1) := (blk_cell E1 1).trans rfl
  have z1 := blk_frozen E1 1
  refine skip_ (w1 := ?_) (by rfl) rfl ?_ ?_
  rotate_left
  · go_simp
    rfl
  refine hK.out _ _ ?_
  clear hK K
  refine done_ (by kernel_rfl) ?_
  have hgN : w.heap.size ≠ w.heap.size + 1 + 1 := by omega
  have J1 : (W2.setCell ⟨w.heap.size, 1, none⟩ (.slice AA (l0_1.length + 1) cA)).heap[w.heap.size]? = some (.cells #[.int .i64 a0_0, .slice AA (l0_1.length + 1) cA, .slice A0_2 l0_2.length c0_2] 25 (0, 0)) := blk_put E1 1 _ rfl
  have J3 : (W2.setCell ⟨w.heap.size, 1, none⟩ (.slice AA (l0_1.length + 1) cA)).heap[w.heap.size + 1 + 1]? = some (.cells #[.int .i64 0, .slice none 0 0, .slice none 0 0] 25 (0, 0)) := blk_far (p := ⟨w.heap.size, 1, none⟩) E3 (by show w.heap.size + 1 + 1 ≠ w.heap.size; omega) _
  have hB3 : Below w.heap.size w (W2.setCell ⟨w.heap.size, 1, none⟩ (.slice AA (l0_1.length + 1) cA)) := below_set hBw (Nat.le_refl _)
  have hne : ∀ k, ((P0_1_ k ∨ P0_2_ k ∨ P1_1_ k) ∧ k < w.heap.size ∨ w.heap.size + 1 + 1 + 1 ≤ k) → k ≠ w.heap.size := fun k hk => by omega
  have hne3 : ∀ k, ((P0_1_ k ∨ P0_2_ k ∨ P1_1_ k) ∧ k < w.heap.size ∨ w.heap.size + 1 + 1 + 1 ≤ k) → k ≠ w.heap.size + 1 + 1 := fun k hk => by omega
  have V1 := Kd.V_far (p := ⟨w.heap.size, 1, none⟩) hVA hne (.slice AA (l0_1.length + 1) cA)
  have V2 := Kd.V_far (p := ⟨w.heap.size, 1, none⟩) (Kd.V_mk (e := 27) (base := 0) hc2 I2) hne (.slice AA (l0_1.length + 1) cA)
  clear E1 E2 E3 I2 hVA q1 z1 hHeld hBw hne
  obtain ⟨W3, hW3⟩ : ∃ W3 : World, W3 = W2.setCell ⟨w.heap.size, 1, none⟩ (.slice AA (l0_1.length + 1) cA) := ⟨_, rfl⟩
  rw [← hW3] at J1 J3 hB3 V1 V2 ⊢
  clear hW3
  have k0 : W3.cell? ⟨w.heap.size, 0, none⟩ = some (.int .i64 a0_0) := (blk_cell J1 0).trans rfl
  have k1 : W3.cell? ⟨w.heap.size, 1, none⟩ = some (.slice AA (l0_1.length + 1) cA) := (blk_cell J1 1).trans rfl
  have k2 : W3.cell? ⟨w.heap.size, 2, none⟩ = some (.slice A0_2 l0_2.length c0_2) := (blk_cell J1 2).trans rfl
  have p0 : W3.cell? ⟨w.heap.size + 1 + 1, 0, none⟩ = some (.int .i64 0) := (blk_cell J3 0).trans rfl
  have p1 : W3.cell? ⟨w.heap.size + 1 + 1, 1, none⟩ = some (.slice none 0 0) := (blk_cell J3 1).trans rfl
  have p2 : W3.cell? ⟨w.heap.size + 1 + 1, 2, none⟩ = some (.slice none 0 0) := (blk_cell J3 2).trans rfl
  have g0 := blk_frozen J3 0
  have g1 := blk_frozen J3 1
  have g2 := blk_frozen J3 2
  go_wp2
  refine bodyPost_ret (nrow.res rfl _ _ (w.heap.size + 1 + 1) 25 #[.int .i64 a0_0, .slice AA (l0_1.length + 1) cA, .slice A0_2 l0_2.length c0_2] (0, 0) _ rfl (by refine blk_put (cs := #[.int .i64 a0_0, .slice AA (l0_1.length + 1) cA, .slice none 0 0]) ?_ 2 _ rfl; refine blk_put (cs := #[.int .i64 a0_0, .slice none 0 0, .slice none 0 0]) ?_ 1 _ rfl; exact blk_put J3 0 _ rfl) Try.underlying25 rfl (by kernel_rfl)) rfl ?_
  have hgg : w.heap.size ≤ w.heap.size + 1 + 1 := by omega
  exact ⟨_, _, rfl, Kd.V_mono (Kd.V_far (p := ⟨w.heap.size + 1 + 1, 2, none⟩) (Kd.V_far (p := ⟨w.heap.size + 1 + 1, 1, none⟩) (Kd.V_far (p := ⟨w.heap.size + 1 + 1, 0, none⟩) V1 hne3 _) hne3 _) hne3 _) (fun k hk => hk.elim (fun h => .inl h.1) (fun h => .inr (by omega))), Kd.V_mono (Kd.V_far (p := ⟨w.heap.size + 1 + 1, 2, none⟩) (Kd.V_far (p := ⟨w.heap.size + 1 + 1, 1, none⟩) (Kd.V_far (p := ⟨w.heap.size + 1 + 1, 0, none⟩) V2 hne3 _) hne3 _) hne3 _) (fun k hk => hk.elim (fun h => .inl h.1) (fun h => .inr (by omega))), below_set (below_set (below_set hB3 hgg) hgg) hgg⟩

/-! ### slices_Grow_uint32_uint32: function 28 -/
def slices_Grow_uint32_uint32.f (l0 : List (List Int)) (a1 : Int) : Option ((List (List Int))) := if a1 < 0 then (none) else (if (l0.length : Int) > 0 then (none) else (if a1 > 0 then (if 0 ≤ a1 then (if ([] : List (List Int)).length + (a1 : Int).toNat < 5864062014805 then ((some (([] : List (List Int)) ++ List.replicate (a1 : Int).toNat [] : List (List Int))).bind fun y115 => (if 0 ≤ (y115.length : Int) then (some (y115.take (0 : Int).toNat)) else (none))) else (none)) else (none)) else (some ([] : List (List Int)))))
set_option maxHeartbeats 8000000 in
set_option maxRecDepth 100000 in
theorem slices_Grow_uint32_uint32.calls (A0 : Option Addr) (c0 : Nat) (l0 : List (List Int)) (a1 : Int) (r : List (List Int)) (w : World) (hr0 : Kd.C (Kd.slice 26 (Kd.int .u32)) w A0 l0.length l0) (hc0 : l0.length ≤ c0) (h : slices_Grow_uint32_uint32.f l0 a1 = some r) (hA : A0 = none := by rfl) (hcap : c0 = 0 := by rfl) :
    Calls Try.prog 28 #[.slice A0 l0.length c0, .int .i64 a1] w fun e w' => ∃ v0_ : Value, e = .returned (v0_) ∧ Kd.S (Kd.slice 26 (Kd.int .u32)) 27 w' w.heap.size (fun _ => True) v0_ r ∧ Below w.heap.size w w' := by
  subst hA hcap
  have hl0 : l0 = [] := by
    rcases l0 with _ | ⟨y, ys⟩
    · rfl
    · obtain ⟨ad, had, _⟩ := hr0.2.2 (by simp)
      cases had
  subst hl0
  have HR0 := Aside0.mk hr0
  have HC0 := Aside0.mk hc0
  clear hr0 hc0
  have HB := Aside0.mk (Below.refl w.heap.size w)
  have H : (if a1 < 0 then (none) else (if (([] : List (List Int)).length : Int) > 0 then (none) else (if a1 > 0 then (if 0 ≤ a1 then (if ([] : List (List Int)).length + (a1 : Int).toNat < 5864062014805 then ((some (([] : List (List Int)) ++ List.replicate (a1 : Int).toNat [] : List (List Int))).bind fun y115 => (if 0 ≤ (y115.length : Int) then (some (y115.take (0 : Int).toNat)) else (none))) else (none)) else (none)) else (some ([] : List (List Int)))))) = some r := h
  clear h
  by_cases c3 : a1 < 0
  · rw [if_pos c3] at H
    exact absurd H (by simp)
  · rw [if_neg c3] at H
    have c3b0 : decide (a1 < 0) = false := decide_eq_false c3
    clear c3
    by_cases c4 : (([] : List (List Int)).length : Int) > 0
    · rw [if_pos c4] at H
      exact absurd H (by simp)
    · rw [if_neg c4] at H
      have c4b0 : decide (0 < (([] : List (List Int)).length : Int)) = false := decide_eq_false c4
      have c4b1 : decide (0 < ([] : List (List Int)).length) = false := decide_eq_false (by omega)
      clear c4
      by_cases c5 : a1 > 0
      · rw [if_pos c5] at H
        have c5b0 : decide (0 < a1) = true := decide_eq_true c5
        clear c5
        by_cases c6 : 0 ≤ a1
        · rw [if_pos c6] at H
          have c6b0 := eq_true c6
          have c6b1 : decide (0 ≤ a1) = true := decide_eq_true c6
          clear c6
          by_cases c7 : ([] : List (List Int)).length + (a1 : Int).toNat < 5864062014805
          · rw [if_pos c7] at H
            have LMc7 := Aside0.mk c7
            clear c7
            obtain ⟨y115, hy115⟩ : ∃ y_ : List (List Int), y_ = (([] : List (List Int)) ++ List.replicate (a1 : Int).toNat []) := ⟨_, rfl⟩
            replace H : (if 0 ≤ (y115.length : Int) then (some (y115.take (0 : Int).toNat)) else (none)) = some r := by first | (rw [hy115]; with_reducible exact H) | (have H2_ := (Option.bind_some _ _).symm.trans H; rw [hy115]; with_reducible exact H2_) | (have H2_ := (Option.bind_some _ _).symm.trans H; with_reducible exact H2_) | with_reducible exact H | (rw [hy115]; exact H) | exact H
            have Ny115 := Aside0.mk hy115
            clear hy115
            by_cases c8 : 0 ≤ (y115.length : Int)
            · rw [if_pos c8] at H
              have c8b0 := eq_true c8
              have c8b1 : decide (0 ≤ (y115.length : Int)) = true := decide_eq_true c8
              clear c8
              obtain ⟨y118, hy118⟩ : ∃ y_ : List (List Int), y_ = (y115.take (0 : Int).toNat) := ⟨_, rfl⟩
              replace H : (some y118) = some r := by first | (rw [hy118]; with_reducible exact H) | (have H2_ := (Option.bind_some _ _).symm.trans H; rw [hy118]; with_reducible exact H2_) | (have H2_ := (Option.bind_some _ _).symm.trans H; with_reducible exact H2_) | with_reducible exact H | (rw [hy118]; exact H) | exact H
              have Ny118 := Aside0.mk hy118
              clear hy118
              obtain rfl := Option.some.inj H
              have hhi : a1 ≤ 35184372088832 := by have := LMc7.out; simp only [List.length_nil] at this; omega
              have hlo : 0 ≤ a1 := of_decide_eq_true c6b1
              show Calls Try.prog 28 #[.slice none 0 0, .int .i64 a1] w _
              go_enter Try.func28, Try.ntmps28
              go_wp2_with (first | (at_builtin; refine Kd.S_append_zeros (Kd.slice 26 (Kd.int .u32)) (w0 := w) w.heap.size rfl (.tmp 20) (.tmp 21) 23 3 27 (.slice none 0 0) 24 rfl Try.underlying23 Try.underlying3 info27 rfl (by decide) (by omega) (.slice none 0 0) ([] : List (List Int)) [] (a1 : Int) (fun _ => True) rfl rfl ⟨_, rfl, Kd.R_nil _ _ _ _ _⟩ ?aF ?aO (of_decide_eq_true (by first | (with_reducible assumption) | assumption)) ?aB ?aS ?aL ?_; (case aB => exact (by repeat (first | (with_reducible first | exact HB.out | apply below_alloc | apply pw_below_drewN | apply below_drew1) | exact HB.out))); (case aF => exact (fun _ _ => trivial)); (case aO => exact ((Kd.S_nil _ _ _ _ _))); (case aS => exact (below_size (by repeat (first | (with_reducible first | exact HB.out | apply below_alloc | apply pw_below_drewN | apply below_drew1) | exact HB.out)))); (case aL => have := LMc7.out; omega); intro v116 w9 ho hb hg hat; rw [← Ny115.out] at ho; have n0_ := Aside0.mk (hb); have n1_ := Aside0.mk (ho); clear HB; have HB := n0_; have HO117 := n1_; clear n0_ n1_; clear ho hb hg hat; obtain ⟨Ao10, co10, eo10⟩ := Kd.S_slice HO117.out; subst eo10; have q11 : (0 : Int) ≤ ((y115.length : Int) : Int) := of_decide_eq_true (by first | (with_reducible assumption) | assumption); obtain ⟨i011, hi011, _, hsz11, _⟩ := info_parts info27; have hcut11 := cut_to (P := Try.prog) 23 27 .i64 Try.underlying23 hi011 Ao10 y115.length co10 0 (by omega) q11 (Kd.S_reads' HO117.out).2.1; have hr11 := Kd.S_take (m := (0 : Int).toNat) HO117.out (by omega); have hy11 : y118.length = (0 : Int).toNat := (by rw [Ny118.out, List.length_take]; omega); rw [← Ny118.out] at hr11; rw [← hy11] at hr11 hcut11; clear hy11 hi011 hsz11 HO117; have HO120 := Aside0.mk hr11; clear hr11; replace q11 := eq_true q11))
              go_ret
              exact ⟨_, by first | rfl | (simp [errW_none, errW_some] <;> rfl) | (simp [*, errW_none, errW_some] <;> rfl), by (with_reducible repeat (first | apply Kd.S_alloc | apply Kd.S_drewN | apply Kd.S_drew)); exact HO120.out, by repeat (first | (with_reducible first | exact HB.out | apply below_alloc | apply pw_below_drewN | apply below_drew1) | exact HB.out)⟩
            · rw [if_neg c8] at H
              exact absurd H (by simp)
          · rw [if_neg c7] at H
            exact absurd H (by simp)
        · rw [if_neg c6] at H
          exact absurd H (by simp)
      · rw [if_neg c5] at H
        have c5b0 : decide (0 < a1) = false := decide_eq_false c5
        clear c5
        obtain rfl := Option.some.inj H
        have ha1 : a1 = 0 := by have q1 := of_decide_eq_false c3b0; have q2 := of_decide_eq_false c5b0; omega
        clear c3b0 c5b0 c4b0 c4b1
        subst ha1
        show Calls Try.prog 28 #[.slice none 0 0, .int .i64 0] w _
        go_enter Try.func28, Try.ntmps28
        go_wp2
        go_ret
        exact ⟨_, by first | rfl | (simp [errW_none, errW_some] <;> rfl) | (simp [*, errW_none, errW_some] <;> rfl), by first | exact Kd.S_nil _ _ _ _ _ | exact Kd.N_nil _ _ _ _ _ | exact Kd.V_nil _ _ _ _ _ | exact Kd.Q_nil _ _ _ _ _ | exact Kd.R_nil _ _ _ _ _, by repeat (first | (with_reducible first | exact HB.out | apply below_alloc | apply pw_below_drewN | apply below_drew1) | exact HB.out)⟩

/-! ### slices_Concat_uint32_uint32: function 23 -/
mutual
def slices_Concat_uint32_uint32.l0 : Nat → List (List (List Int)) → Int → List (List (List Int)) → Int → Int → Option ((List (List Int)))
  | 0, _, _, _, _, _ => none
  | k + 1, x0, x3, x9, x10, x11 => if x11 < x10 then (if 0 ≤ x11 then (if x11 < (x9.length : Int) then (if (wrap64 (x3 + ((rd_L3 x9 x11).length : Int))) < 0 then (none) else (slices_Concat_uint32_uint32.l0 k x0 (wrap64 (x3 + ((rd_L3 x9 x11).length : Int))) x9 x10 (wrap64 (x11 + 1)))) else (none)) else (none)) else ((slices_Grow_uint32_uint32.f ([] : List (List Int)) x3).bind fun t122 => (slices_Concat_uint32_uint32.l1 k t122 x0 (x0.length : Int) 0))
def slices_Concat_uint32_uint32.l1 : Nat → List (List Int) → List (List (List Int)) → Int → Int → Option ((List (List Int)))
  | 0, _, _, _, _ => none
  | k + 1, x6, x25, x26, x27 => if x27 < x26 then (if 0 ≤ x27 then (if x27 < (x25.length : Int) then (if x6.length + (rd_L3 x25 x27).length < 5864062014805 then (slices_Concat_uint32_uint32.l1 k (x6 ++ (rd_L3 x25 x27)) x25 x26 (wrap64 (x27 + 1))) else (none)) else (none)) else (none)) else (some x6)
end
def slices_Concat_uint32_uint32.f (k : Nat) (l0 : List (List (List Int))) : Option ((List (List Int))) := slices_Concat_uint32_uint32.l0 k l0 0 l0 (l0.length : Int) 0
theorem slices_Concat_uint32_uint32.mono_l : ∀ k, (∀ y0 y1 y2 y3 y4, LeO (slices_Concat_uint32_uint32.l0 k y0 y1 y2 y3 y4) (slices_Concat_uint32_uint32.l0 (k + 1) y0 y1 y2 y3 y4)) ∧ (∀ y0 y1 y2 y3, LeO (slices_Concat_uint32_uint32.l1 k y0 y1 y2 y3) (slices_Concat_uint32_uint32.l1 (k + 1) y0 y1 y2 y3))
  | 0 => ⟨fun _ _ _ _ _ r h => by simp [slices_Concat_uint32_uint32.l0] at h, fun _ _ _ _ r h => by simp [slices_Concat_uint32_uint32.l1] at h⟩
  | k + 1 => by
    obtain ⟨ih0, ih1⟩ := slices_Concat_uint32_uint32.mono_l k
    refine ⟨?_, ?_⟩
    · intro y0 y1 y2 y3 y4
      unfold slices_Concat_uint32_uint32.l0
      repeat' first
      | (with_reducible exact ih0 _ _ _ _ _)
      | (with_reducible exact ih1 _ _ _ _)
      | (with_reducible exact LeO.refl _)
      | (with_reducible exact LeO.none _)
      | (with_reducible refine LeO.ite ?_ ?_)
      | (with_reducible refine LeO.bind ?_ (fun _ => ?_))
      | exact ih0 _ _ _ _ _
      | exact ih1 _ _ _ _
      | exact LeO.none _
      | refine LeO.ite ?_ ?_
      | refine LeO.bind ?_ (fun _ => ?_)
    · intro y0 y1 y2 y3
      unfold slices_Concat_uint32_uint32.l1
      repeat' first
      | (with_reducible exact ih0 _ _ _ _ _)
      | (with_reducible exact ih1 _ _ _ _)
      | (with_reducible exact LeO.refl _)
      | (with_reducible exact LeO.none _)
      | (with_reducible refine LeO.ite ?_ ?_)
      | (with_reducible refine LeO.bind ?_ (fun _ => ?_))
      | exact ih0 _ _ _ _ _
      | exact ih1 _ _ _ _
      | exact LeO.none _
      | refine LeO.ite ?_ ?_
      | refine LeO.bind ?_ (fun _ => ?_)
theorem slices_Concat_uint32_uint32.mono : ∀ a0 k, LeO (slices_Concat_uint32_uint32.f k a0) (slices_Concat_uint32_uint32.f (k + 1) a0) := by
  intro a0 k
  obtain ⟨ih0, ih1⟩ := slices_Concat_uint32_uint32.mono_l k
  unfold slices_Concat_uint32_uint32.f
  repeat' first
      | (with_reducible exact ih0 _ _ _ _ _)
      | (with_reducible exact ih1 _ _ _ _)
      | (with_reducible exact LeO.refl _)
      | (with_reducible exact LeO.none _)
      | (with_reducible refine LeO.ite ?_ ?_)
      | (with_reducible refine LeO.bind ?_ (fun _ => ?_))
      | exact ih0 _ _ _ _ _
      | exact ih1 _ _ _ _
      | exact LeO.none _
      | refine LeO.ite ?_ ?_
      | refine LeO.bind ?_ (fun _ => ?_)
set_option maxHeartbeats 8000000 in
set_option maxRecDepth 100000 in
theorem slices_Concat_uint32_uint32.calls (k : Nat) (P0_ : Nat → Prop) (A0 : Option Addr) (c0 : Nat) (l0 : List (List (List Int))) (r : List (List Int)) (w : World) (hs0 : Kd.V (Kd.slice 27 (Kd.slice 26 (Kd.int .u32))) 23 w w.heap.size (fun k_ => P0_ k_) (.slice A0 l0.length c0) l0) (h : slices_Concat_uint32_uint32.f k l0 = some r) :
    Calls Try.prog 23 #[.slice A0 l0.length c0] w fun e w' => ∃ v0_ : Value, e = .returned (v0_) ∧ Kd.N (Kd.slice 26 (Kd.int .u32)) 27 w' w.heap.size (fun k_ => (P0_ k_ ∨ w.heap.size ≤ k_)) v0_ r ∧ Below w.heap.size w w' := by
  have HO0 := Aside0.mk (show Kd.V (Kd.slice 27 (Kd.slice 26 (Kd.int .u32))) 23 w w.heap.size (fun k_ => (P0_ k_ ∨ w.heap.size ≤ k_)) (.slice A0 l0.length c0) l0 from Kd.V_mono hs0 (fun k_ hk => .inl hk))
  have HB := Aside0.mk (Below.refl w.heap.size w)
  have H : (slices_Concat_uint32_uint32.l0 k l0 0 l0 (l0.length : Int) 0) = some r := h
  clear h
  have H' := Aside0.mk H
  clear H
  go_enter Try.func23, Try.ntmps23
  go_wp2
  go_loopg [3, 11] k (fun kq v3 v11 w' => ∃ (x3_1 : Int) (x11_1 : Int), v3 = .int .i64 x3_1 ∧ v11 = .int .i64 x11_1 ∧ Aside0 (slices_Concat_uint32_uint32.l0 kq l0 x3_1 l0 (l0.length : Int) x11_1 = some r) ∧ Aside0 (kq ≤ k) ∧ Aside0 (Kd.V (Kd.slice 27 (Kd.slice 26 (Kd.int .u32))) 23 w' w.heap.size (fun k_ => (P0_ k_ ∨ w.heap.size ≤ k_)) (.slice A0 l0.length c0) l0) ∧ Aside0 (Kd.V (Kd.slice 27 (Kd.slice 26 (Kd.int .u32))) 23 w' w.heap.size (fun k_ => (P0_ k_ ∨ w.heap.size ≤ k_)) (.slice A0 l0.length c0) l0) ∧ Aside0 (Below w.heap.size w w'))
  case atStart => exact ⟨(0), (0), (by first | rfl | (simp; done) | (simp [*]; done)), (by first | rfl | (simp; done) | (simp [*]; done)), H', ⟨Nat.le_refl _⟩, ⟨by (with_reducible repeat (first | apply Kd.V_alloc | apply Kd.V_drewN | apply Kd.V_drew)); exact HO0.out⟩, ⟨by (with_reducible repeat (first | apply Kd.V_alloc | apply Kd.V_drewN | apply Kd.V_drew)); exact HO0.out⟩, ⟨by repeat (first | (with_reducible first | exact HB.out | apply below_alloc | apply pw_below_drewN | apply below_drew1) | exact HB.out)⟩⟩
  case round =>
    clear H'
    obtain ⟨x3_1, x11_1, rfl, rfl, HA, HK1, HO_0, HO_9, HB⟩ := hrel
    cases gk with
    | zero => exact absurd HA.out (by simp [slices_Concat_uint32_uint32.l0])
    | succ k1 =>
      have H := HA.out
      clear HA
      simp only [slices_Concat_uint32_uint32.l0] at H
      by_cases c2 : x11_1 < (l0.length : Int)
      · rw [if_pos c2] at H
        have c2b0 : decide (x11_1 < (l0.length : Int)) = true := decide_eq_true c2
        clear c2
        by_cases c3 : 0 ≤ x11_1
        · rw [if_pos c3] at H
          have c3b0 : decide (0 ≤ x11_1) = true := decide_eq_true c3
          clear c3
          by_cases c4 : x11_1 < (l0.length : Int)
          · rw [if_pos c4] at H
            have c4b0 : decide (x11_1 < (l0.length : Int)) = true := decide_eq_true c4
            clear c4
            by_cases c5 : (wrap64 (x3_1 + ((rd_L3 l0 x11_1).length : Int))) < 0
            · rw [if_pos c5] at H
              exact absurd H (by simp)
            · rw [if_neg c5] at H
              have c5b0 : decide ((wrap64 (x3_1 + ((rd_L3 l0 x11_1).length : Int))) < 0) = false := decide_eq_false c5
              clear c5
              have H' := Aside0.mk H
              clear H
              have p121 : 0 ≤ (x11_1 : Int) := of_decide_eq_true (by first | (with_reducible assumption) | assumption)
              have q121 : x11_1 < (l0.length : Int) := of_decide_eq_true (by first | (with_reducible assumption) | assumption)
              obtain ⟨ad121, A121_0, c121_0, e121, hx121_0, hl121_0, hi121_0⟩ := at_L3 (Kd.V_reads' HO_9.out).2.2 x11_1 p121 q121
              cases e121
              obtain ⟨ce121, hce121, hMe121, hcc121⟩ := Kd.V_get HO_9.out [] x11_1 p121 (by first | exact q121 | exact of_decide_eq_true (by first | (with_reducible assumption) | assumption) | (have e_ := (Kd.V_reads' HO_9.out).1; omega))
              obtain ⟨ua121_0, uc121_0, rfl, ul121_0, ge121_0⟩ := Kd.FK_slice_open hMe121
              have hv121_0 := hcc121 0 _ rfl
              rw [Nat.add_zero, show ((Kd.slice 27 (Kd.slice 26 (Kd.int .u32)))).sz = 1 from rfl, Nat.mul_one] at hv121_0
              replace hv121_0 := Option.some.inj (hv121_0.symm.trans hx121_0)
              injection hv121_0 with hva_ hvn_ hvc_
              rw [hva_] at ge121_0
              rw [hvc_] at ul121_0
              have HL121_0 := Aside0.mk (show Kd.V (Kd.slice 26 (Kd.int .u32)) 27 _ w.heap.size _ _ (rd_L3 l0 x11_1) from Kd.V_mk ul121_0 ge121_0)
              clear hva_ hvn_ hvc_ ge121_0 ul121_0
              clear hcc121 hce121
              have HR121_0 := Aside0.mk hi121_0
              have HC121_0 := Aside0.mk hl121_0
              clear hi121_0 hl121_0
              replace p121 := eq_true p121
              replace q121 := eq_true q121
              go_wp2
              go_roundg k1
              case measure => have := HK1.out; omega
              case rel => exact ⟨(wrap64 (x3_1 + ((rd_L3 l0 x11_1).length : Int))), (wrap64 (x11_1 + 1)), (by first | rfl | (simp; done) | (simp [*]; done)), (by first | rfl | (simp; done) | (simp [*]; done)), H', ⟨by have := HK1.out; omega⟩, ⟨by (with_reducible repeat (first | apply Kd.V_alloc | apply Kd.V_drewN | apply Kd.V_drew)); exact HO_0.out⟩, ⟨by (with_reducible repeat (first | apply Kd.V_alloc | apply Kd.V_drewN | apply Kd.V_drew)); exact HO_9.out⟩, ⟨by repeat (first | (with_reducible first | exact HB.out | apply below_alloc | apply pw_below_drewN | apply below_drew1) | exact HB.out)⟩⟩
          · rw [if_neg c4] at H
            exact absurd H (by simp)
        · rw [if_neg c3] at H
          exact absurd H (by simp)
      · rw [if_neg c2] at H
        have c2b0 : decide (x11_1 < (l0.length : Int)) = false := decide_eq_false c2
        clear c2
        replace H := Option.bind_eq_some_iff.mp H
        obtain ⟨t122, A60, H⟩ := H
        replace H : (slices_Concat_uint32_uint32.l1 k1 t122 l0 (l0.length : Int) 0) = some r := H
        have A6 := Aside0.mk A60
        clear A60
        have H' := Aside0.mk H
        clear H
        go_wp2_with (first | ((with_reducible refine gate_callee (f := 28) rfl ?_); refine goesL_ (some 24) rfl rfl Try.func28 (by kernel_rfl) rfl #[.slice none 0 0, .int .i64 x3_1] rfl (by (try simp only [List.map_toArray, List.map_cons, List.map_nil]); first | done | rfl | (simp only [List.length_drop, List.length_take]; rfl)) ?_; (refine (slices_Grow_uint32_uint32.calls _ _ ([] : List (List Int)) x3_1 t122 _ ?side1 ?side2 A6.out).mono ?_); (case side1 => exact Kd.C_nil _ _); (case side2 => exact Nat.le_refl _); rintro e w7 ⟨v123, rfl, ho0, hb⟩; refine ⟨_, rfl, ?_⟩; have n0_ := Aside0.mk (Kd.V_elder' (by (with_reducible repeat (first | apply Kd.V_alloc | apply Kd.V_drewN | apply Kd.V_drew)); exact HO_0.out) (Kd.S_base ho0) hb); have n1_ := Aside0.mk (Kd.V_elder' (by (with_reducible repeat (first | apply Kd.V_alloc | apply Kd.V_drewN | apply Kd.V_drew)); exact HO_9.out) (Kd.S_base ho0) hb); have n2_ := Aside0.mk (Kd.N_lower (Kd.N_mono (ok' := fun k_ => (P0_ k_ ∨ w.heap.size ≤ k_)) (Kd.S_N (Kd.S_bound ho0)) (fun k_ hk_ => (.inr (Nat.le_trans (below_size (by repeat (first | (with_reducible first | exact HB.out | apply below_alloc | apply pw_below_drewN | apply below_drew1) | exact HB.out))) hk_.2.1)))) (below_size (by repeat (first | (with_reducible first | exact HB.out | apply below_alloc | apply pw_below_drewN | apply below_drew1) | exact HB.out)))); have n3_ := Aside0.mk (below_step (by repeat (first | (with_reducible first | exact HB.out | apply below_alloc | apply pw_below_drewN | apply below_drew1) | exact HB.out)) hb); clear HO_0; clear HO_9; clear HB; have HO_0 := n0_; have HO_9 := n1_; have HO124 := n2_; have HB := n3_; clear n0_ n1_ n2_ n3_; (try clear hb); (try clear hb2); (try clear hk); (try clear hi); (try clear ho0)))
        go_loopg [6, 27] k1 (fun kq v6 v27 w' => ∃ (x6_2 : List (List Int)) (x27_2 : Int), v27 = .int .i64 x27_2 ∧ Aside0 (slices_Concat_uint32_uint32.l1 kq x6_2 l0 (l0.length : Int) x27_2 = some r) ∧ Aside0 (kq ≤ k1) ∧ Aside0 (Kd.N (Kd.slice 26 (Kd.int .u32)) 27 w' w.heap.size (fun k_ => (P0_ k_ ∨ w.heap.size ≤ k_)) v6 x6_2) ∧ Aside0 (Kd.V (Kd.slice 27 (Kd.slice 26 (Kd.int .u32))) 23 w' w.heap.size (fun k_ => (P0_ k_ ∨ w.heap.size ≤ k_) ∧ some k_ ≠ (v6 : Value).ownBlock) (.slice A0 l0.length c0) l0) ∧ Aside0 (Below w.heap.size w w'))
        case atStart => exact ⟨(t122), (0), (by first | rfl | (simp; done) | (simp [*]; done)), H', ⟨Nat.le_refl _⟩, ⟨by (with_reducible repeat (first | apply Kd.N_alloc | apply Kd.N_drewN | apply Kd.N_drew)); exact HO124.out⟩, ⟨by (with_reducible repeat (first | apply Kd.V_alloc | apply Kd.V_drewN | apply Kd.V_drew)); exact HO_0.out⟩, ⟨by repeat (first | (with_reducible first | exact HB.out | apply below_alloc | apply pw_below_drewN | apply below_drew1) | exact HB.out)⟩⟩
        case round =>
          clear H'
          try clear c1
          try clear p1
          try clear q1
          try clear hx1
          try clear c2
          try clear c2b0
          try clear p2
          try clear c3
          try clear c3b0
          try clear c4
          try clear c4b0
          try clear c5
          try clear c5b0
          try clear p6
          try clear hx121_0
          try clear p121
          try clear q121
          obtain ⟨x6_2, x27_2, rfl, HA, HK2, HO_6, HO_25, HB⟩ := hrel
          cases gk with
          | zero => exact absurd HA.out (by simp [slices_Concat_uint32_uint32.l1])
          | succ k2 =>
            have H := HA.out
            clear HA
            simp only [slices_Concat_uint32_uint32.l1] at H
            by_cases c8 : x27_2 < (l0.length : Int)
            · rw [if_pos c8] at H
              have c8b0 : decide (x27_2 < (l0.length : Int)) = true := decide_eq_true c8
              clear c8
              by_cases c9 : 0 ≤ x27_2
              · rw [if_pos c9] at H
                have c9b0 : decide (0 ≤ x27_2) = true := decide_eq_true c9
                clear c9
                by_cases c10 : x27_2 < (l0.length : Int)
                · rw [if_pos c10] at H
                  have c10b0 : decide (x27_2 < (l0.length : Int)) = true := decide_eq_true c10
                  clear c10
                  by_cases c11 : x6_2.length + (rd_L3 l0 x27_2).length < 5864062014805
                  · rw [if_pos c11] at H
                    have LMc11 := Aside0.mk c11
                    clear c11
                    obtain ⟨y126, hy126⟩ : ∃ y_ : List (List Int), y_ = (x6_2 ++ (rd_L3 l0 x27_2)) := ⟨_, rfl⟩
                    replace H : (slices_Concat_uint32_uint32.l1 k2 y126 l0 (l0.length : Int) (wrap64 (x27_2 + 1))) = some r := by first | (rw [hy126]; with_reducible exact H) | (have H2_ := (Option.bind_some _ _).symm.trans H; rw [hy126]; with_reducible exact H2_) | (have H2_ := (Option.bind_some _ _).symm.trans H; with_reducible exact H2_) | with_reducible exact H | (rw [hy126]; exact H) | exact H
                    have Ny126 := Aside0.mk hy126
                    clear hy126
                    have H' := Aside0.mk H
                    clear H
                    have p125 : 0 ≤ (x27_2 : Int) := of_decide_eq_true (by first | (with_reducible assumption) | assumption)
                    have q125 : x27_2 < (l0.length : Int) := of_decide_eq_true (by first | (with_reducible assumption) | assumption)
                    obtain ⟨ad125, A125_0, c125_0, e125, hx125_0, hl125_0, hi125_0⟩ := at_L3 (Kd.V_reads' HO_25.out).2.2 x27_2 p125 q125
                    cases e125
                    obtain ⟨ce125, hce125, hMe125, hcc125⟩ := Kd.V_get HO_25.out [] x27_2 p125 (by first | exact q125 | exact of_decide_eq_true (by first | (with_reducible assumption) | assumption) | (have e_ := (Kd.V_reads' HO_25.out).1; omega))
                    obtain ⟨ua125_0, uc125_0, rfl, ul125_0, ge125_0⟩ := Kd.FK_slice_open hMe125
                    have hv125_0 := hcc125 0 _ rfl
                    rw [Nat.add_zero, show ((Kd.slice 27 (Kd.slice 26 (Kd.int .u32)))).sz = 1 from rfl, Nat.mul_one] at hv125_0
                    replace hv125_0 := Option.some.inj (hv125_0.symm.trans hx125_0)
                    injection hv125_0 with hva_ hvn_ hvc_
                    rw [hva_] at ge125_0
                    rw [hvc_] at ul125_0
                    have HL125_0 := Aside0.mk (show Kd.V (Kd.slice 26 (Kd.int .u32)) 27 _ w.heap.size _ _ (rd_L3 l0 x27_2) from Kd.V_mk ul125_0 ge125_0)
                    clear hva_ hvn_ hvc_ ge125_0 ul125_0
                    clear hcc125 hce125
                    have HR125_0 := Aside0.mk hi125_0
                    have HC125_0 := Aside0.mk hl125_0
                    clear hi125_0 hl125_0
                    replace p125 := eq_true p125
                    replace q125 := eq_true q125
                    go_wp2_with (first | ((with_reducible refine gate_builtin (b := .append) (xs := #[.tmp 31, .tmp 32]) rfl ?_); at_builtin; refine Kd.N_append_rows (Kd.slice 26 (Kd.int .u32)) (w0 := w) w.heap.size rfl (.tmp 31) (.tmp 32) 23 27 (.slice none 0 0) 24 rfl Try.underlying23 info27 rfl (by decide) (by omega) u6 x6_2 (rd_L3 l0 x27_2) _ _ _ (fun k_ => (P0_ k_ ∨ w.heap.size ≤ k_)) (fun k_ => ((fun k_ => (P0_ k_ ∨ w.heap.size ≤ k_))) k_ ∧ some k_ ≠ (u6 : Value).ownBlock) rfl rfl ?aO ?aR (fun _ hk => hk) ?aF ?aB ?aS ?aL ?_; (case aR => exact (by skip; exact Kd.V_F (Kd.V_mono (ok' := (fun k_ => ((fun k_ => (P0_ k_ ∨ w.heap.size ≤ k_))) k_ ∧ some k_ ≠ (u6 : Value).ownBlock)) (HL125_0.out) (fun k_ hk => ⟨hk.1, hk.2⟩)))); (case aB => exact (by repeat (first | (with_reducible first | exact HB.out | apply below_alloc | apply pw_below_drewN | apply below_drew1) | exact HB.out))); (case aF => exact (fun k_ hk => (.inr (Nat.le_trans (below_size (by repeat (first | (with_reducible first | exact HB.out | apply below_alloc | apply pw_below_drewN | apply below_drew1) | exact HB.out))) hk)))); (case aO => exact (by (with_reducible repeat (first | apply Kd.N_alloc | apply Kd.N_drewN | apply Kd.N_drew)); exact HO_6.out)); (case aS => exact (below_size (by repeat (first | (with_reducible first | exact HB.out | apply below_alloc | apply pw_below_drewN | apply below_drew1) | exact HB.out)))); (case aL => have := LMc11.out; omega); intro v127 w12 ho hb hg hat; rw [← Ny126.out] at ho; have n0_ := Aside0.mk (Kd.V_afterv (ok := (fun k_ => (P0_ k_ ∨ w.heap.size ≤ k_))) (by (with_reducible repeat (first | apply Kd.V_alloc | apply Kd.V_drewN | apply Kd.V_drew)); exact HO_25.out) hg hat); have n1_ := Aside0.mk (Kd.V_afterv (ok := (fun k_ => (P0_ k_ ∨ w.heap.size ≤ k_))) (by (with_reducible repeat (first | apply Kd.V_alloc | apply Kd.V_drewN | apply Kd.V_drew)); exact HL125_0.out) hg hat); have n2_ := Aside0.mk (hb); have n3_ := Aside0.mk (ho); clear HO_25; clear HL125_0; clear HB; clear HO_6; have HO_25 := n0_; have HL125_0 := n1_; have HB := n2_; have HO128 := n3_; clear n0_ n1_ n2_ n3_; clear ho hb hg hat))
                    go_roundg k2
                    case measure => have := HK1.out; have := HK2.out; omega
                    case rel => exact ⟨(y126), (wrap64 (x27_2 + 1)), (by first | rfl | (simp; done) | (simp [*]; done)), H', ⟨by have := HK1.out; have := HK2.out; omega⟩, ⟨by (with_reducible repeat (first | apply Kd.N_alloc | apply Kd.N_drewN | apply Kd.N_drew)); exact HO128.out⟩, ⟨by (with_reducible repeat (first | apply Kd.V_alloc | apply Kd.V_drewN | apply Kd.V_drew)); exact HO_25.out⟩, ⟨by repeat (first | (with_reducible first | exact HB.out | apply below_alloc | apply pw_below_drewN | apply below_drew1) | exact HB.out)⟩⟩
                  · rw [if_neg c11] at H
                    exact absurd H (by simp)
                · rw [if_neg c10] at H
                  exact absurd H (by simp)
              · rw [if_neg c9] at H
                exact absurd H (by simp)
            · rw [if_neg c8] at H
              have c8b0 : decide (x27_2 < (l0.length : Int)) = false := decide_eq_false c8
              clear c8
              obtain rfl := Option.some.inj H
              go_wp2
              go_ret
              exact ⟨_, by first | rfl | (simp [errW_none, errW_some] <;> rfl) | (simp [*, errW_none, errW_some] <;> rfl), by (with_reducible repeat (first | apply Kd.N_alloc | apply Kd.N_drewN | apply Kd.N_drew)); exact HO_6.out, by repeat (first | (with_reducible first | exact HB.out | apply below_alloc | apply pw_below_drewN | apply below_drew1) | exact HB.out)⟩

end Go.Proofs.Ytlbfdmoocgjiaaa.PNetBag
