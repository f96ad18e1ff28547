/- The law AdvAlone of the adversary's layer, walked by hand: text 2. -/
import Derived.Test.YthlcpbendleihaaAAdvAlone1
namespace Go.Proofs.Ythlcpbendleihaa.PAdvAlone
open Go Go.RowKit Go.Proofs.YthlcpbendleihaaW.PrintWords Go.Proofs.YthlcpbendleihaaW.PrintLast Go.Proofs.YthlcpbendleihaaW.PrintMore
set_option linter.unusedVariables false
set_option linter.unusedSimpArgs false
/-! ### (*hand).lit: function 47 -/
def adv_lit.f (k : Nat) (x : wk.X) (o : wk.O) : Option (List Int × Int × wk.X) := if 64 < o.ws.length then some ([], 3, x) else (slices_Clone_uint32_uint32_61.f o.ws).bind fun t => some (t, 0, x)
set_option maxHeartbeats 8000000 in
set_option maxRecDepth 100000 in
theorem adv_lit.calls (k : Nat) : wk.Deed 47 (adv_lit.f k) := by
 intro x s o aq cq gh P w l e y Bh R VW hP h
 have hu39 := Try.underlying39
 have hu41 := Try.underlying41
 have hu68 := Try.underlying68
 have hu34 := Try.underlying34
 have hu30 := Try.underlying30
 have ghl := blk_lt Bh
 have HH : ∀ k, (P k ∨ w.heap.size ≤ k) → k ≠ gh := fun k hk => hk.elim (hP k) (fun q => by omega)
 have HB : wk.Kb gh w w := wk.Kb.of (Below.refl w.heap.size w)
 have HN : ∀ q ∈ ([] : List Nat), q < w.heap.size := fun q hq => by simp at hq
 replace R := R.start w.heap.size
 replace VW := wk.V_start w.heap.size VW
 unfold wk.hc at Bh
 unfold adv_lit.f at h
 by_cases c1 : 64 < o.ws.length
 ·
  rw [if_pos c1] at h
  simp only [Option.some.injEq, Prod.mk.injEq] at h
  obtain ⟨rfl, rfl, rfl⟩ := h
  have c1b : decide (64 < (o.ws.length : Int)) = true := decide_eq_true (by omega)
  have c1c : decide (64 < o.ws.length) = true := decide_eq_true c1
  clear c1
  have Jh := wk.ca Bh
  have Yh := wk.za Bh
  go_enter Try.func47, Try.ntmps47
  go_wp2
  go_ret2
  exact wk.outd none 0 s Bh (Kd.V_nil _ _ _ _ _) R HB bR_
 ·
  rw [if_neg c1] at h
  obtain ⟨z, h1, h2⟩ := Option.bind_eq_some_iff.mp h
  clear h
  simp only [Option.some.injEq, Prod.mk.injEq] at h2
  obtain ⟨rfl, rfl, rfl⟩ := h2
  have c1b : decide (64 < (o.ws.length : Int)) = false := decide_eq_false (by omega)
  have c1c : decide (64 < o.ws.length) = false := decide_eq_false c1
  clear c1
  have Jh := wk.ca Bh
  have Yh := wk.za Bh
  go_enter Try.func47, Try.ntmps47
  go_wp2_with (first | (go_at_call 61; (with_reducible refine (slices_Clone_uint32_uint32_61.calls _ _ o.ws z _ (Kd.V_reads' VW).2.2 (Kd.V_reads' VW).2.1 h1).mono ?_); rintro e W1_ ⟨v_, rfl, ho_, hb_⟩; clear Jh Yh; have V := wk.R_new (P := P) HN HB.size ho_; obtain ⟨Av, cv, rfl⟩ := Kd.V_slice V; clear ho_; replace R := R.below hb_; replace VW := Kd.V_below VW hb_; replace Bh := blk_below Bh hb_; replace HN := hN_ HN hb_.size; replace HB := HB.tr_ hb_; clear hb_; have Jh := wk.ca Bh; have Yh := wk.za Bh))
  go_ret2
  exact wk.out Av cv s Bh V R HB
/-! ### (*hand).cut: function 62 -/
def adv_cut.f (o : wk.O) (l : List Int) (ok : Bool) : Option (List Int × Int) := if ok = true then (word_Cut.f l o.c o.d).bind fun t => if t.2 = true then some (t.1, 0) else some ([], 1) else some ([], 1)
set_option maxHeartbeats 8000000 in
set_option maxRecDepth 100000 in
theorem adv_cut.calls (x : wk.X) (s : wk.S) (o : wk.O) (aq : Option Addr) (cq gh : Nat) (P : Nat → Prop) (A : Option Addr) (c : Nat) (l : List Int) (ok : Bool) (r : List Int) (e : Int) (w : World) (Bh : w.heap[gh]? = some (.cells (wk.hc x s o aq cq x s) 68 (0, 0))) (VL : Kd.V (Kd.int .u32) 22 w 0 P (.slice A l.length c) l) (h : adv_cut.f o l ok = some (r, e)) :
 Calls Try.prog 62 #[.pointer (some ⟨gh, 0, none⟩), .slice A l.length c, .bool ok] w fun e' w' => ∃ A c, e' = .returned (.tuple #[.slice A r.length c, .int .i64 e]) ∧ Kd.V (Kd.int .u32) 22 w' 0 (fun k => w.heap.size ≤ k) (.slice A r.length c) r ∧ Below w.heap.size w w' := by
 have hu41 := Try.underlying41
 have hu68 := Try.underlying68
 unfold wk.hc at Bh
 have HB := Below.refl w.heap.size w
 have HN : ∀ q ∈ ([] : List Nat), q < w.heap.size := fun q hq => by simp at hq
 replace VL := wk.V_start w.heap.size VL
 unfold adv_cut.f at h
 cases ok with
 | false =>
  rw [if_neg (by decide)] at h
  simp only [Option.some.injEq, Prod.mk.injEq] at h
  obtain ⟨rfl, rfl⟩ := h
  go_enter Try.func62, Try.ntmps62
  go_wp2
  go_ret2
  exact ⟨none, 0, rfl, Kd.V_nil _ _ _ _ _, HB⟩
 | true =>
  rw [if_pos rfl] at h
  obtain ⟨⟨z, b⟩, h1, h⟩ := Option.bind_eq_some_iff.mp h
  cases b with
  | false =>
   rw [if_neg (show ¬ (false = true) by decide)] at h
   simp only [Option.some.injEq, Prod.mk.injEq] at h
   obtain ⟨rfl, rfl⟩ := h
   go_enter Try.func62, Try.ntmps62
   go_upto_region 3 with (fail)
   refine start_ (n := 17) (S := fun w' => w'.heap[gh]? = some (.cells #[.int .u32 x.c0, .int .i64 x.c1, .int .i64 x.c2, .int .i64 x.c3, .int .i64 x.c4, .int .i64 x.c5, .int .i64 x.c6, .slice s.a7 x.dl.length s.c7, .int .i64 x.dn, .int .i64 x.br, .slice s.a10 x.bs.length s.c10, .int .i64 x.nr, .slice s.a12 x.ng.length s.c12, .slice s.a13 x.ns.length s.c13, .slice s.a14 x.pe.length s.c14, .slice s.a15 x.lo.length s.c15, .slice s.a16 x.re.length s.c16, .slice s.a17 x.le.length s.c17, .int .i64 o.kd, .int .i64 o.a, .int .i64 o.b, .int .i64 o.c, .int .i64 o.d, .slice aq o.ws.length cq, .int .u32 x.c0, .int .i64 x.c1, .int .i64 x.c2, .int .i64 x.c3, .int .i64 x.c4, .int .i64 x.c5, .int .i64 x.c6, .slice s.a7 x.dl.length s.c7, .int .i64 x.dn, .int .i64 x.br, .slice s.a10 x.bs.length s.c10, .int .i64 x.nr, .slice s.a12 x.ng.length s.c12, .slice s.a13 x.ns.length s.c13, .slice s.a14 x.pe.length s.c14, .slice s.a15 x.lo.length s.c15, .slice s.a16 x.re.length s.c16, .slice s.a17 x.le.length s.c17] 68 (0, 0)) ∧ True) (ds := []) #[Z,Z,Z,Z,Z,Z,Z,Z,Z,Z,Z,Z,Z,Z,Z,Z,Z] (by kernel_rfl) rfl rfl ⟨(blk_drew Bh), trivial⟩ (fun hHeld => ?_)
   obtain ⟨W1_, hw_⟩ : ∃ W_ : World, W_ = w.drew := ⟨_, rfl⟩
   rw [← hw_] at hHeld ⊢
   have hb_ : Below w.heap.size w W1_ := by rw [hw_]; exact below_drew (Below.refl _ _)
   clear hw_
   replace VL := Kd.V_below VL hb_
   replace Bh := blk_below Bh hb_
   replace HN := hN_ HN hb_.size
   replace HB := HB.tr_ hb_
   clear hb_
   refine pure_ (i := 0) (N := some 12) (v := ?_) (a' := ?_) #[Y,Z,Z,Z,Z,Z,Z,Z,Z,Z,Z,Z,Z,Z,Z,Z,Z] rfl rfl (by kernel_rfl) (fun _ _ _ h => h) (Or.inl ⟨by rfl, ?_⟩) ?_ ?_
   rotate_left
   ·
    intro w'
    go_simp
    with_reducible rfl
   rotate_left
   ·
    simp only [Act.put, List.setIfInBounds_toArray, List.set_cons_zero, List.set_cons_succ, i64_w, i32_w]
    rfl
   refine pure_ (i := 1) (N := some 13) (v := ?_) (a' := ?_) #[Y,Y,Z,Z,Z,Z,Z,Z,Z,Z,Z,Z,Z,Z,Z,Z,Z] rfl rfl (by kernel_rfl) (fun _ _ _ h => h) (Or.inl ⟨by rfl, ?_⟩) ?_ ?_
   rotate_left
   ·
    intro w'
    go_simp
    with_reducible rfl
   rotate_left
   ·
    simp only [Act.put, List.setIfInBounds_toArray, List.set_cons_zero, List.set_cons_succ, i64_w, i32_w]
    rfl
   refine pure_ (i := 2) (N := some 14) (v := ?_) (a' := ?_) #[Y,Y,Y,Z,Z,Z,Z,Z,Z,Z,Z,Z,Z,Z,Z,Z,Z] rfl rfl (by kernel_rfl) (fun _ _ _ h => h) (Or.inl ⟨by rfl, ?_⟩) ?_ ?_
   rotate_left
   ·
    intro w'
    go_simp
    with_reducible rfl
   rotate_left
   ·
    simp only [Act.put, List.setIfInBounds_toArray, List.set_cons_zero, List.set_cons_succ, i64_w, i32_w]
    rfl
   refine pure_ (i := 3) (N := some 15) (v := ?_) (a' := ?_) #[Y,Y,Y,Y,Z,Z,Z,Z,Z,Z,Z,Z,Z,Z,Z,Z,Z] rfl rfl (by kernel_rfl) (fun _ _ _ h => h) (Or.inl ⟨by rfl, ?_⟩) ?_ ?_
   rotate_left
   ·
    intro w'
    go_simp
    with_reducible rfl
   rotate_left
   ·
    simp only [Act.put, List.setIfInBounds_toArray, List.set_cons_zero, List.set_cons_succ, i64_w, i32_w]
    rfl
   refine pure_ (i := 4) (N := some 16) (v := ?_) (a' := ?_) #[Y,Y,Y,Y,Y,Z,Z,Z,Z,Z,Z,Z,Z,Z,Z,Z,Z] rfl rfl (by kernel_rfl) (fun _ _ _ h => h) (Or.inl ⟨by rfl, ?_⟩) ?_ ?_
   rotate_left
   ·
    intro w'
    go_simp
    with_reducible rfl
   rotate_left
   ·
    simp only [Act.put, List.setIfInBounds_toArray, List.set_cons_zero, List.set_cons_succ, i64_w, i32_w]
    rfl
   refine take_ (i := 5) (N := some 17) (v := ?_) (a' := ?_) #[Y,Y,Y,Y,Y,Y,Z,Z,Z,Z,Z,Z,Z,Z,Z,Z,Z] rfl rfl (by kernel_rfl) (fun _ _ _ h => h) (Or.inl ⟨by rfl, ?_⟩) hHeld ?_ ?_
   rotate_left
   ·
    rintro w' ⟨s0, s1⟩
    have qh_21 : w'.cell? ⟨gh, 21, none⟩ = some (.int .i64 o.c) := (blk_cell s0 21).trans rfl
    have qh_22 : w'.cell? ⟨gh, 22, none⟩ = some (.int .i64 o.d) := (blk_cell s0 22).trans rfl
    clear s0
    go_simp
    with_reducible rfl
   rotate_left
   ·
    simp only [Act.put, List.setIfInBounds_toArray, List.set_cons_zero, List.set_cons_succ, i64_w, i32_w]
    rfl
   refine pure_ (i := 6) (N := some 18) (v := ?_) (a' := ?_) #[Y,Y,Y,Y,Y,Y,Y,Z,Z,Z,Z,Z,Z,Z,Z,Z,Z] rfl rfl (by kernel_rfl) (fun _ _ _ h => h) (Or.inl ⟨by rfl, ?_⟩) ?_ ?_
   rotate_left
   ·
    intro w'
    go_simp
    with_reducible rfl
   rotate_left
   ·
    simp only [Act.put, List.setIfInBounds_toArray, List.set_cons_zero, List.set_cons_succ, i64_w, i32_w]
    rfl
   refine pure_ (i := 7) (N := some 19) (v := ?_) (a' := ?_) #[Y,Y,Y,Y,Y,Y,Y,Y,Z,Z,Z,Z,Z,Z,Z,Z,Z] rfl rfl (by kernel_rfl) (fun _ _ _ h => h) (Or.inl ⟨by rfl, ?_⟩) ?_ ?_
   rotate_left
   ·
    intro w'
    go_simp
    with_reducible rfl
   rotate_left
   ·
    simp only [Act.put, List.setIfInBounds_toArray, List.set_cons_zero, List.set_cons_succ, i64_w, i32_w]
    rfl
   refine pure_ (i := 8) (N := some 20) (v := ?_) (a' := ?_) #[Y,Y,Y,Y,Y,Y,Y,Y,Y,Z,Z,Z,Z,Z,Z,Z,Z] rfl rfl (by kernel_rfl) (fun _ _ _ h => h) (Or.inl ⟨by rfl, ?_⟩) ?_ ?_
   rotate_left
   ·
    intro w'
    go_simp
    with_reducible rfl
   rotate_left
   ·
    simp only [Act.put, List.setIfInBounds_toArray, List.set_cons_zero, List.set_cons_succ, i64_w, i32_w]
    rfl
   refine pure_ (i := 9) (N := some 21) (v := ?_) (a' := ?_) #[Y,Y,Y,Y,Y,Y,Y,Y,Y,Y,Z,Z,Z,Z,Z,Z,Z] rfl rfl (by kernel_rfl) (fun _ _ _ h => h) (Or.inl ⟨by rfl, ?_⟩) ?_ ?_
   rotate_left
   ·
    intro w'
    go_simp
    with_reducible rfl
   rotate_left
   ·
    simp only [Act.put, List.setIfInBounds_toArray, List.set_cons_zero, List.set_cons_succ, i64_w, i32_w]
    rfl
   refine take_ (i := 10) (N := some 22) (v := ?_) (a' := ?_) #[Y,Y,Y,Y,Y,Y,Y,Y,Y,Y,Y,Z,Z,Z,Z,Z,Z] rfl rfl (by kernel_rfl) (fun _ _ _ h => h) (Or.inl ⟨by rfl, ?_⟩) hHeld ?_ ?_
   rotate_left
   ·
    rintro w' ⟨s0, s1⟩
    have qh_21 : w'.cell? ⟨gh, 21, none⟩ = some (.int .i64 o.c) := (blk_cell s0 21).trans rfl
    have qh_22 : w'.cell? ⟨gh, 22, none⟩ = some (.int .i64 o.d) := (blk_cell s0 22).trans rfl
    clear s0
    go_simp
    with_reducible rfl
   rotate_left
   ·
    simp only [Act.put, List.setIfInBounds_toArray, List.set_cons_zero, List.set_cons_succ, i64_w, i32_w]
    rfl
   refine one_ (i := 11) (N := some 23) #[Y,Y,Y,Y,Y,Y,Y,Y,Y,Y,Y,Y,Z,Z,Z,Z,Z] rfl rfl (by kernel_rfl) (by decide) (fun K hK => ?_)
   refine goes_ Try.func72 (by kernel_rfl) rfl #[.slice A l.length c, .int .i64 o.c, .int .i64 o.d] (by rfl) rfl rfl mS_ ?_
   with_reducible refine (word_Cut.calls _ _ l o.c o.d z false _ (Kd.V_reads' VL).2.2 (Kd.V_reads' VL).2.1 h1).mono ?_
   rintro e W2_ ⟨v_, rfl, ho_, hb_⟩
   refine ⟨_, rfl, ?_⟩
   have V := wk.R_new (P := fun _ => False) HN HB.size ho_
   obtain ⟨Av, cv, rfl⟩ := Kd.V_slice V
   clear ho_
   replace VL := Kd.V_below VL hb_
   replace Bh := blk_below Bh hb_
   replace HN := hN_ HN hb_.size
   replace HB := HB.tr_ hb_
   clear hb_
   refine hK.out _ _ ⟨Bh, trivial⟩ (fun hHeld => ?_)
   clear hK K
   refine norm_ (a' := ?_) ?_ ?_
   rotate_left
   ·
    show Act.put _ (some 23) _ = _
    simp only [Act.put, List.setIfInBounds_toArray, List.set_cons_zero, List.set_cons_succ, i64_w, i32_w]
    rfl
   refine pure_ (i := 12) (N := some 11) (v := ?_) (a' := ?_) #[Y,Y,Y,Y,Y,Y,Y,Y,Y,Y,Y,Y,Y,Z,Z,Z,Z] rfl rfl (by kernel_rfl) (fun _ _ _ h => h) (Or.inl ⟨by rfl, ?_⟩) ?_ ?_
   rotate_left
   ·
    intro w'
    go_simp
    with_reducible rfl
   rotate_left
   ·
    simp only [Act.put, List.setIfInBounds_toArray, List.set_cons_zero, List.set_cons_succ, i64_w, i32_w]
    rfl
   refine pure_ (i := 13) (N := some 24) (v := ?_) (a' := ?_) #[Y,Y,Y,Y,Y,Y,Y,Y,Y,Y,Y,Y,Y,Y,Z,Z,Z] rfl rfl (by kernel_rfl) (fun _ _ _ h => h) (Or.inl ⟨by rfl, ?_⟩) ?_ ?_
   rotate_left
   ·
    intro w'
    go_simp
    with_reducible rfl
   rotate_left
   ·
    simp only [Act.put, List.setIfInBounds_toArray, List.set_cons_zero, List.set_cons_succ, i64_w, i32_w]
    rfl
   refine pure_ (i := 14) (N := some 25) (v := ?_) (a' := ?_) #[Y,Y,Y,Y,Y,Y,Y,Y,Y,Y,Y,Y,Y,Y,Y,Z,Z] rfl rfl (by kernel_rfl) (fun _ _ _ h => h) (Or.inl ⟨by rfl, ?_⟩) ?_ ?_
   rotate_left
   ·
    intro w'
    go_simp
    with_reducible rfl
   rotate_left
   ·
    simp only [Act.put, List.setIfInBounds_toArray, List.set_cons_zero, List.set_cons_succ, i64_w, i32_w]
    rfl
   refine pure_ (i := 15) (N := some 8) (v := ?_) (a' := ?_) #[Y,Y,Y,Y,Y,Y,Y,Y,Y,Y,Y,Y,Y,Y,Y,Y,Z] rfl rfl (by kernel_rfl) (fun _ _ _ h => h) (Or.inl ⟨by rfl, ?_⟩) ?_ ?_
   rotate_left
   ·
    intro w'
    go_simp
    with_reducible rfl
   rotate_left
   ·
    simp only [Act.put, List.setIfInBounds_toArray, List.set_cons_zero, List.set_cons_succ, i64_w, i32_w]
    rfl
   refine pure_ (i := 16) (N := some 2) (v := ?_) (a' := ?_) #[Y,Y,Y,Y,Y,Y,Y,Y,Y,Y,Y,Y,Y,Y,Y,Y,Y] rfl rfl (by kernel_rfl) (fun _ _ _ h => h) (Or.inl ⟨by rfl, ?_⟩) ?_ ?_
   rotate_left
   ·
    intro w'
    go_simp
    with_reducible rfl
   rotate_left
   ·
    simp only [Act.put, List.setIfInBounds_toArray, List.set_cons_zero, List.set_cons_succ, i64_w, i32_w]
    rfl
   refine done_ (by kernel_rfl) ?_
   try clear hHeld
   go_wp2
   go_ret2
   exact ⟨none, 0, rfl, Kd.V_nil _ _ _ _ _, HB⟩
  | true =>
   rw [if_pos rfl] at h
   simp only [Option.some.injEq, Prod.mk.injEq] at h
   obtain ⟨rfl, rfl⟩ := h
   go_enter Try.func62, Try.ntmps62
   go_upto_region 3 with (fail)
   refine start_ (n := 17) (S := fun w' => w'.heap[gh]? = some (.cells #[.int .u32 x.c0, .int .i64 x.c1, .int .i64 x.c2, .int .i64 x.c3, .int .i64 x.c4, .int .i64 x.c5, .int .i64 x.c6, .slice s.a7 x.dl.length s.c7, .int .i64 x.dn, .int .i64 x.br, .slice s.a10 x.bs.length s.c10, .int .i64 x.nr, .slice s.a12 x.ng.length s.c12, .slice s.a13 x.ns.length s.c13, .slice s.a14 x.pe.length s.c14, .slice s.a15 x.lo.length s.c15, .slice s.a16 x.re.length s.c16, .slice s.a17 x.le.length s.c17, .int .i64 o.kd, .int .i64 o.a, .int .i64 o.b, .int .i64 o.c, .int .i64 o.d, .slice aq o.ws.length cq, .int .u32 x.c0, .int .i64 x.c1, .int .i64 x.c2, .int .i64 x.c3, .int .i64 x.c4, .int .i64 x.c5, .int .i64 x.c6, .slice s.a7 x.dl.length s.c7, .int .i64 x.dn, .int .i64 x.br, .slice s.a10 x.bs.length s.c10, .int .i64 x.nr, .slice s.a12 x.ng.length s.c12, .slice s.a13 x.ns.length s.c13, .slice s.a14 x.pe.length s.c14, .slice s.a15 x.lo.length s.c15, .slice s.a16 x.re.length s.c16, .slice s.a17 x.le.length s.c17] 68 (0, 0)) ∧ True) (ds := []) #[Z,Z,Z,Z,Z,Z,Z,Z,Z,Z,Z,Z,Z,Z,Z,Z,Z] (by kernel_rfl) rfl rfl ⟨(blk_drew Bh), trivial⟩ (fun hHeld => ?_)
   obtain ⟨W1_, hw_⟩ : ∃ W_ : World, W_ = w.drew := ⟨_, rfl⟩
   rw [← hw_] at hHeld ⊢
   have hb_ : Below w.heap.size w W1_ := by rw [hw_]; exact below_drew (Below.refl _ _)
   clear hw_
   replace VL := Kd.V_below VL hb_
   replace Bh := blk_below Bh hb_
   replace HN := hN_ HN hb_.size
   replace HB := HB.tr_ hb_
   clear hb_
   refine pure_ (i := 0) (N := some 12) (v := ?_) (a' := ?_) #[Y,Z,Z,Z,Z,Z,Z,Z,Z,Z,Z,Z,Z,Z,Z,Z,Z] rfl rfl (by kernel_rfl) (fun _ _ _ h => h) (Or.inl ⟨by rfl, ?_⟩) ?_ ?_
   rotate_left
   ·
    intro w'
    go_simp
    with_reducible rfl
   rotate_left
   ·
    simp only [Act.put, List.setIfInBounds_toArray, List.set_cons_zero, List.set_cons_succ, i64_w, i32_w]
    rfl
   refine pure_ (i := 1) (N := some 13) (v := ?_) (a' := ?_) #[Y,Y,Z,Z,Z,Z,Z,Z,Z,Z,Z,Z,Z,Z,Z,Z,Z] rfl rfl (by kernel_rfl) (fun _ _ _ h => h) (Or.inl ⟨by rfl, ?_⟩) ?_ ?_
   rotate_left
   ·
    intro w'
    go_simp
    with_reducible rfl
   rotate_left
   ·
    simp only [Act.put, List.setIfInBounds_toArray, List.set_cons_zero, List.set_cons_succ, i64_w, i32_w]
    rfl
   refine pure_ (i := 2) (N := some 14) (v := ?_) (a' := ?_) #[Y,Y,Y,Z,Z,Z,Z,Z,Z,Z,Z,Z,Z,Z,Z,Z,Z] rfl rfl (by kernel_rfl) (fun _ _ _ h => h) (Or.inl ⟨by rfl, ?_⟩) ?_ ?_
   rotate_left
   ·
    intro w'
    go_simp
    with_reducible rfl
   rotate_left
   ·
    simp only [Act.put, List.setIfInBounds_toArray, List.set_cons_zero, List.set_cons_succ, i64_w, i32_w]
    rfl
   refine pure_ (i := 3) (N := some 15) (v := ?_) (a' := ?_) #[Y,Y,Y,Y,Z,Z,Z,Z,Z,Z,Z,Z,Z,Z,Z,Z,Z] rfl rfl (by kernel_rfl) (fun _ _ _ h => h) (Or.inl ⟨by rfl, ?_⟩) ?_ ?_
   rotate_left
   ·
    intro w'
    go_simp
    with_reducible rfl
   rotate_left
   ·
    simp only [Act.put, List.setIfInBounds_toArray, List.set_cons_zero, List.set_cons_succ, i64_w, i32_w]
    rfl
   refine pure_ (i := 4) (N := some 16) (v := ?_) (a' := ?_) #[Y,Y,Y,Y,Y,Z,Z,Z,Z,Z,Z,Z,Z,Z,Z,Z,Z] rfl rfl (by kernel_rfl) (fun _ _ _ h => h) (Or.inl ⟨by rfl, ?_⟩) ?_ ?_
   rotate_left
   ·
    intro w'
    go_simp
    with_reducible rfl
   rotate_left
   ·
    simp only [Act.put, List.setIfInBounds_toArray, List.set_cons_zero, List.set_cons_succ, i64_w, i32_w]
    rfl
   refine take_ (i := 5) (N := some 17) (v := ?_) (a' := ?_) #[Y,Y,Y,Y,Y,Y,Z,Z,Z,Z,Z,Z,Z,Z,Z,Z,Z] rfl rfl (by kernel_rfl) (fun _ _ _ h => h) (Or.inl ⟨by rfl, ?_⟩) hHeld ?_ ?_
   rotate_left
   ·
    rintro w' ⟨s0, s1⟩
    have qh_21 : w'.cell? ⟨gh, 21, none⟩ = some (.int .i64 o.c) := (blk_cell s0 21).trans rfl
    have qh_22 : w'.cell? ⟨gh, 22, none⟩ = some (.int .i64 o.d) := (blk_cell s0 22).trans rfl
    clear s0
    go_simp
    with_reducible rfl
   rotate_left
   ·
    simp only [Act.put, List.setIfInBounds_toArray, List.set_cons_zero, List.set_cons_succ, i64_w, i32_w]
    rfl
   refine pure_ (i := 6) (N := some 18) (v := ?_) (a' := ?_) #[Y,Y,Y,Y,Y,Y,Y,Z,Z,Z,Z,Z,Z,Z,Z,Z,Z] rfl rfl (by kernel_rfl) (fun _ _ _ h => h) (Or.inl ⟨by rfl, ?_⟩) ?_ ?_
   rotate_left
   ·
    intro w'
    go_simp
    with_reducible rfl
   rotate_left
   ·
    simp only [Act.put, List.setIfInBounds_toArray, List.set_cons_zero, List.set_cons_succ, i64_w, i32_w]
    rfl
   refine pure_ (i := 7) (N := some 19) (v := ?_) (a' := ?_) #[Y,Y,Y,Y,Y,Y,Y,Y,Z,Z,Z,Z,Z,Z,Z,Z,Z] rfl rfl (by kernel_rfl) (fun _ _ _ h => h) (Or.inl ⟨by rfl, ?_⟩) ?_ ?_
   rotate_left
   ·
    intro w'
    go_simp
    with_reducible rfl
   rotate_left
   ·
    simp only [Act.put, List.setIfInBounds_toArray, List.set_cons_zero, List.set_cons_succ, i64_w, i32_w]
    rfl
   refine pure_ (i := 8) (N := some 20) (v := ?_) (a' := ?_) #[Y,Y,Y,Y,Y,Y,Y,Y,Y,Z,Z,Z,Z,Z,Z,Z,Z] rfl rfl (by kernel_rfl) (fun _ _ _ h => h) (Or.inl ⟨by rfl, ?_⟩) ?_ ?_
   rotate_left
   ·
    intro w'
    go_simp
    with_reducible rfl
   rotate_left
   ·
    simp only [Act.put, List.setIfInBounds_toArray, List.set_cons_zero, List.set_cons_succ, i64_w, i32_w]
    rfl
   refine pure_ (i := 9) (N := some 21) (v := ?_) (a' := ?_) #[Y,Y,Y,Y,Y,Y,Y,Y,Y,Y,Z,Z,Z,Z,Z,Z,Z] rfl rfl (by kernel_rfl) (fun _ _ _ h => h) (Or.inl ⟨by rfl, ?_⟩) ?_ ?_
   rotate_left
   ·
    intro w'
    go_simp
    with_reducible rfl
   rotate_left
   ·
    simp only [Act.put, List.setIfInBounds_toArray, List.set_cons_zero, List.set_cons_succ, i64_w, i32_w]
    rfl
   refine take_ (i := 10) (N := some 22) (v := ?_) (a' := ?_) #[Y,Y,Y,Y,Y,Y,Y,Y,Y,Y,Y,Z,Z,Z,Z,Z,Z] rfl rfl (by kernel_rfl) (fun _ _ _ h => h) (Or.inl ⟨by rfl, ?_⟩) hHeld ?_ ?_
   rotate_left
   ·
    rintro w' ⟨s0, s1⟩
    have qh_21 : w'.cell? ⟨gh, 21, none⟩ = some (.int .i64 o.c) := (blk_cell s0 21).trans rfl
    have qh_22 : w'.cell? ⟨gh, 22, none⟩ = some (.int .i64 o.d) := (blk_cell s0 22).trans rfl
    clear s0
    go_simp
    with_reducible rfl
   rotate_left
   ·
    simp only [Act.put, List.setIfInBounds_toArray, List.set_cons_zero, List.set_cons_succ, i64_w, i32_w]
    rfl
   refine one_ (i := 11) (N := some 23) #[Y,Y,Y,Y,Y,Y,Y,Y,Y,Y,Y,Y,Z,Z,Z,Z,Z] rfl rfl (by kernel_rfl) (by decide) (fun K hK => ?_)
   refine goes_ Try.func72 (by kernel_rfl) rfl #[.slice A l.length c, .int .i64 o.c, .int .i64 o.d] (by rfl) rfl rfl mS_ ?_
   with_reducible refine (word_Cut.calls _ _ l o.c o.d z true _ (Kd.V_reads' VL).2.2 (Kd.V_reads' VL).2.1 h1).mono ?_
   rintro e W2_ ⟨v_, rfl, ho_, hb_⟩
   refine ⟨_, rfl, ?_⟩
   have V := wk.R_new (P := fun _ => False) HN HB.size ho_
   obtain ⟨Av, cv, rfl⟩ := Kd.V_slice V
   clear ho_
   replace VL := Kd.V_below VL hb_
   replace Bh := blk_below Bh hb_
   replace HN := hN_ HN hb_.size
   replace HB := HB.tr_ hb_
   clear hb_
   refine hK.out _ _ ⟨Bh, trivial⟩ (fun hHeld => ?_)
   clear hK K
   refine norm_ (a' := ?_) ?_ ?_
   rotate_left
   ·
    show Act.put _ (some 23) _ = _
    simp only [Act.put, List.setIfInBounds_toArray, List.set_cons_zero, List.set_cons_succ, i64_w, i32_w]
    rfl
   refine pure_ (i := 12) (N := some 11) (v := ?_) (a' := ?_) #[Y,Y,Y,Y,Y,Y,Y,Y,Y,Y,Y,Y,Y,Z,Z,Z,Z] rfl rfl (by kernel_rfl) (fun _ _ _ h => h) (Or.inl ⟨by rfl, ?_⟩) ?_ ?_
   rotate_left
   ·
    intro w'
    go_simp
    with_reducible rfl
   rotate_left
   ·
    simp only [Act.put, List.setIfInBounds_toArray, List.set_cons_zero, List.set_cons_succ, i64_w, i32_w]
    rfl
   refine pure_ (i := 13) (N := some 24) (v := ?_) (a' := ?_) #[Y,Y,Y,Y,Y,Y,Y,Y,Y,Y,Y,Y,Y,Y,Z,Z,Z] rfl rfl (by kernel_rfl) (fun _ _ _ h => h) (Or.inl ⟨by rfl, ?_⟩) ?_ ?_
   rotate_left
   ·
    intro w'
    go_simp
    with_reducible rfl
   rotate_left
   ·
    simp only [Act.put, List.setIfInBounds_toArray, List.set_cons_zero, List.set_cons_succ, i64_w, i32_w]
    rfl
   refine pure_ (i := 14) (N := some 25) (v := ?_) (a' := ?_) #[Y,Y,Y,Y,Y,Y,Y,Y,Y,Y,Y,Y,Y,Y,Y,Z,Z] rfl rfl (by kernel_rfl) (fun _ _ _ h => h) (Or.inl ⟨by rfl, ?_⟩) ?_ ?_
   rotate_left
   ·
    intro w'
    go_simp
    with_reducible rfl
   rotate_left
   ·
    simp only [Act.put, List.setIfInBounds_toArray, List.set_cons_zero, List.set_cons_succ, i64_w, i32_w]
    rfl
   refine pure_ (i := 15) (N := some 8) (v := ?_) (a' := ?_) #[Y,Y,Y,Y,Y,Y,Y,Y,Y,Y,Y,Y,Y,Y,Y,Y,Z] rfl rfl (by kernel_rfl) (fun _ _ _ h => h) (Or.inl ⟨by rfl, ?_⟩) ?_ ?_
   rotate_left
   ·
    intro w'
    go_simp
    with_reducible rfl
   rotate_left
   ·
    simp only [Act.put, List.setIfInBounds_toArray, List.set_cons_zero, List.set_cons_succ, i64_w, i32_w]
    rfl
   refine pure_ (i := 16) (N := some 2) (v := ?_) (a' := ?_) #[Y,Y,Y,Y,Y,Y,Y,Y,Y,Y,Y,Y,Y,Y,Y,Y,Y] rfl rfl (by kernel_rfl) (fun _ _ _ h => h) (Or.inl ⟨by rfl, ?_⟩) ?_ ?_
   rotate_left
   ·
    intro w'
    go_simp
    with_reducible rfl
   rotate_left
   ·
    simp only [Act.put, List.setIfInBounds_toArray, List.set_cons_zero, List.set_cons_succ, i64_w, i32_w]
    rfl
   refine done_ (by kernel_rfl) ?_
   try clear hHeld
   go_wp2
   go_ret2
   exact ⟨Av, cv, rfl, Kd.V_mono V (fun k hk => hk.1.elim (fun q => q.elim) id), HB⟩
/-! ### (*hand).part: function 49 -/
def adv_part.f (k : Nat) (x : wk.X) (o : wk.O) : Option (List Int × Int × wk.X) := (adv_cut.f o (adv_reg.f x.re o.b).1 (adv_reg.f x.re o.b).2).bind fun t => some (t.1, t.2, x)
set_option maxHeartbeats 8000000 in
set_option maxRecDepth 100000 in
theorem adv_part.calls (k : Nat) : wk.Deed 49 (adv_part.f k) := by
 intro x s o aq cq gh P w l e y Bh R VW hP h
 have hu39 := Try.underlying39
 have hu41 := Try.underlying41
 have hu68 := Try.underlying68
 have hu34 := Try.underlying34
 have hu30 := Try.underlying30
 have ghl := blk_lt Bh
 have HH : ∀ k, (P k ∨ w.heap.size ≤ k) → k ≠ gh := fun k hk => hk.elim (hP k) (fun q => by omega)
 have HB : wk.Kb gh w w := wk.Kb.of (Below.refl w.heap.size w)
 have HN : ∀ q ∈ ([] : List Nat), q < w.heap.size := fun q hq => by simp at hq
 replace R := R.start w.heap.size
 replace VW := wk.V_start w.heap.size VW
 unfold wk.hc at Bh
 unfold adv_part.f at h
 obtain ⟨⟨r, ok⟩, hr⟩ : ∃ z, adv_reg.f x.re o.b = z := ⟨_, rfl⟩
 rw [hr] at h
 obtain ⟨⟨z, e_⟩, h1, h2⟩ := Option.bind_eq_some_iff.mp h
 clear h
 simp only [Option.some.injEq, Prod.mk.injEq] at h2
 obtain ⟨rfl, rfl, rfl⟩ := h2
 have Jh := wk.ca Bh
 have Yh := wk.za Bh
 go_enter Try.func49, Try.ntmps49
 go_wp2_with (first | (go_at_call 22; have c16_ : w.cell? ⟨gh, 16, none⟩ = some (.slice s.a16 x.re.length s.c16) := (blk_cell Bh 16).trans rfl; (with_reducible refine (adv_reg.calls gh x.re o.b _ _ _ _ c16_ R.r16 r ok hr).mono ?_); rintro e W1_ ⟨Ar, cr, rfl, VR, hb_⟩; clear Jh Yh; clear c16_; replace R := R.below hb_; replace VW := Kd.V_below VW hb_; replace Bh := blk_below Bh hb_; replace HN := hN_ HN hb_.size; replace HB := HB.tr_ hb_; clear hb_; have Jh := wk.ca Bh; have Yh := wk.za Bh) | (go_at_call 62; have Bh_ : W1_.heap[gh]? = some (.cells (wk.hc x s o aq cq x s) 68 (0, 0)) := Bh; (with_reducible refine (adv_cut.calls x s o aq cq gh _ _ _ r ok z e_ _ Bh_ VR h1).mono ?_); rintro e W2_ ⟨Av, cv, rfl, hv_, hb_⟩; clear Jh Yh; have V := wk.V_b (base' := 0) (Kd.V_mono hv_ (ok' := wk.Q P w.heap.size []) (fun k hk => wk.Q.new HN HB.size (.inr hk))); clear hv_ Bh_; replace R := R.below hb_; replace VW := Kd.V_below VW hb_; replace VR := Kd.V_below VR hb_; replace Bh := blk_below Bh hb_; replace HN := hN_ HN hb_.size; replace HB := HB.tr_ hb_; clear hb_; have Jh := wk.ca Bh; have Yh := wk.za Bh))
 repeat (go_quiet (first | (go_at_call 22; have c16_ : w.cell? ⟨gh, 16, none⟩ = some (.slice s.a16 x.re.length s.c16) := (blk_cell Bh 16).trans rfl; (with_reducible refine (adv_reg.calls gh x.re o.b _ _ _ _ c16_ R.r16 r ok hr).mono ?_); rintro e W1_ ⟨Ar, cr, rfl, VR, hb_⟩; clear Jh Yh; clear c16_; replace R := R.below hb_; replace VW := Kd.V_below VW hb_; replace Bh := blk_below Bh hb_; replace HN := hN_ HN hb_.size; replace HB := HB.tr_ hb_; clear hb_; have Jh := wk.ca Bh; have Yh := wk.za Bh) | (go_at_call 62; have Bh_ : W1_.heap[gh]? = some (.cells (wk.hc x s o aq cq x s) 68 (0, 0)) := Bh; (with_reducible refine (adv_cut.calls x s o aq cq gh _ _ _ r ok z e_ _ Bh_ VR h1).mono ?_); rintro e W2_ ⟨Av, cv, rfl, hv_, hb_⟩; clear Jh Yh; have V := wk.V_b (base' := 0) (Kd.V_mono hv_ (ok' := wk.Q P w.heap.size []) (fun k hk => wk.Q.new HN HB.size (.inr hk))); clear hv_ Bh_; replace R := R.below hb_; replace VW := Kd.V_below VW hb_; replace VR := Kd.V_below VR hb_; replace Bh := blk_below Bh hb_; replace HN := hN_ HN hb_.size; replace HB := HB.tr_ hb_; clear hb_; have Jh := wk.ca Bh; have Yh := wk.za Bh)); try go_wp2_with (first | (go_at_call 22; have c16_ : w.cell? ⟨gh, 16, none⟩ = some (.slice s.a16 x.re.length s.c16) := (blk_cell Bh 16).trans rfl; (with_reducible refine (adv_reg.calls gh x.re o.b _ _ _ _ c16_ R.r16 r ok hr).mono ?_); rintro e W1_ ⟨Ar, cr, rfl, VR, hb_⟩; clear Jh Yh; clear c16_; replace R := R.below hb_; replace VW := Kd.V_below VW hb_; replace Bh := blk_below Bh hb_; replace HN := hN_ HN hb_.size; replace HB := HB.tr_ hb_; clear hb_; have Jh := wk.ca Bh; have Yh := wk.za Bh) | (go_at_call 62; have Bh_ : W1_.heap[gh]? = some (.cells (wk.hc x s o aq cq x s) 68 (0, 0)) := Bh; (with_reducible refine (adv_cut.calls x s o aq cq gh _ _ _ r ok z e_ _ Bh_ VR h1).mono ?_); rintro e W2_ ⟨Av, cv, rfl, hv_, hb_⟩; clear Jh Yh; have V := wk.V_b (base' := 0) (Kd.V_mono hv_ (ok' := wk.Q P w.heap.size []) (fun k hk => wk.Q.new HN HB.size (.inr hk))); clear hv_ Bh_; replace R := R.below hb_; replace VW := Kd.V_below VW hb_; replace VR := Kd.V_below VR hb_; replace Bh := blk_below Bh hb_; replace HN := hN_ HN hb_.size; replace HB := HB.tr_ hb_; clear hb_; have Jh := wk.ca Bh; have Yh := wk.za Bh)))
 go_ret2
 exact wk.out Av cv s Bh V R HB
/-! ### (*hand).seen: function 48 -/
def adv_seen.f (k : Nat) (x : wk.X) (o : wk.O) : Option (List Int × Int × wk.X) := if o.b < 0 then some ([], 1, x) else if o.b < (x.ns.length : Int) then (adv_cut.f o (rd_L1 x.ns o.b) true).bind fun t => some (t.1, t.2, x) else some ([], 1, x)
set_option maxHeartbeats 8000000 in
set_option maxRecDepth 100000 in
theorem adv_seen.calls (k : Nat) : wk.Deed 48 (adv_seen.f k) := by
 intro x s o aq cq gh P w l e y Bh R VW hP h
 have hu39 := Try.underlying39
 have hu41 := Try.underlying41
 have hu68 := Try.underlying68
 have hu34 := Try.underlying34
 have hu30 := Try.underlying30
 have ghl := blk_lt Bh
 have HH : ∀ k, (P k ∨ w.heap.size ≤ k) → k ≠ gh := fun k hk => hk.elim (hP k) (fun q => by omega)
 have HB : wk.Kb gh w w := wk.Kb.of (Below.refl w.heap.size w)
 have HN : ∀ q ∈ ([] : List Nat), q < w.heap.size := fun q hq => by simp at hq
 replace R := R.start w.heap.size
 replace VW := wk.V_start w.heap.size VW
 unfold wk.hc at Bh
 unfold adv_seen.f at h
 by_cases c1 : o.b < 0
 ·
  rw [if_pos c1] at h
  simp only [Option.some.injEq, Prod.mk.injEq] at h
  obtain ⟨rfl, rfl, rfl⟩ := h
  have c1b : decide (o.b < 0) = true := decide_eq_true (by omega)
  clear c1
  have Jh := wk.ca Bh
  have Yh := wk.za Bh
  go_enter Try.func48, Try.ntmps48
  go_wp2
  repeat (go_quiet (fail); try go_wp2)
  go_ret2
  exact wk.outd none 0 s Bh (Kd.V_nil _ _ _ _ _) R HB bR_
 rw [if_neg c1] at h
 by_cases c2 : o.b < (x.ns.length : Int)
 ·
  rw [if_pos c2] at h
  obtain ⟨⟨z, e_⟩, h1, h2⟩ := Option.bind_eq_some_iff.mp h
  clear h
  simp only [Option.some.injEq, Prod.mk.injEq] at h2
  obtain ⟨rfl, rfl, rfl⟩ := h2
  have c1b : decide (o.b < 0) = false := decide_eq_false (by omega)
  have c2b : decide ((x.ns.length : Int) ≤ o.b) = false := decide_eq_false (by omega)
  have c2c : decide (o.b < (x.ns.length : Int)) = true := decide_eq_true c2
  obtain ⟨ad, Ae, ce, ee, HX, VE⟩ := wk.row_get R.r13 o.b (by omega) c2
  have HE := Aside0.mk ee
  have p1 : (0 ≤ o.b) = True := eq_true (by omega)
  have q1 : (o.b < (x.ns.length : Int)) = True := eq_true c2
  clear c1 c2 ee
  have kh_20 : w.cell? ⟨gh, 20, none⟩ = some (.int .i64 o.b) := (blk_cell Bh 20).trans rfl
  have zh_20 := blk_frozen Bh 20
  have kh_13 : w.cell? ⟨gh, 13, none⟩ = some (.slice (some ad) x.ns.length s.c13) := (blk_cell Bh 13).trans (by rw [← HE.out]; rfl)
  have zh_13 := blk_frozen Bh 13
  go_enter Try.func48, Try.ntmps48
  go_upto_region 3 with (fail)
  go_quiet (fail)
  go_upto_region 3 with (fail)
  clear kh_20 zh_20
  clear kh_13 zh_13
  refine wk.at_drawnC (W := w) bR_ ?_
  intro W1_ hq_
  replace R := R.below hq_
  replace VW := Kd.V_below VW hq_
  replace VE := Kd.V_below VE hq_
  replace HX := wk.cellb HX hq_
  replace Bh := blk_below Bh hq_
  replace HN := fun q hq => Nat.lt_of_lt_of_le (HN q hq) hq_.size
  replace HB := HB.trans (hq_.mono HB.size)
  clear hq_
  refine start_ (n := 19) (S := fun w' => w'.heap[gh]? = some (.cells #[.int .u32 x.c0, .int .i64 x.c1, .int .i64 x.c2, .int .i64 x.c3, .int .i64 x.c4, .int .i64 x.c5, .int .i64 x.c6, .slice s.a7 x.dl.length s.c7, .int .i64 x.dn, .int .i64 x.br, .slice s.a10 x.bs.length s.c10, .int .i64 x.nr, .slice s.a12 x.ng.length s.c12, .slice s.a13 x.ns.length s.c13, .slice s.a14 x.pe.length s.c14, .slice s.a15 x.lo.length s.c15, .slice s.a16 x.re.length s.c16, .slice s.a17 x.le.length s.c17, .int .i64 o.kd, .int .i64 o.a, .int .i64 o.b, .int .i64 o.c, .int .i64 o.d, .slice aq o.ws.length cq, .int .u32 x.c0, .int .i64 x.c1, .int .i64 x.c2, .int .i64 x.c3, .int .i64 x.c4, .int .i64 x.c5, .int .i64 x.c6, .slice s.a7 x.dl.length s.c7, .int .i64 x.dn, .int .i64 x.br, .slice s.a10 x.bs.length s.c10, .int .i64 x.nr, .slice s.a12 x.ng.length s.c12, .slice s.a13 x.ns.length s.c13, .slice s.a14 x.pe.length s.c14, .slice s.a15 x.lo.length s.c15, .slice s.a16 x.re.length s.c16, .slice s.a17 x.le.length s.c17] 68 (0, 0)) ∧ w'.cell? (ad.add o.b.toNat) = some (.slice Ae (rd_L1 x.ns o.b).length ce) ∧ True) (ds := []) #[Z,Z,Z,Z,Z,Z,Z,Z,Z,Z,Z,Z,Z,Z,Z,Z,Z,Z,Z] (by kernel_rfl) rfl rfl ⟨(blk_drew Bh), (wk.cellb HX (below_drew (Below.refl _ _))), trivial⟩ (fun hHeld => ?_)
  obtain ⟨W2_, hw_⟩ : ∃ W_ : World, W_ = W1_.drew := ⟨_, rfl⟩
  rw [← hw_] at hHeld ⊢
  have hb_ : Below W1_.heap.size W1_ W2_ := by rw [hw_]; exact below_drew (Below.refl _ _)
  clear hw_
  replace R := R.below hb_
  replace VW := Kd.V_below VW hb_
  replace VE := Kd.V_below VE hb_
  replace HX := wk.cellb HX hb_
  replace Bh := blk_below Bh hb_
  replace HN := hN_ HN hb_.size
  replace HB := HB.tr_ hb_
  clear hb_
  refine pure_ (i := 0) (N := some 25) (v := ?_) (a' := ?_) #[Y,Z,Z,Z,Z,Z,Z,Z,Z,Z,Z,Z,Z,Z,Z,Z,Z,Z,Z] rfl rfl (by kernel_rfl) (fun _ _ _ h => h) (Or.inl ⟨by rfl, ?_⟩) ?_ ?_
  rotate_left
  ·
   intro w'
   go_simp
   with_reducible rfl
  rotate_left
  ·
   simp only [Act.put, List.setIfInBounds_toArray, List.set_cons_zero, List.set_cons_succ, i64_w, i32_w]
   rfl
  refine pure_ (i := 1) (N := some 26) (v := ?_) (a' := ?_) #[Y,Y,Z,Z,Z,Z,Z,Z,Z,Z,Z,Z,Z,Z,Z,Z,Z,Z,Z] rfl rfl (by kernel_rfl) (fun _ _ _ h => h) (Or.inl ⟨by rfl, ?_⟩) ?_ ?_
  rotate_left
  ·
   intro w'
   go_simp
   with_reducible rfl
  rotate_left
  ·
   simp only [Act.put, List.setIfInBounds_toArray, List.set_cons_zero, List.set_cons_succ, i64_w, i32_w]
   rfl
  refine pure_ (i := 2) (N := some 27) (v := ?_) (a' := ?_) #[Y,Y,Y,Z,Z,Z,Z,Z,Z,Z,Z,Z,Z,Z,Z,Z,Z,Z,Z] rfl rfl (by kernel_rfl) (fun _ _ _ h => h) (Or.inl ⟨by rfl, ?_⟩) ?_ ?_
  rotate_left
  ·
   intro w'
   go_simp
   with_reducible rfl
  rotate_left
  ·
   simp only [Act.put, List.setIfInBounds_toArray, List.set_cons_zero, List.set_cons_succ, i64_w, i32_w]
   rfl
  refine pure_ (i := 3) (N := some 28) (v := ?_) (a' := ?_) #[Y,Y,Y,Y,Z,Z,Z,Z,Z,Z,Z,Z,Z,Z,Z,Z,Z,Z,Z] rfl rfl (by kernel_rfl) (fun _ _ _ h => h) (Or.inl ⟨by rfl, ?_⟩) ?_ ?_
  rotate_left
  ·
   intro w'
   go_simp
   with_reducible rfl
  rotate_left
  ·
   simp only [Act.put, List.setIfInBounds_toArray, List.set_cons_zero, List.set_cons_succ, i64_w, i32_w]
   rfl
  refine pure_ (i := 4) (N := some 29) (v := ?_) (a' := ?_) #[Y,Y,Y,Y,Y,Z,Z,Z,Z,Z,Z,Z,Z,Z,Z,Z,Z,Z,Z] rfl rfl (by kernel_rfl) (fun _ _ _ h => h) (Or.inl ⟨by rfl, ?_⟩) ?_ ?_
  rotate_left
  ·
   intro w'
   go_simp
   with_reducible rfl
  rotate_left
  ·
   simp only [Act.put, List.setIfInBounds_toArray, List.set_cons_zero, List.set_cons_succ, i64_w, i32_w]
   rfl
  refine pure_ (i := 5) (N := some 30) (v := ?_) (a' := ?_) #[Y,Y,Y,Y,Y,Y,Z,Z,Z,Z,Z,Z,Z,Z,Z,Z,Z,Z,Z] rfl rfl (by kernel_rfl) (fun _ _ _ h => h) (Or.inl ⟨by rfl, ?_⟩) ?_ ?_
  rotate_left
  ·
   intro w'
   go_simp
   with_reducible rfl
  rotate_left
  ·
   simp only [Act.put, List.setIfInBounds_toArray, List.set_cons_zero, List.set_cons_succ, i64_w, i32_w]
   rfl
  refine take_ (i := 6) (N := some 31) (v := ?_) (a' := ?_) #[Y,Y,Y,Y,Y,Y,Y,Z,Z,Z,Z,Z,Z,Z,Z,Z,Z,Z,Z] rfl rfl (by kernel_rfl) (fun _ _ _ h => h) (Or.inl ⟨by rfl, ?_⟩) hHeld ?_ ?_
  rotate_left
  ·
   rintro w' ⟨s0, s1, s2⟩
   have qh_20 : w'.cell? ⟨gh, 20, none⟩ = some (.int .i64 o.b) := (blk_cell s0 20).trans rfl
   have qh_13 : w'.cell? ⟨gh, 13, none⟩ = some (.slice (some ad) x.ns.length s.c13) := (blk_cell s0 13).trans (by rw [← HE.out]; rfl)
   clear s0
   go_simp
   with_reducible rfl
  rotate_left
  ·
   simp only [Act.put, List.setIfInBounds_toArray, List.set_cons_zero, List.set_cons_succ, i64_w, i32_w]
   rfl
  refine pure_ (i := 7) (N := some 32) (v := ?_) (a' := ?_) #[Y,Y,Y,Y,Y,Y,Y,Y,Z,Z,Z,Z,Z,Z,Z,Z,Z,Z,Z] rfl rfl (by kernel_rfl) (fun _ _ _ h => h) (Or.inl ⟨by rfl, ?_⟩) ?_ ?_
  rotate_left
  ·
   intro w'
   go_simp
   with_reducible rfl
  rotate_left
  ·
   simp only [Act.put, List.setIfInBounds_toArray, List.set_cons_zero, List.set_cons_succ, i64_w, i32_w]
   rfl
  refine pure_ (i := 8) (N := some 33) (v := ?_) (a' := ?_) #[Y,Y,Y,Y,Y,Y,Y,Y,Y,Z,Z,Z,Z,Z,Z,Z,Z,Z,Z] rfl rfl (by kernel_rfl) (fun _ _ _ h => h) (Or.inl ⟨by rfl, ?_⟩) ?_ ?_
  rotate_left
  ·
   intro w'
   go_simp
   with_reducible rfl
  rotate_left
  ·
   simp only [Act.put, List.setIfInBounds_toArray, List.set_cons_zero, List.set_cons_succ, i64_w, i32_w]
   rfl
  refine pure_ (i := 9) (N := some 34) (v := ?_) (a' := ?_) #[Y,Y,Y,Y,Y,Y,Y,Y,Y,Y,Z,Z,Z,Z,Z,Z,Z,Z,Z] rfl rfl (by kernel_rfl) (fun _ _ _ h => h) (Or.inl ⟨by rfl, ?_⟩) ?_ ?_
  rotate_left
  ·
   intro w'
   go_simp
   with_reducible rfl
  rotate_left
  ·
   simp only [Act.put, List.setIfInBounds_toArray, List.set_cons_zero, List.set_cons_succ, i64_w, i32_w]
   rfl
  refine pure_ (i := 10) (N := some 35) (v := ?_) (a' := ?_) #[Y,Y,Y,Y,Y,Y,Y,Y,Y,Y,Y,Z,Z,Z,Z,Z,Z,Z,Z] rfl rfl (by kernel_rfl) (fun _ _ _ h => h) (Or.inl ⟨by rfl, ?_⟩) ?_ ?_
  rotate_left
  ·
   intro w'
   go_simp
   with_reducible rfl
  rotate_left
  ·
   simp only [Act.put, List.setIfInBounds_toArray, List.set_cons_zero, List.set_cons_succ, i64_w, i32_w]
   rfl
  refine take_ (i := 11) (N := some 36) (v := ?_) (a' := ?_) #[Y,Y,Y,Y,Y,Y,Y,Y,Y,Y,Y,Y,Z,Z,Z,Z,Z,Z,Z] rfl rfl (by kernel_rfl) (fun _ _ _ h => h) (Or.inl ⟨by rfl, ?_⟩) hHeld ?_ ?_
  rotate_left
  ·
   rintro w' ⟨s0, s1, s2⟩
   have qh_20 : w'.cell? ⟨gh, 20, none⟩ = some (.int .i64 o.b) := (blk_cell s0 20).trans rfl
   have qh_13 : w'.cell? ⟨gh, 13, none⟩ = some (.slice (some ad) x.ns.length s.c13) := (blk_cell s0 13).trans (by rw [← HE.out]; rfl)
   clear s0
   go_simp
   with_reducible rfl
  rotate_left
  ·
   simp only [Act.put, List.setIfInBounds_toArray, List.set_cons_zero, List.set_cons_succ, i64_w, i32_w]
   rfl
  refine pure_ (i := 12) (N := some 37) (v := ?_) (a' := ?_) #[Y,Y,Y,Y,Y,Y,Y,Y,Y,Y,Y,Y,Y,Z,Z,Z,Z,Z,Z] rfl rfl (by kernel_rfl) (fun _ _ _ h => h) (Or.inl ⟨by rfl, ?_⟩) ?_ ?_
  rotate_left
  ·
   intro w'
   go_simp
   with_reducible rfl
  rotate_left
  ·
   simp only [Act.put, List.setIfInBounds_toArray, List.set_cons_zero, List.set_cons_succ, i64_w, i32_w]
   rfl
  refine take_ (i := 13) (N := some 38) (v := ?_) (a' := ?_) #[Y,Y,Y,Y,Y,Y,Y,Y,Y,Y,Y,Y,Y,Y,Z,Z,Z,Z,Z] rfl rfl (by kernel_rfl) (fun _ _ _ h => h) (Or.inl ⟨by rfl, ?_⟩) hHeld ?_ ?_
  rotate_left
  ·
   rintro w' ⟨s0, s1, s2⟩
   have qh_20 : w'.cell? ⟨gh, 20, none⟩ = some (.int .i64 o.b) := (blk_cell s0 20).trans rfl
   have qh_13 : w'.cell? ⟨gh, 13, none⟩ = some (.slice (some ad) x.ns.length s.c13) := (blk_cell s0 13).trans (by rw [← HE.out]; rfl)
   clear s0
   go_simp
   with_reducible rfl
  rotate_left
  ·
   simp only [Act.put, List.setIfInBounds_toArray, List.set_cons_zero, List.set_cons_succ, i64_w, i32_w]
   rfl
  refine one_ (i := 14) (N := some 39) #[Y,Y,Y,Y,Y,Y,Y,Y,Y,Y,Y,Y,Y,Y,Y,Z,Z,Z,Z] rfl rfl (by kernel_rfl) (by decide) (fun K hK => ?_)
  refine goes_ Try.func62 (by kernel_rfl) rfl #[.pointer (some ⟨gh, 0, none⟩), .slice Ae (rd_L1 x.ns o.b).length ce, .bool true] (by rfl) rfl rfl mS_ ?_
  have Bh_ : W2_.heap[gh]? = some (.cells (wk.hc x s o aq cq x s) 68 (0, 0)) := Bh
  with_reducible refine (adv_cut.calls x s o aq cq gh _ _ _ (rd_L1 x.ns o.b) true z e_ _ Bh_ VE h1).mono ?_
  rintro e W3_ ⟨Av, cv, rfl, hv_, hb_⟩
  refine ⟨_, rfl, ?_⟩
  have V := wk.V_b (base' := 0) (Kd.V_mono hv_ (ok' := wk.Q P w.heap.size []) (fun k hk => wk.Q.new HN HB.size (.inr hk)))
  clear hv_ Bh_
  replace R := R.below hb_
  replace VW := Kd.V_below VW hb_
  replace VE := Kd.V_below VE hb_
  replace HX := wk.cellb HX hb_
  replace Bh := blk_below Bh hb_
  replace HN := hN_ HN hb_.size
  replace HB := HB.tr_ hb_
  clear hb_
  refine hK.out _ _ ⟨Bh, HX, trivial⟩ (fun hHeld => ?_)
  clear hK K
  refine norm_ (a' := ?_) ?_ ?_
  rotate_left
  ·
   show Act.put _ (some 39) _ = _
   simp only [Act.put, List.setIfInBounds_toArray, List.set_cons_zero, List.set_cons_succ, i64_w, i32_w]
   rfl
  refine pure_ (i := 15) (N := some 40) (v := ?_) (a' := ?_) #[Y,Y,Y,Y,Y,Y,Y,Y,Y,Y,Y,Y,Y,Y,Y,Y,Z,Z,Z] rfl rfl (by kernel_rfl) (fun _ _ _ h => h) (Or.inl ⟨by rfl, ?_⟩) ?_ ?_
  rotate_left
  ·
   intro w'
   go_simp
   with_reducible rfl
  rotate_left
  ·
   simp only [Act.put, List.setIfInBounds_toArray, List.set_cons_zero, List.set_cons_succ, i64_w, i32_w]
   rfl
  refine pure_ (i := 16) (N := some 41) (v := ?_) (a' := ?_) #[Y,Y,Y,Y,Y,Y,Y,Y,Y,Y,Y,Y,Y,Y,Y,Y,Y,Z,Z] rfl rfl (by kernel_rfl) (fun _ _ _ h => h) (Or.inl ⟨by rfl, ?_⟩) ?_ ?_
  rotate_left
  ·
   intro w'
   go_simp
   with_reducible rfl
  rotate_left
  ·
   simp only [Act.put, List.setIfInBounds_toArray, List.set_cons_zero, List.set_cons_succ, i64_w, i32_w]
   rfl
  refine pure_ (i := 17) (N := some 2) (v := ?_) (a' := ?_) #[Y,Y,Y,Y,Y,Y,Y,Y,Y,Y,Y,Y,Y,Y,Y,Y,Y,Y,Z] rfl rfl (by kernel_rfl) (fun _ _ _ h => h) (Or.inl ⟨by rfl, ?_⟩) ?_ ?_
  rotate_left
  ·
   intro w'
   go_simp
   with_reducible rfl
  rotate_left
  ·
   simp only [Act.put, List.setIfInBounds_toArray, List.set_cons_zero, List.set_cons_succ, i64_w, i32_w]
   rfl
  refine pure_ (i := 18) (N := some 3) (v := ?_) (a' := ?_) #[Y,Y,Y,Y,Y,Y,Y,Y,Y,Y,Y,Y,Y,Y,Y,Y,Y,Y,Y] rfl rfl (by kernel_rfl) (fun _ _ _ h => h) (Or.inl ⟨by rfl, ?_⟩) ?_ ?_
  rotate_left
  ·
   intro w'
   go_simp
   with_reducible rfl
  rotate_left
  ·
   simp only [Act.put, List.setIfInBounds_toArray, List.set_cons_zero, List.set_cons_succ, i64_w, i32_w]
   rfl
  refine done_ (by kernel_rfl) ?_
  try clear hHeld
  go_wp2
  go_ret2
  exact wk.out Av cv s Bh V R HB
 ·
  rw [if_neg c2] at h
  simp only [Option.some.injEq, Prod.mk.injEq] at h
  obtain ⟨rfl, rfl, rfl⟩ := h
  have c1b : decide (o.b < 0) = false := decide_eq_false (by omega)
  have c2b : decide ((x.ns.length : Int) ≤ o.b) = true := decide_eq_true (by omega)
  have c2c : decide (o.b < (x.ns.length : Int)) = false := decide_eq_false c2
  clear c1 c2
  have Jh := wk.ca Bh
  have Yh := wk.za Bh
  go_enter Try.func48, Try.ntmps48
  go_wp2
  repeat (go_quiet (fail); try go_wp2)
  go_ret2
  exact wk.outd none 0 s Bh (Kd.V_nil _ _ _ _ _) R HB bR_

end Go.Proofs.Ythlcpbendleihaa.PAdvAlone
