/- The law AdvAlone of the adversary's layer, walked by hand: text 5. -/
import Derived.Test.YthlcpbendleihaaAAdvAlone4
namespace Go.Proofs.Ythlcpbendleihaa.PAdvAlone
open Go Go.RowKit Go.Proofs.YthlcpbendleihaaW.PrintWords Go.Proofs.YthlcpbendleihaaW.PrintLast Go.Proofs.YthlcpbendleihaaW.PrintMore
set_option linter.unusedVariables false
set_option linter.unusedSimpArgs false
/-! ### (*hand).corrupt: function 53 -/
def adv_corrupt.f (k : Nat) (x : wk.X) (o : wk.O) : Option (List Int × Int × wk.X) := if o.b < 1 then some ([], 5, x) else if o.b < (x.pe.length : Int) then (desk_Person.f x (o.b % 4294967296)).bind fun p => (desk_With.f x { p with f5 := true }).bind fun y => some ([p.f1], 0, y) else some ([], 5, x)
set_option maxHeartbeats 8000000 in
set_option maxRecDepth 100000 in
theorem adv_corrupt.calls (k : Nat) : wk.Deed 53 (adv_corrupt.f k) := by
 intro x s o aq cq gh P w l e y Bh R VW hP h
 have hu39 := Try.underlying39
 have hu41 := Try.underlying41
 have hu68 := Try.underlying68
 have hu34 := Try.underlying34
 have hu30 := Try.underlying30
 have ghl := blk_lt Bh
 have HH : ∀ k, (P k ∨ w.heap.size ≤ k) → k ≠ gh := fun k hk => hk.elim (hP k) (fun q => by omega)
 have HB : wk.Kb gh w w := wk.Kb.of (Below.refl w.heap.size w)
 have HN : ∀ q ∈ ([] : List Nat), q < w.heap.size := fun q hq => by simp at hq
 replace R := R.start w.heap.size
 replace VW := wk.V_start w.heap.size VW
 unfold wk.hc at Bh
 unfold adv_corrupt.f at h
 have hu55 := Try.underlying55
 by_cases c1 : o.b < 1
 ·
  rw [if_pos c1] at h
  simp only [Option.some.injEq, Prod.mk.injEq] at h
  obtain ⟨rfl, rfl, rfl⟩ := h
  have c1b : decide (o.b < 1) = true := decide_eq_true (by omega)
  clear c1
  have Jh := wk.ca Bh
  have Yh := wk.za Bh
  go_enter Try.func53, Try.ntmps53
  go_wp2
  repeat (go_quiet (fail); try go_wp2)
  go_ret2
  exact wk.outd none 0 s Bh (Kd.V_nil _ _ _ _ _) R HB bR_
 rw [if_neg c1] at h
 by_cases c2 : o.b < (x.pe.length : Int)
 ·
  rw [if_pos c2] at h
  obtain ⟨p, h1, h⟩ := Option.bind_eq_some_iff.mp h
  obtain ⟨y1, h2, h3⟩ := Option.bind_eq_some_iff.mp h
  clear h
  simp only [Option.some.injEq, Prod.mk.injEq] at h3
  obtain ⟨rfl, rfl, rfl⟩ := h3
  have c1b : decide (o.b < 1) = false := decide_eq_false (by omega)
  have c2b : decide ((x.pe.length : Int) ≤ o.b) = false := decide_eq_false (by omega)
  have c2c : decide (o.b < (x.pe.length : Int)) = true := decide_eq_true c2
  clear c1 c2
  obtain ⟨yn, hyn⟩ : ∃ y_ : List Int, y_ = [p.f1] := ⟨_, rfl⟩
  rw [← hyn]
  have Hn := Aside0.mk hyn
  clear hyn
  have Jh := wk.ca Bh
  have Yh := wk.za Bh
  go_enter Try.func53, Try.ntmps53
  go_upto_region 3 with (fail)
  go_quiet (fail)
  go_upto_region 3 with (fail)
  clear Jh Yh
  refine wk.at_drawnC (W := w) bR_ ?_
  intro W1_ hq_
  replace R := R.below hq_
  replace VW := Kd.V_below VW hq_
  replace Bh := blk_below Bh hq_
  replace HN := fun q hq => Nat.lt_of_lt_of_le (HN q hq) hq_.size
  replace HB := HB.trans (hq_.mono HB.size)
  clear hq_
  refine start_ (n := 13) (S := fun w' => w'.heap[gh]? = some (.cells #[.int .u32 x.c0, .int .i64 x.c1, .int .i64 x.c2, .int .i64 x.c3, .int .i64 x.c4, .int .i64 x.c5, .int .i64 x.c6, .slice s.a7 x.dl.length s.c7, .int .i64 x.dn, .int .i64 x.br, .slice s.a10 x.bs.length s.c10, .int .i64 x.nr, .slice s.a12 x.ng.length s.c12, .slice s.a13 x.ns.length s.c13, .slice s.a14 x.pe.length s.c14, .slice s.a15 x.lo.length s.c15, .slice s.a16 x.re.length s.c16, .slice s.a17 x.le.length s.c17, .int .i64 o.kd, .int .i64 o.a, .int .i64 o.b, .int .i64 o.c, .int .i64 o.d, .slice aq o.ws.length cq, .int .u32 x.c0, .int .i64 x.c1, .int .i64 x.c2, .int .i64 x.c3, .int .i64 x.c4, .int .i64 x.c5, .int .i64 x.c6, .slice s.a7 x.dl.length s.c7, .int .i64 x.dn, .int .i64 x.br, .slice s.a10 x.bs.length s.c10, .int .i64 x.nr, .slice s.a12 x.ng.length s.c12, .slice s.a13 x.ns.length s.c13, .slice s.a14 x.pe.length s.c14, .slice s.a15 x.lo.length s.c15, .slice s.a16 x.re.length s.c16, .slice s.a17 x.le.length s.c17] 68 (0, 0)) ∧ True) (ds := [12]) #[Z,Z,Z,Z,Z,Z,Z,Z,Z,Z,Z,Z,Z] (by kernel_rfl) rfl rfl ⟨(blk_drew Bh), trivial⟩ (fun hHeld => ?_)
  obtain ⟨W2_, hw_⟩ : ∃ W_ : World, W_ = W1_.drew := ⟨_, rfl⟩
  rw [← hw_] at hHeld ⊢
  have hb_ : Below W1_.heap.size W1_ W2_ := by rw [hw_]; exact below_drew (Below.refl _ _)
  clear hw_
  replace R := R.below hb_
  replace VW := Kd.V_below VW hb_
  replace Bh := blk_below Bh hb_
  replace HN := hN_ HN hb_.size
  replace HB := HB.tr_ hb_
  clear hb_
  refine pure_ (i := 0) (N := some 25) (v := ?_) (a' := ?_) #[Y,Z,Z,Z,Z,Z,Z,Z,Z,Z,Z,Z,Z] rfl rfl (by kernel_rfl) (fun _ _ _ h => h) (Or.inl ⟨by rfl, ?_⟩) ?_ ?_
  rotate_left
  ·
   intro w'
   go_simp
   with_reducible rfl
  rotate_left
  ·
   simp only [Act.put, List.setIfInBounds_toArray, List.set_cons_zero, List.set_cons_succ, i64_w, i32_w]
   rfl
  refine pure_ (i := 1) (N := some 26) (v := ?_) (a' := ?_) #[Y,Y,Z,Z,Z,Z,Z,Z,Z,Z,Z,Z,Z] rfl rfl (by kernel_rfl) (fun _ _ _ h => h) (Or.inl ⟨by rfl, ?_⟩) ?_ ?_
  rotate_left
  ·
   intro w'
   go_simp
   with_reducible rfl
  rotate_left
  ·
   simp only [Act.put, List.setIfInBounds_toArray, List.set_cons_zero, List.set_cons_succ, i64_w, i32_w]
   rfl
  refine pure_ (i := 2) (N := some 27) (v := ?_) (a' := ?_) #[Y,Y,Y,Z,Z,Z,Z,Z,Z,Z,Z,Z,Z] rfl rfl (by kernel_rfl) (fun _ _ _ h => h) (Or.inl ⟨by rfl, ?_⟩) ?_ ?_
  rotate_left
  ·
   intro w'
   go_simp
   with_reducible rfl
  rotate_left
  ·
   simp only [Act.put, List.setIfInBounds_toArray, List.set_cons_zero, List.set_cons_succ, i64_w, i32_w]
   rfl
  refine take_ (i := 3) (N := some 28) (v := ?_) (a' := ?_) #[Y,Y,Y,Y,Z,Z,Z,Z,Z,Z,Z,Z,Z] rfl rfl (by kernel_rfl) (fun _ _ _ h => h) (Or.inl ⟨by rfl, ?_⟩) hHeld ?_ ?_
  rotate_left
  ·
   rintro w' ⟨s0, s1⟩
   refine wk.load_at (t := 39) (x := .tmp 27) (off := 0) (cells := #[.int .u32 x.c0, .int .i64 x.c1, .int .i64 x.c2, .int .i64 x.c3, .int .i64 x.c4, .int .i64 x.c5, .int .i64 x.c6, .slice s.a7 x.dl.length s.c7, .int .i64 x.dn, .int .i64 x.br, .slice s.a10 x.bs.length s.c10, .int .i64 x.nr, .slice s.a12 x.ng.length s.c12, .slice s.a13 x.ns.length s.c13, .slice s.a14 x.pe.length s.c14, .slice s.a15 x.lo.length s.c15, .slice s.a16 x.re.length s.c16, .slice s.a17 x.le.length s.c17]) ?ho_1 ?hx_1 s0 Try.underlying39 rfl ?hi_1 ?hn_1
   case ho_1 => rfl
   case hx_1 => first | rfl | (go_simp; done)
   case hi_1 => kernel_rfl
   case hn_1 => kernel_rfl
  rotate_left
  ·
   simp only [Act.put, List.setIfInBounds_toArray, List.set_cons_zero, List.set_cons_succ, i64_w, i32_w]
   rfl
  refine pure_ (i := 4) (N := some 29) (v := ?_) (a' := ?_) #[Y,Y,Y,Y,Y,Z,Z,Z,Z,Z,Z,Z,Z] rfl rfl (by kernel_rfl) (fun _ _ _ h => h) (Or.inl ⟨by rfl, ?_⟩) ?_ ?_
  rotate_left
  ·
   intro w'
   go_simp
   with_reducible rfl
  rotate_left
  ·
   simp only [Act.put, List.setIfInBounds_toArray, List.set_cons_zero, List.set_cons_succ, i64_w, i32_w]
   rfl
  refine pure_ (i := 5) (N := some 30) (v := ?_) (a' := ?_) #[Y,Y,Y,Y,Y,Y,Z,Z,Z,Z,Z,Z,Z] rfl rfl (by kernel_rfl) (fun _ _ _ h => h) (Or.inl ⟨by rfl, ?_⟩) ?_ ?_
  rotate_left
  ·
   intro w'
   go_simp
   with_reducible rfl
  rotate_left
  ·
   simp only [Act.put, List.setIfInBounds_toArray, List.set_cons_zero, List.set_cons_succ, i64_w, i32_w]
   rfl
  refine pure_ (i := 6) (N := some 31) (v := ?_) (a' := ?_) #[Y,Y,Y,Y,Y,Y,Y,Z,Z,Z,Z,Z,Z] rfl rfl (by kernel_rfl) (fun _ _ _ h => h) (Or.inl ⟨by rfl, ?_⟩) ?_ ?_
  rotate_left
  ·
   intro w'
   go_simp
   with_reducible rfl
  rotate_left
  ·
   simp only [Act.put, List.setIfInBounds_toArray, List.set_cons_zero, List.set_cons_succ, i64_w, i32_w]
   rfl
  refine pure_ (i := 7) (N := some 32) (v := ?_) (a' := ?_) #[Y,Y,Y,Y,Y,Y,Y,Y,Z,Z,Z,Z,Z] rfl rfl (by kernel_rfl) (fun _ _ _ h => h) (Or.inl ⟨by rfl, ?_⟩) ?_ ?_
  rotate_left
  ·
   intro w'
   go_simp
   with_reducible rfl
  rotate_left
  ·
   simp only [Act.put, List.setIfInBounds_toArray, List.set_cons_zero, List.set_cons_succ, i64_w, i32_w]
   rfl
  refine take_ (i := 8) (N := some 33) (v := ?_) (a' := ?_) #[Y,Y,Y,Y,Y,Y,Y,Y,Y,Z,Z,Z,Z] rfl rfl (by kernel_rfl) (fun _ _ _ h => h) (Or.inl ⟨by rfl, ?_⟩) hHeld ?_ ?_
  rotate_left
  ·
   rintro w' ⟨s0, s1⟩
   have qh_20 : w'.cell? ⟨gh, 20, none⟩ = some (.int .i64 o.b) := (blk_cell s0 20).trans rfl
   clear s0
   go_simp
   with_reducible rfl
  rotate_left
  ·
   simp only [Act.put, List.setIfInBounds_toArray, List.set_cons_zero, List.set_cons_succ, i64_w, i32_w]
   rfl
  refine pure_ (i := 9) (N := some 34) (v := ?_) (a' := ?_) #[Y,Y,Y,Y,Y,Y,Y,Y,Y,Y,Z,Z,Z] rfl rfl (by kernel_rfl) (fun _ _ _ h => h) (Or.inl ⟨by rfl, ?_⟩) ?_ ?_
  rotate_left
  ·
   intro w'
   go_simp
   with_reducible rfl
  rotate_left
  ·
   simp only [Act.put, List.setIfInBounds_toArray, List.set_cons_zero, List.set_cons_succ, i64_w, i32_w]
   rfl
  refine two_ (i := 10) (j := 11) (Ni := some 35) (Nj := some 4) #[Y,Y,Y,Y,Y,Y,Y,Y,Y,Y,Y,Z,Z] #[Y,Y,Y,Y,Y,Y,Y,Y,Y,Y,Z,Y,Z] rfl rfl rfl rfl (by kernel_rfl) (by decide) (by decide) (fun K hK => ?_) (fun K hK => ?_)
  ·
   refine goes_ Try.func68 (by kernel_rfl) rfl #[.agg #[.int .u32 x.c0, .int .i64 x.c1, .int .i64 x.c2, .int .i64 x.c3, .int .i64 x.c4, .int .i64 x.c5, .int .i64 x.c6, .slice s.a7 x.dl.length s.c7, .int .i64 x.dn, .int .i64 x.br, .slice s.a10 x.bs.length s.c10, .int .i64 x.nr, .slice s.a12 x.ng.length s.c12, .slice s.a13 x.ns.length s.c13, .slice s.a14 x.pe.length s.c14, .slice s.a15 x.lo.length s.c15, .slice s.a16 x.re.length s.c16, .slice s.a17 x.le.length s.c17], .int .u32 (o.b % 4294967296)] (by rfl) rfl rfl mS_ ?_
   refine (desk_Person.calls x s _ (o.b % 4294967296) p _ R h1).mono ?_
   rintro e W3_ ⟨A3, c3, A4, c4, rfl, v3_, v4_, hb_⟩
   refine ⟨_, rfl, ?_⟩
   have V3 := wk.V_new (P := P) HN HB.size v3_
   have V4 := wk.V_new (P := P) HN HB.size v4_
   clear v3_ v4_
   replace R := R.below hb_
   replace VW := Kd.V_below VW hb_
   replace Bh := blk_below Bh hb_
   replace HN := hN_ HN hb_.size
   replace HB := HB.tr_ hb_
   clear hb_
   refine hK.out _ _ ⟨Bh, trivial⟩ (fun hHeld => ?_)
   clear hK K
   refine norm_ (a' := ?_) ?_ ?_
   rotate_left
   ·
    show Act.put _ (some 35) _ = _
    simp only [Act.put, List.setIfInBounds_toArray, List.set_cons_zero, List.set_cons_succ, i64_w, i32_w]
    rfl
   refine one_ (i := 11) (N := some 4) #[Y,Y,Y,Y,Y,Y,Y,Y,Y,Y,Y,Y,Z] rfl rfl (by kernel_rfl) (by decide) (fun K hK => ?_)
   refine box_step (by rfl) (N := 4) rfl (cs := #[.int .u32 0, .int .u32 0, .int .u32 0, .slice none 0 0, .slice none 0 0, .bool false]) (t := 55) ?hr_2 ?_
   case hr_2 => first | (go_simp; done) | (go_simp; rfl)
   intro gp hg_ W4_ Bp hb_
   have gep : w.heap.size ≤ gp := (by rw [hg_]; exact HB.size)
   have nh_p : gh ≠ gp := (by rw [hg_]; exact Nat.ne_of_lt (blk_lt Bh))
   have np_h : gp ≠ gh := nh_p.symm
   replace R := (R.fresh hg_).below hb_
   replace VW := Kd.V_below (wk.V_fresh VW hg_) hb_
   replace V3 := Kd.V_below (wk.V_fresh V3 hg_) hb_
   replace V4 := Kd.V_below (wk.V_fresh V4 hg_) hb_
   replace Bh := blk_below Bh hb_
   replace HN := wk.N_new HN hb_.size (blk_lt Bp)
   replace HB := HB.tr_ hb_
   clear hb_ hg_
   refine hK.out _ _ ⟨Bh, trivial⟩ (fun hHeld => ?_)
   clear hK K
   refine norm_ (a' := ?_) ?_ ?_
   rotate_left
   ·
    show Act.put _ (some 4) _ = _
    simp only [Act.put, List.setIfInBounds_toArray, List.set_cons_zero, List.set_cons_succ, i64_w, i32_w]
    rfl
   refine last_ (i := 12) (N := none) #[Y,Y,Y,Y,Y,Y,Y,Y,Y,Y,Y,Y,Y] rfl rfl (by kernel_rfl) (by decide) (fun K hK => ?_)
   refine wk.put_step (by rfl) rfl rfl (cells := #[.int .u32 p.f0, .int .u32 p.f1, .int .u32 p.f2, .slice A3 p.f3.length c3, .slice A4 p.f4.length c4, .bool p.f5]) ?hx_3 ?hy_3 Bp ?hi_3 ?hs_3 ?h1_3 ?_
   case hx_3 => first | rfl | (go_simp; done)
   case hy_3 => first | rfl | (go_simp; done)
   case hi_3 => kernel_rfl
   case hs_3 => first | rfl | simp
   case h1_3 => simp [Value.oneCell']
   intro W5_ b_ hs_
   replace R := R.st hs_ (fun k hk => hk.ne (by simp))
   replace VW := wk.V_st VW hs_ (fun k hk => hk.ne (by simp))
   replace V3 := wk.V_st V3 hs_ (fun k hk => hk.ne (by simp))
   replace V4 := wk.V_st V4 hs_ (fun k hk => hk.ne (by simp))
   replace Bh := hs_.blk Bh nh_p
   replace HN := fun q hq => Nat.lt_of_lt_of_le (HN q hq) (hs_.bel 0 (Nat.zero_le _)).size
   replace HB := HB.stn hs_ gep
   replace Bp := b_
   clear b_ hs_
   refine hK.out _ _ ?_
   clear hK K
   refine done_ (by kernel_rfl) ?_
   try clear hHeld
   have Jh := wk.ca Bh
   have Yh := wk.za Bh
   have Jp := wk.ca Bp
   have Yp := wk.za Bp
   go_upto_region 5 with (first | ((with_reducible refine gate_store (t := 4) (p := 36) rfl ?_); refine store_event (t := 4) (p := 36) (v := ?vo36_1_) (w1 := (W5_.setCell ⟨gp, 5, none⟩ (.bool true))) ?hg ?ho ?hn ?hr ?_; (case ho => rfl); (case hg => rfl); (case hn => rfl); (case hr => first | (go_simp; done) | (go_simp; rfl)); intro W6_ hw_; have b_ : W6_.heap[gp]? = some (.cells #[.int .u32 p.f0, .int .u32 p.f1, .int .u32 p.f2, .slice A3 p.f3.length c3, .slice A4 p.f4.length c4, .bool true] 55 (0, 0)) := (by rw [hw_]; exact (blk_put (cs := #[.int .u32 p.f0, .int .u32 p.f1, .int .u32 p.f2, .slice A3 p.f3.length c3, .slice A4 p.f4.length c4, .bool p.f5]) (cs' := #[.int .u32 p.f0, .int .u32 p.f1, .int .u32 p.f2, .slice A3 p.f3.length c3, .slice A4 p.f4.length c4, .bool true]) Bp 5 _ rfl)); have hs_ : wk.St gp W5_ W6_ := (by rw [hw_]; exact wk.St.cell _ _ _ _); clear hw_; clear Jh Yh Jp Yp; replace R := R.st hs_ (fun k hk => hk.ne (by simp)); replace VW := wk.V_st VW hs_ (fun k hk => hk.ne (by simp)); replace V3 := wk.V_st V3 hs_ (fun k hk => hk.ne (by simp)); replace V4 := wk.V_st V4 hs_ (fun k hk => hk.ne (by simp)); replace Bh := hs_.blk Bh nh_p; replace HN := fun q hq => Nat.lt_of_lt_of_le (HN q hq) (hs_.bel 0 (Nat.zero_le _)).size; replace HB := HB.stn hs_ gep; replace Bp := b_; clear b_ hs_; have Jh := wk.ca Bh; have Yh := wk.za Bh; have Jp := wk.ca Bp; have Yp := wk.za Bp))
   try clear Jp Yp
   clear Jh Yh
   refine start_ (n := 10) (S := fun w' => w'.heap[gh]? = some (.cells #[.int .u32 x.c0, .int .i64 x.c1, .int .i64 x.c2, .int .i64 x.c3, .int .i64 x.c4, .int .i64 x.c5, .int .i64 x.c6, .slice s.a7 x.dl.length s.c7, .int .i64 x.dn, .int .i64 x.br, .slice s.a10 x.bs.length s.c10, .int .i64 x.nr, .slice s.a12 x.ng.length s.c12, .slice s.a13 x.ns.length s.c13, .slice s.a14 x.pe.length s.c14, .slice s.a15 x.lo.length s.c15, .slice s.a16 x.re.length s.c16, .slice s.a17 x.le.length s.c17, .int .i64 o.kd, .int .i64 o.a, .int .i64 o.b, .int .i64 o.c, .int .i64 o.d, .slice aq o.ws.length cq, .int .u32 x.c0, .int .i64 x.c1, .int .i64 x.c2, .int .i64 x.c3, .int .i64 x.c4, .int .i64 x.c5, .int .i64 x.c6, .slice s.a7 x.dl.length s.c7, .int .i64 x.dn, .int .i64 x.br, .slice s.a10 x.bs.length s.c10, .int .i64 x.nr, .slice s.a12 x.ng.length s.c12, .slice s.a13 x.ns.length s.c13, .slice s.a14 x.pe.length s.c14, .slice s.a15 x.lo.length s.c15, .slice s.a16 x.re.length s.c16, .slice s.a17 x.le.length s.c17] 68 (0, 0)) ∧ w'.heap[gp]? = some (.cells #[.int .u32 p.f0, .int .u32 p.f1, .int .u32 p.f2, .slice A3 p.f3.length c3, .slice A4 p.f4.length c4, .bool true] 55 (0, 0)) ∧ True) (ds := [9]) #[Z,Z,Z,Z,Z,Z,Z,Z,Z,Z] (by kernel_rfl) rfl rfl ⟨(blk_drew Bh), (blk_drew Bp), trivial⟩ (fun hHeld => ?_)
   obtain ⟨W7_, hw_⟩ : ∃ W_ : World, W_ = W6_.drew := ⟨_, rfl⟩
   rw [← hw_] at hHeld ⊢
   have hb_ : Below W6_.heap.size W6_ W7_ := by rw [hw_]; exact below_drew (Below.refl _ _)
   clear hw_
   replace R := R.below hb_
   replace VW := Kd.V_below VW hb_
   replace V3 := Kd.V_below V3 hb_
   replace V4 := Kd.V_below V4 hb_
   replace Bh := blk_below Bh hb_
   replace Bp := blk_below Bp hb_
   replace HN := hN_ HN hb_.size
   replace HB := HB.tr_ hb_
   clear hb_
   refine pure_ (i := 0) (N := some 37) (v := ?_) (a' := ?_) #[Y,Z,Z,Z,Z,Z,Z,Z,Z,Z] rfl rfl (by kernel_rfl) (fun _ _ _ h => h) (Or.inl ⟨by rfl, ?_⟩) ?_ ?_
   rotate_left
   ·
    intro w'
    go_simp
    with_reducible rfl
   rotate_left
   ·
    simp only [Act.put, List.setIfInBounds_toArray, List.set_cons_zero, List.set_cons_succ, i64_w, i32_w]
    rfl
   refine pure_ (i := 1) (N := some 38) (v := ?_) (a' := ?_) #[Y,Y,Z,Z,Z,Z,Z,Z,Z,Z] rfl rfl (by kernel_rfl) (fun _ _ _ h => h) (Or.inl ⟨by rfl, ?_⟩) ?_ ?_
   rotate_left
   ·
    intro w'
    go_simp
    with_reducible rfl
   rotate_left
   ·
    simp only [Act.put, List.setIfInBounds_toArray, List.set_cons_zero, List.set_cons_succ, i64_w, i32_w]
    rfl
   refine pure_ (i := 2) (N := some 39) (v := ?_) (a' := ?_) #[Y,Y,Y,Z,Z,Z,Z,Z,Z,Z] rfl rfl (by kernel_rfl) (fun _ _ _ h => h) (Or.inl ⟨by rfl, ?_⟩) ?_ ?_
   rotate_left
   ·
    intro w'
    go_simp
    with_reducible rfl
   rotate_left
   ·
    simp only [Act.put, List.setIfInBounds_toArray, List.set_cons_zero, List.set_cons_succ, i64_w, i32_w]
    rfl
   refine pure_ (i := 3) (N := some 40) (v := ?_) (a' := ?_) #[Y,Y,Y,Y,Z,Z,Z,Z,Z,Z] rfl rfl (by kernel_rfl) (fun _ _ _ h => h) (Or.inl ⟨by rfl, ?_⟩) ?_ ?_
   rotate_left
   ·
    intro w'
    go_simp
    with_reducible rfl
   rotate_left
   ·
    simp only [Act.put, List.setIfInBounds_toArray, List.set_cons_zero, List.set_cons_succ, i64_w, i32_w]
    rfl
   refine take_ (i := 4) (N := some 41) (v := ?_) (a' := ?_) #[Y,Y,Y,Y,Y,Z,Z,Z,Z,Z] rfl rfl (by kernel_rfl) (fun _ _ _ h => h) (Or.inl ⟨by rfl, ?_⟩) hHeld ?_ ?_
   rotate_left
   ·
    rintro w' ⟨s0, s1, s2⟩
    refine wk.load_at (t := 39) (x := .tmp 40) (off := 0) (cells := #[.int .u32 x.c0, .int .i64 x.c1, .int .i64 x.c2, .int .i64 x.c3, .int .i64 x.c4, .int .i64 x.c5, .int .i64 x.c6, .slice s.a7 x.dl.length s.c7, .int .i64 x.dn, .int .i64 x.br, .slice s.a10 x.bs.length s.c10, .int .i64 x.nr, .slice s.a12 x.ng.length s.c12, .slice s.a13 x.ns.length s.c13, .slice s.a14 x.pe.length s.c14, .slice s.a15 x.lo.length s.c15, .slice s.a16 x.re.length s.c16, .slice s.a17 x.le.length s.c17]) ?ho_4 ?hx_4 s0 Try.underlying39 rfl ?hi_4 ?hn_4
    case ho_4 => rfl
    case hx_4 => first | rfl | (go_simp; done)
    case hi_4 => kernel_rfl
    case hn_4 => kernel_rfl
   rotate_left
   ·
    simp only [Act.put, List.setIfInBounds_toArray, List.set_cons_zero, List.set_cons_succ, i64_w, i32_w]
    rfl
   refine take_ (i := 5) (N := some 42) (v := ?_) (a' := ?_) #[Y,Y,Y,Y,Y,Y,Z,Z,Z,Z] rfl rfl (by kernel_rfl) (fun _ _ _ h => h) (Or.inl ⟨by rfl, ?_⟩) hHeld ?_ ?_
   rotate_left
   ·
    rintro w' ⟨s0, s1, s2⟩
    refine wk.load_at (t := 55) (x := .tmp 4) (off := 0) (cells := #[.int .u32 p.f0, .int .u32 p.f1, .int .u32 p.f2, .slice A3 p.f3.length c3, .slice A4 p.f4.length c4, .bool true]) ?ho_5 ?hx_5 s1 Try.underlying55 rfl ?hi_5 ?hn_5
    case ho_5 => rfl
    case hx_5 => first | rfl | (go_simp; done)
    case hi_5 => kernel_rfl
    case hn_5 => kernel_rfl
   rotate_left
   ·
    simp only [Act.put, List.setIfInBounds_toArray, List.set_cons_zero, List.set_cons_succ, i64_w, i32_w]
    rfl
   refine one_ (i := 6) (N := some 43) #[Y,Y,Y,Y,Y,Y,Y,Z,Z,Z] rfl rfl (by kernel_rfl) (by decide) (fun K hK => ?_)
   refine goes_ Try.func69 (by kernel_rfl) rfl #[.agg #[.int .u32 x.c0, .int .i64 x.c1, .int .i64 x.c2, .int .i64 x.c3, .int .i64 x.c4, .int .i64 x.c5, .int .i64 x.c6, .slice s.a7 x.dl.length s.c7, .int .i64 x.dn, .int .i64 x.br, .slice s.a10 x.bs.length s.c10, .int .i64 x.nr, .slice s.a12 x.ng.length s.c12, .slice s.a13 x.ns.length s.c13, .slice s.a14 x.pe.length s.c14, .slice s.a15 x.lo.length s.c15, .slice s.a16 x.re.length s.c16, .slice s.a17 x.le.length s.c17], .agg #[.int .u32 p.f0, .int .u32 p.f1, .int .u32 p.f2, .slice A3 p.f3.length c3, .slice A4 p.f4.length c4, .bool true]] (by rfl) rfl rfl mS_ ?_
   refine (desk_With.calls x s _ { p with f5 := true } A3 c3 A4 c4 y1 _ R V3 V4 h2).mono ?_
   rintro e W8_ ⟨t1, rfl, hr_, hb_⟩
   refine ⟨_, rfl, ?_⟩
   have R1 := wk.Rd.new (P := P) HN HB.size hr_
   clear hr_
   replace R := R.below hb_
   replace VW := Kd.V_below VW hb_
   replace V3 := Kd.V_below V3 hb_
   replace V4 := Kd.V_below V4 hb_
   replace Bh := blk_below Bh hb_
   replace Bp := blk_below Bp hb_
   replace HN := hN_ HN hb_.size
   replace HB := HB.tr_ hb_
   clear hb_
   refine hK.out _ _ ⟨Bh, Bp, trivial⟩ (fun hHeld => ?_)
   clear hK K
   refine norm_ (a' := ?_) ?_ ?_
   rotate_left
   ·
    show Act.put _ (some 43) _ = _
    simp only [Act.put, List.setIfInBounds_toArray, List.set_cons_zero, List.set_cons_succ, i64_w, i32_w]
    rfl
   refine pure_ (i := 7) (N := some 44) (v := ?_) (a' := ?_) #[Y,Y,Y,Y,Y,Y,Y,Y,Z,Z] rfl rfl (by kernel_rfl) (fun _ _ _ h => h) (Or.inl ⟨by rfl, ?_⟩) ?_ ?_
   rotate_left
   ·
    intro w'
    go_simp
    with_reducible rfl
   rotate_left
   ·
    simp only [Act.put, List.setIfInBounds_toArray, List.set_cons_zero, List.set_cons_succ, i64_w, i32_w]
    rfl
   refine pure_ (i := 8) (N := some 45) (v := ?_) (a' := ?_) #[Y,Y,Y,Y,Y,Y,Y,Y,Y,Z] rfl rfl (by kernel_rfl) (fun _ _ _ h => h) (Or.inl ⟨by rfl, ?_⟩) ?_ ?_
   rotate_left
   ·
    intro w'
    go_simp
    with_reducible rfl
   rotate_left
   ·
    simp only [Act.put, List.setIfInBounds_toArray, List.set_cons_zero, List.set_cons_succ, i64_w, i32_w]
    rfl
   refine last_ (i := 9) (N := none) #[Y,Y,Y,Y,Y,Y,Y,Y,Y,Y] rfl rfl (by kernel_rfl) (by decide) (fun K hK => ?_)
   refine wk.part_step (by rfl) rfl rfl (off := 24) (new := #[.int .u32 x.c0, .int .i64 x.c1, .int .i64 x.c2, .int .i64 x.c3, .int .i64 x.c4, .int .i64 x.c5, .int .i64 x.c6, .slice s.a7 x.dl.length s.c7, .int .i64 x.dn, .int .i64 x.br, .slice s.a10 x.bs.length s.c10, .int .i64 x.nr, .slice s.a12 x.ng.length s.c12, .slice s.a13 x.ns.length s.c13, .slice s.a14 x.pe.length s.c14, .slice s.a15 x.lo.length s.c15, .slice s.a16 x.re.length s.c16, .slice s.a17 x.le.length s.c17, .int .i64 o.kd, .int .i64 o.a, .int .i64 o.b, .int .i64 o.c, .int .i64 o.d, .slice aq o.ws.length cq, .int .u32 y1.c0, .int .i64 y1.c1, .int .i64 y1.c2, .int .i64 y1.c3, .int .i64 y1.c4, .int .i64 y1.c5, .int .i64 y1.c6, .slice t1.a7 y1.dl.length t1.c7, .int .i64 y1.dn, .int .i64 y1.br, .slice t1.a10 y1.bs.length t1.c10, .int .i64 y1.nr, .slice t1.a12 y1.ng.length t1.c12, .slice t1.a13 y1.ns.length t1.c13, .slice t1.a14 y1.pe.length t1.c14, .slice t1.a15 y1.lo.length t1.c15, .slice t1.a16 y1.re.length t1.c16, .slice t1.a17 y1.le.length t1.c17]) (cells := #[.int .u32 y1.c0, .int .i64 y1.c1, .int .i64 y1.c2, .int .i64 y1.c3, .int .i64 y1.c4, .int .i64 y1.c5, .int .i64 y1.c6, .slice t1.a7 y1.dl.length t1.c7, .int .i64 y1.dn, .int .i64 y1.br, .slice t1.a10 y1.bs.length t1.c10, .int .i64 y1.nr, .slice t1.a12 y1.ng.length t1.c12, .slice t1.a13 y1.ns.length t1.c13, .slice t1.a14 y1.pe.length t1.c14, .slice t1.a15 y1.lo.length t1.c15, .slice t1.a16 y1.re.length t1.c16, .slice t1.a17 y1.le.length t1.c17]) ?hx_6 ?hy_6 Bh ?hi_6 ?hs_6 ?h1_6 ?hn_6 ?_
   case hx_6 => first | rfl | (go_simp; done)
   case hy_6 => first | rfl | (go_simp; done)
   case hi_6 => kernel_rfl
   case hs_6 => first | rfl | simp
   case h1_6 => simp [Value.oneCell']
   case hn_6 => kernel_rfl
   intro W9_ b_ hs_
   replace R := R.st hs_ (fun k hk => HH k hk.1)
   replace VW := wk.V_st VW hs_ (fun k hk => HH k hk.1)
   replace V3 := wk.V_st V3 hs_ (fun k hk => HH k hk.1)
   replace V4 := wk.V_st V4 hs_ (fun k hk => HH k hk.1)
   replace R1 := R1.st hs_ (fun k hk => HH k hk.1)
   replace Bp := hs_.blk Bp np_h
   replace HN := fun q hq => Nat.lt_of_lt_of_le (HN q hq) (hs_.bel 0 (Nat.zero_le _)).size
   replace HB := HB.st hs_
   replace Bh := b_
   clear b_ hs_
   refine hK.out _ _ ?_
   clear hK K
   refine done_ (by kernel_rfl) ?_
   try clear hHeld
   have Jh := wk.ca Bh
   have Yh := wk.za Bh
   have Jp := wk.ca Bp
   have Yp := wk.za Bp
   go_wp2_with (first | ((with_reducible refine gate_dst (N := 48) rfl ?_); (try (refine gate_guard (by rfl) ?_; dsimp only)); refine Kd.N_lit (Kd.int .u32) _ 22 ?hg (N' := 48) ?hd (xs := ([p.f1] : List Int)) (inner := [.int .u32 p.f1]) (ok := wk.Q P w.heap.size [gp]) (okp := wk.Q P w.heap.size [gp]) ?hr ?hp (fun _ hk => hk) (wk.Q.new HN HB.size (.inr (Nat.le_refl _))) (Below.refl _ _) (Nat.le_refl _) (by simp) ?_; (case hd => rfl); (case hg => rfl); (case hr => first | (go_simp; done) | (go_simp; rfl)); (case hp => exact (Reps.none _ _).snoc (fun _ _ => rfl) rfl); intro v_ W10_ hn_ hb_ hg_ hnew_; clear hg_ hnew_; rw [← Hn.out] at hn_; have Vn := wk.V_b (base' := 0) (Kd.N_V (base' := 0) hn_); clear hn_; clear Jh Yh Jp Yp; replace R := R.below hb_; replace VW := Kd.V_below VW hb_; replace V3 := Kd.V_below V3 hb_; replace V4 := Kd.V_below V4 hb_; replace R1 := R1.below hb_; replace Bh := blk_below Bh hb_; replace Bp := blk_below Bp hb_; replace HN := hN_ HN hb_.size; replace HB := HB.tr_ hb_; clear hb_; obtain ⟨An, cn, rfl⟩ := Kd.V_slice Vn; have Jh := wk.ca Bh; have Yh := wk.za Bh; have Jp := wk.ca Bp; have Yp := wk.za Bp))
   go_ret2
   exact wk.out An cn t1 Bh Vn R1 HB
  ·
   refine box_step (by rfl) (N := 4) rfl (cs := #[.int .u32 0, .int .u32 0, .int .u32 0, .slice none 0 0, .slice none 0 0, .bool false]) (t := 55) ?hr_7 ?_
   case hr_7 => first | (go_simp; done) | (go_simp; rfl)
   intro gp hg_ W3_ Bp hb_
   have gep : w.heap.size ≤ gp := (by rw [hg_]; exact HB.size)
   have nh_p : gh ≠ gp := (by rw [hg_]; exact Nat.ne_of_lt (blk_lt Bh))
   have np_h : gp ≠ gh := nh_p.symm
   replace R := (R.fresh hg_).below hb_
   replace VW := Kd.V_below (wk.V_fresh VW hg_) hb_
   replace Bh := blk_below Bh hb_
   replace HN := wk.N_new HN hb_.size (blk_lt Bp)
   replace HB := HB.tr_ hb_
   clear hb_ hg_
   refine hK.out _ _ ⟨Bh, trivial⟩ (fun hHeld => ?_)
   clear hK K
   refine norm_ (a' := ?_) ?_ ?_
   rotate_left
   ·
    show Act.put _ (some 4) _ = _
    simp only [Act.put, List.setIfInBounds_toArray, List.set_cons_zero, List.set_cons_succ, i64_w, i32_w]
    rfl
   refine one_ (i := 10) (N := some 35) #[Y,Y,Y,Y,Y,Y,Y,Y,Y,Y,Y,Y,Z] rfl rfl (by kernel_rfl) (by decide) (fun K hK => ?_)
   refine goes_ Try.func68 (by kernel_rfl) rfl #[.agg #[.int .u32 x.c0, .int .i64 x.c1, .int .i64 x.c2, .int .i64 x.c3, .int .i64 x.c4, .int .i64 x.c5, .int .i64 x.c6, .slice s.a7 x.dl.length s.c7, .int .i64 x.dn, .int .i64 x.br, .slice s.a10 x.bs.length s.c10, .int .i64 x.nr, .slice s.a12 x.ng.length s.c12, .slice s.a13 x.ns.length s.c13, .slice s.a14 x.pe.length s.c14, .slice s.a15 x.lo.length s.c15, .slice s.a16 x.re.length s.c16, .slice s.a17 x.le.length s.c17], .int .u32 (o.b % 4294967296)] (by rfl) rfl rfl mS_ ?_
   refine (desk_Person.calls x s _ (o.b % 4294967296) p _ R h1).mono ?_
   rintro e W4_ ⟨A3, c3, A4, c4, rfl, v3_, v4_, hb_⟩
   refine ⟨_, rfl, ?_⟩
   have V3 := wk.V_new (P := P) HN HB.size v3_
   have V4 := wk.V_new (P := P) HN HB.size v4_
   clear v3_ v4_
   replace R := R.below hb_
   replace VW := Kd.V_below VW hb_
   replace Bh := blk_below Bh hb_
   replace Bp := blk_below Bp hb_
   replace HN := hN_ HN hb_.size
   replace HB := HB.tr_ hb_
   clear hb_
   refine hK.out _ _ ⟨Bh, trivial⟩ (fun hHeld => ?_)
   clear hK K
   refine norm_ (a' := ?_) ?_ ?_
   rotate_left
   ·
    show Act.put _ (some 35) _ = _
    simp only [Act.put, List.setIfInBounds_toArray, List.set_cons_zero, List.set_cons_succ, i64_w, i32_w]
    rfl
   refine last_ (i := 12) (N := none) #[Y,Y,Y,Y,Y,Y,Y,Y,Y,Y,Y,Y,Y] rfl rfl (by kernel_rfl) (by decide) (fun K hK => ?_)
   refine wk.put_step (by rfl) rfl rfl (cells := #[.int .u32 p.f0, .int .u32 p.f1, .int .u32 p.f2, .slice A3 p.f3.length c3, .slice A4 p.f4.length c4, .bool p.f5]) ?hx_8 ?hy_8 Bp ?hi_8 ?hs_8 ?h1_8 ?_
   case hx_8 => first | rfl | (go_simp; done)
   case hy_8 => first | rfl | (go_simp; done)
   case hi_8 => kernel_rfl
   case hs_8 => first | rfl | simp
   case h1_8 => simp [Value.oneCell']
   intro W5_ b_ hs_
   replace R := R.st hs_ (fun k hk => hk.ne (by simp))
   replace VW := wk.V_st VW hs_ (fun k hk => hk.ne (by simp))
   replace V3 := wk.V_st V3 hs_ (fun k hk => hk.ne (by simp))
   replace V4 := wk.V_st V4 hs_ (fun k hk => hk.ne (by simp))
   replace Bh := hs_.blk Bh nh_p
   replace HN := fun q hq => Nat.lt_of_lt_of_le (HN q hq) (hs_.bel 0 (Nat.zero_le _)).size
   replace HB := HB.stn hs_ gep
   replace Bp := b_
   clear b_ hs_
   refine hK.out _ _ ?_
   clear hK K
   refine done_ (by kernel_rfl) ?_
   try clear hHeld
   have Jh := wk.ca Bh
   have Yh := wk.za Bh
   have Jp := wk.ca Bp
   have Yp := wk.za Bp
   go_upto_region 5 with (first | ((with_reducible refine gate_store (t := 4) (p := 36) rfl ?_); refine store_event (t := 4) (p := 36) (v := ?vo36_2_) (w1 := (W5_.setCell ⟨gp, 5, none⟩ (.bool true))) ?hg ?ho ?hn ?hr ?_; (case ho => rfl); (case hg => rfl); (case hn => rfl); (case hr => first | (go_simp; done) | (go_simp; rfl)); intro W6_ hw_; have b_ : W6_.heap[gp]? = some (.cells #[.int .u32 p.f0, .int .u32 p.f1, .int .u32 p.f2, .slice A3 p.f3.length c3, .slice A4 p.f4.length c4, .bool true] 55 (0, 0)) := (by rw [hw_]; exact (blk_put (cs := #[.int .u32 p.f0, .int .u32 p.f1, .int .u32 p.f2, .slice A3 p.f3.length c3, .slice A4 p.f4.length c4, .bool p.f5]) (cs' := #[.int .u32 p.f0, .int .u32 p.f1, .int .u32 p.f2, .slice A3 p.f3.length c3, .slice A4 p.f4.length c4, .bool true]) Bp 5 _ rfl)); have hs_ : wk.St gp W5_ W6_ := (by rw [hw_]; exact wk.St.cell _ _ _ _); clear hw_; clear Jh Yh Jp Yp; replace R := R.st hs_ (fun k hk => hk.ne (by simp)); replace VW := wk.V_st VW hs_ (fun k hk => hk.ne (by simp)); replace V3 := wk.V_st V3 hs_ (fun k hk => hk.ne (by simp)); replace V4 := wk.V_st V4 hs_ (fun k hk => hk.ne (by simp)); replace Bh := hs_.blk Bh nh_p; replace HN := fun q hq => Nat.lt_of_lt_of_le (HN q hq) (hs_.bel 0 (Nat.zero_le _)).size; replace HB := HB.stn hs_ gep; replace Bp := b_; clear b_ hs_; have Jh := wk.ca Bh; have Yh := wk.za Bh; have Jp := wk.ca Bp; have Yp := wk.za Bp))
   try clear Jp Yp
   clear Jh Yh
   refine start_ (n := 10) (S := fun w' => w'.heap[gh]? = some (.cells #[.int .u32 x.c0, .int .i64 x.c1, .int .i64 x.c2, .int .i64 x.c3, .int .i64 x.c4, .int .i64 x.c5, .int .i64 x.c6, .slice s.a7 x.dl.length s.c7, .int .i64 x.dn, .int .i64 x.br, .slice s.a10 x.bs.length s.c10, .int .i64 x.nr, .slice s.a12 x.ng.length s.c12, .slice s.a13 x.ns.length s.c13, .slice s.a14 x.pe.length s.c14, .slice s.a15 x.lo.length s.c15, .slice s.a16 x.re.length s.c16, .slice s.a17 x.le.length s.c17, .int .i64 o.kd, .int .i64 o.a, .int .i64 o.b, .int .i64 o.c, .int .i64 o.d, .slice aq o.ws.length cq, .int .u32 x.c0, .int .i64 x.c1, .int .i64 x.c2, .int .i64 x.c3, .int .i64 x.c4, .int .i64 x.c5, .int .i64 x.c6, .slice s.a7 x.dl.length s.c7, .int .i64 x.dn, .int .i64 x.br, .slice s.a10 x.bs.length s.c10, .int .i64 x.nr, .slice s.a12 x.ng.length s.c12, .slice s.a13 x.ns.length s.c13, .slice s.a14 x.pe.length s.c14, .slice s.a15 x.lo.length s.c15, .slice s.a16 x.re.length s.c16, .slice s.a17 x.le.length s.c17] 68 (0, 0)) ∧ w'.heap[gp]? = some (.cells #[.int .u32 p.f0, .int .u32 p.f1, .int .u32 p.f2, .slice A3 p.f3.length c3, .slice A4 p.f4.length c4, .bool true] 55 (0, 0)) ∧ True) (ds := [9]) #[Z,Z,Z,Z,Z,Z,Z,Z,Z,Z] (by kernel_rfl) rfl rfl ⟨(blk_drew Bh), (blk_drew Bp), trivial⟩ (fun hHeld => ?_)
   obtain ⟨W7_, hw_⟩ : ∃ W_ : World, W_ = W6_.drew := ⟨_, rfl⟩
   rw [← hw_] at hHeld ⊢
   have hb_ : Below W6_.heap.size W6_ W7_ := by rw [hw_]; exact below_drew (Below.refl _ _)
   clear hw_
   replace R := R.below hb_
   replace VW := Kd.V_below VW hb_
   replace V3 := Kd.V_below V3 hb_
   replace V4 := Kd.V_below V4 hb_
   replace Bh := blk_below Bh hb_
   replace Bp := blk_below Bp hb_
   replace HN := hN_ HN hb_.size
   replace HB := HB.tr_ hb_
   clear hb_
   refine pure_ (i := 0) (N := some 37) (v := ?_) (a' := ?_) #[Y,Z,Z,Z,Z,Z,Z,Z,Z,Z] rfl rfl (by kernel_rfl) (fun _ _ _ h => h) (Or.inl ⟨by rfl, ?_⟩) ?_ ?_
   rotate_left
   ·
    intro w'
    go_simp
    with_reducible rfl
   rotate_left
   ·
    simp only [Act.put, List.setIfInBounds_toArray, List.set_cons_zero, List.set_cons_succ, i64_w, i32_w]
    rfl
   refine pure_ (i := 1) (N := some 38) (v := ?_) (a' := ?_) #[Y,Y,Z,Z,Z,Z,Z,Z,Z,Z] rfl rfl (by kernel_rfl) (fun _ _ _ h => h) (Or.inl ⟨by rfl, ?_⟩) ?_ ?_
   rotate_left
   ·
    intro w'
    go_simp
    with_reducible rfl
   rotate_left
   ·
    simp only [Act.put, List.setIfInBounds_toArray, List.set_cons_zero, List.set_cons_succ, i64_w, i32_w]
    rfl
   refine pure_ (i := 2) (N := some 39) (v := ?_) (a' := ?_) #[Y,Y,Y,Z,Z,Z,Z,Z,Z,Z] rfl rfl (by kernel_rfl) (fun _ _ _ h => h) (Or.inl ⟨by rfl, ?_⟩) ?_ ?_
   rotate_left
   ·
    intro w'
    go_simp
    with_reducible rfl
   rotate_left
   ·
    simp only [Act.put, List.setIfInBounds_toArray, List.set_cons_zero, List.set_cons_succ, i64_w, i32_w]
    rfl
   refine pure_ (i := 3) (N := some 40) (v := ?_) (a' := ?_) #[Y,Y,Y,Y,Z,Z,Z,Z,Z,Z] rfl rfl (by kernel_rfl) (fun _ _ _ h => h) (Or.inl ⟨by rfl, ?_⟩) ?_ ?_
   rotate_left
   ·
    intro w'
    go_simp
    with_reducible rfl
   rotate_left
   ·
    simp only [Act.put, List.setIfInBounds_toArray, List.set_cons_zero, List.set_cons_succ, i64_w, i32_w]
    rfl
   refine take_ (i := 4) (N := some 41) (v := ?_) (a' := ?_) #[Y,Y,Y,Y,Y,Z,Z,Z,Z,Z] rfl rfl (by kernel_rfl) (fun _ _ _ h => h) (Or.inl ⟨by rfl, ?_⟩) hHeld ?_ ?_
   rotate_left
   ·
    rintro w' ⟨s0, s1, s2⟩
    refine wk.load_at (t := 39) (x := .tmp 40) (off := 0) (cells := #[.int .u32 x.c0, .int .i64 x.c1, .int .i64 x.c2, .int .i64 x.c3, .int .i64 x.c4, .int .i64 x.c5, .int .i64 x.c6, .slice s.a7 x.dl.length s.c7, .int .i64 x.dn, .int .i64 x.br, .slice s.a10 x.bs.length s.c10, .int .i64 x.nr, .slice s.a12 x.ng.length s.c12, .slice s.a13 x.ns.length s.c13, .slice s.a14 x.pe.length s.c14, .slice s.a15 x.lo.length s.c15, .slice s.a16 x.re.length s.c16, .slice s.a17 x.le.length s.c17]) ?ho_9 ?hx_9 s0 Try.underlying39 rfl ?hi_9 ?hn_9
    case ho_9 => rfl
    case hx_9 => first | rfl | (go_simp; done)
    case hi_9 => kernel_rfl
    case hn_9 => kernel_rfl
   rotate_left
   ·
    simp only [Act.put, List.setIfInBounds_toArray, List.set_cons_zero, List.set_cons_succ, i64_w, i32_w]
    rfl
   refine take_ (i := 5) (N := some 42) (v := ?_) (a' := ?_) #[Y,Y,Y,Y,Y,Y,Z,Z,Z,Z] rfl rfl (by kernel_rfl) (fun _ _ _ h => h) (Or.inl ⟨by rfl, ?_⟩) hHeld ?_ ?_
   rotate_left
   ·
    rintro w' ⟨s0, s1, s2⟩
    refine wk.load_at (t := 55) (x := .tmp 4) (off := 0) (cells := #[.int .u32 p.f0, .int .u32 p.f1, .int .u32 p.f2, .slice A3 p.f3.length c3, .slice A4 p.f4.length c4, .bool true]) ?ho_10 ?hx_10 s1 Try.underlying55 rfl ?hi_10 ?hn_10
    case ho_10 => rfl
    case hx_10 => first | rfl | (go_simp; done)
    case hi_10 => kernel_rfl
    case hn_10 => kernel_rfl
   rotate_left
   ·
    simp only [Act.put, List.setIfInBounds_toArray, List.set_cons_zero, List.set_cons_succ, i64_w, i32_w]
    rfl
   refine one_ (i := 6) (N := some 43) #[Y,Y,Y,Y,Y,Y,Y,Z,Z,Z] rfl rfl (by kernel_rfl) (by decide) (fun K hK => ?_)
   refine goes_ Try.func69 (by kernel_rfl) rfl #[.agg #[.int .u32 x.c0, .int .i64 x.c1, .int .i64 x.c2, .int .i64 x.c3, .int .i64 x.c4, .int .i64 x.c5, .int .i64 x.c6, .slice s.a7 x.dl.length s.c7, .int .i64 x.dn, .int .i64 x.br, .slice s.a10 x.bs.length s.c10, .int .i64 x.nr, .slice s.a12 x.ng.length s.c12, .slice s.a13 x.ns.length s.c13, .slice s.a14 x.pe.length s.c14, .slice s.a15 x.lo.length s.c15, .slice s.a16 x.re.length s.c16, .slice s.a17 x.le.length s.c17], .agg #[.int .u32 p.f0, .int .u32 p.f1, .int .u32 p.f2, .slice A3 p.f3.length c3, .slice A4 p.f4.length c4, .bool true]] (by rfl) rfl rfl mS_ ?_
   refine (desk_With.calls x s _ { p with f5 := true } A3 c3 A4 c4 y1 _ R V3 V4 h2).mono ?_
   rintro e W8_ ⟨t1, rfl, hr_, hb_⟩
   refine ⟨_, rfl, ?_⟩
   have R1 := wk.Rd.new (P := P) HN HB.size hr_
   clear hr_
   replace R := R.below hb_
   replace VW := Kd.V_below VW hb_
   replace V3 := Kd.V_below V3 hb_
   replace V4 := Kd.V_below V4 hb_
   replace Bh := blk_below Bh hb_
   replace Bp := blk_below Bp hb_
   replace HN := hN_ HN hb_.size
   replace HB := HB.tr_ hb_
   clear hb_
   refine hK.out _ _ ⟨Bh, Bp, trivial⟩ (fun hHeld => ?_)
   clear hK K
   refine norm_ (a' := ?_) ?_ ?_
   rotate_left
   ·
    show Act.put _ (some 43) _ = _
    simp only [Act.put, List.setIfInBounds_toArray, List.set_cons_zero, List.set_cons_succ, i64_w, i32_w]
    rfl
   refine pure_ (i := 7) (N := some 44) (v := ?_) (a' := ?_) #[Y,Y,Y,Y,Y,Y,Y,Y,Z,Z] rfl rfl (by kernel_rfl) (fun _ _ _ h => h) (Or.inl ⟨by rfl, ?_⟩) ?_ ?_
   rotate_left
   ·
    intro w'
    go_simp
    with_reducible rfl
   rotate_left
   ·
    simp only [Act.put, List.setIfInBounds_toArray, List.set_cons_zero, List.set_cons_succ, i64_w, i32_w]
    rfl
   refine pure_ (i := 8) (N := some 45) (v := ?_) (a' := ?_) #[Y,Y,Y,Y,Y,Y,Y,Y,Y,Z] rfl rfl (by kernel_rfl) (fun _ _ _ h => h) (Or.inl ⟨by rfl, ?_⟩) ?_ ?_
   rotate_left
   ·
    intro w'
    go_simp
    with_reducible rfl
   rotate_left
   ·
    simp only [Act.put, List.setIfInBounds_toArray, List.set_cons_zero, List.set_cons_succ, i64_w, i32_w]
    rfl
   refine last_ (i := 9) (N := none) #[Y,Y,Y,Y,Y,Y,Y,Y,Y,Y] rfl rfl (by kernel_rfl) (by decide) (fun K hK => ?_)
   refine wk.part_step (by rfl) rfl rfl (off := 24) (new := #[.int .u32 x.c0, .int .i64 x.c1, .int .i64 x.c2, .int .i64 x.c3, .int .i64 x.c4, .int .i64 x.c5, .int .i64 x.c6, .slice s.a7 x.dl.length s.c7, .int .i64 x.dn, .int .i64 x.br, .slice s.a10 x.bs.length s.c10, .int .i64 x.nr, .slice s.a12 x.ng.length s.c12, .slice s.a13 x.ns.length s.c13, .slice s.a14 x.pe.length s.c14, .slice s.a15 x.lo.length s.c15, .slice s.a16 x.re.length s.c16, .slice s.a17 x.le.length s.c17, .int .i64 o.kd, .int .i64 o.a, .int .i64 o.b, .int .i64 o.c, .int .i64 o.d, .slice aq o.ws.length cq, .int .u32 y1.c0, .int .i64 y1.c1, .int .i64 y1.c2, .int .i64 y1.c3, .int .i64 y1.c4, .int .i64 y1.c5, .int .i64 y1.c6, .slice t1.a7 y1.dl.length t1.c7, .int .i64 y1.dn, .int .i64 y1.br, .slice t1.a10 y1.bs.length t1.c10, .int .i64 y1.nr, .slice t1.a12 y1.ng.length t1.c12, .slice t1.a13 y1.ns.length t1.c13, .slice t1.a14 y1.pe.length t1.c14, .slice t1.a15 y1.lo.length t1.c15, .slice t1.a16 y1.re.length t1.c16, .slice t1.a17 y1.le.length t1.c17]) (cells := #[.int .u32 y1.c0, .int .i64 y1.c1, .int .i64 y1.c2, .int .i64 y1.c3, .int .i64 y1.c4, .int .i64 y1.c5, .int .i64 y1.c6, .slice t1.a7 y1.dl.length t1.c7, .int .i64 y1.dn, .int .i64 y1.br, .slice t1.a10 y1.bs.length t1.c10, .int .i64 y1.nr, .slice t1.a12 y1.ng.length t1.c12, .slice t1.a13 y1.ns.length t1.c13, .slice t1.a14 y1.pe.length t1.c14, .slice t1.a15 y1.lo.length t1.c15, .slice t1.a16 y1.re.length t1.c16, .slice t1.a17 y1.le.length t1.c17]) ?hx_11 ?hy_11 Bh ?hi_11 ?hs_11 ?h1_11 ?hn_11 ?_
   case hx_11 => first | rfl | (go_simp; done)
   case hy_11 => first | rfl | (go_simp; done)
   case hi_11 => kernel_rfl
   case hs_11 => first | rfl | simp
   case h1_11 => simp [Value.oneCell']
   case hn_11 => kernel_rfl
   intro W9_ b_ hs_
   replace R := R.st hs_ (fun k hk => HH k hk.1)
   replace VW := wk.V_st VW hs_ (fun k hk => HH k hk.1)
   replace V3 := wk.V_st V3 hs_ (fun k hk => HH k hk.1)
   replace V4 := wk.V_st V4 hs_ (fun k hk => HH k hk.1)
   replace R1 := R1.st hs_ (fun k hk => HH k hk.1)
   replace Bp := hs_.blk Bp np_h
   replace HN := fun q hq => Nat.lt_of_lt_of_le (HN q hq) (hs_.bel 0 (Nat.zero_le _)).size
   replace HB := HB.st hs_
   replace Bh := b_
   clear b_ hs_
   refine hK.out _ _ ?_
   clear hK K
   refine done_ (by kernel_rfl) ?_
   try clear hHeld
   have Jh := wk.ca Bh
   have Yh := wk.za Bh
   have Jp := wk.ca Bp
   have Yp := wk.za Bp
   go_wp2_with (first | ((with_reducible refine gate_dst (N := 48) rfl ?_); (try (refine gate_guard (by rfl) ?_; dsimp only)); refine Kd.N_lit (Kd.int .u32) _ 22 ?hg (N' := 48) ?hd (xs := ([p.f1] : List Int)) (inner := [.int .u32 p.f1]) (ok := wk.Q P w.heap.size [gp]) (okp := wk.Q P w.heap.size [gp]) ?hr ?hp (fun _ hk => hk) (wk.Q.new HN HB.size (.inr (Nat.le_refl _))) (Below.refl _ _) (Nat.le_refl _) (by simp) ?_; (case hd => rfl); (case hg => rfl); (case hr => first | (go_simp; done) | (go_simp; rfl)); (case hp => exact (Reps.none _ _).snoc (fun _ _ => rfl) rfl); intro v_ W10_ hn_ hb_ hg_ hnew_; clear hg_ hnew_; rw [← Hn.out] at hn_; have Vn := wk.V_b (base' := 0) (Kd.N_V (base' := 0) hn_); clear hn_; clear Jh Yh Jp Yp; replace R := R.below hb_; replace VW := Kd.V_below VW hb_; replace V3 := Kd.V_below V3 hb_; replace V4 := Kd.V_below V4 hb_; replace R1 := R1.below hb_; replace Bh := blk_below Bh hb_; replace Bp := blk_below Bp hb_; replace HN := hN_ HN hb_.size; replace HB := HB.tr_ hb_; clear hb_; obtain ⟨An, cn, rfl⟩ := Kd.V_slice Vn; have Jh := wk.ca Bh; have Yh := wk.za Bh; have Jp := wk.ca Bp; have Yp := wk.za Bp))
   go_ret2
   exact wk.out An cn t1 Bh Vn R1 HB
 ·
  rw [if_neg c2] at h
  simp only [Option.some.injEq, Prod.mk.injEq] at h
  obtain ⟨rfl, rfl, rfl⟩ := h
  have c1b : decide (o.b < 1) = false := decide_eq_false (by omega)
  have c2b : decide ((x.pe.length : Int) ≤ o.b) = true := decide_eq_true (by omega)
  have c2c : decide (o.b < (x.pe.length : Int)) = false := decide_eq_false c2
  clear c1 c2
  have Jh := wk.ca Bh
  have Yh := wk.za Bh
  go_enter Try.func53, Try.ntmps53
  go_wp2
  repeat (go_quiet (fail); try go_wp2)
  go_ret2
  exact wk.outd none 0 s Bh (Kd.V_nil _ _ _ _ _) R HB bR_

end Go.Proofs.Ythlcpbendleihaa.PAdvAlone
