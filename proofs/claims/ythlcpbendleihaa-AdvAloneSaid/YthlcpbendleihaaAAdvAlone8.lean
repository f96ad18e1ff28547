/- The law AdvAlone of the adversary's layer, walked by hand: text 8. -/
import Derived.Test.YthlcpbendleihaaAAdvAlone7
namespace Go.Proofs.Ythlcpbendleihaa.PAdvAlone
open Go Go.RowKit Go.Proofs.YthlcpbendleihaaW.PrintWords Go.Proofs.YthlcpbendleihaaW.PrintLast Go.Proofs.YthlcpbendleihaaW.PrintMore
set_option linter.unusedVariables false
set_option linter.unusedSimpArgs false
set_option maxHeartbeats 8000000 in
set_option maxRecDepth 100000 in
theorem adv_Do.calls (k : Nat) (x : wk.X) (s : wk.S) (o : wk.O) (aq : Option Addr) (cq : Nat) (P : Nat → Prop) (x' : wk.X) (e' : Int) (w : World) (R : wk.Rd w P x s) (VW : Kd.V (Kd.int .u32) 22 w 0 P (.slice aq o.ws.length cq) o.ws) (h : adv_Do.f k x o = some (x', e')) :
 Calls Try.prog 8 #[.agg (wk.cs x s), .agg #[.int .i64 o.kd, .int .i64 o.a, .int .i64 o.b, .int .i64 o.c, .int .i64 o.d, .slice aq o.ws.length cq]] w fun e w' => ∃ s', e = .returned (.tuple #[.agg (wk.cs x' s'), .int .i64 e']) ∧ wk.Rd w' (fun k => P k ∨ w.heap.size ≤ k) x' s' ∧ Below w.heap.size w w' := by
 have hu39 := Try.underlying39
 have hu41 := Try.underlying41
 have hu68 := Try.underlying68
 unfold wk.cs
 have HB := Below.refl w.heap.size w
 have HN : ∀ q ∈ ([] : List Nat), q < w.heap.size := fun q hq => by simp at hq
 replace R := R.start w.heap.size
 replace VW := wk.V_start w.heap.size VW
 unfold adv_Do.f at h
 obtain ⟨⟨ra, ok⟩, hra⟩ : ∃ z, adv_reg.f x.re o.a = z := ⟨_, rfl⟩
 rcases adv_find k o.kd with ⟨i_, n, fn, F, hd, hD, hFn, hfd⟩ | ⟨hd, hfd⟩
 ·
  have HFD := Aside0.mk hfd
  rw [hd, hra] at h
  dsimp only at h
  clear hfd hd
  cases ok with
  | false =>
   rw [if_neg (show ¬ (false = true) by decide)] at h
   simp only [Option.some.injEq, Prod.mk.injEq] at h
   obtain ⟨rfl, rfl⟩ := h
   clear hD hFn
   go_enter Try.func8, Try.ntmps8
   go_upto_region 1 with (first | ((with_reducible refine gate_dst (N := 2) rfl ?_); (try (refine gate_guard (by rfl) ?_; dsimp only)); refine box_event ?hg (N := 2) ?hd (cs := #[.int .u32 x.c0, .int .i64 x.c1, .int .i64 x.c2, .int .i64 x.c3, .int .i64 x.c4, .int .i64 x.c5, .int .i64 x.c6, .slice s.a7 x.dl.length s.c7, .int .i64 x.dn, .int .i64 x.br, .slice s.a10 x.bs.length s.c10, .int .i64 x.nr, .slice s.a12 x.ng.length s.c12, .slice s.a13 x.ns.length s.c13, .slice s.a14 x.pe.length s.c14, .slice s.a15 x.lo.length s.c15, .slice s.a16 x.re.length s.c16, .slice s.a17 x.le.length s.c17]) (t := 39) ?hr ?_; (case hd => rfl); (case hg => rfl); (case hr => first | (go_simp; done) | (go_simp; rfl)); intro ga hg_ W1_ Ba hb_; have gea : w.heap.size ≤ ga := (by rw [hg_]; exact HB.size); replace R := (R.fresh hg_).below hb_; replace VW := Kd.V_below (wk.V_fresh VW hg_) hb_; replace HN := wk.N_new HN hb_.size (blk_lt Ba); replace HB := HB.tr_ hb_; clear hb_ hg_; skip) | ((with_reducible refine gate_dst (N := 3) rfl ?_); (try (refine gate_guard (by rfl) ?_; dsimp only)); refine box_event ?hg (N := 3) ?hd (cs := #[.int .i64 o.kd, .int .i64 o.a, .int .i64 o.b, .int .i64 o.c, .int .i64 o.d, .slice aq o.ws.length cq]) (t := 41) ?hr ?_; (case hd => rfl); (case hg => rfl); (case hr => first | (go_simp; done) | (go_simp; rfl)); intro gb hg_ W2_ Bb hb_; have geb : w.heap.size ≤ gb := (by rw [hg_]; exact HB.size); have na_b : ga ≠ gb := (by rw [hg_]; exact Nat.ne_of_lt (blk_lt Ba)); have nb_a : gb ≠ ga := na_b.symm; replace R := (R.fresh hg_).below hb_; replace VW := Kd.V_below (wk.V_fresh VW hg_) hb_; replace Ba := blk_below Ba hb_; replace HN := wk.N_new HN hb_.size (blk_lt Bb); replace HB := HB.tr_ hb_; clear hb_ hg_; skip) | ((with_reducible refine gate_dst (N := 4) rfl ?_); (try (refine gate_guard (by rfl) ?_; dsimp only)); refine box_event ?hg (N := 4) ?hd (cs := #[.int .u32 0, .int .i64 0, .int .i64 0, .int .i64 0, .int .i64 0, .int .i64 0, .int .i64 0, .slice none 0 0, .int .i64 0, .int .i64 0, .slice none 0 0, .int .i64 0, .slice none 0 0, .slice none 0 0, .slice none 0 0, .slice none 0 0, .slice none 0 0, .slice none 0 0]) (t := 39) ?hr ?_; (case hd => rfl); (case hg => rfl); (case hr => first | (go_simp; done) | (go_simp; rfl)); intro gr hg_ W3_ Br hb_; have ger : w.heap.size ≤ gr := (by rw [hg_]; exact HB.size); have na_r : ga ≠ gr := (by rw [hg_]; exact Nat.ne_of_lt (blk_lt Ba)); have nr_a : gr ≠ ga := na_r.symm; have nb_r : gb ≠ gr := (by rw [hg_]; exact Nat.ne_of_lt (blk_lt Bb)); have nr_b : gr ≠ gb := nb_r.symm; replace R := (R.fresh hg_).below hb_; replace VW := Kd.V_below (wk.V_fresh VW hg_) hb_; replace Ba := blk_below Ba hb_; replace Bb := blk_below Bb hb_; replace HN := wk.N_new HN hb_.size (blk_lt Br); replace HB := HB.tr_ hb_; clear hb_ hg_; skip))
   refine start_ (n := 9) (S := fun w' => w'.heap[gb]? = some (.cells #[.int .i64 o.kd, .int .i64 o.a, .int .i64 o.b, .int .i64 o.c, .int .i64 o.d, .slice aq o.ws.length cq] 41 (0, 0)) ∧ True) (ds := []) #[Z,Z,Z,Z,Z,Z,Z,Z,Z] (by kernel_rfl) rfl rfl ⟨(blk_drew Bb), trivial⟩ (fun hHeld => ?_)
   obtain ⟨W4_, hw_⟩ : ∃ W_ : World, W_ = W3_.drew := ⟨_, rfl⟩
   rw [← hw_] at hHeld ⊢
   have hb_ : Below W3_.heap.size W3_ W4_ := by rw [hw_]; exact below_drew (Below.refl _ _)
   clear hw_
   replace R := R.below hb_
   replace VW := Kd.V_below VW hb_
   replace Ba := blk_below Ba hb_
   replace Bb := blk_below Bb hb_
   replace Br := blk_below Br hb_
   replace HN := hN_ HN hb_.size
   replace HB := HB.tr_ hb_
   clear hb_
   refine pure_ (i := 1) (N := some 15) (v := ?_) (a' := ?_) #[Z,Y,Z,Z,Z,Z,Z,Z,Z] rfl rfl (by kernel_rfl) (fun _ _ _ h => h) (Or.inl ⟨by rfl, ?_⟩) ?_ ?_
   rotate_left
   ·
    intro w'
    go_simp
    with_reducible rfl
   rotate_left
   ·
    simp only [Act.put, List.setIfInBounds_toArray, List.set_cons_zero, List.set_cons_succ, i64_w, i32_w]
    rfl
   refine take_ (i := 2) (N := some 16) (v := ?_) (a' := ?_) #[Z,Y,Y,Z,Z,Z,Z,Z,Z] rfl rfl (by kernel_rfl) (fun _ _ _ h => h) (Or.inl ⟨by rfl, ?_⟩) hHeld ?_ ?_
   rotate_left
   ·
    rintro w' ⟨s0, s1⟩
    have qb_0 : w'.cell? ⟨gb, 0, none⟩ = some (.int .i64 o.kd) := (blk_cell s0 0).trans rfl
    clear s0
    go_simp
    with_reducible rfl
   rotate_left
   ·
    simp only [Act.put, List.setIfInBounds_toArray, List.set_cons_zero, List.set_cons_succ, i64_w, i32_w]
    rfl
   refine one_ (i := 0) (N := some 14) #[Y,Y,Y,Z,Z,Z,Z,Z,Z] rfl rfl (by kernel_rfl) (by decide) (fun K hK => ?_)
   refine goes_ Try.func21 (by kernel_rfl) rfl #[] (by rfl) rfl rfl mS_ ?_
   with_reducible refine (adv_deeds.calls _).mono ?_
   rintro e W5_ ⟨g0, rfl, geg, Bm, hb_⟩
   refine ⟨_, rfl, ?_⟩
   replace R := R.below hb_
   replace VW := Kd.V_below VW hb_
   replace Ba := blk_below Ba hb_
   replace Bb := blk_below Bb hb_
   replace Br := blk_below Br hb_
   replace HN := hN_ HN hb_.size
   replace HB := HB.tr_ hb_
   clear hb_
   refine hK.out _ _ ⟨Bb, trivial⟩ (fun hHeld => ?_)
   clear hK K
   refine norm_ (a' := ?_) ?_ ?_
   rotate_left
   ·
    show Act.put _ (some 14) _ = _
    simp only [Act.put, List.setIfInBounds_toArray, List.set_cons_zero, List.set_cons_succ, i64_w, i32_w]
    rfl
   refine one_ (i := 3) (N := some 17) #[Y,Y,Y,Y,Z,Z,Z,Z,Z] rfl rfl (by kernel_rfl) (by decide) (fun K hK => ?_)
   refine event_step (by rfl) (v := .tuple #[.func (.func n) #[] #[], .bool true]) (w1 := W5_) ?hr_19 ?_
   case hr_19 => exact wk.look_run rfl (by rfl) (by rfl) Bm HFD.out
   clear Bm geg
   refine hK.out _ _ ⟨Bb, trivial⟩ (fun hHeld => ?_)
   clear hK K
   refine norm_ (a' := ?_) ?_ ?_
   rotate_left
   ·
    show Act.put _ (some 17) _ = _
    simp only [Act.put, List.setIfInBounds_toArray, List.set_cons_zero, List.set_cons_succ, i64_w, i32_w]
    rfl
   refine pure_ (i := 4) (N := some 13) (v := ?_) (a' := ?_) #[Y,Y,Y,Y,Y,Z,Z,Z,Z] rfl rfl (by kernel_rfl) (fun _ _ _ h => h) (Or.inl ⟨by rfl, ?_⟩) ?_ ?_
   rotate_left
   ·
    intro w'
    go_simp
    with_reducible rfl
   rotate_left
   ·
    simp only [Act.put, List.setIfInBounds_toArray, List.set_cons_zero, List.set_cons_succ, i64_w, i32_w]
    rfl
   refine pure_ (i := 5) (N := some 18) (v := ?_) (a' := ?_) #[Y,Y,Y,Y,Y,Y,Z,Z,Z] rfl rfl (by kernel_rfl) (fun _ _ _ h => h) (Or.inl ⟨by rfl, ?_⟩) ?_ ?_
   rotate_left
   ·
    intro w'
    go_simp
    with_reducible rfl
   rotate_left
   ·
    simp only [Act.put, List.setIfInBounds_toArray, List.set_cons_zero, List.set_cons_succ, i64_w, i32_w]
    rfl
   refine pure_ (i := 6) (N := some 19) (v := ?_) (a' := ?_) #[Y,Y,Y,Y,Y,Y,Y,Z,Z] rfl rfl (by kernel_rfl) (fun _ _ _ h => h) (Or.inl ⟨by rfl, ?_⟩) ?_ ?_
   rotate_left
   ·
    intro w'
    go_simp
    with_reducible rfl
   rotate_left
   ·
    simp only [Act.put, List.setIfInBounds_toArray, List.set_cons_zero, List.set_cons_succ, i64_w, i32_w]
    rfl
   refine pure_ (i := 7) (N := some 6) (v := ?_) (a' := ?_) #[Y,Y,Y,Y,Y,Y,Y,Y,Z] rfl rfl (by kernel_rfl) (fun _ _ _ h => h) (Or.inl ⟨by rfl, ?_⟩) ?_ ?_
   rotate_left
   ·
    intro w'
    go_simp
    with_reducible rfl
   rotate_left
   ·
    simp only [Act.put, List.setIfInBounds_toArray, List.set_cons_zero, List.set_cons_succ, i64_w, i32_w]
    rfl
   refine pure_ (i := 8) (N := some 7) (v := ?_) (a' := ?_) #[Y,Y,Y,Y,Y,Y,Y,Y,Y] rfl rfl (by kernel_rfl) (fun _ _ _ h => h) (Or.inl ⟨by rfl, ?_⟩) ?_ ?_
   rotate_left
   ·
    intro w'
    go_simp
    with_reducible rfl
   rotate_left
   ·
    simp only [Act.put, List.setIfInBounds_toArray, List.set_cons_zero, List.set_cons_succ, i64_w, i32_w]
    rfl
   refine done_ (by kernel_rfl) ?_
   try clear hHeld
   have Jb := wk.ca Bb
   have Yb := wk.za Bb
   go_wp2_with (first | ((with_reducible refine gate_dst (N := 20) rfl ?_); (try (refine gate_guard (by rfl) ?_; dsimp only)); refine wk.get_event (N := 20) (t := 39) (p := 2) rfl rfl rfl ?hx Ba Try.underlying39 rfl ?hi ?_; (case hx => first | rfl | (go_simp; done)); (case hi => kernel_rfl)) | ((with_reducible refine gate_dst (N := 21) rfl ?_); (try (refine gate_guard (by rfl) ?_; dsimp only)); refine wk.get_event (N := 21) (t := 41) (p := 3) rfl rfl rfl ?hx Bb Try.underlying41 rfl ?hi ?_; (case hx => first | rfl | (go_simp; done)); (case hi => kernel_rfl)) | ((with_reducible refine gate_dst (N := 22) rfl ?_); (try (refine gate_guard (by rfl) ?_; dsimp only)); refine wk.get_event (N := 22) (t := 39) (p := 2) rfl rfl rfl ?hx Ba Try.underlying39 rfl ?hi ?_; (case hx => first | rfl | (go_simp; done)); (case hi => kernel_rfl)) | ((with_reducible refine gate_dst (N := 24) rfl ?_); (try (refine gate_guard (by rfl) ?_; dsimp only)); refine box_event ?hg (N := 24) ?hd (cs := #[.int .u32 x.c0, .int .i64 x.c1, .int .i64 x.c2, .int .i64 x.c3, .int .i64 x.c4, .int .i64 x.c5, .int .i64 x.c6, .slice s.a7 x.dl.length s.c7, .int .i64 x.dn, .int .i64 x.br, .slice s.a10 x.bs.length s.c10, .int .i64 x.nr, .slice s.a12 x.ng.length s.c12, .slice s.a13 x.ns.length s.c13, .slice s.a14 x.pe.length s.c14, .slice s.a15 x.lo.length s.c15, .slice s.a16 x.re.length s.c16, .slice s.a17 x.le.length s.c17, .int .i64 o.kd, .int .i64 o.a, .int .i64 o.b, .int .i64 o.c, .int .i64 o.d, .slice aq o.ws.length cq, .int .u32 x.c0, .int .i64 x.c1, .int .i64 x.c2, .int .i64 x.c3, .int .i64 x.c4, .int .i64 x.c5, .int .i64 x.c6, .slice s.a7 x.dl.length s.c7, .int .i64 x.dn, .int .i64 x.br, .slice s.a10 x.bs.length s.c10, .int .i64 x.nr, .slice s.a12 x.ng.length s.c12, .slice s.a13 x.ns.length s.c13, .slice s.a14 x.pe.length s.c14, .slice s.a15 x.lo.length s.c15, .slice s.a16 x.re.length s.c16, .slice s.a17 x.le.length s.c17]) (t := 68) ?hr ?_; (case hd => rfl); (case hg => rfl); (case hr => first | (go_simp; done) | (go_simp; rfl)); intro gh hg_ W6_ Bh hb_; have geh : w.heap.size ≤ gh := (by rw [hg_]; exact HB.size); have na_h : ga ≠ gh := (by rw [hg_]; exact Nat.ne_of_lt (blk_lt Ba)); have nh_a : gh ≠ ga := na_h.symm; have nb_h : gb ≠ gh := (by rw [hg_]; exact Nat.ne_of_lt (blk_lt Bb)); have nh_b : gh ≠ gb := nb_h.symm; have nr_h : gr ≠ gh := (by rw [hg_]; exact Nat.ne_of_lt (blk_lt Br)); have nh_r : gh ≠ gr := nr_h.symm; clear Jb Yb; replace R := (R.fresh hg_).below hb_; replace VW := Kd.V_below (wk.V_fresh VW hg_) hb_; replace Ba := blk_below Ba hb_; replace Bb := blk_below Bb hb_; replace Br := blk_below Br hb_; replace HN := wk.N_new HN hb_.size (blk_lt Bh); replace HB := HB.tr_ hb_; clear hb_ hg_; have Jb := wk.ca Bb; have Yb := wk.za Bb) | (go_at_call 22; have c16_ : W6_.cell? ⟨gh, 16, none⟩ = some (.slice s.a16 x.re.length s.c16) := (blk_cell Bh 16).trans rfl; (with_reducible refine (adv_reg.calls gh x.re o.a _ _ _ _ c16_ R.r16 ra false hra).mono ?_); rintro e W7_ ⟨Ar, cr, rfl, Vr, hb_⟩; clear Jb Yb; clear c16_ Vr; replace R := R.below hb_; replace VW := Kd.V_below VW hb_; replace Ba := blk_below Ba hb_; replace Bb := blk_below Bb hb_; replace Br := blk_below Br hb_; replace Bh := blk_below Bh hb_; replace HN := hN_ HN hb_.size; replace HB := HB.tr_ hb_; clear hb_; have Jb := wk.ca Bb; have Yb := wk.za Bb) | ((with_reducible refine gate_dst (N := 38) rfl ?_); (try (refine gate_guard (by rfl) ?_; dsimp only)); refine wk.get_event (N := 38) (t := 39) (p := 2) rfl rfl rfl ?hx Ba Try.underlying39 rfl ?hi ?_; (case hx => first | rfl | (go_simp; done)); (case hi => kernel_rfl)) | ((with_reducible refine gate_store (t := 39) (p := 4) rfl ?_); refine wk.put_event (t := 39) (p := 4) rfl rfl rfl (cells := #[.int .u32 x.c0, .int .i64 x.c1, .int .i64 x.c2, .int .i64 x.c3, .int .i64 x.c4, .int .i64 x.c5, .int .i64 x.c6, .slice s.a7 x.dl.length s.c7, .int .i64 x.dn, .int .i64 x.br, .slice s.a10 x.bs.length s.c10, .int .i64 x.nr, .slice s.a12 x.ng.length s.c12, .slice s.a13 x.ns.length s.c13, .slice s.a14 x.pe.length s.c14, .slice s.a15 x.lo.length s.c15, .slice s.a16 x.re.length s.c16, .slice s.a17 x.le.length s.c17]) ?hx ?hy Br ?hi ?hs ?h1 ?_; (case hx => first | rfl | (go_simp; done)); (case hy => first | rfl | (go_simp; done)); (case hi => kernel_rfl); (case hs => rfl); (case h1 => simp [Value.oneCell']); intro W8_ b_ hs_; clear Jb Yb; replace R := R.st hs_ (fun k hk => hk.ne (by simp)); replace VW := wk.V_st VW hs_ (fun k hk => hk.ne (by simp)); replace Ba := hs_.blk Ba na_r; replace Bb := hs_.blk Bb nb_r; replace Bh := hs_.blk Bh nh_r; replace HN := fun q hq => Nat.lt_of_lt_of_le (HN q hq) (hs_.bel 0 (Nat.zero_le _)).size; replace HB := hs_.below ger HB; replace Br := b_; clear b_ hs_; have Jb := wk.ca Bb; have Yb := wk.za Bb))
   refine bodyPost_ret (results_ct rfl _ _ gr 39 _ (0, 0) _ rfl Br Try.underlying39 rfl (by kernel_rfl)) rfl ?_
   exact ⟨s, rfl, R.mono (fun k hk => hk.1), HB⟩
  | true =>
   rw [if_pos rfl] at h
   obtain ⟨⟨l, e, y⟩, hf, h⟩ := Option.bind_eq_some_iff.mp h
   have hF := Aside0.mk hf
   replace hD := Aside0.mk hD
   replace hFn := Aside0.mk hFn
   clear hf
   dsimp only at h
   by_cases c1 : e = 0
   ·
    rw [if_pos c1] at h
    subst c1
    obtain ⟨c, hc, h⟩ := Option.bind_eq_some_iff.mp h
    obtain rfl := adv_clone hc
    have hC := Aside0.mk hc
    simp only [Option.some.injEq, Prod.mk.injEq] at h
    obtain ⟨rfl, rfl⟩ := h
    have HI := Aside0.mk (adv_reg.in_ hra)
    have HP : Aside0 (0 < x.re.length) := ⟨by have := HI.out; omega⟩
    have p1 : (0 ≤ o.a) = True := eq_true HI.out.1
    have q1 : (o.a < (x.re.length : Int)) = True := eq_true HI.out.2
    clear hc
    dsimp only
    go_enter Try.func8, Try.ntmps8
    go_upto_region 1 with (first | ((with_reducible refine gate_dst (N := 2) rfl ?_); (try (refine gate_guard (by rfl) ?_; dsimp only)); refine box_event ?hg (N := 2) ?hd (cs := #[.int .u32 x.c0, .int .i64 x.c1, .int .i64 x.c2, .int .i64 x.c3, .int .i64 x.c4, .int .i64 x.c5, .int .i64 x.c6, .slice s.a7 x.dl.length s.c7, .int .i64 x.dn, .int .i64 x.br, .slice s.a10 x.bs.length s.c10, .int .i64 x.nr, .slice s.a12 x.ng.length s.c12, .slice s.a13 x.ns.length s.c13, .slice s.a14 x.pe.length s.c14, .slice s.a15 x.lo.length s.c15, .slice s.a16 x.re.length s.c16, .slice s.a17 x.le.length s.c17]) (t := 39) ?hr ?_; (case hd => rfl); (case hg => rfl); (case hr => first | (go_simp; done) | (go_simp; rfl)); intro ga hg_ W1_ Ba hb_; have gea : w.heap.size ≤ ga := (by rw [hg_]; exact HB.size); replace R := (R.fresh hg_).below hb_; replace VW := Kd.V_below (wk.V_fresh VW hg_) hb_; replace HN := wk.N_new HN hb_.size (blk_lt Ba); replace HB := HB.tr_ hb_; clear hb_ hg_; skip) | ((with_reducible refine gate_dst (N := 3) rfl ?_); (try (refine gate_guard (by rfl) ?_; dsimp only)); refine box_event ?hg (N := 3) ?hd (cs := #[.int .i64 o.kd, .int .i64 o.a, .int .i64 o.b, .int .i64 o.c, .int .i64 o.d, .slice aq o.ws.length cq]) (t := 41) ?hr ?_; (case hd => rfl); (case hg => rfl); (case hr => first | (go_simp; done) | (go_simp; rfl)); intro gb hg_ W2_ Bb hb_; have geb : w.heap.size ≤ gb := (by rw [hg_]; exact HB.size); have na_b : ga ≠ gb := (by rw [hg_]; exact Nat.ne_of_lt (blk_lt Ba)); have nb_a : gb ≠ ga := na_b.symm; replace R := (R.fresh hg_).below hb_; replace VW := Kd.V_below (wk.V_fresh VW hg_) hb_; replace Ba := blk_below Ba hb_; replace HN := wk.N_new HN hb_.size (blk_lt Bb); replace HB := HB.tr_ hb_; clear hb_ hg_; skip) | ((with_reducible refine gate_dst (N := 4) rfl ?_); (try (refine gate_guard (by rfl) ?_; dsimp only)); refine box_event ?hg (N := 4) ?hd (cs := #[.int .u32 0, .int .i64 0, .int .i64 0, .int .i64 0, .int .i64 0, .int .i64 0, .int .i64 0, .slice none 0 0, .int .i64 0, .int .i64 0, .slice none 0 0, .int .i64 0, .slice none 0 0, .slice none 0 0, .slice none 0 0, .slice none 0 0, .slice none 0 0, .slice none 0 0]) (t := 39) ?hr ?_; (case hd => rfl); (case hg => rfl); (case hr => first | (go_simp; done) | (go_simp; rfl)); intro gr hg_ W3_ Br hb_; have ger : w.heap.size ≤ gr := (by rw [hg_]; exact HB.size); have na_r : ga ≠ gr := (by rw [hg_]; exact Nat.ne_of_lt (blk_lt Ba)); have nr_a : gr ≠ ga := na_r.symm; have nb_r : gb ≠ gr := (by rw [hg_]; exact Nat.ne_of_lt (blk_lt Bb)); have nr_b : gr ≠ gb := nb_r.symm; replace R := (R.fresh hg_).below hb_; replace VW := Kd.V_below (wk.V_fresh VW hg_) hb_; replace Ba := blk_below Ba hb_; replace Bb := blk_below Bb hb_; replace HN := wk.N_new HN hb_.size (blk_lt Br); replace HB := HB.tr_ hb_; clear hb_ hg_; skip))
    refine start_ (n := 9) (S := fun w' => w'.heap[gb]? = some (.cells #[.int .i64 o.kd, .int .i64 o.a, .int .i64 o.b, .int .i64 o.c, .int .i64 o.d, .slice aq o.ws.length cq] 41 (0, 0)) ∧ True) (ds := []) #[Z,Z,Z,Z,Z,Z,Z,Z,Z] (by kernel_rfl) rfl rfl ⟨(blk_drew Bb), trivial⟩ (fun hHeld => ?_)
    obtain ⟨W4_, hw_⟩ : ∃ W_ : World, W_ = W3_.drew := ⟨_, rfl⟩
    rw [← hw_] at hHeld ⊢
    have hb_ : Below W3_.heap.size W3_ W4_ := by rw [hw_]; exact below_drew (Below.refl _ _)
    clear hw_
    replace R := R.below hb_
    replace VW := Kd.V_below VW hb_
    replace Ba := blk_below Ba hb_
    replace Bb := blk_below Bb hb_
    replace Br := blk_below Br hb_
    replace HN := hN_ HN hb_.size
    replace HB := HB.tr_ hb_
    clear hb_
    refine pure_ (i := 1) (N := some 15) (v := ?_) (a' := ?_) #[Z,Y,Z,Z,Z,Z,Z,Z,Z] rfl rfl (by kernel_rfl) (fun _ _ _ h => h) (Or.inl ⟨by rfl, ?_⟩) ?_ ?_
    rotate_left
    ·
     intro w'
     go_simp
     with_reducible rfl
    rotate_left
    ·
     simp only [Act.put, List.setIfInBounds_toArray, List.set_cons_zero, List.set_cons_succ, i64_w, i32_w]
     rfl
    refine take_ (i := 2) (N := some 16) (v := ?_) (a' := ?_) #[Z,Y,Y,Z,Z,Z,Z,Z,Z] rfl rfl (by kernel_rfl) (fun _ _ _ h => h) (Or.inl ⟨by rfl, ?_⟩) hHeld ?_ ?_
    rotate_left
    ·
     rintro w' ⟨s0, s1⟩
     have qb_0 : w'.cell? ⟨gb, 0, none⟩ = some (.int .i64 o.kd) := (blk_cell s0 0).trans rfl
     clear s0
     go_simp
     with_reducible rfl
    rotate_left
    ·
     simp only [Act.put, List.setIfInBounds_toArray, List.set_cons_zero, List.set_cons_succ, i64_w, i32_w]
     rfl
    refine one_ (i := 0) (N := some 14) #[Y,Y,Y,Z,Z,Z,Z,Z,Z] rfl rfl (by kernel_rfl) (by decide) (fun K hK => ?_)
    refine goes_ Try.func21 (by kernel_rfl) rfl #[] (by rfl) rfl rfl mS_ ?_
    with_reducible refine (adv_deeds.calls _).mono ?_
    rintro e W5_ ⟨g0, rfl, geg, Bm, hb_⟩
    refine ⟨_, rfl, ?_⟩
    replace R := R.below hb_
    replace VW := Kd.V_below VW hb_
    replace Ba := blk_below Ba hb_
    replace Bb := blk_below Bb hb_
    replace Br := blk_below Br hb_
    replace HN := hN_ HN hb_.size
    replace HB := HB.tr_ hb_
    clear hb_
    refine hK.out _ _ ⟨Bb, trivial⟩ (fun hHeld => ?_)
    clear hK K
    refine norm_ (a' := ?_) ?_ ?_
    rotate_left
    ·
     show Act.put _ (some 14) _ = _
     simp only [Act.put, List.setIfInBounds_toArray, List.set_cons_zero, List.set_cons_succ, i64_w, i32_w]
     rfl
    refine one_ (i := 3) (N := some 17) #[Y,Y,Y,Y,Z,Z,Z,Z,Z] rfl rfl (by kernel_rfl) (by decide) (fun K hK => ?_)
    refine event_step (by rfl) (v := .tuple #[.func (.func n) #[] #[], .bool true]) (w1 := W5_) ?hr_20 ?_
    case hr_20 => exact wk.look_run rfl (by rfl) (by rfl) Bm HFD.out
    clear Bm geg
    refine hK.out _ _ ⟨Bb, trivial⟩ (fun hHeld => ?_)
    clear hK K
    refine norm_ (a' := ?_) ?_ ?_
    rotate_left
    ·
     show Act.put _ (some 17) _ = _
     simp only [Act.put, List.setIfInBounds_toArray, List.set_cons_zero, List.set_cons_succ, i64_w, i32_w]
     rfl
    refine pure_ (i := 4) (N := some 13) (v := ?_) (a' := ?_) #[Y,Y,Y,Y,Y,Z,Z,Z,Z] rfl rfl (by kernel_rfl) (fun _ _ _ h => h) (Or.inl ⟨by rfl, ?_⟩) ?_ ?_
    rotate_left
    ·
     intro w'
     go_simp
     with_reducible rfl
    rotate_left
    ·
     simp only [Act.put, List.setIfInBounds_toArray, List.set_cons_zero, List.set_cons_succ, i64_w, i32_w]
     rfl
    refine pure_ (i := 5) (N := some 18) (v := ?_) (a' := ?_) #[Y,Y,Y,Y,Y,Y,Z,Z,Z] rfl rfl (by kernel_rfl) (fun _ _ _ h => h) (Or.inl ⟨by rfl, ?_⟩) ?_ ?_
    rotate_left
    ·
     intro w'
     go_simp
     with_reducible rfl
    rotate_left
    ·
     simp only [Act.put, List.setIfInBounds_toArray, List.set_cons_zero, List.set_cons_succ, i64_w, i32_w]
     rfl
    refine pure_ (i := 6) (N := some 19) (v := ?_) (a' := ?_) #[Y,Y,Y,Y,Y,Y,Y,Z,Z] rfl rfl (by kernel_rfl) (fun _ _ _ h => h) (Or.inl ⟨by rfl, ?_⟩) ?_ ?_
    rotate_left
    ·
     intro w'
     go_simp
     with_reducible rfl
    rotate_left
    ·
     simp only [Act.put, List.setIfInBounds_toArray, List.set_cons_zero, List.set_cons_succ, i64_w, i32_w]
     rfl
    refine pure_ (i := 7) (N := some 6) (v := ?_) (a' := ?_) #[Y,Y,Y,Y,Y,Y,Y,Y,Z] rfl rfl (by kernel_rfl) (fun _ _ _ h => h) (Or.inl ⟨by rfl, ?_⟩) ?_ ?_
    rotate_left
    ·
     intro w'
     go_simp
     with_reducible rfl
    rotate_left
    ·
     simp only [Act.put, List.setIfInBounds_toArray, List.set_cons_zero, List.set_cons_succ, i64_w, i32_w]
     rfl
    refine pure_ (i := 8) (N := some 7) (v := ?_) (a' := ?_) #[Y,Y,Y,Y,Y,Y,Y,Y,Y] rfl rfl (by kernel_rfl) (fun _ _ _ h => h) (Or.inl ⟨by rfl, ?_⟩) ?_ ?_
    rotate_left
    ·
     intro w'
     go_simp
     with_reducible rfl
    rotate_left
    ·
     simp only [Act.put, List.setIfInBounds_toArray, List.set_cons_zero, List.set_cons_succ, i64_w, i32_w]
     rfl
    refine done_ (by kernel_rfl) ?_
    try clear hHeld
    have Jb := wk.ca Bb
    have Yb := wk.za Bb
    go_upto_region 10 with (first | ((with_reducible refine gate_dst (N := 20) rfl ?_); (try (refine gate_guard (by rfl) ?_; dsimp only)); refine wk.get_event (N := 20) (t := 39) (p := 2) rfl rfl rfl ?hx Ba Try.underlying39 rfl ?hi ?_; (case hx => first | rfl | (go_simp; done)); (case hi => kernel_rfl)) | ((with_reducible refine gate_dst (N := 21) rfl ?_); (try (refine gate_guard (by rfl) ?_; dsimp only)); refine wk.get_event (N := 21) (t := 41) (p := 3) rfl rfl rfl ?hx Bb Try.underlying41 rfl ?hi ?_; (case hx => first | rfl | (go_simp; done)); (case hi => kernel_rfl)) | ((with_reducible refine gate_dst (N := 22) rfl ?_); (try (refine gate_guard (by rfl) ?_; dsimp only)); refine wk.get_event (N := 22) (t := 39) (p := 2) rfl rfl rfl ?hx Ba Try.underlying39 rfl ?hi ?_; (case hx => first | rfl | (go_simp; done)); (case hi => kernel_rfl)) | ((with_reducible refine gate_dst (N := 24) rfl ?_); (try (refine gate_guard (by rfl) ?_; dsimp only)); refine box_event ?hg (N := 24) ?hd (cs := #[.int .u32 x.c0, .int .i64 x.c1, .int .i64 x.c2, .int .i64 x.c3, .int .i64 x.c4, .int .i64 x.c5, .int .i64 x.c6, .slice s.a7 x.dl.length s.c7, .int .i64 x.dn, .int .i64 x.br, .slice s.a10 x.bs.length s.c10, .int .i64 x.nr, .slice s.a12 x.ng.length s.c12, .slice s.a13 x.ns.length s.c13, .slice s.a14 x.pe.length s.c14, .slice s.a15 x.lo.length s.c15, .slice s.a16 x.re.length s.c16, .slice s.a17 x.le.length s.c17, .int .i64 o.kd, .int .i64 o.a, .int .i64 o.b, .int .i64 o.c, .int .i64 o.d, .slice aq o.ws.length cq, .int .u32 x.c0, .int .i64 x.c1, .int .i64 x.c2, .int .i64 x.c3, .int .i64 x.c4, .int .i64 x.c5, .int .i64 x.c6, .slice s.a7 x.dl.length s.c7, .int .i64 x.dn, .int .i64 x.br, .slice s.a10 x.bs.length s.c10, .int .i64 x.nr, .slice s.a12 x.ng.length s.c12, .slice s.a13 x.ns.length s.c13, .slice s.a14 x.pe.length s.c14, .slice s.a15 x.lo.length s.c15, .slice s.a16 x.re.length s.c16, .slice s.a17 x.le.length s.c17]) (t := 68) ?hr ?_; (case hd => rfl); (case hg => rfl); (case hr => first | (go_simp; done) | (go_simp; rfl)); intro gh hg_ W6_ Bh hb_; have geh : w.heap.size ≤ gh := (by rw [hg_]; exact HB.size); have na_h : ga ≠ gh := (by rw [hg_]; exact Nat.ne_of_lt (blk_lt Ba)); have nh_a : gh ≠ ga := na_h.symm; have nb_h : gb ≠ gh := (by rw [hg_]; exact Nat.ne_of_lt (blk_lt Bb)); have nh_b : gh ≠ gb := nb_h.symm; have nr_h : gr ≠ gh := (by rw [hg_]; exact Nat.ne_of_lt (blk_lt Br)); have nh_r : gh ≠ gr := nr_h.symm; clear Jb Yb; replace R := (R.fresh hg_).below hb_; replace VW := Kd.V_below (wk.V_fresh VW hg_) hb_; replace Ba := blk_below Ba hb_; replace Bb := blk_below Bb hb_; replace Br := blk_below Br hb_; replace HN := wk.N_new HN hb_.size (blk_lt Bh); replace HB := HB.tr_ hb_; clear hb_ hg_; have Jb := wk.ca Bb; have Yb := wk.za Bb) | (go_at_call 22; have c16_ : W6_.cell? ⟨gh, 16, none⟩ = some (.slice s.a16 x.re.length s.c16) := (blk_cell Bh 16).trans rfl; (with_reducible refine (adv_reg.calls gh x.re o.a _ _ _ _ c16_ R.r16 ra true hra).mono ?_); rintro e W7_ ⟨Ar, cr, rfl, Vr, hb_⟩; clear Jb Yb; clear c16_ Vr; replace R := R.below hb_; replace VW := Kd.V_below VW hb_; replace Ba := blk_below Ba hb_; replace Bb := blk_below Bb hb_; replace Br := blk_below Br hb_; replace Bh := blk_below Bh hb_; replace HN := hN_ HN hb_.size; replace HB := HB.tr_ hb_; clear hb_; have Jb := wk.ca Bb; have Yb := wk.za Bb) | ((with_reducible refine gate_dst (N := 42) rfl ?_); refine wk.call_event (N := 42) (q := 40) rfl rfl rfl hFn.out.at_ hFn.out.name hFn.out.body #[.pointer (some ⟨gh, 0, none⟩)] (by rfl) (by first | rfl | (simp only [List.map_toArray, List.map_cons, List.map_nil]; done) | (simp only [List.map_toArray, List.map_cons, List.map_nil]; rfl)) ?_; have Bh_ : W7_.heap[gh]? = some (.cells (wk.hc x s o aq cq x s) 68 (0, 0)) := Bh; refine (hD.out x s o aq cq gh (wk.Q P w.heap.size [gh, gr, gb, ga]) W7_ l 0 y Bh_ R VW (fun k hk => hk.ne (by simp)) hF.out).mono ?_; intro e' W8_ ho_; obtain ⟨Al, cl, t, rfl, b_, V_, R_, kb_⟩ := ho_; refine ⟨_, rfl, ?_⟩; clear Jb Yb; have V := wk.V_new (P := P) HN HB.size V_; have R1 := wk.Rd.new (P := P) HN HB.size R_; clear V_ R_ Bh_; unfold wk.hc at b_; replace Bh := b_; clear b_; replace R := R.kb kb_ (fun k hk => hk.ne (by simp)); replace Ba := (kb_.block ga (blk_lt Ba) na_h).trans Ba; replace Bb := (kb_.block gb (blk_lt Bb) nb_h).trans Bb; replace Br := (kb_.block gr (blk_lt Br) nr_h).trans Br; replace HN := fun q hq => Nat.lt_of_lt_of_le (HN q hq) kb_.size; replace HB := kb_.below HB geh HB.size; clear VW kb_; have Ja := wk.ca Ba; have Ya := wk.za Ba) | (go_at_call 23; (with_reducible refine (slices_Clone_uint32_uint32_23.calls _ _ _ x.re x.re _ (wk.V_b R.r16) hC.out).mono ?_); rintro e W9_ ⟨v_, rfl, hn_, hb_⟩; clear Ja Ya; obtain ⟨gN, cN, rfl, hge, hlt, _, _⟩ := Kd.N_form hn_ HP.out; have hNa := Nat.ne_of_lt (Nat.lt_of_lt_of_le (blk_lt Ba) hge); have hNb := Nat.ne_of_lt (Nat.lt_of_lt_of_le (blk_lt Bb) hge); have hNr := Nat.ne_of_lt (Nat.lt_of_lt_of_le (blk_lt Br) hge); have hNh := Nat.ne_of_lt (Nat.lt_of_lt_of_le (blk_lt Bh) hge); have geN : w.heap.size ≤ gN := Nat.le_trans HB.size hge; have RN := Kd.N_mono hn_ (fun k hk => wk.Q.new (P := P) HN HB.size hk); clear hn_ R; replace V := Kd.V_mono (Kd.V_bound V) (ok' := fun k => wk.Q P w.heap.size [gh, gr, gb, ga] k ∧ k < gN) (fun k hk => ⟨hk.1, Nat.lt_of_lt_of_le hk.2 hge⟩); replace R1 := R1.bound.mono (Q := fun k => wk.Q P w.heap.size [gh, gr, gb, ga] k ∧ k < gN) (fun k hk => ⟨hk.1, Nat.lt_of_lt_of_le hk.2 hge⟩); clear hge hlt; replace R1 := R1.below hb_; replace V := Kd.V_below V hb_; replace Ba := blk_below Ba hb_; replace Bb := blk_below Bb hb_; replace Br := blk_below Br hb_; replace Bh := blk_below Bh hb_; replace HN := hN_ HN hb_.size; replace HB := HB.tr_ hb_; clear hb_; have Jh := wk.ca Bh; have Yh := wk.za Bh) | ((with_reducible refine gate_store (t := 32) (p := 55) rfl ?_); refine store_event (t := 32) (p := 55) (v := ?vo55_1_) (w1 := (W9_.setCell ⟨gh, 40, none⟩ (.slice (some ⟨gN, 0, none⟩) x.re.length cN))) ?hg ?ho ?hn ?hr ?_; (case ho => rfl); (case hg => rfl); (case hn => rfl); (case hr => first | (go_simp; done) | (go_simp; rfl)); intro W10_ hw_; have b_ : W10_.heap[gh]? = some (.cells #[.int .u32 x.c0, .int .i64 x.c1, .int .i64 x.c2, .int .i64 x.c3, .int .i64 x.c4, .int .i64 x.c5, .int .i64 x.c6, .slice s.a7 x.dl.length s.c7, .int .i64 x.dn, .int .i64 x.br, .slice s.a10 x.bs.length s.c10, .int .i64 x.nr, .slice s.a12 x.ng.length s.c12, .slice s.a13 x.ns.length s.c13, .slice s.a14 x.pe.length s.c14, .slice s.a15 x.lo.length s.c15, .slice s.a16 x.re.length s.c16, .slice s.a17 x.le.length s.c17, .int .i64 o.kd, .int .i64 o.a, .int .i64 o.b, .int .i64 o.c, .int .i64 o.d, .slice aq o.ws.length cq, .int .u32 y.c0, .int .i64 y.c1, .int .i64 y.c2, .int .i64 y.c3, .int .i64 y.c4, .int .i64 y.c5, .int .i64 y.c6, .slice t.a7 y.dl.length t.c7, .int .i64 y.dn, .int .i64 y.br, .slice t.a10 y.bs.length t.c10, .int .i64 y.nr, .slice t.a12 y.ng.length t.c12, .slice t.a13 y.ns.length t.c13, .slice t.a14 y.pe.length t.c14, .slice t.a15 y.lo.length t.c15, .slice (some ⟨gN, 0, none⟩) x.re.length cN, .slice t.a17 y.le.length t.c17] 68 (0, 0)) := (by rw [hw_]; exact (blk_put (cs := #[.int .u32 x.c0, .int .i64 x.c1, .int .i64 x.c2, .int .i64 x.c3, .int .i64 x.c4, .int .i64 x.c5, .int .i64 x.c6, .slice s.a7 x.dl.length s.c7, .int .i64 x.dn, .int .i64 x.br, .slice s.a10 x.bs.length s.c10, .int .i64 x.nr, .slice s.a12 x.ng.length s.c12, .slice s.a13 x.ns.length s.c13, .slice s.a14 x.pe.length s.c14, .slice s.a15 x.lo.length s.c15, .slice s.a16 x.re.length s.c16, .slice s.a17 x.le.length s.c17, .int .i64 o.kd, .int .i64 o.a, .int .i64 o.b, .int .i64 o.c, .int .i64 o.d, .slice aq o.ws.length cq, .int .u32 y.c0, .int .i64 y.c1, .int .i64 y.c2, .int .i64 y.c3, .int .i64 y.c4, .int .i64 y.c5, .int .i64 y.c6, .slice t.a7 y.dl.length t.c7, .int .i64 y.dn, .int .i64 y.br, .slice t.a10 y.bs.length t.c10, .int .i64 y.nr, .slice t.a12 y.ng.length t.c12, .slice t.a13 y.ns.length t.c13, .slice t.a14 y.pe.length t.c14, .slice t.a15 y.lo.length t.c15, .slice t.a16 y.re.length t.c16, .slice t.a17 y.le.length t.c17]) (cs' := #[.int .u32 x.c0, .int .i64 x.c1, .int .i64 x.c2, .int .i64 x.c3, .int .i64 x.c4, .int .i64 x.c5, .int .i64 x.c6, .slice s.a7 x.dl.length s.c7, .int .i64 x.dn, .int .i64 x.br, .slice s.a10 x.bs.length s.c10, .int .i64 x.nr, .slice s.a12 x.ng.length s.c12, .slice s.a13 x.ns.length s.c13, .slice s.a14 x.pe.length s.c14, .slice s.a15 x.lo.length s.c15, .slice s.a16 x.re.length s.c16, .slice s.a17 x.le.length s.c17, .int .i64 o.kd, .int .i64 o.a, .int .i64 o.b, .int .i64 o.c, .int .i64 o.d, .slice aq o.ws.length cq, .int .u32 y.c0, .int .i64 y.c1, .int .i64 y.c2, .int .i64 y.c3, .int .i64 y.c4, .int .i64 y.c5, .int .i64 y.c6, .slice t.a7 y.dl.length t.c7, .int .i64 y.dn, .int .i64 y.br, .slice t.a10 y.bs.length t.c10, .int .i64 y.nr, .slice t.a12 y.ng.length t.c12, .slice t.a13 y.ns.length t.c13, .slice t.a14 y.pe.length t.c14, .slice t.a15 y.lo.length t.c15, .slice (some ⟨gN, 0, none⟩) x.re.length cN, .slice t.a17 y.le.length t.c17]) Bh 40 _ rfl)); have hs_ : wk.St gh W9_ W10_ := (by rw [hw_]; exact wk.St.cell _ _ _ _); clear hw_; clear Jh Yh; replace R1 := R1.st hs_ (fun k hk => hk.1.ne (by simp)); replace V := wk.V_st V hs_ (fun k hk => hk.1.ne (by simp)); replace RN := wk.N_st RN hs_ (fun k hk => hk.ne (by simp)); replace Ba := hs_.blk Ba na_h; replace Bb := hs_.blk Bb nb_h; replace Br := hs_.blk Br nr_h; replace HN := fun q hq => Nat.lt_of_lt_of_le (HN q hq) (hs_.bel 0 (Nat.zero_le _)).size; replace HB := hs_.below geh HB; replace Bh := b_; clear b_ hs_; have Jh := wk.ca Bh; have Yh := wk.za Bh))
    clear Jh Yh
    refine start_ (n := 10) (S := fun w' => w'.heap[gb]? = some (.cells #[.int .i64 o.kd, .int .i64 o.a, .int .i64 o.b, .int .i64 o.c, .int .i64 o.d, .slice aq o.ws.length cq] 41 (0, 0)) ∧ w'.heap[gh]? = some (.cells #[.int .u32 x.c0, .int .i64 x.c1, .int .i64 x.c2, .int .i64 x.c3, .int .i64 x.c4, .int .i64 x.c5, .int .i64 x.c6, .slice s.a7 x.dl.length s.c7, .int .i64 x.dn, .int .i64 x.br, .slice s.a10 x.bs.length s.c10, .int .i64 x.nr, .slice s.a12 x.ng.length s.c12, .slice s.a13 x.ns.length s.c13, .slice s.a14 x.pe.length s.c14, .slice s.a15 x.lo.length s.c15, .slice s.a16 x.re.length s.c16, .slice s.a17 x.le.length s.c17, .int .i64 o.kd, .int .i64 o.a, .int .i64 o.b, .int .i64 o.c, .int .i64 o.d, .slice aq o.ws.length cq, .int .u32 y.c0, .int .i64 y.c1, .int .i64 y.c2, .int .i64 y.c3, .int .i64 y.c4, .int .i64 y.c5, .int .i64 y.c6, .slice t.a7 y.dl.length t.c7, .int .i64 y.dn, .int .i64 y.br, .slice t.a10 y.bs.length t.c10, .int .i64 y.nr, .slice t.a12 y.ng.length t.c12, .slice t.a13 y.ns.length t.c13, .slice t.a14 y.pe.length t.c14, .slice t.a15 y.lo.length t.c15, .slice (some ⟨gN, 0, none⟩) x.re.length cN, .slice t.a17 y.le.length t.c17] 68 (0, 0)) ∧ True) (ds := [9]) #[Z,Z,Z,Z,Z,Z,Z,Z,Z,Z] (by kernel_rfl) rfl rfl ⟨(blk_drew Bb), (blk_drew Bh), trivial⟩ (fun hHeld => ?_)
    obtain ⟨W11_, hw_⟩ : ∃ W_ : World, W_ = W10_.drew := ⟨_, rfl⟩
    rw [← hw_] at hHeld ⊢
    have hb_ : Below W10_.heap.size W10_ W11_ := by rw [hw_]; exact below_drew (Below.refl _ _)
    clear hw_
    replace R1 := R1.below hb_
    replace V := Kd.V_below V hb_
    replace RN := Kd.N_below RN hb_
    replace Ba := blk_below Ba hb_
    replace Bb := blk_below Bb hb_
    replace Br := blk_below Br hb_
    replace Bh := blk_below Bh hb_
    replace HN := hN_ HN hb_.size
    replace HB := HB.tr_ hb_
    clear hb_
    refine pure_ (i := 0) (N := some 56) (v := ?_) (a' := ?_) #[Y,Z,Z,Z,Z,Z,Z,Z,Z,Z] rfl rfl (by kernel_rfl) (fun _ _ _ h => h) (Or.inl ⟨by rfl, ?_⟩) ?_ ?_
    rotate_left
    ·
     intro w'
     go_simp
     with_reducible rfl
    rotate_left
    ·
     simp only [Act.put, List.setIfInBounds_toArray, List.set_cons_zero, List.set_cons_succ, i64_w, i32_w]
     rfl
    refine pure_ (i := 1) (N := some 57) (v := ?_) (a' := ?_) #[Y,Y,Z,Z,Z,Z,Z,Z,Z,Z] rfl rfl (by kernel_rfl) (fun _ _ _ h => h) (Or.inl ⟨by rfl, ?_⟩) ?_ ?_
    rotate_left
    ·
     intro w'
     go_simp
     with_reducible rfl
    rotate_left
    ·
     simp only [Act.put, List.setIfInBounds_toArray, List.set_cons_zero, List.set_cons_succ, i64_w, i32_w]
     rfl
    refine pure_ (i := 2) (N := some 58) (v := ?_) (a' := ?_) #[Y,Y,Y,Z,Z,Z,Z,Z,Z,Z] rfl rfl (by kernel_rfl) (fun _ _ _ h => h) (Or.inl ⟨by rfl, ?_⟩) ?_ ?_
    rotate_left
    ·
     intro w'
     go_simp
     with_reducible rfl
    rotate_left
    ·
     simp only [Act.put, List.setIfInBounds_toArray, List.set_cons_zero, List.set_cons_succ, i64_w, i32_w]
     rfl
    refine pure_ (i := 3) (N := some 59) (v := ?_) (a' := ?_) #[Y,Y,Y,Y,Z,Z,Z,Z,Z,Z] rfl rfl (by kernel_rfl) (fun _ _ _ h => h) (Or.inl ⟨by rfl, ?_⟩) ?_ ?_
    rotate_left
    ·
     intro w'
     go_simp
     with_reducible rfl
    rotate_left
    ·
     simp only [Act.put, List.setIfInBounds_toArray, List.set_cons_zero, List.set_cons_succ, i64_w, i32_w]
     rfl
    refine take_ (i := 4) (N := some 60) (v := ?_) (a' := ?_) #[Y,Y,Y,Y,Y,Z,Z,Z,Z,Z] rfl rfl (by kernel_rfl) (fun _ _ _ h => h) (Or.inl ⟨by rfl, ?_⟩) hHeld ?_ ?_
    rotate_left
    ·
     rintro w' ⟨s0, s1, s2⟩
     have qh_40 : w'.cell? ⟨gh, 40, none⟩ = some (.slice (some ⟨gN, 0, none⟩) x.re.length cN) := (blk_cell s1 40).trans rfl
     have qb_1 : w'.cell? ⟨gb, 1, none⟩ = some (.int .i64 o.a) := (blk_cell s0 1).trans rfl
     clear s0 s1
     go_simp
     with_reducible rfl
    rotate_left
    ·
     simp only [Act.put, List.setIfInBounds_toArray, List.set_cons_zero, List.set_cons_succ, i64_w, i32_w]
     rfl
    refine pure_ (i := 5) (N := some 61) (v := ?_) (a' := ?_) #[Y,Y,Y,Y,Y,Y,Z,Z,Z,Z] rfl rfl (by kernel_rfl) (fun _ _ _ h => h) (Or.inl ⟨by rfl, ?_⟩) ?_ ?_
    rotate_left
    ·
     intro w'
     go_simp
     with_reducible rfl
    rotate_left
    ·
     simp only [Act.put, List.setIfInBounds_toArray, List.set_cons_zero, List.set_cons_succ, i64_w, i32_w]
     rfl
    refine take_ (i := 6) (N := some 62) (v := ?_) (a' := ?_) #[Y,Y,Y,Y,Y,Y,Y,Z,Z,Z] rfl rfl (by kernel_rfl) (fun _ _ _ h => h) (Or.inl ⟨by rfl, ?_⟩) hHeld ?_ ?_
    rotate_left
    ·
     rintro w' ⟨s0, s1, s2⟩
     have qh_40 : w'.cell? ⟨gh, 40, none⟩ = some (.slice (some ⟨gN, 0, none⟩) x.re.length cN) := (blk_cell s1 40).trans rfl
     have qb_1 : w'.cell? ⟨gb, 1, none⟩ = some (.int .i64 o.a) := (blk_cell s0 1).trans rfl
     clear s0 s1
     go_simp
     with_reducible rfl
    rotate_left
    ·
     simp only [Act.put, List.setIfInBounds_toArray, List.set_cons_zero, List.set_cons_succ, i64_w, i32_w]
     rfl
    refine pure_ (i := 7) (N := some 63) (v := ?_) (a' := ?_) #[Y,Y,Y,Y,Y,Y,Y,Y,Z,Z] rfl rfl (by kernel_rfl) (fun _ _ _ h => h) (Or.inl ⟨by rfl, ?_⟩) ?_ ?_
    rotate_left
    ·
     intro w'
     go_simp
     with_reducible rfl
    rotate_left
    ·
     simp only [Act.put, List.setIfInBounds_toArray, List.set_cons_zero, List.set_cons_succ, i64_w, i32_w]
     rfl
    refine pure_ (i := 8) (N := some 64) (v := ?_) (a' := ?_) #[Y,Y,Y,Y,Y,Y,Y,Y,Y,Z] rfl rfl (by kernel_rfl) (fun _ _ _ h => h) (Or.inl ⟨by rfl, ?_⟩) ?_ ?_
    rotate_left
    ·
     intro w'
     go_simp
     with_reducible rfl
    rotate_left
    ·
     simp only [Act.put, List.setIfInBounds_toArray, List.set_cons_zero, List.set_cons_succ, i64_w, i32_w]
     rfl
    refine last_ (i := 9) (N := none) #[Y,Y,Y,Y,Y,Y,Y,Y,Y,Y] rfl rfl (by kernel_rfl) (by decide) (fun K hK => ?_)
    obtain ⟨c0_, kc_, zc_⟩ := wk.row_cell RN o.a HI.out.1 HI.out.2
    refine skip_ (w1 := W11_.setCell ⟨gN, o.a.toNat, none⟩ (.slice Al l.length cl)) (by rfl) rfl ?hr_21 ?_
    case hr_21 => first | (go_simp; done) | (go_simp; rfl)
    clear kc_ zc_
    have RN2 := wk.row_put RN o.a HI.out.1 HI.out.2 V (fun k hk => ⟨hk.1, Nat.ne_of_lt hk.2⟩)
    have hs_ := wk.St.cell W11_ gN o.a.toNat (.slice Al l.length cl)
    obtain ⟨W12_, hw_⟩ : ∃ W_ : World, W_ = W11_.setCell ⟨gN, o.a.toNat, none⟩ (.slice Al l.length cl) := ⟨_, rfl⟩
    rw [← hw_] at RN2 hs_ ⊢
    clear hw_ RN V
    replace R1 := R1.st hs_ (fun k hk => Nat.ne_of_lt hk.2)
    replace Ba := hs_.blk Ba hNa
    replace Bb := hs_.blk Bb hNb
    replace Br := hs_.blk Br hNr
    replace Bh := hs_.blk Bh hNh
    replace HB := hs_.below geN HB
    replace HN := fun q hq => Nat.lt_of_lt_of_le (HN q hq) (hs_.bel 0 (Nat.zero_le _)).size
    clear hs_
    refine hK.out _ _ ?_
    clear hK K
    refine done_ (by kernel_rfl) ?_
    try clear hHeld
    go_wp2_with (first | ((with_reducible refine gate_dst (N := 68) rfl ?_); (try (refine gate_guard (by rfl) ?_; dsimp only)); refine wk.partget_event (N := 68) (t := 39) (p := 67) rfl rfl rfl (off := 24) (cells := #[.int .u32 y.c0, .int .i64 y.c1, .int .i64 y.c2, .int .i64 y.c3, .int .i64 y.c4, .int .i64 y.c5, .int .i64 y.c6, .slice t.a7 y.dl.length t.c7, .int .i64 y.dn, .int .i64 y.br, .slice t.a10 y.bs.length t.c10, .int .i64 y.nr, .slice t.a12 y.ng.length t.c12, .slice t.a13 y.ns.length t.c13, .slice t.a14 y.pe.length t.c14, .slice t.a15 y.lo.length t.c15, .slice (some ⟨gN, 0, none⟩) x.re.length cN, .slice t.a17 y.le.length t.c17]) ?hx Bh Try.underlying39 rfl ?hi ?hn ?_; (case hx => first | rfl | (go_simp; done)); (case hi => kernel_rfl); (case hn => kernel_rfl)) | ((with_reducible refine gate_store (t := 39) (p := 4) rfl ?_); refine wk.put_event (t := 39) (p := 4) rfl rfl rfl (cells := #[.int .u32 y.c0, .int .i64 y.c1, .int .i64 y.c2, .int .i64 y.c3, .int .i64 y.c4, .int .i64 y.c5, .int .i64 y.c6, .slice t.a7 y.dl.length t.c7, .int .i64 y.dn, .int .i64 y.br, .slice t.a10 y.bs.length t.c10, .int .i64 y.nr, .slice t.a12 y.ng.length t.c12, .slice t.a13 y.ns.length t.c13, .slice t.a14 y.pe.length t.c14, .slice t.a15 y.lo.length t.c15, .slice (some ⟨gN, 0, none⟩) x.re.length cN, .slice t.a17 y.le.length t.c17]) ?hx ?hy Br ?hi ?hs ?h1 ?_; (case hx => first | rfl | (go_simp; done)); (case hy => first | rfl | (go_simp; done)); (case hi => kernel_rfl); (case hs => rfl); (case h1 => simp [Value.oneCell']); intro W13_ b_ hs_; replace R1 := R1.st hs_ (fun k hk => hk.1.ne (by simp)); replace RN2 := wk.N_st RN2 hs_ (fun k hk => hk.ne (by simp)); replace Ba := hs_.blk Ba na_r; replace Bb := hs_.blk Bb nb_r; replace Bh := hs_.blk Bh nh_r; replace HN := fun q hq => Nat.lt_of_lt_of_le (HN q hq) (hs_.bel 0 (Nat.zero_le _)).size; replace HB := hs_.below ger HB; replace Br := b_; clear b_ hs_; skip))
    refine bodyPost_ret (results_ct rfl _ _ gr 39 _ (0, 0) _ rfl Br Try.underlying39 rfl (by kernel_rfl)) rfl ?_
    refine ⟨{ t with a16 := some ⟨gN, 0, none⟩, c16 := cN }, ?_, ((R1.mono (Q := wk.Q P w.heap.size [gh, gr, gb, ga]) (fun k hk => hk.1)).reg (l := x.re.set o.a.toNat l) (c := cN) (A := some ⟨gN, 0, none⟩) (by rw [List.length_set]; exact wk.V_b (Kd.N_V (base' := 0) RN2))).mono (fun k hk => hk.1), HB⟩
    simp only [wk.cs, List.length_set]
    rfl
   ·
    rw [if_neg c1] at h
    have c1b : (e == 0) = false := beq_eq_false_iff_ne.mpr c1
    have c1c : (e != 0) = true := bne_iff_ne.mpr c1
    simp only [Option.some.injEq, Prod.mk.injEq] at h
    obtain ⟨rfl, rfl⟩ := h
    go_enter Try.func8, Try.ntmps8
    go_upto_region 1 with (first | ((with_reducible refine gate_dst (N := 2) rfl ?_); (try (refine gate_guard (by rfl) ?_; dsimp only)); refine box_event ?hg (N := 2) ?hd (cs := #[.int .u32 x.c0, .int .i64 x.c1, .int .i64 x.c2, .int .i64 x.c3, .int .i64 x.c4, .int .i64 x.c5, .int .i64 x.c6, .slice s.a7 x.dl.length s.c7, .int .i64 x.dn, .int .i64 x.br, .slice s.a10 x.bs.length s.c10, .int .i64 x.nr, .slice s.a12 x.ng.length s.c12, .slice s.a13 x.ns.length s.c13, .slice s.a14 x.pe.length s.c14, .slice s.a15 x.lo.length s.c15, .slice s.a16 x.re.length s.c16, .slice s.a17 x.le.length s.c17]) (t := 39) ?hr ?_; (case hd => rfl); (case hg => rfl); (case hr => first | (go_simp; done) | (go_simp; rfl)); intro ga hg_ W1_ Ba hb_; have gea : w.heap.size ≤ ga := (by rw [hg_]; exact HB.size); replace R := (R.fresh hg_).below hb_; replace VW := Kd.V_below (wk.V_fresh VW hg_) hb_; replace HN := wk.N_new HN hb_.size (blk_lt Ba); replace HB := HB.tr_ hb_; clear hb_ hg_; skip) | ((with_reducible refine gate_dst (N := 3) rfl ?_); (try (refine gate_guard (by rfl) ?_; dsimp only)); refine box_event ?hg (N := 3) ?hd (cs := #[.int .i64 o.kd, .int .i64 o.a, .int .i64 o.b, .int .i64 o.c, .int .i64 o.d, .slice aq o.ws.length cq]) (t := 41) ?hr ?_; (case hd => rfl); (case hg => rfl); (case hr => first | (go_simp; done) | (go_simp; rfl)); intro gb hg_ W2_ Bb hb_; have geb : w.heap.size ≤ gb := (by rw [hg_]; exact HB.size); have na_b : ga ≠ gb := (by rw [hg_]; exact Nat.ne_of_lt (blk_lt Ba)); have nb_a : gb ≠ ga := na_b.symm; replace R := (R.fresh hg_).below hb_; replace VW := Kd.V_below (wk.V_fresh VW hg_) hb_; replace Ba := blk_below Ba hb_; replace HN := wk.N_new HN hb_.size (blk_lt Bb); replace HB := HB.tr_ hb_; clear hb_ hg_; skip) | ((with_reducible refine gate_dst (N := 4) rfl ?_); (try (refine gate_guard (by rfl) ?_; dsimp only)); refine box_event ?hg (N := 4) ?hd (cs := #[.int .u32 0, .int .i64 0, .int .i64 0, .int .i64 0, .int .i64 0, .int .i64 0, .int .i64 0, .slice none 0 0, .int .i64 0, .int .i64 0, .slice none 0 0, .int .i64 0, .slice none 0 0, .slice none 0 0, .slice none 0 0, .slice none 0 0, .slice none 0 0, .slice none 0 0]) (t := 39) ?hr ?_; (case hd => rfl); (case hg => rfl); (case hr => first | (go_simp; done) | (go_simp; rfl)); intro gr hg_ W3_ Br hb_; have ger : w.heap.size ≤ gr := (by rw [hg_]; exact HB.size); have na_r : ga ≠ gr := (by rw [hg_]; exact Nat.ne_of_lt (blk_lt Ba)); have nr_a : gr ≠ ga := na_r.symm; have nb_r : gb ≠ gr := (by rw [hg_]; exact Nat.ne_of_lt (blk_lt Bb)); have nr_b : gr ≠ gb := nb_r.symm; replace R := (R.fresh hg_).below hb_; replace VW := Kd.V_below (wk.V_fresh VW hg_) hb_; replace Ba := blk_below Ba hb_; replace Bb := blk_below Bb hb_; replace HN := wk.N_new HN hb_.size (blk_lt Br); replace HB := HB.tr_ hb_; clear hb_ hg_; skip))
    refine start_ (n := 9) (S := fun w' => w'.heap[gb]? = some (.cells #[.int .i64 o.kd, .int .i64 o.a, .int .i64 o.b, .int .i64 o.c, .int .i64 o.d, .slice aq o.ws.length cq] 41 (0, 0)) ∧ True) (ds := []) #[Z,Z,Z,Z,Z,Z,Z,Z,Z] (by kernel_rfl) rfl rfl ⟨(blk_drew Bb), trivial⟩ (fun hHeld => ?_)
    obtain ⟨W4_, hw_⟩ : ∃ W_ : World, W_ = W3_.drew := ⟨_, rfl⟩
    rw [← hw_] at hHeld ⊢
    have hb_ : Below W3_.heap.size W3_ W4_ := by rw [hw_]; exact below_drew (Below.refl _ _)
    clear hw_
    replace R := R.below hb_
    replace VW := Kd.V_below VW hb_
    replace Ba := blk_below Ba hb_
    replace Bb := blk_below Bb hb_
    replace Br := blk_below Br hb_
    replace HN := hN_ HN hb_.size
    replace HB := HB.tr_ hb_
    clear hb_
    refine pure_ (i := 1) (N := some 15) (v := ?_) (a' := ?_) #[Z,Y,Z,Z,Z,Z,Z,Z,Z] rfl rfl (by kernel_rfl) (fun _ _ _ h => h) (Or.inl ⟨by rfl, ?_⟩) ?_ ?_
    rotate_left
    ·
     intro w'
     go_simp
     with_reducible rfl
    rotate_left
    ·
     simp only [Act.put, List.setIfInBounds_toArray, List.set_cons_zero, List.set_cons_succ, i64_w, i32_w]
     rfl
    refine take_ (i := 2) (N := some 16) (v := ?_) (a' := ?_) #[Z,Y,Y,Z,Z,Z,Z,Z,Z] rfl rfl (by kernel_rfl) (fun _ _ _ h => h) (Or.inl ⟨by rfl, ?_⟩) hHeld ?_ ?_
    rotate_left
    ·
     rintro w' ⟨s0, s1⟩
     have qb_0 : w'.cell? ⟨gb, 0, none⟩ = some (.int .i64 o.kd) := (blk_cell s0 0).trans rfl
     clear s0
     go_simp
     with_reducible rfl
    rotate_left
    ·
     simp only [Act.put, List.setIfInBounds_toArray, List.set_cons_zero, List.set_cons_succ, i64_w, i32_w]
     rfl
    refine one_ (i := 0) (N := some 14) #[Y,Y,Y,Z,Z,Z,Z,Z,Z] rfl rfl (by kernel_rfl) (by decide) (fun K hK => ?_)
    refine goes_ Try.func21 (by kernel_rfl) rfl #[] (by rfl) rfl rfl mS_ ?_
    with_reducible refine (adv_deeds.calls _).mono ?_
    rintro e W5_ ⟨g0, rfl, geg, Bm, hb_⟩
    refine ⟨_, rfl, ?_⟩
    replace R := R.below hb_
    replace VW := Kd.V_below VW hb_
    replace Ba := blk_below Ba hb_
    replace Bb := blk_below Bb hb_
    replace Br := blk_below Br hb_
    replace HN := hN_ HN hb_.size
    replace HB := HB.tr_ hb_
    clear hb_
    refine hK.out _ _ ⟨Bb, trivial⟩ (fun hHeld => ?_)
    clear hK K
    refine norm_ (a' := ?_) ?_ ?_
    rotate_left
    ·
     show Act.put _ (some 14) _ = _
     simp only [Act.put, List.setIfInBounds_toArray, List.set_cons_zero, List.set_cons_succ, i64_w, i32_w]
     rfl
    refine one_ (i := 3) (N := some 17) #[Y,Y,Y,Y,Z,Z,Z,Z,Z] rfl rfl (by kernel_rfl) (by decide) (fun K hK => ?_)
    refine event_step (by rfl) (v := .tuple #[.func (.func n) #[] #[], .bool true]) (w1 := W5_) ?hr_22 ?_
    case hr_22 => exact wk.look_run rfl (by rfl) (by rfl) Bm HFD.out
    clear Bm geg
    refine hK.out _ _ ⟨Bb, trivial⟩ (fun hHeld => ?_)
    clear hK K
    refine norm_ (a' := ?_) ?_ ?_
    rotate_left
    ·
     show Act.put _ (some 17) _ = _
     simp only [Act.put, List.setIfInBounds_toArray, List.set_cons_zero, List.set_cons_succ, i64_w, i32_w]
     rfl
    refine pure_ (i := 4) (N := some 13) (v := ?_) (a' := ?_) #[Y,Y,Y,Y,Y,Z,Z,Z,Z] rfl rfl (by kernel_rfl) (fun _ _ _ h => h) (Or.inl ⟨by rfl, ?_⟩) ?_ ?_
    rotate_left
    ·
     intro w'
     go_simp
     with_reducible rfl
    rotate_left
    ·
     simp only [Act.put, List.setIfInBounds_toArray, List.set_cons_zero, List.set_cons_succ, i64_w, i32_w]
     rfl
    refine pure_ (i := 5) (N := some 18) (v := ?_) (a' := ?_) #[Y,Y,Y,Y,Y,Y,Z,Z,Z] rfl rfl (by kernel_rfl) (fun _ _ _ h => h) (Or.inl ⟨by rfl, ?_⟩) ?_ ?_
    rotate_left
    ·
     intro w'
     go_simp
     with_reducible rfl
    rotate_left
    ·
     simp only [Act.put, List.setIfInBounds_toArray, List.set_cons_zero, List.set_cons_succ, i64_w, i32_w]
     rfl
    refine pure_ (i := 6) (N := some 19) (v := ?_) (a' := ?_) #[Y,Y,Y,Y,Y,Y,Y,Z,Z] rfl rfl (by kernel_rfl) (fun _ _ _ h => h) (Or.inl ⟨by rfl, ?_⟩) ?_ ?_
    rotate_left
    ·
     intro w'
     go_simp
     with_reducible rfl
    rotate_left
    ·
     simp only [Act.put, List.setIfInBounds_toArray, List.set_cons_zero, List.set_cons_succ, i64_w, i32_w]
     rfl
    refine pure_ (i := 7) (N := some 6) (v := ?_) (a' := ?_) #[Y,Y,Y,Y,Y,Y,Y,Y,Z] rfl rfl (by kernel_rfl) (fun _ _ _ h => h) (Or.inl ⟨by rfl, ?_⟩) ?_ ?_
    rotate_left
    ·
     intro w'
     go_simp
     with_reducible rfl
    rotate_left
    ·
     simp only [Act.put, List.setIfInBounds_toArray, List.set_cons_zero, List.set_cons_succ, i64_w, i32_w]
     rfl
    refine pure_ (i := 8) (N := some 7) (v := ?_) (a' := ?_) #[Y,Y,Y,Y,Y,Y,Y,Y,Y] rfl rfl (by kernel_rfl) (fun _ _ _ h => h) (Or.inl ⟨by rfl, ?_⟩) ?_ ?_
    rotate_left
    ·
     intro w'
     go_simp
     with_reducible rfl
    rotate_left
    ·
     simp only [Act.put, List.setIfInBounds_toArray, List.set_cons_zero, List.set_cons_succ, i64_w, i32_w]
     rfl
    refine done_ (by kernel_rfl) ?_
    try clear hHeld
    have Jb := wk.ca Bb
    have Yb := wk.za Bb
    go_wp2_with (first | ((with_reducible refine gate_dst (N := 20) rfl ?_); (try (refine gate_guard (by rfl) ?_; dsimp only)); refine wk.get_event (N := 20) (t := 39) (p := 2) rfl rfl rfl ?hx Ba Try.underlying39 rfl ?hi ?_; (case hx => first | rfl | (go_simp; done)); (case hi => kernel_rfl)) | ((with_reducible refine gate_dst (N := 21) rfl ?_); (try (refine gate_guard (by rfl) ?_; dsimp only)); refine wk.get_event (N := 21) (t := 41) (p := 3) rfl rfl rfl ?hx Bb Try.underlying41 rfl ?hi ?_; (case hx => first | rfl | (go_simp; done)); (case hi => kernel_rfl)) | ((with_reducible refine gate_dst (N := 22) rfl ?_); (try (refine gate_guard (by rfl) ?_; dsimp only)); refine wk.get_event (N := 22) (t := 39) (p := 2) rfl rfl rfl ?hx Ba Try.underlying39 rfl ?hi ?_; (case hx => first | rfl | (go_simp; done)); (case hi => kernel_rfl)) | ((with_reducible refine gate_dst (N := 24) rfl ?_); (try (refine gate_guard (by rfl) ?_; dsimp only)); refine box_event ?hg (N := 24) ?hd (cs := #[.int .u32 x.c0, .int .i64 x.c1, .int .i64 x.c2, .int .i64 x.c3, .int .i64 x.c4, .int .i64 x.c5, .int .i64 x.c6, .slice s.a7 x.dl.length s.c7, .int .i64 x.dn, .int .i64 x.br, .slice s.a10 x.bs.length s.c10, .int .i64 x.nr, .slice s.a12 x.ng.length s.c12, .slice s.a13 x.ns.length s.c13, .slice s.a14 x.pe.length s.c14, .slice s.a15 x.lo.length s.c15, .slice s.a16 x.re.length s.c16, .slice s.a17 x.le.length s.c17, .int .i64 o.kd, .int .i64 o.a, .int .i64 o.b, .int .i64 o.c, .int .i64 o.d, .slice aq o.ws.length cq, .int .u32 x.c0, .int .i64 x.c1, .int .i64 x.c2, .int .i64 x.c3, .int .i64 x.c4, .int .i64 x.c5, .int .i64 x.c6, .slice s.a7 x.dl.length s.c7, .int .i64 x.dn, .int .i64 x.br, .slice s.a10 x.bs.length s.c10, .int .i64 x.nr, .slice s.a12 x.ng.length s.c12, .slice s.a13 x.ns.length s.c13, .slice s.a14 x.pe.length s.c14, .slice s.a15 x.lo.length s.c15, .slice s.a16 x.re.length s.c16, .slice s.a17 x.le.length s.c17]) (t := 68) ?hr ?_; (case hd => rfl); (case hg => rfl); (case hr => first | (go_simp; done) | (go_simp; rfl)); intro gh hg_ W6_ Bh hb_; have geh : w.heap.size ≤ gh := (by rw [hg_]; exact HB.size); have na_h : ga ≠ gh := (by rw [hg_]; exact Nat.ne_of_lt (blk_lt Ba)); have nh_a : gh ≠ ga := na_h.symm; have nb_h : gb ≠ gh := (by rw [hg_]; exact Nat.ne_of_lt (blk_lt Bb)); have nh_b : gh ≠ gb := nb_h.symm; have nr_h : gr ≠ gh := (by rw [hg_]; exact Nat.ne_of_lt (blk_lt Br)); have nh_r : gh ≠ gr := nr_h.symm; clear Jb Yb; replace R := (R.fresh hg_).below hb_; replace VW := Kd.V_below (wk.V_fresh VW hg_) hb_; replace Ba := blk_below Ba hb_; replace Bb := blk_below Bb hb_; replace Br := blk_below Br hb_; replace HN := wk.N_new HN hb_.size (blk_lt Bh); replace HB := HB.tr_ hb_; clear hb_ hg_; have Jb := wk.ca Bb; have Yb := wk.za Bb) | (go_at_call 22; have c16_ : W6_.cell? ⟨gh, 16, none⟩ = some (.slice s.a16 x.re.length s.c16) := (blk_cell Bh 16).trans rfl; (with_reducible refine (adv_reg.calls gh x.re o.a _ _ _ _ c16_ R.r16 ra true hra).mono ?_); rintro e W7_ ⟨Ar, cr, rfl, Vr, hb_⟩; clear Jb Yb; clear c16_ Vr; replace R := R.below hb_; replace VW := Kd.V_below VW hb_; replace Ba := blk_below Ba hb_; replace Bb := blk_below Bb hb_; replace Br := blk_below Br hb_; replace Bh := blk_below Bh hb_; replace HN := hN_ HN hb_.size; replace HB := HB.tr_ hb_; clear hb_; have Jb := wk.ca Bb; have Yb := wk.za Bb) | ((with_reducible refine gate_dst (N := 42) rfl ?_); refine wk.call_event (N := 42) (q := 40) rfl rfl rfl hFn.out.at_ hFn.out.name hFn.out.body #[.pointer (some ⟨gh, 0, none⟩)] (by rfl) (by first | rfl | (simp only [List.map_toArray, List.map_cons, List.map_nil]; done) | (simp only [List.map_toArray, List.map_cons, List.map_nil]; rfl)) ?_; have Bh_ : W7_.heap[gh]? = some (.cells (wk.hc x s o aq cq x s) 68 (0, 0)) := Bh; refine (hD.out x s o aq cq gh (wk.Q P w.heap.size [gh, gr, gb, ga]) W7_ l e y Bh_ R VW (fun k hk => hk.ne (by simp)) hF.out).mono ?_; intro e' W8_ ho_; obtain ⟨Al, cl, t, rfl, b_, V_, R_, kb_⟩ := ho_; refine ⟨_, rfl, ?_⟩; clear Jb Yb; have V := wk.V_new (P := P) HN HB.size V_; have R1 := wk.Rd.new (P := P) HN HB.size R_; clear V_ R_ Bh_; unfold wk.hc at b_; replace Bh := b_; clear b_; replace R := R.kb kb_ (fun k hk => hk.ne (by simp)); replace Ba := (kb_.block ga (blk_lt Ba) na_h).trans Ba; replace Bb := (kb_.block gb (blk_lt Bb) nb_h).trans Bb; replace Br := (kb_.block gr (blk_lt Br) nr_h).trans Br; replace HN := fun q hq => Nat.lt_of_lt_of_le (HN q hq) kb_.size; replace HB := kb_.below HB geh HB.size; clear VW kb_; have Jb := wk.ca Bb; have Yb := wk.za Bb) | ((with_reducible refine gate_dst (N := 47) rfl ?_); (try (refine gate_guard (by rfl) ?_; dsimp only)); refine wk.get_event (N := 47) (t := 39) (p := 2) rfl rfl rfl ?hx Ba Try.underlying39 rfl ?hi ?_; (case hx => first | rfl | (go_simp; done)); (case hi => kernel_rfl)) | ((with_reducible refine gate_store (t := 39) (p := 4) rfl ?_); refine wk.put_event (t := 39) (p := 4) rfl rfl rfl (cells := #[.int .u32 x.c0, .int .i64 x.c1, .int .i64 x.c2, .int .i64 x.c3, .int .i64 x.c4, .int .i64 x.c5, .int .i64 x.c6, .slice s.a7 x.dl.length s.c7, .int .i64 x.dn, .int .i64 x.br, .slice s.a10 x.bs.length s.c10, .int .i64 x.nr, .slice s.a12 x.ng.length s.c12, .slice s.a13 x.ns.length s.c13, .slice s.a14 x.pe.length s.c14, .slice s.a15 x.lo.length s.c15, .slice s.a16 x.re.length s.c16, .slice s.a17 x.le.length s.c17]) ?hx ?hy Br ?hi ?hs ?h1 ?_; (case hx => first | rfl | (go_simp; done)); (case hy => first | rfl | (go_simp; done)); (case hi => kernel_rfl); (case hs => rfl); (case h1 => simp [Value.oneCell']); intro W9_ b_ hs_; clear Jb Yb; replace R := R.st hs_ (fun k hk => hk.ne (by simp)); replace V := wk.V_st V hs_ (fun k hk => hk.ne (by simp)); replace R1 := R1.st hs_ (fun k hk => hk.ne (by simp)); replace Ba := hs_.blk Ba na_r; replace Bb := hs_.blk Bb nb_r; replace Bh := hs_.blk Bh nh_r; replace HN := fun q hq => Nat.lt_of_lt_of_le (HN q hq) (hs_.bel 0 (Nat.zero_le _)).size; replace HB := hs_.below ger HB; replace Br := b_; clear b_ hs_; have Jb := wk.ca Bb; have Yb := wk.za Bb))
    refine bodyPost_ret (results_ct rfl _ _ gr 39 _ (0, 0) _ rfl Br Try.underlying39 rfl (by kernel_rfl)) rfl ?_
    exact ⟨s, rfl, R.mono (fun k hk => hk.1), HB⟩
 ·
  have HFD := Aside0.mk hfd
  rw [hd] at h
  dsimp only at h
  clear hfd hd
  simp only [Option.some.injEq, Prod.mk.injEq] at h
  obtain ⟨rfl, rfl⟩ := h
  go_enter Try.func8, Try.ntmps8
  go_upto_region 1 with (first | ((with_reducible refine gate_dst (N := 2) rfl ?_); (try (refine gate_guard (by rfl) ?_; dsimp only)); refine box_event ?hg (N := 2) ?hd (cs := #[.int .u32 x.c0, .int .i64 x.c1, .int .i64 x.c2, .int .i64 x.c3, .int .i64 x.c4, .int .i64 x.c5, .int .i64 x.c6, .slice s.a7 x.dl.length s.c7, .int .i64 x.dn, .int .i64 x.br, .slice s.a10 x.bs.length s.c10, .int .i64 x.nr, .slice s.a12 x.ng.length s.c12, .slice s.a13 x.ns.length s.c13, .slice s.a14 x.pe.length s.c14, .slice s.a15 x.lo.length s.c15, .slice s.a16 x.re.length s.c16, .slice s.a17 x.le.length s.c17]) (t := 39) ?hr ?_; (case hd => rfl); (case hg => rfl); (case hr => first | (go_simp; done) | (go_simp; rfl)); intro ga hg_ W1_ Ba hb_; have gea : w.heap.size ≤ ga := (by rw [hg_]; exact HB.size); replace R := (R.fresh hg_).below hb_; replace VW := Kd.V_below (wk.V_fresh VW hg_) hb_; replace HN := wk.N_new HN hb_.size (blk_lt Ba); replace HB := HB.tr_ hb_; clear hb_ hg_; skip) | ((with_reducible refine gate_dst (N := 3) rfl ?_); (try (refine gate_guard (by rfl) ?_; dsimp only)); refine box_event ?hg (N := 3) ?hd (cs := #[.int .i64 o.kd, .int .i64 o.a, .int .i64 o.b, .int .i64 o.c, .int .i64 o.d, .slice aq o.ws.length cq]) (t := 41) ?hr ?_; (case hd => rfl); (case hg => rfl); (case hr => first | (go_simp; done) | (go_simp; rfl)); intro gb hg_ W2_ Bb hb_; have geb : w.heap.size ≤ gb := (by rw [hg_]; exact HB.size); have na_b : ga ≠ gb := (by rw [hg_]; exact Nat.ne_of_lt (blk_lt Ba)); have nb_a : gb ≠ ga := na_b.symm; replace R := (R.fresh hg_).below hb_; replace VW := Kd.V_below (wk.V_fresh VW hg_) hb_; replace Ba := blk_below Ba hb_; replace HN := wk.N_new HN hb_.size (blk_lt Bb); replace HB := HB.tr_ hb_; clear hb_ hg_; skip) | ((with_reducible refine gate_dst (N := 4) rfl ?_); (try (refine gate_guard (by rfl) ?_; dsimp only)); refine box_event ?hg (N := 4) ?hd (cs := #[.int .u32 0, .int .i64 0, .int .i64 0, .int .i64 0, .int .i64 0, .int .i64 0, .int .i64 0, .slice none 0 0, .int .i64 0, .int .i64 0, .slice none 0 0, .int .i64 0, .slice none 0 0, .slice none 0 0, .slice none 0 0, .slice none 0 0, .slice none 0 0, .slice none 0 0]) (t := 39) ?hr ?_; (case hd => rfl); (case hg => rfl); (case hr => first | (go_simp; done) | (go_simp; rfl)); intro gr hg_ W3_ Br hb_; have ger : w.heap.size ≤ gr := (by rw [hg_]; exact HB.size); have na_r : ga ≠ gr := (by rw [hg_]; exact Nat.ne_of_lt (blk_lt Ba)); have nr_a : gr ≠ ga := na_r.symm; have nb_r : gb ≠ gr := (by rw [hg_]; exact Nat.ne_of_lt (blk_lt Bb)); have nr_b : gr ≠ gb := nb_r.symm; replace R := (R.fresh hg_).below hb_; replace VW := Kd.V_below (wk.V_fresh VW hg_) hb_; replace Ba := blk_below Ba hb_; replace Bb := blk_below Bb hb_; replace HN := wk.N_new HN hb_.size (blk_lt Br); replace HB := HB.tr_ hb_; clear hb_ hg_; skip))
  refine start_ (n := 9) (S := fun w' => w'.heap[gb]? = some (.cells #[.int .i64 o.kd, .int .i64 o.a, .int .i64 o.b, .int .i64 o.c, .int .i64 o.d, .slice aq o.ws.length cq] 41 (0, 0)) ∧ True) (ds := []) #[Z,Z,Z,Z,Z,Z,Z,Z,Z] (by kernel_rfl) rfl rfl ⟨(blk_drew Bb), trivial⟩ (fun hHeld => ?_)
  obtain ⟨W4_, hw_⟩ : ∃ W_ : World, W_ = W3_.drew := ⟨_, rfl⟩
  rw [← hw_] at hHeld ⊢
  have hb_ : Below W3_.heap.size W3_ W4_ := by rw [hw_]; exact below_drew (Below.refl _ _)
  clear hw_
  replace R := R.below hb_
  replace VW := Kd.V_below VW hb_
  replace Ba := blk_below Ba hb_
  replace Bb := blk_below Bb hb_
  replace Br := blk_below Br hb_
  replace HN := hN_ HN hb_.size
  replace HB := HB.tr_ hb_
  clear hb_
  refine pure_ (i := 1) (N := some 15) (v := ?_) (a' := ?_) #[Z,Y,Z,Z,Z,Z,Z,Z,Z] rfl rfl (by kernel_rfl) (fun _ _ _ h => h) (Or.inl ⟨by rfl, ?_⟩) ?_ ?_
  rotate_left
  ·
   intro w'
   go_simp
   with_reducible rfl
  rotate_left
  ·
   simp only [Act.put, List.setIfInBounds_toArray, List.set_cons_zero, List.set_cons_succ, i64_w, i32_w]
   rfl
  refine take_ (i := 2) (N := some 16) (v := ?_) (a' := ?_) #[Z,Y,Y,Z,Z,Z,Z,Z,Z] rfl rfl (by kernel_rfl) (fun _ _ _ h => h) (Or.inl ⟨by rfl, ?_⟩) hHeld ?_ ?_
  rotate_left
  ·
   rintro w' ⟨s0, s1⟩
   have qb_0 : w'.cell? ⟨gb, 0, none⟩ = some (.int .i64 o.kd) := (blk_cell s0 0).trans rfl
   clear s0
   go_simp
   with_reducible rfl
  rotate_left
  ·
   simp only [Act.put, List.setIfInBounds_toArray, List.set_cons_zero, List.set_cons_succ, i64_w, i32_w]
   rfl
  refine one_ (i := 0) (N := some 14) #[Y,Y,Y,Z,Z,Z,Z,Z,Z] rfl rfl (by kernel_rfl) (by decide) (fun K hK => ?_)
  refine goes_ Try.func21 (by kernel_rfl) rfl #[] (by rfl) rfl rfl mS_ ?_
  with_reducible refine (adv_deeds.calls _).mono ?_
  rintro e W5_ ⟨g0, rfl, geg, Bm, hb_⟩
  refine ⟨_, rfl, ?_⟩
  replace R := R.below hb_
  replace VW := Kd.V_below VW hb_
  replace Ba := blk_below Ba hb_
  replace Bb := blk_below Bb hb_
  replace Br := blk_below Br hb_
  replace HN := hN_ HN hb_.size
  replace HB := HB.tr_ hb_
  clear hb_
  refine hK.out _ _ ⟨Bb, trivial⟩ (fun hHeld => ?_)
  clear hK K
  refine norm_ (a' := ?_) ?_ ?_
  rotate_left
  ·
   show Act.put _ (some 14) _ = _
   simp only [Act.put, List.setIfInBounds_toArray, List.set_cons_zero, List.set_cons_succ, i64_w, i32_w]
   rfl
  refine one_ (i := 3) (N := some 17) #[Y,Y,Y,Y,Z,Z,Z,Z,Z] rfl rfl (by kernel_rfl) (by decide) (fun K hK => ?_)
  refine event_step (by rfl) (v := .tuple #[.nilFunc, .bool false]) (w1 := W5_) ?hr_23 ?_
  case hr_23 => exact wk.look_run rfl (by rfl) (by rfl) Bm HFD.out
  clear Bm geg
  refine hK.out _ _ ⟨Bb, trivial⟩ (fun hHeld => ?_)
  clear hK K
  refine norm_ (a' := ?_) ?_ ?_
  rotate_left
  ·
   show Act.put _ (some 17) _ = _
   simp only [Act.put, List.setIfInBounds_toArray, List.set_cons_zero, List.set_cons_succ, i64_w, i32_w]
   rfl
  refine pure_ (i := 4) (N := some 13) (v := ?_) (a' := ?_) #[Y,Y,Y,Y,Y,Z,Z,Z,Z] rfl rfl (by kernel_rfl) (fun _ _ _ h => h) (Or.inl ⟨by rfl, ?_⟩) ?_ ?_
  rotate_left
  ·
   intro w'
   go_simp
   with_reducible rfl
  rotate_left
  ·
   simp only [Act.put, List.setIfInBounds_toArray, List.set_cons_zero, List.set_cons_succ, i64_w, i32_w]
   rfl
  refine pure_ (i := 5) (N := some 18) (v := ?_) (a' := ?_) #[Y,Y,Y,Y,Y,Y,Z,Z,Z] rfl rfl (by kernel_rfl) (fun _ _ _ h => h) (Or.inl ⟨by rfl, ?_⟩) ?_ ?_
  rotate_left
  ·
   intro w'
   go_simp
   with_reducible rfl
  rotate_left
  ·
   simp only [Act.put, List.setIfInBounds_toArray, List.set_cons_zero, List.set_cons_succ, i64_w, i32_w]
   rfl
  refine pure_ (i := 6) (N := some 19) (v := ?_) (a' := ?_) #[Y,Y,Y,Y,Y,Y,Y,Z,Z] rfl rfl (by kernel_rfl) (fun _ _ _ h => h) (Or.inl ⟨by rfl, ?_⟩) ?_ ?_
  rotate_left
  ·
   intro w'
   go_simp
   with_reducible rfl
  rotate_left
  ·
   simp only [Act.put, List.setIfInBounds_toArray, List.set_cons_zero, List.set_cons_succ, i64_w, i32_w]
   rfl
  refine pure_ (i := 7) (N := some 6) (v := ?_) (a' := ?_) #[Y,Y,Y,Y,Y,Y,Y,Y,Z] rfl rfl (by kernel_rfl) (fun _ _ _ h => h) (Or.inl ⟨by rfl, ?_⟩) ?_ ?_
  rotate_left
  ·
   intro w'
   go_simp
   with_reducible rfl
  rotate_left
  ·
   simp only [Act.put, List.setIfInBounds_toArray, List.set_cons_zero, List.set_cons_succ, i64_w, i32_w]
   rfl
  refine pure_ (i := 8) (N := some 7) (v := ?_) (a' := ?_) #[Y,Y,Y,Y,Y,Y,Y,Y,Y] rfl rfl (by kernel_rfl) (fun _ _ _ h => h) (Or.inl ⟨by rfl, ?_⟩) ?_ ?_
  rotate_left
  ·
   intro w'
   go_simp
   with_reducible rfl
  rotate_left
  ·
   simp only [Act.put, List.setIfInBounds_toArray, List.set_cons_zero, List.set_cons_succ, i64_w, i32_w]
   rfl
  refine done_ (by kernel_rfl) ?_
  try clear hHeld
  have Jb := wk.ca Bb
  have Yb := wk.za Bb
  go_wp2_with (first | ((with_reducible refine gate_dst (N := 20) rfl ?_); (try (refine gate_guard (by rfl) ?_; dsimp only)); refine wk.get_event (N := 20) (t := 39) (p := 2) rfl rfl rfl ?hx Ba Try.underlying39 rfl ?hi ?_; (case hx => first | rfl | (go_simp; done)); (case hi => kernel_rfl)) | ((with_reducible refine gate_dst (N := 21) rfl ?_); (try (refine gate_guard (by rfl) ?_; dsimp only)); refine wk.get_event (N := 21) (t := 41) (p := 3) rfl rfl rfl ?hx Bb Try.underlying41 rfl ?hi ?_; (case hx => first | rfl | (go_simp; done)); (case hi => kernel_rfl)) | ((with_reducible refine gate_dst (N := 22) rfl ?_); (try (refine gate_guard (by rfl) ?_; dsimp only)); refine wk.get_event (N := 22) (t := 39) (p := 2) rfl rfl rfl ?hx Ba Try.underlying39 rfl ?hi ?_; (case hx => first | rfl | (go_simp; done)); (case hi => kernel_rfl)) | ((with_reducible refine gate_dst (N := 24) rfl ?_); (try (refine gate_guard (by rfl) ?_; dsimp only)); refine box_event ?hg (N := 24) ?hd (cs := #[.int .u32 x.c0, .int .i64 x.c1, .int .i64 x.c2, .int .i64 x.c3, .int .i64 x.c4, .int .i64 x.c5, .int .i64 x.c6, .slice s.a7 x.dl.length s.c7, .int .i64 x.dn, .int .i64 x.br, .slice s.a10 x.bs.length s.c10, .int .i64 x.nr, .slice s.a12 x.ng.length s.c12, .slice s.a13 x.ns.length s.c13, .slice s.a14 x.pe.length s.c14, .slice s.a15 x.lo.length s.c15, .slice s.a16 x.re.length s.c16, .slice s.a17 x.le.length s.c17, .int .i64 o.kd, .int .i64 o.a, .int .i64 o.b, .int .i64 o.c, .int .i64 o.d, .slice aq o.ws.length cq, .int .u32 x.c0, .int .i64 x.c1, .int .i64 x.c2, .int .i64 x.c3, .int .i64 x.c4, .int .i64 x.c5, .int .i64 x.c6, .slice s.a7 x.dl.length s.c7, .int .i64 x.dn, .int .i64 x.br, .slice s.a10 x.bs.length s.c10, .int .i64 x.nr, .slice s.a12 x.ng.length s.c12, .slice s.a13 x.ns.length s.c13, .slice s.a14 x.pe.length s.c14, .slice s.a15 x.lo.length s.c15, .slice s.a16 x.re.length s.c16, .slice s.a17 x.le.length s.c17]) (t := 68) ?hr ?_; (case hd => rfl); (case hg => rfl); (case hr => first | (go_simp; done) | (go_simp; rfl)); intro gh hg_ W6_ Bh hb_; have geh : w.heap.size ≤ gh := (by rw [hg_]; exact HB.size); have na_h : ga ≠ gh := (by rw [hg_]; exact Nat.ne_of_lt (blk_lt Ba)); have nh_a : gh ≠ ga := na_h.symm; have nb_h : gb ≠ gh := (by rw [hg_]; exact Nat.ne_of_lt (blk_lt Bb)); have nh_b : gh ≠ gb := nb_h.symm; have nr_h : gr ≠ gh := (by rw [hg_]; exact Nat.ne_of_lt (blk_lt Br)); have nh_r : gh ≠ gr := nr_h.symm; clear Jb Yb; replace R := (R.fresh hg_).below hb_; replace VW := Kd.V_below (wk.V_fresh VW hg_) hb_; replace Ba := blk_below Ba hb_; replace Bb := blk_below Bb hb_; replace Br := blk_below Br hb_; replace HN := wk.N_new HN hb_.size (blk_lt Bh); replace HB := HB.tr_ hb_; clear hb_ hg_; have Jb := wk.ca Bb; have Yb := wk.za Bb) | (go_at_call 22; have c16_ : W6_.cell? ⟨gh, 16, none⟩ = some (.slice s.a16 x.re.length s.c16) := (blk_cell Bh 16).trans rfl; (with_reducible refine (adv_reg.calls gh x.re o.a _ _ _ _ c16_ R.r16 ra ok hra).mono ?_); rintro e W7_ ⟨Ar, cr, rfl, Vr, hb_⟩; clear Jb Yb; clear c16_ Vr; replace R := R.below hb_; replace VW := Kd.V_below VW hb_; replace Ba := blk_below Ba hb_; replace Bb := blk_below Bb hb_; replace Br := blk_below Br hb_; replace Bh := blk_below Bh hb_; replace HN := hN_ HN hb_.size; replace HB := HB.tr_ hb_; clear hb_; have Jb := wk.ca Bb; have Yb := wk.za Bb) | ((with_reducible refine gate_dst (N := 38) rfl ?_); (try (refine gate_guard (by rfl) ?_; dsimp only)); refine wk.get_event (N := 38) (t := 39) (p := 2) rfl rfl rfl ?hx Ba Try.underlying39 rfl ?hi ?_; (case hx => first | rfl | (go_simp; done)); (case hi => kernel_rfl)) | ((with_reducible refine gate_store (t := 39) (p := 4) rfl ?_); refine wk.put_event (t := 39) (p := 4) rfl rfl rfl (cells := #[.int .u32 x.c0, .int .i64 x.c1, .int .i64 x.c2, .int .i64 x.c3, .int .i64 x.c4, .int .i64 x.c5, .int .i64 x.c6, .slice s.a7 x.dl.length s.c7, .int .i64 x.dn, .int .i64 x.br, .slice s.a10 x.bs.length s.c10, .int .i64 x.nr, .slice s.a12 x.ng.length s.c12, .slice s.a13 x.ns.length s.c13, .slice s.a14 x.pe.length s.c14, .slice s.a15 x.lo.length s.c15, .slice s.a16 x.re.length s.c16, .slice s.a17 x.le.length s.c17]) ?hx ?hy Br ?hi ?hs ?h1 ?_; (case hx => first | rfl | (go_simp; done)); (case hy => first | rfl | (go_simp; done)); (case hi => kernel_rfl); (case hs => rfl); (case h1 => simp [Value.oneCell']); intro W8_ b_ hs_; clear Jb Yb; replace R := R.st hs_ (fun k hk => hk.ne (by simp)); replace VW := wk.V_st VW hs_ (fun k hk => hk.ne (by simp)); replace Ba := hs_.blk Ba na_r; replace Bb := hs_.blk Bb nb_r; replace Bh := hs_.blk Bh nh_r; replace HN := fun q hq => Nat.lt_of_lt_of_le (HN q hq) (hs_.bel 0 (Nat.zero_le _)).size; replace HB := hs_.below ger HB; replace Br := b_; clear b_ hs_; have Jb := wk.ca Bb; have Yb := wk.za Bb))
  refine bodyPost_ret (results_ct rfl _ _ gr 39 _ (0, 0) _ rfl Br Try.underlying39 rfl (by kernel_rfl)) rfl ?_
  exact ⟨s, rfl, R.mono (fun k hk => hk.1), HB⟩
/-! ### adv.Is: function 11 -/
def adv_Is.f (o : wk.O) : Bool := (adv_deed 0 o.kd).isSome
set_option maxHeartbeats 8000000 in
set_option maxRecDepth 100000 in
theorem adv_Is.calls (o : wk.O) (aq : Option Addr) (cq : Nat) (w : World) : Calls Try.prog 11 #[.agg #[.int .i64 o.kd, .int .i64 o.a, .int .i64 o.b, .int .i64 o.c, .int .i64 o.d, .slice aq o.ws.length cq]] w fun e w' => e = .returned (.bool (adv_Is.f o)) ∧ Below w.heap.size w w' := by
 have hu41 := Try.underlying41
 have HB := Below.refl w.heap.size w
 have HN : ∀ q ∈ ([] : List Nat), q < w.heap.size := fun q hq => by simp at hq
 rcases adv_find 0 o.kd with ⟨i_, n, fn, F, hd, hD, hFn, hfd⟩ | ⟨hd, hfd⟩
 ·
  have HFD := Aside0.mk hfd
  rw [show adv_Is.f o = true from by unfold adv_Is.f; rw [hd]; rfl]
  clear hfd hd hD hFn
  go_enter Try.func11, Try.ntmps11
  go_upto_region 1 with (first | ((with_reducible refine gate_dst (N := 1) rfl ?_); (try (refine gate_guard (by rfl) ?_; dsimp only)); refine box_event ?hg (N := 1) ?hd (cs := #[.int .i64 o.kd, .int .i64 o.a, .int .i64 o.b, .int .i64 o.c, .int .i64 o.d, .slice aq o.ws.length cq]) (t := 41) ?hr ?_; (case hd => rfl); (case hg => rfl); (case hr => first | (go_simp; done) | (go_simp; rfl)); intro gb hg_ W1_ Bb hb_; have geb : w.heap.size ≤ gb := (by rw [hg_]; exact HB.size); replace HN := wk.N_new HN hb_.size (blk_lt Bb); replace HB := HB.tr_ hb_; clear hb_ hg_; skip))
  refine start_ (n := 9) (S := fun w' => w'.heap[gb]? = some (.cells #[.int .i64 o.kd, .int .i64 o.a, .int .i64 o.b, .int .i64 o.c, .int .i64 o.d, .slice aq o.ws.length cq] 41 (0, 0)) ∧ True) (ds := []) #[Z,Z,Z,Z,Z,Z,Z,Z,Z] (by kernel_rfl) rfl rfl ⟨(blk_drew Bb), trivial⟩ (fun hHeld => ?_)
  obtain ⟨W2_, hw_⟩ : ∃ W_ : World, W_ = W1_.drew := ⟨_, rfl⟩
  rw [← hw_] at hHeld ⊢
  have hb_ : Below W1_.heap.size W1_ W2_ := by rw [hw_]; exact below_drew (Below.refl _ _)
  clear hw_
  replace Bb := blk_below Bb hb_
  replace HN := hN_ HN hb_.size
  replace HB := HB.tr_ hb_
  clear hb_
  refine pure_ (i := 1) (N := some 7) (v := ?_) (a' := ?_) #[Z,Y,Z,Z,Z,Z,Z,Z,Z] rfl rfl (by kernel_rfl) (fun _ _ _ h => h) (Or.inl ⟨by rfl, ?_⟩) ?_ ?_
  rotate_left
  ·
   intro w'
   go_simp
   with_reducible rfl
  rotate_left
  ·
   simp only [Act.put, List.setIfInBounds_toArray, List.set_cons_zero, List.set_cons_succ, i64_w, i32_w]
   rfl
  refine take_ (i := 2) (N := some 8) (v := ?_) (a' := ?_) #[Z,Y,Y,Z,Z,Z,Z,Z,Z] rfl rfl (by kernel_rfl) (fun _ _ _ h => h) (Or.inl ⟨by rfl, ?_⟩) hHeld ?_ ?_
  rotate_left
  ·
   rintro w' ⟨s0, s1⟩
   have qb_0 : w'.cell? ⟨gb, 0, none⟩ = some (.int .i64 o.kd) := (blk_cell s0 0).trans rfl
   clear s0
   go_simp
   with_reducible rfl
  rotate_left
  ·
   simp only [Act.put, List.setIfInBounds_toArray, List.set_cons_zero, List.set_cons_succ, i64_w, i32_w]
   rfl
  refine one_ (i := 0) (N := some 6) #[Y,Y,Y,Z,Z,Z,Z,Z,Z] rfl rfl (by kernel_rfl) (by decide) (fun K hK => ?_)
  refine goes_ Try.func21 (by kernel_rfl) rfl #[] (by rfl) rfl rfl mS_ ?_
  with_reducible refine (adv_deeds.calls _).mono ?_
  rintro e W3_ ⟨g0, rfl, geg, Bm, hb_⟩
  refine ⟨_, rfl, ?_⟩
  replace Bb := blk_below Bb hb_
  replace HN := hN_ HN hb_.size
  replace HB := HB.tr_ hb_
  clear hb_
  refine hK.out _ _ ⟨Bb, trivial⟩ (fun hHeld => ?_)
  clear hK K
  refine norm_ (a' := ?_) ?_ ?_
  rotate_left
  ·
   show Act.put _ (some 6) _ = _
   simp only [Act.put, List.setIfInBounds_toArray, List.set_cons_zero, List.set_cons_succ, i64_w, i32_w]
   rfl
  refine one_ (i := 3) (N := some 9) #[Y,Y,Y,Y,Z,Z,Z,Z,Z] rfl rfl (by kernel_rfl) (by decide) (fun K hK => ?_)
  refine event_step (by rfl) (v := .tuple #[.func (.func n) #[] #[], .bool true]) (w1 := W3_) ?hr_24 ?_
  case hr_24 => exact wk.look_run rfl (by rfl) (by rfl) Bm HFD.out
  clear Bm geg
  refine hK.out _ _ ⟨Bb, trivial⟩ (fun hHeld => ?_)
  clear hK K
  refine norm_ (a' := ?_) ?_ ?_
  rotate_left
  ·
   show Act.put _ (some 9) _ = _
   simp only [Act.put, List.setIfInBounds_toArray, List.set_cons_zero, List.set_cons_succ, i64_w, i32_w]
   rfl
  refine pure_ (i := 4) (N := some 5) (v := ?_) (a' := ?_) #[Y,Y,Y,Y,Y,Z,Z,Z,Z] rfl rfl (by kernel_rfl) (fun _ _ _ h => h) (Or.inl ⟨by rfl, ?_⟩) ?_ ?_
  rotate_left
  ·
   intro w'
   go_simp
   with_reducible rfl
  rotate_left
  ·
   simp only [Act.put, List.setIfInBounds_toArray, List.set_cons_zero, List.set_cons_succ, i64_w, i32_w]
   rfl
  refine pure_ (i := 5) (N := some 10) (v := ?_) (a' := ?_) #[Y,Y,Y,Y,Y,Y,Z,Z,Z] rfl rfl (by kernel_rfl) (fun _ _ _ h => h) (Or.inl ⟨by rfl, ?_⟩) ?_ ?_
  rotate_left
  ·
   intro w'
   go_simp
   with_reducible rfl
  rotate_left
  ·
   simp only [Act.put, List.setIfInBounds_toArray, List.set_cons_zero, List.set_cons_succ, i64_w, i32_w]
   rfl
  refine pure_ (i := 6) (N := some 11) (v := ?_) (a' := ?_) #[Y,Y,Y,Y,Y,Y,Y,Z,Z] rfl rfl (by kernel_rfl) (fun _ _ _ h => h) (Or.inl ⟨by rfl, ?_⟩) ?_ ?_
  rotate_left
  ·
   intro w'
   go_simp
   with_reducible rfl
  rotate_left
  ·
   simp only [Act.put, List.setIfInBounds_toArray, List.set_cons_zero, List.set_cons_succ, i64_w, i32_w]
   rfl
  refine pure_ (i := 7) (N := some 3) (v := ?_) (a' := ?_) #[Y,Y,Y,Y,Y,Y,Y,Y,Z] rfl rfl (by kernel_rfl) (fun _ _ _ h => h) (Or.inl ⟨by rfl, ?_⟩) ?_ ?_
  rotate_left
  ·
   intro w'
   go_simp
   with_reducible rfl
  rotate_left
  ·
   simp only [Act.put, List.setIfInBounds_toArray, List.set_cons_zero, List.set_cons_succ, i64_w, i32_w]
   rfl
  refine pure_ (i := 8) (N := some 4) (v := ?_) (a' := ?_) #[Y,Y,Y,Y,Y,Y,Y,Y,Y] rfl rfl (by kernel_rfl) (fun _ _ _ h => h) (Or.inl ⟨by rfl, ?_⟩) ?_ ?_
  rotate_left
  ·
   intro w'
   go_simp
   with_reducible rfl
  rotate_left
  ·
   simp only [Act.put, List.setIfInBounds_toArray, List.set_cons_zero, List.set_cons_succ, i64_w, i32_w]
   rfl
  refine done_ (by kernel_rfl) ?_
  try clear hHeld
  go_wp2
  go_ret
  exact ⟨rfl, HB⟩
 ·
  have HFD := Aside0.mk hfd
  rw [show adv_Is.f o = false from by unfold adv_Is.f; rw [hd]; rfl]
  clear hfd hd
  go_enter Try.func11, Try.ntmps11
  go_upto_region 1 with (first | ((with_reducible refine gate_dst (N := 1) rfl ?_); (try (refine gate_guard (by rfl) ?_; dsimp only)); refine box_event ?hg (N := 1) ?hd (cs := #[.int .i64 o.kd, .int .i64 o.a, .int .i64 o.b, .int .i64 o.c, .int .i64 o.d, .slice aq o.ws.length cq]) (t := 41) ?hr ?_; (case hd => rfl); (case hg => rfl); (case hr => first | (go_simp; done) | (go_simp; rfl)); intro gb hg_ W1_ Bb hb_; have geb : w.heap.size ≤ gb := (by rw [hg_]; exact HB.size); replace HN := wk.N_new HN hb_.size (blk_lt Bb); replace HB := HB.tr_ hb_; clear hb_ hg_; skip))
  refine start_ (n := 9) (S := fun w' => w'.heap[gb]? = some (.cells #[.int .i64 o.kd, .int .i64 o.a, .int .i64 o.b, .int .i64 o.c, .int .i64 o.d, .slice aq o.ws.length cq] 41 (0, 0)) ∧ True) (ds := []) #[Z,Z,Z,Z,Z,Z,Z,Z,Z] (by kernel_rfl) rfl rfl ⟨(blk_drew Bb), trivial⟩ (fun hHeld => ?_)
  obtain ⟨W2_, hw_⟩ : ∃ W_ : World, W_ = W1_.drew := ⟨_, rfl⟩
  rw [← hw_] at hHeld ⊢
  have hb_ : Below W1_.heap.size W1_ W2_ := by rw [hw_]; exact below_drew (Below.refl _ _)
  clear hw_
  replace Bb := blk_below Bb hb_
  replace HN := hN_ HN hb_.size
  replace HB := HB.tr_ hb_
  clear hb_
  refine pure_ (i := 1) (N := some 7) (v := ?_) (a' := ?_) #[Z,Y,Z,Z,Z,Z,Z,Z,Z] rfl rfl (by kernel_rfl) (fun _ _ _ h => h) (Or.inl ⟨by rfl, ?_⟩) ?_ ?_
  rotate_left
  ·
   intro w'
   go_simp
   with_reducible rfl
  rotate_left
  ·
   simp only [Act.put, List.setIfInBounds_toArray, List.set_cons_zero, List.set_cons_succ, i64_w, i32_w]
   rfl
  refine take_ (i := 2) (N := some 8) (v := ?_) (a' := ?_) #[Z,Y,Y,Z,Z,Z,Z,Z,Z] rfl rfl (by kernel_rfl) (fun _ _ _ h => h) (Or.inl ⟨by rfl, ?_⟩) hHeld ?_ ?_
  rotate_left
  ·
   rintro w' ⟨s0, s1⟩
   have qb_0 : w'.cell? ⟨gb, 0, none⟩ = some (.int .i64 o.kd) := (blk_cell s0 0).trans rfl
   clear s0
   go_simp
   with_reducible rfl
  rotate_left
  ·
   simp only [Act.put, List.setIfInBounds_toArray, List.set_cons_zero, List.set_cons_succ, i64_w, i32_w]
   rfl
  refine one_ (i := 0) (N := some 6) #[Y,Y,Y,Z,Z,Z,Z,Z,Z] rfl rfl (by kernel_rfl) (by decide) (fun K hK => ?_)
  refine goes_ Try.func21 (by kernel_rfl) rfl #[] (by rfl) rfl rfl mS_ ?_
  with_reducible refine (adv_deeds.calls _).mono ?_
  rintro e W3_ ⟨g0, rfl, geg, Bm, hb_⟩
  refine ⟨_, rfl, ?_⟩
  replace Bb := blk_below Bb hb_
  replace HN := hN_ HN hb_.size
  replace HB := HB.tr_ hb_
  clear hb_
  refine hK.out _ _ ⟨Bb, trivial⟩ (fun hHeld => ?_)
  clear hK K
  refine norm_ (a' := ?_) ?_ ?_
  rotate_left
  ·
   show Act.put _ (some 6) _ = _
   simp only [Act.put, List.setIfInBounds_toArray, List.set_cons_zero, List.set_cons_succ, i64_w, i32_w]
   rfl
  refine one_ (i := 3) (N := some 9) #[Y,Y,Y,Y,Z,Z,Z,Z,Z] rfl rfl (by kernel_rfl) (by decide) (fun K hK => ?_)
  refine event_step (by rfl) (v := .tuple #[.nilFunc, .bool false]) (w1 := W3_) ?hr_25 ?_
  case hr_25 => exact wk.look_run rfl (by rfl) (by rfl) Bm HFD.out
  clear Bm geg
  refine hK.out _ _ ⟨Bb, trivial⟩ (fun hHeld => ?_)
  clear hK K
  refine norm_ (a' := ?_) ?_ ?_
  rotate_left
  ·
   show Act.put _ (some 9) _ = _
   simp only [Act.put, List.setIfInBounds_toArray, List.set_cons_zero, List.set_cons_succ, i64_w, i32_w]
   rfl
  refine pure_ (i := 4) (N := some 5) (v := ?_) (a' := ?_) #[Y,Y,Y,Y,Y,Z,Z,Z,Z] rfl rfl (by kernel_rfl) (fun _ _ _ h => h) (Or.inl ⟨by rfl, ?_⟩) ?_ ?_
  rotate_left
  ·
   intro w'
   go_simp
   with_reducible rfl
  rotate_left
  ·
   simp only [Act.put, List.setIfInBounds_toArray, List.set_cons_zero, List.set_cons_succ, i64_w, i32_w]
   rfl
  refine pure_ (i := 5) (N := some 10) (v := ?_) (a' := ?_) #[Y,Y,Y,Y,Y,Y,Z,Z,Z] rfl rfl (by kernel_rfl) (fun _ _ _ h => h) (Or.inl ⟨by rfl, ?_⟩) ?_ ?_
  rotate_left
  ·
   intro w'
   go_simp
   with_reducible rfl
  rotate_left
  ·
   simp only [Act.put, List.setIfInBounds_toArray, List.set_cons_zero, List.set_cons_succ, i64_w, i32_w]
   rfl
  refine pure_ (i := 6) (N := some 11) (v := ?_) (a' := ?_) #[Y,Y,Y,Y,Y,Y,Y,Z,Z] rfl rfl (by kernel_rfl) (fun _ _ _ h => h) (Or.inl ⟨by rfl, ?_⟩) ?_ ?_
  rotate_left
  ·
   intro w'
   go_simp
   with_reducible rfl
  rotate_left
  ·
   simp only [Act.put, List.setIfInBounds_toArray, List.set_cons_zero, List.set_cons_succ, i64_w, i32_w]
   rfl
  refine pure_ (i := 7) (N := some 3) (v := ?_) (a' := ?_) #[Y,Y,Y,Y,Y,Y,Y,Y,Z] rfl rfl (by kernel_rfl) (fun _ _ _ h => h) (Or.inl ⟨by rfl, ?_⟩) ?_ ?_
  rotate_left
  ·
   intro w'
   go_simp
   with_reducible rfl
  rotate_left
  ·
   simp only [Act.put, List.setIfInBounds_toArray, List.set_cons_zero, List.set_cons_succ, i64_w, i32_w]
   rfl
  refine pure_ (i := 8) (N := some 4) (v := ?_) (a' := ?_) #[Y,Y,Y,Y,Y,Y,Y,Y,Y] rfl rfl (by kernel_rfl) (fun _ _ _ h => h) (Or.inl ⟨by rfl, ?_⟩) ?_ ?_
  rotate_left
  ·
   intro w'
   go_simp
   with_reducible rfl
  rotate_left
  ·
   simp only [Act.put, List.setIfInBounds_toArray, List.set_cons_zero, List.set_cons_succ, i64_w, i32_w]
   rfl
  refine done_ (by kernel_rfl) ?_
  try clear hHeld
  go_wp2
  go_ret
  exact ⟨rfl, HB⟩

end Go.Proofs.Ythlcpbendleihaa.PAdvAlone
