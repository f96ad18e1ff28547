/- The law AdvAlone of the adversary's layer, walked by hand: text 6. -/
import Derived.Test.YthlcpbendleihaaAAdvAlone5
namespace Go.Proofs.Ythlcpbendleihaa.PAdvAlone
open Go Go.RowKit Go.Proofs.YthlcpbendleihaaW.PrintWords Go.Proofs.YthlcpbendleihaaW.PrintLast Go.Proofs.YthlcpbendleihaaW.PrintMore
set_option linter.unusedVariables false
set_option linter.unusedSimpArgs false
/-! ### (*hand).leak: function 54 -/
def adv_leak.f (k : Nat) (x : wk.X) (o : wk.O) : Option (List Int × Int × wk.X) := if o.b < 0 then some ([], 1, x) else if o.b < (x.lo.length : Int) then (if (rd_T83 x.lo o.b).f0 = 2 then (desk_Person.f x (rd_T83 x.lo o.b).f4).bind fun p => (api_Leak_70.f k [x.le, [⟨(rd_T83 x.lo o.b).f5, p.f2⟩]]).bind fun l => some ([(rd_T83 x.lo o.b).f5], 0, { x with le := l }) else some ([], 1, x)) else some ([], 1, x)
set_option maxHeartbeats 8000000 in
set_option maxRecDepth 100000 in
theorem adv_leak.calls (k : Nat) : wk.Deed 54 (adv_leak.f k) := by
 intro x s o aq cq gh P w l e y Bh R VW hP h
 have hu39 := Try.underlying39
 have hu41 := Try.underlying41
 have hu68 := Try.underlying68
 have hu34 := Try.underlying34
 have hu30 := Try.underlying30
 have ghl := blk_lt Bh
 have HH : ∀ k, (P k ∨ w.heap.size ≤ k) → k ≠ gh := fun k hk => hk.elim (hP k) (fun q => by omega)
 have HB : wk.Kb gh w w := wk.Kb.of (Below.refl w.heap.size w)
 have HN : ∀ q ∈ ([] : List Nat), q < w.heap.size := fun q hq => by simp at hq
 replace R := R.start w.heap.size
 replace VW := wk.V_start w.heap.size VW
 unfold wk.hc at Bh
 unfold adv_leak.f at h
 have hu55 := Try.underlying55
 have hu83 := Try.underlying83
 by_cases c1 : o.b < 0
 ·
  rw [if_pos c1] at h
  simp only [Option.some.injEq, Prod.mk.injEq] at h
  obtain ⟨rfl, rfl, rfl⟩ := h
  have c1b : decide (o.b < 0) = true := decide_eq_true (by omega)
  clear c1
  have kh_20 : w.cell? ⟨gh, 20, none⟩ = some (.int .i64 o.b) := (blk_cell Bh 20).trans rfl
  have zh_20 := blk_frozen Bh 20
  have kh_15 : w.cell? ⟨gh, 15, none⟩ = some (.slice s.a15 x.lo.length s.c15) := (blk_cell Bh 15).trans rfl
  have zh_15 := blk_frozen Bh 15
  go_enter Try.func54, Try.ntmps54
  go_wp2
  repeat (go_quiet (fail); try go_wp2)
  go_ret2
  exact wk.outd none 0 s Bh (Kd.V_nil _ _ _ _ _) R HB bR_
 rw [if_neg c1] at h
 by_cases c2 : o.b < (x.lo.length : Int)
 ·
  rw [if_pos c2] at h
  have c1b : decide (o.b < 0) = false := decide_eq_false (by omega)
  have c2b : decide ((x.lo.length : Int) ≤ o.b) = false := decide_eq_false (by omega)
  have c2c : decide (o.b < (x.lo.length : Int)) = true := decide_eq_true c2
  obtain ⟨ad, ee, hx0, EX⟩ := wk.ev_get R.r15 o.b (by omega) c2
  have HE := Aside0.mk ee
  have p1 : (0 ≤ o.b) = True := eq_true (by omega)
  have q1 : (o.b < (x.lo.length : Int)) = True := eq_true c2
  clear c1 c2 ee
  obtain ⟨ev, hev⟩ : ∃ e_, e_ = rd_T83 x.lo o.b := ⟨_, rfl⟩
  rw [← hev] at h hx0 EX
  clear hev
  by_cases c3 : ev.f0 = 2
  ·
   rw [if_pos c3] at h
   have c3b : (ev.f0 == 2) = true := beq_iff_eq.mpr c3
   have c3c : (ev.f0 != 2) = false := bne_eq_false_iff_eq.mpr c3
   clear c3
   obtain ⟨p, h1, h⟩ := Option.bind_eq_some_iff.mp h
   obtain ⟨z, h2, h3⟩ := Option.bind_eq_some_iff.mp h
   clear h
   simp only [Option.some.injEq, Prod.mk.injEq] at h3
   obtain ⟨rfl, rfl, rfl⟩ := h3
   obtain ⟨ym, hym⟩ : ∃ y_ : List S85, y_ = [⟨ev.f5, p.f2⟩] := ⟨_, rfl⟩
   rw [← hym] at h2
   have Hm := Aside0.mk hym
   clear hym
   obtain ⟨yr, hyr⟩ : ∃ y_ : List (List S85), y_ = [x.le, ym] := ⟨_, rfl⟩
   rw [← hyr] at h2
   have Hr := Aside0.mk hyr
   clear hyr
   obtain ⟨yn, hyn⟩ : ∃ y_ : List Int, y_ = [ev.f5] := ⟨_, rfl⟩
   rw [← hyn]
   have Hn := Aside0.mk hyn
   clear hyn
   have HF := wk.field2 p
   have kh_20 : w.cell? ⟨gh, 20, none⟩ = some (.int .i64 o.b) := (blk_cell Bh 20).trans rfl
   have zh_20 := blk_frozen Bh 20
   have kh_15 : w.cell? ⟨gh, 15, none⟩ = some (.slice (some ad) x.lo.length s.c15) := (blk_cell Bh 15).trans (by rw [← HE.out]; rfl)
   have zh_15 := blk_frozen Bh 15
   go_enter Try.func54, Try.ntmps54
   go_upto_region 3 with (fail)
   go_quiet (fail)
   go_upto_region 3 with (fail)
   clear kh_20 zh_20
   clear kh_15 zh_15
   refine wk.at_drawnC (W := w) bR_ ?_
   intro W1_ hq_
   replace R := R.below hq_
   replace VW := Kd.V_below VW hq_
   replace EX := (fun j u h => wk.cellb (EX j u h) hq_)
   replace Bh := blk_below Bh hq_
   replace HN := fun q hq => Nat.lt_of_lt_of_le (HN q hq) hq_.size
   replace HB := HB.trans (hq_.mono HB.size)
   clear hq_
   refine start_ (n := 14) (S := fun w' => w'.heap[gh]? = some (.cells #[.int .u32 x.c0, .int .i64 x.c1, .int .i64 x.c2, .int .i64 x.c3, .int .i64 x.c4, .int .i64 x.c5, .int .i64 x.c6, .slice s.a7 x.dl.length s.c7, .int .i64 x.dn, .int .i64 x.br, .slice s.a10 x.bs.length s.c10, .int .i64 x.nr, .slice s.a12 x.ng.length s.c12, .slice s.a13 x.ns.length s.c13, .slice s.a14 x.pe.length s.c14, .slice s.a15 x.lo.length s.c15, .slice s.a16 x.re.length s.c16, .slice s.a17 x.le.length s.c17, .int .i64 o.kd, .int .i64 o.a, .int .i64 o.b, .int .i64 o.c, .int .i64 o.d, .slice aq o.ws.length cq, .int .u32 x.c0, .int .i64 x.c1, .int .i64 x.c2, .int .i64 x.c3, .int .i64 x.c4, .int .i64 x.c5, .int .i64 x.c6, .slice s.a7 x.dl.length s.c7, .int .i64 x.dn, .int .i64 x.br, .slice s.a10 x.bs.length s.c10, .int .i64 x.nr, .slice s.a12 x.ng.length s.c12, .slice s.a13 x.ns.length s.c13, .slice s.a14 x.pe.length s.c14, .slice s.a15 x.lo.length s.c15, .slice s.a16 x.re.length s.c16, .slice s.a17 x.le.length s.c17] 68 (0, 0)) ∧ (∀ j u, (wk.ec ev).toList[j]? = some u → w'.cell? ((ad.add (o.b.toNat * 10)).add j) = some u) ∧ True) (ds := [13]) #[Z,Z,Z,Z,Z,Z,Z,Z,Z,Z,Z,Z,Z,Z] (by kernel_rfl) rfl rfl ⟨(blk_drew Bh), (fun j u h => wk.cellb (EX j u h) (below_drew (Below.refl _ _))), trivial⟩ (fun hHeld => ?_)
   obtain ⟨W2_, hw_⟩ : ∃ W_ : World, W_ = W1_.drew := ⟨_, rfl⟩
   rw [← hw_] at hHeld ⊢
   have hb_ : Below W1_.heap.size W1_ W2_ := by rw [hw_]; exact below_drew (Below.refl _ _)
   clear hw_
   replace R := R.below hb_
   replace VW := Kd.V_below VW hb_
   replace EX := (fun j u h => wk.cellb (EX j u h) hb_)
   replace Bh := blk_below Bh hb_
   replace HN := hN_ HN hb_.size
   replace HB := HB.tr_ hb_
   clear hb_
   refine pure_ (i := 0) (N := some 41) (v := ?_) (a' := ?_) #[Y,Z,Z,Z,Z,Z,Z,Z,Z,Z,Z,Z,Z,Z] rfl rfl (by kernel_rfl) (fun _ _ _ h => h) (Or.inl ⟨by rfl, ?_⟩) ?_ ?_
   rotate_left
   ·
    intro w'
    go_simp
    with_reducible rfl
   rotate_left
   ·
    simp only [Act.put, List.setIfInBounds_toArray, List.set_cons_zero, List.set_cons_succ, i64_w, i32_w]
    rfl
   refine pure_ (i := 1) (N := some 42) (v := ?_) (a' := ?_) #[Y,Y,Z,Z,Z,Z,Z,Z,Z,Z,Z,Z,Z,Z] rfl rfl (by kernel_rfl) (fun _ _ _ h => h) (Or.inl ⟨by rfl, ?_⟩) ?_ ?_
   rotate_left
   ·
    intro w'
    go_simp
    with_reducible rfl
   rotate_left
   ·
    simp only [Act.put, List.setIfInBounds_toArray, List.set_cons_zero, List.set_cons_succ, i64_w, i32_w]
    rfl
   refine pure_ (i := 2) (N := some 43) (v := ?_) (a' := ?_) #[Y,Y,Y,Z,Z,Z,Z,Z,Z,Z,Z,Z,Z,Z] rfl rfl (by kernel_rfl) (fun _ _ _ h => h) (Or.inl ⟨by rfl, ?_⟩) ?_ ?_
   rotate_left
   ·
    intro w'
    go_simp
    with_reducible rfl
   rotate_left
   ·
    simp only [Act.put, List.setIfInBounds_toArray, List.set_cons_zero, List.set_cons_succ, i64_w, i32_w]
    rfl
   refine pure_ (i := 3) (N := some 44) (v := ?_) (a' := ?_) #[Y,Y,Y,Y,Z,Z,Z,Z,Z,Z,Z,Z,Z,Z] rfl rfl (by kernel_rfl) (fun _ _ _ h => h) (Or.inl ⟨by rfl, ?_⟩) ?_ ?_
   rotate_left
   ·
    intro w'
    go_simp
    with_reducible rfl
   rotate_left
   ·
    simp only [Act.put, List.setIfInBounds_toArray, List.set_cons_zero, List.set_cons_succ, i64_w, i32_w]
    rfl
   refine take_ (i := 4) (N := some 45) (v := ?_) (a' := ?_) #[Y,Y,Y,Y,Y,Z,Z,Z,Z,Z,Z,Z,Z,Z] rfl rfl (by kernel_rfl) (fun _ _ _ h => h) (Or.inl ⟨by rfl, ?_⟩) hHeld ?_ ?_
   rotate_left
   ·
    rintro w' ⟨s0, s1, s2⟩
    have qh_20 : w'.cell? ⟨gh, 20, none⟩ = some (.int .i64 o.b) := (blk_cell s0 20).trans rfl
    have qh_15 : w'.cell? ⟨gh, 15, none⟩ = some (.slice (some ad) x.lo.length s.c15) := (blk_cell s0 15).trans (by rw [← HE.out]; rfl)
    clear s0
    go_simp
    with_reducible rfl
   rotate_left
   ·
    simp only [Act.put, List.setIfInBounds_toArray, List.set_cons_zero, List.set_cons_succ, i64_w, i32_w]
    rfl
   refine pure_ (i := 5) (N := some 46) (v := ?_) (a' := ?_) #[Y,Y,Y,Y,Y,Y,Z,Z,Z,Z,Z,Z,Z,Z] rfl rfl (by kernel_rfl) (fun _ _ _ h => h) (Or.inl ⟨by rfl, ?_⟩) ?_ ?_
   rotate_left
   ·
    intro w'
    go_simp
    with_reducible rfl
   rotate_left
   ·
    simp only [Act.put, List.setIfInBounds_toArray, List.set_cons_zero, List.set_cons_succ, i64_w, i32_w]
    rfl
   refine pure_ (i := 6) (N := some 47) (v := ?_) (a' := ?_) #[Y,Y,Y,Y,Y,Y,Y,Z,Z,Z,Z,Z,Z,Z] rfl rfl (by kernel_rfl) (fun _ _ _ h => h) (Or.inl ⟨by rfl, ?_⟩) ?_ ?_
   rotate_left
   ·
    intro w'
    go_simp
    with_reducible rfl
   rotate_left
   ·
    simp only [Act.put, List.setIfInBounds_toArray, List.set_cons_zero, List.set_cons_succ, i64_w, i32_w]
    rfl
   refine pure_ (i := 7) (N := some 48) (v := ?_) (a' := ?_) #[Y,Y,Y,Y,Y,Y,Y,Y,Z,Z,Z,Z,Z,Z] rfl rfl (by kernel_rfl) (fun _ _ _ h => h) (Or.inl ⟨by rfl, ?_⟩) ?_ ?_
   rotate_left
   ·
    intro w'
    go_simp
    with_reducible rfl
   rotate_left
   ·
    simp only [Act.put, List.setIfInBounds_toArray, List.set_cons_zero, List.set_cons_succ, i64_w, i32_w]
    rfl
   refine pure_ (i := 8) (N := some 49) (v := ?_) (a' := ?_) #[Y,Y,Y,Y,Y,Y,Y,Y,Y,Z,Z,Z,Z,Z] rfl rfl (by kernel_rfl) (fun _ _ _ h => h) (Or.inl ⟨by rfl, ?_⟩) ?_ ?_
   rotate_left
   ·
    intro w'
    go_simp
    with_reducible rfl
   rotate_left
   ·
    simp only [Act.put, List.setIfInBounds_toArray, List.set_cons_zero, List.set_cons_succ, i64_w, i32_w]
    rfl
   refine take_ (i := 9) (N := some 50) (v := ?_) (a' := ?_) #[Y,Y,Y,Y,Y,Y,Y,Y,Y,Y,Z,Z,Z,Z] rfl rfl (by kernel_rfl) (fun _ _ _ h => h) (Or.inl ⟨by rfl, ?_⟩) hHeld ?_ ?_
   rotate_left
   ·
    rintro w' ⟨s0, s1, s2⟩
    have qh_20 : w'.cell? ⟨gh, 20, none⟩ = some (.int .i64 o.b) := (blk_cell s0 20).trans rfl
    have qh_15 : w'.cell? ⟨gh, 15, none⟩ = some (.slice (some ad) x.lo.length s.c15) := (blk_cell s0 15).trans (by rw [← HE.out]; rfl)
    clear s0
    go_simp
    with_reducible rfl
   rotate_left
   ·
    simp only [Act.put, List.setIfInBounds_toArray, List.set_cons_zero, List.set_cons_succ, i64_w, i32_w]
    rfl
   refine pure_ (i := 10) (N := some 51) (v := ?_) (a' := ?_) #[Y,Y,Y,Y,Y,Y,Y,Y,Y,Y,Y,Z,Z,Z] rfl rfl (by kernel_rfl) (fun _ _ _ h => h) (Or.inl ⟨by rfl, ?_⟩) ?_ ?_
   rotate_left
   ·
    intro w'
    go_simp
    with_reducible rfl
   rotate_left
   ·
    simp only [Act.put, List.setIfInBounds_toArray, List.set_cons_zero, List.set_cons_succ, i64_w, i32_w]
    rfl
   refine take_ (i := 11) (N := some 52) (v := ?_) (a' := ?_) #[Y,Y,Y,Y,Y,Y,Y,Y,Y,Y,Y,Y,Z,Z] rfl rfl (by kernel_rfl) (fun _ _ _ h => h) (Or.inl ⟨by rfl, ?_⟩) hHeld ?_ ?_
   rotate_left
   ·
    rintro w' ⟨s0, s1, s2⟩
    refine wk.load_cells (t := 83) (x := .tmp 51) (A := ad.add (o.b.toNat * 10)) (cells := wk.ec ev) ?ho_12 ?hx_12 s1 Try.underlying83 rfl ?hi_12
    case ho_12 => rfl
    case hx_12 => first | rfl | (go_simp; done)
    case hi_12 => kernel_rfl
   rotate_left
   ·
    simp only [Act.put, List.setIfInBounds_toArray, List.set_cons_zero, List.set_cons_succ, i64_w, i32_w]
    rfl
   refine one_ (i := 12) (N := some 4) #[Y,Y,Y,Y,Y,Y,Y,Y,Y,Y,Y,Y,Y,Z] rfl rfl (by kernel_rfl) (by decide) (fun K hK => ?_)
   refine box_step (by rfl) (N := 4) rfl (cs := #[.int .i64 0, .int .i64 0, .int .i64 0, .int .u32 0, .int .u32 0, .int .u32 0, .int .u32 0, .int .u32 0, .int .u32 0, .int .u32 0]) (t := 83) ?hr_13 ?_
   case hr_13 => first | (go_simp; done) | (go_simp; rfl)
   intro gv hg_ W3_ Bv hb_
   have gev : w.heap.size ≤ gv := (by rw [hg_]; exact HB.size)
   have nh_v : gh ≠ gv := (by rw [hg_]; exact Nat.ne_of_lt (blk_lt Bh))
   have nv_h : gv ≠ gh := nh_v.symm
   replace R := (R.fresh hg_).below hb_
   replace VW := Kd.V_below (wk.V_fresh VW hg_) hb_
   replace EX := (fun j u h => wk.cellb ((EX) j u h) hb_)
   replace Bh := blk_below Bh hb_
   replace HN := wk.N_new HN hb_.size (blk_lt Bv)
   replace HB := HB.tr_ hb_
   clear hb_ hg_
   refine hK.out _ _ ⟨Bh, EX, trivial⟩ (fun hHeld => ?_)
   clear hK K
   refine norm_ (a' := ?_) ?_ ?_
   rotate_left
   ·
    show Act.put _ (some 4) _ = _
    simp only [Act.put, List.setIfInBounds_toArray, List.set_cons_zero, List.set_cons_succ, i64_w, i32_w]
    rfl
   refine last_ (i := 13) (N := none) #[Y,Y,Y,Y,Y,Y,Y,Y,Y,Y,Y,Y,Y,Y] rfl rfl (by kernel_rfl) (by decide) (fun K hK => ?_)
   refine wk.put_step (by rfl) rfl rfl (cells := #[.int .i64 ev.f0, .int .i64 ev.f1, .int .i64 ev.f2, .int .u32 ev.f3, .int .u32 ev.f4, .int .u32 ev.f5, .int .u32 ev.f6, .int .u32 ev.f7, .int .u32 ev.f8, .int .u32 ev.f9]) ?hx_14 ?hy_14 Bv ?hi_14 ?hs_14 ?h1_14 ?_
   case hx_14 => first | rfl | (go_simp; done)
   case hy_14 => first | rfl | (go_simp; done)
   case hi_14 => kernel_rfl
   case hs_14 => first | rfl | simp
   case h1_14 => simp [Value.oneCell']
   intro W4_ b_ hs_
   replace R := R.st hs_ (fun k hk => hk.ne (by simp))
   replace VW := wk.V_st VW hs_ (fun k hk => hk.ne (by simp))
   replace EX := EX
   replace Bh := hs_.blk Bh nh_v
   replace HN := fun q hq => Nat.lt_of_lt_of_le (HN q hq) (hs_.bel 0 (Nat.zero_le _)).size
   replace HB := HB.stn hs_ gev
   replace Bv := b_
   clear b_ hs_
   refine hK.out _ _ ?_
   clear hK K
   refine done_ (by kernel_rfl) ?_
   try clear hHeld
   clear EX hx0
   go_upto_region 4 with (fail)
   refine start_ (n := 24) (S := fun w' => w'.heap[gh]? = some (.cells #[.int .u32 x.c0, .int .i64 x.c1, .int .i64 x.c2, .int .i64 x.c3, .int .i64 x.c4, .int .i64 x.c5, .int .i64 x.c6, .slice s.a7 x.dl.length s.c7, .int .i64 x.dn, .int .i64 x.br, .slice s.a10 x.bs.length s.c10, .int .i64 x.nr, .slice s.a12 x.ng.length s.c12, .slice s.a13 x.ns.length s.c13, .slice s.a14 x.pe.length s.c14, .slice s.a15 x.lo.length s.c15, .slice s.a16 x.re.length s.c16, .slice s.a17 x.le.length s.c17, .int .i64 o.kd, .int .i64 o.a, .int .i64 o.b, .int .i64 o.c, .int .i64 o.d, .slice aq o.ws.length cq, .int .u32 x.c0, .int .i64 x.c1, .int .i64 x.c2, .int .i64 x.c3, .int .i64 x.c4, .int .i64 x.c5, .int .i64 x.c6, .slice s.a7 x.dl.length s.c7, .int .i64 x.dn, .int .i64 x.br, .slice s.a10 x.bs.length s.c10, .int .i64 x.nr, .slice s.a12 x.ng.length s.c12, .slice s.a13 x.ns.length s.c13, .slice s.a14 x.pe.length s.c14, .slice s.a15 x.lo.length s.c15, .slice s.a16 x.re.length s.c16, .slice s.a17 x.le.length s.c17] 68 (0, 0)) ∧ w'.heap[gv]? = some (.cells #[.int .i64 ev.f0, .int .i64 ev.f1, .int .i64 ev.f2, .int .u32 ev.f3, .int .u32 ev.f4, .int .u32 ev.f5, .int .u32 ev.f6, .int .u32 ev.f7, .int .u32 ev.f8, .int .u32 ev.f9] 83 (0, 0)) ∧ True) (ds := [23]) #[Z,Z,Z,Z,Z,Z,Z,Z,Z,Z,Z,Z,Z,Z,Z,Z,Z,Z,Z,Z,Z,Z,Z,Z] (by kernel_rfl) rfl rfl ⟨(blk_drew Bh), (blk_drew Bv), trivial⟩ (fun hHeld => ?_)
   obtain ⟨W5_, hw_⟩ : ∃ W_ : World, W_ = W4_.drew := ⟨_, rfl⟩
   rw [← hw_] at hHeld ⊢
   have hb_ : Below W4_.heap.size W4_ W5_ := by rw [hw_]; exact below_drew (Below.refl _ _)
   clear hw_
   replace R := R.below hb_
   replace VW := Kd.V_below VW hb_
   replace Bh := blk_below Bh hb_
   replace Bv := blk_below Bv hb_
   replace HN := hN_ HN hb_.size
   replace HB := HB.tr_ hb_
   clear hb_
   refine pure_ (i := 0) (N := some 53) (v := ?_) (a' := ?_) #[Y,Z,Z,Z,Z,Z,Z,Z,Z,Z,Z,Z,Z,Z,Z,Z,Z,Z,Z,Z,Z,Z,Z,Z] rfl rfl (by kernel_rfl) (fun _ _ _ h => h) (Or.inl ⟨by rfl, ?_⟩) ?_ ?_
   rotate_left
   ·
    intro w'
    go_simp
    with_reducible rfl
   rotate_left
   ·
    simp only [Act.put, List.setIfInBounds_toArray, List.set_cons_zero, List.set_cons_succ, i64_w, i32_w]
    rfl
   refine pure_ (i := 1) (N := some 54) (v := ?_) (a' := ?_) #[Y,Y,Z,Z,Z,Z,Z,Z,Z,Z,Z,Z,Z,Z,Z,Z,Z,Z,Z,Z,Z,Z,Z,Z] rfl rfl (by kernel_rfl) (fun _ _ _ h => h) (Or.inl ⟨by rfl, ?_⟩) ?_ ?_
   rotate_left
   ·
    intro w'
    go_simp
    with_reducible rfl
   rotate_left
   ·
    simp only [Act.put, List.setIfInBounds_toArray, List.set_cons_zero, List.set_cons_succ, i64_w, i32_w]
    rfl
   refine pure_ (i := 2) (N := some 55) (v := ?_) (a' := ?_) #[Y,Y,Y,Z,Z,Z,Z,Z,Z,Z,Z,Z,Z,Z,Z,Z,Z,Z,Z,Z,Z,Z,Z,Z] rfl rfl (by kernel_rfl) (fun _ _ _ h => h) (Or.inl ⟨by rfl, ?_⟩) ?_ ?_
   rotate_left
   ·
    intro w'
    go_simp
    with_reducible rfl
   rotate_left
   ·
    simp only [Act.put, List.setIfInBounds_toArray, List.set_cons_zero, List.set_cons_succ, i64_w, i32_w]
    rfl
   refine pure_ (i := 3) (N := some 56) (v := ?_) (a' := ?_) #[Y,Y,Y,Y,Z,Z,Z,Z,Z,Z,Z,Z,Z,Z,Z,Z,Z,Z,Z,Z,Z,Z,Z,Z] rfl rfl (by kernel_rfl) (fun _ _ _ h => h) (Or.inl ⟨by rfl, ?_⟩) ?_ ?_
   rotate_left
   ·
    intro w'
    go_simp
    with_reducible rfl
   rotate_left
   ·
    simp only [Act.put, List.setIfInBounds_toArray, List.set_cons_zero, List.set_cons_succ, i64_w, i32_w]
    rfl
   refine pure_ (i := 4) (N := some 57) (v := ?_) (a' := ?_) #[Y,Y,Y,Y,Y,Z,Z,Z,Z,Z,Z,Z,Z,Z,Z,Z,Z,Z,Z,Z,Z,Z,Z,Z] rfl rfl (by kernel_rfl) (fun _ _ _ h => h) (Or.inl ⟨by rfl, ?_⟩) ?_ ?_
   rotate_left
   ·
    intro w'
    go_simp
    with_reducible rfl
   rotate_left
   ·
    simp only [Act.put, List.setIfInBounds_toArray, List.set_cons_zero, List.set_cons_succ, i64_w, i32_w]
    rfl
   refine take_ (i := 5) (N := some 58) (v := ?_) (a' := ?_) #[Y,Y,Y,Y,Y,Y,Z,Z,Z,Z,Z,Z,Z,Z,Z,Z,Z,Z,Z,Z,Z,Z,Z,Z] rfl rfl (by kernel_rfl) (fun _ _ _ h => h) (Or.inl ⟨by rfl, ?_⟩) hHeld ?_ ?_
   rotate_left
   ·
    rintro w' ⟨s0, s1, s2⟩
    have qh_17 : w'.cell? ⟨gh, 17, none⟩ = some (.slice s.a17 x.le.length s.c17) := (blk_cell s0 17).trans rfl
    have qv_5 : w'.cell? ⟨gv, 5, none⟩ = some (.int .u32 ev.f5) := (blk_cell s1 5).trans rfl
    have qv_4 : w'.cell? ⟨gv, 4, none⟩ = some (.int .u32 ev.f4) := (blk_cell s1 4).trans rfl
    clear s0 s1
    go_simp
    with_reducible rfl
   rotate_left
   ·
    simp only [Act.put, List.setIfInBounds_toArray, List.set_cons_zero, List.set_cons_succ, i64_w, i32_w]
    rfl
   refine pure_ (i := 6) (N := some 59) (v := ?_) (a' := ?_) #[Y,Y,Y,Y,Y,Y,Y,Z,Z,Z,Z,Z,Z,Z,Z,Z,Z,Z,Z,Z,Z,Z,Z,Z] rfl rfl (by kernel_rfl) (fun _ _ _ h => h) (Or.inl ⟨by rfl, ?_⟩) ?_ ?_
   rotate_left
   ·
    intro w'
    go_simp
    with_reducible rfl
   rotate_left
   ·
    simp only [Act.put, List.setIfInBounds_toArray, List.set_cons_zero, List.set_cons_succ, i64_w, i32_w]
    rfl
   refine take_ (i := 7) (N := some 60) (v := ?_) (a' := ?_) #[Y,Y,Y,Y,Y,Y,Y,Y,Z,Z,Z,Z,Z,Z,Z,Z,Z,Z,Z,Z,Z,Z,Z,Z] rfl rfl (by kernel_rfl) (fun _ _ _ h => h) (Or.inl ⟨by rfl, ?_⟩) hHeld ?_ ?_
   rotate_left
   ·
    rintro w' ⟨s0, s1, s2⟩
    have qh_17 : w'.cell? ⟨gh, 17, none⟩ = some (.slice s.a17 x.le.length s.c17) := (blk_cell s0 17).trans rfl
    have qv_5 : w'.cell? ⟨gv, 5, none⟩ = some (.int .u32 ev.f5) := (blk_cell s1 5).trans rfl
    have qv_4 : w'.cell? ⟨gv, 4, none⟩ = some (.int .u32 ev.f4) := (blk_cell s1 4).trans rfl
    clear s0 s1
    go_simp
    with_reducible rfl
   rotate_left
   ·
    simp only [Act.put, List.setIfInBounds_toArray, List.set_cons_zero, List.set_cons_succ, i64_w, i32_w]
    rfl
   refine pure_ (i := 8) (N := some 61) (v := ?_) (a' := ?_) #[Y,Y,Y,Y,Y,Y,Y,Y,Y,Z,Z,Z,Z,Z,Z,Z,Z,Z,Z,Z,Z,Z,Z,Z] rfl rfl (by kernel_rfl) (fun _ _ _ h => h) (Or.inl ⟨by rfl, ?_⟩) ?_ ?_
   rotate_left
   ·
    intro w'
    go_simp
    with_reducible rfl
   rotate_left
   ·
    simp only [Act.put, List.setIfInBounds_toArray, List.set_cons_zero, List.set_cons_succ, i64_w, i32_w]
    rfl
   refine pure_ (i := 9) (N := some 62) (v := ?_) (a' := ?_) #[Y,Y,Y,Y,Y,Y,Y,Y,Y,Y,Z,Z,Z,Z,Z,Z,Z,Z,Z,Z,Z,Z,Z,Z] rfl rfl (by kernel_rfl) (fun _ _ _ h => h) (Or.inl ⟨by rfl, ?_⟩) ?_ ?_
   rotate_left
   ·
    intro w'
    go_simp
    with_reducible rfl
   rotate_left
   ·
    simp only [Act.put, List.setIfInBounds_toArray, List.set_cons_zero, List.set_cons_succ, i64_w, i32_w]
    rfl
   refine pure_ (i := 10) (N := some 63) (v := ?_) (a' := ?_) #[Y,Y,Y,Y,Y,Y,Y,Y,Y,Y,Y,Z,Z,Z,Z,Z,Z,Z,Z,Z,Z,Z,Z,Z] rfl rfl (by kernel_rfl) (fun _ _ _ h => h) (Or.inl ⟨by rfl, ?_⟩) ?_ ?_
   rotate_left
   ·
    intro w'
    go_simp
    with_reducible rfl
   rotate_left
   ·
    simp only [Act.put, List.setIfInBounds_toArray, List.set_cons_zero, List.set_cons_succ, i64_w, i32_w]
    rfl
   refine take_ (i := 11) (N := some 64) (v := ?_) (a' := ?_) #[Y,Y,Y,Y,Y,Y,Y,Y,Y,Y,Y,Y,Z,Z,Z,Z,Z,Z,Z,Z,Z,Z,Z,Z] rfl rfl (by kernel_rfl) (fun _ _ _ h => h) (Or.inl ⟨by rfl, ?_⟩) hHeld ?_ ?_
   rotate_left
   ·
    rintro w' ⟨s0, s1, s2⟩
    refine wk.load_at (t := 39) (x := .tmp 63) (off := 0) (cells := #[.int .u32 x.c0, .int .i64 x.c1, .int .i64 x.c2, .int .i64 x.c3, .int .i64 x.c4, .int .i64 x.c5, .int .i64 x.c6, .slice s.a7 x.dl.length s.c7, .int .i64 x.dn, .int .i64 x.br, .slice s.a10 x.bs.length s.c10, .int .i64 x.nr, .slice s.a12 x.ng.length s.c12, .slice s.a13 x.ns.length s.c13, .slice s.a14 x.pe.length s.c14, .slice s.a15 x.lo.length s.c15, .slice s.a16 x.re.length s.c16, .slice s.a17 x.le.length s.c17]) ?ho_15 ?hx_15 s0 Try.underlying39 rfl ?hi_15 ?hn_15
    case ho_15 => rfl
    case hx_15 => first | rfl | (go_simp; done)
    case hi_15 => kernel_rfl
    case hn_15 => kernel_rfl
   rotate_left
   ·
    simp only [Act.put, List.setIfInBounds_toArray, List.set_cons_zero, List.set_cons_succ, i64_w, i32_w]
    rfl
   refine pure_ (i := 12) (N := some 65) (v := ?_) (a' := ?_) #[Y,Y,Y,Y,Y,Y,Y,Y,Y,Y,Y,Y,Y,Z,Z,Z,Z,Z,Z,Z,Z,Z,Z,Z] rfl rfl (by kernel_rfl) (fun _ _ _ h => h) (Or.inl ⟨by rfl, ?_⟩) ?_ ?_
   rotate_left
   ·
    intro w'
    go_simp
    with_reducible rfl
   rotate_left
   ·
    simp only [Act.put, List.setIfInBounds_toArray, List.set_cons_zero, List.set_cons_succ, i64_w, i32_w]
    rfl
   refine take_ (i := 13) (N := some 66) (v := ?_) (a' := ?_) #[Y,Y,Y,Y,Y,Y,Y,Y,Y,Y,Y,Y,Y,Y,Z,Z,Z,Z,Z,Z,Z,Z,Z,Z] rfl rfl (by kernel_rfl) (fun _ _ _ h => h) (Or.inl ⟨by rfl, ?_⟩) hHeld ?_ ?_
   rotate_left
   ·
    rintro w' ⟨s0, s1, s2⟩
    have qh_17 : w'.cell? ⟨gh, 17, none⟩ = some (.slice s.a17 x.le.length s.c17) := (blk_cell s0 17).trans rfl
    have qv_5 : w'.cell? ⟨gv, 5, none⟩ = some (.int .u32 ev.f5) := (blk_cell s1 5).trans rfl
    have qv_4 : w'.cell? ⟨gv, 4, none⟩ = some (.int .u32 ev.f4) := (blk_cell s1 4).trans rfl
    clear s0 s1
    go_simp
    with_reducible rfl
   rotate_left
   ·
    simp only [Act.put, List.setIfInBounds_toArray, List.set_cons_zero, List.set_cons_succ, i64_w, i32_w]
    rfl
   refine one_ (i := 14) (N := some 67) #[Y,Y,Y,Y,Y,Y,Y,Y,Y,Y,Y,Y,Y,Y,Y,Z,Z,Z,Z,Z,Z,Z,Z,Z] rfl rfl (by kernel_rfl) (by decide) (fun K hK => ?_)
   refine goes_ Try.func68 (by kernel_rfl) rfl #[.agg #[.int .u32 x.c0, .int .i64 x.c1, .int .i64 x.c2, .int .i64 x.c3, .int .i64 x.c4, .int .i64 x.c5, .int .i64 x.c6, .slice s.a7 x.dl.length s.c7, .int .i64 x.dn, .int .i64 x.br, .slice s.a10 x.bs.length s.c10, .int .i64 x.nr, .slice s.a12 x.ng.length s.c12, .slice s.a13 x.ns.length s.c13, .slice s.a14 x.pe.length s.c14, .slice s.a15 x.lo.length s.c15, .slice s.a16 x.re.length s.c16, .slice s.a17 x.le.length s.c17], .int .u32 ev.f4] (by rfl) rfl rfl mS_ ?_
   refine (desk_Person.calls x s _ ev.f4 p _ R h1).mono ?_
   rintro e W6_ ⟨A3, c3, A4, c4, rfl, v3_, v4_, hb_⟩
   refine ⟨_, rfl, ?_⟩
   clear v3_ v4_
   replace R := R.below hb_
   replace VW := Kd.V_below VW hb_
   replace Bh := blk_below Bh hb_
   replace Bv := blk_below Bv hb_
   replace HN := hN_ HN hb_.size
   replace HB := HB.tr_ hb_
   clear hb_
   refine hK.out _ _ ⟨Bh, Bv, trivial⟩ (fun hHeld => ?_)
   clear hK K
   refine norm_ (a' := ?_) ?_ ?_
   rotate_left
   ·
    show Act.put _ (some 67) _ = _
    simp only [Act.put, List.setIfInBounds_toArray, List.set_cons_zero, List.set_cons_succ, i64_w, i32_w]
    rfl
   refine pure_ (i := 15) (N := some 68) (v := ?_) (a' := ?_) #[Y,Y,Y,Y,Y,Y,Y,Y,Y,Y,Y,Y,Y,Y,Y,Y,Z,Z,Z,Z,Z,Z,Z,Z] rfl rfl (by kernel_rfl) (fun _ _ _ h => h) (Or.inl ⟨by rfl, ?_⟩) ?_ ?_
   rotate_left
   ·
    intro w'
    go_simp
    with_reducible rfl
   rotate_left
   ·
    simp only [Act.put, List.setIfInBounds_toArray, List.set_cons_zero, List.set_cons_succ, i64_w, i32_w]
    rfl
   refine pure_ (i := 16) (N := some 69) (v := ?_) (a' := ?_) #[Y,Y,Y,Y,Y,Y,Y,Y,Y,Y,Y,Y,Y,Y,Y,Y,Y,Z,Z,Z,Z,Z,Z,Z] rfl rfl (by kernel_rfl) (fun _ _ _ h => h) (Or.inl ⟨by rfl, ?_⟩) ?_ ?_
   rotate_left
   ·
    intro w'
    go_simp
    with_reducible rfl
   rotate_left
   ·
    simp only [Act.put, List.setIfInBounds_toArray, List.set_cons_zero, List.set_cons_succ, i64_w, i32_w]
    rfl
   refine one_ (i := 17) (N := some 70) #[Y,Y,Y,Y,Y,Y,Y,Y,Y,Y,Y,Y,Y,Y,Y,Y,Y,Y,Z,Z,Z,Z,Z,Z] rfl rfl (by kernel_rfl) (by decide) (fun K hK => ?_)
   refine Kd.N_lit_step k85 _ 85 (by rfl) (N' := 70) rfl (xs := ([⟨ev.f5, p.f2⟩] : List S85)) (inner := [.int .u32 ev.f5, .int .u32 p.f2]) (ok := wk.Q P w.heap.size [gv]) (okp := wk.Q P w.heap.size [gv]) ?hr_16 ?hp_16 (fun _ hk => hk) (wk.Q.new HN HB.size (.inr (Nat.le_refl _))) (Below.refl _ _) (Nat.le_refl _) (by simp) ?_
   case hr_16 => first | (go_simp; done) | (go_simp; rfl)
   case hp_16 => exact Reps.c2 (show Kd.FK k85 _ _ (⟨ev.f5, p.f2⟩ : S85) [.int .u32 ev.f5, .int .u32 p.f2] from k85_mkF _ _ _) (Reps.none _ _)
   intro v_ W7_ hn_ hb_ hg_ hnew_
   clear hg_ hnew_
   rw [← Hm.out] at hn_
   have Vm := wk.V_b (base' := 0) (Kd.N_V (base' := 0) hn_)
   clear hn_
   replace R := R.below hb_
   replace VW := Kd.V_below VW hb_
   replace Bh := blk_below Bh hb_
   replace Bv := blk_below Bv hb_
   replace HN := hN_ HN hb_.size
   replace HB := HB.tr_ hb_
   clear hb_
   obtain ⟨Am, cm, rfl⟩ := Kd.V_slice Vm
   refine hK.out _ _ ⟨Bh, Bv, trivial⟩ (fun hHeld => ?_)
   clear hK K
   refine norm_ (a' := ?_) ?_ ?_
   rotate_left
   ·
    show Act.put _ (some 70) _ = _
    simp only [Act.put, List.setIfInBounds_toArray, List.set_cons_zero, List.set_cons_succ, i64_w, i32_w]
    rfl
   refine one_ (i := 18) (N := some 71) #[Y,Y,Y,Y,Y,Y,Y,Y,Y,Y,Y,Y,Y,Y,Y,Y,Y,Y,Y,Z,Z,Z,Z,Z] rfl rfl (by kernel_rfl) (by decide) (fun K hK => ?_)
   refine Kd.N_lit_step (Kd.slice 85 k85) _ 37 (by rfl) (N' := 71) rfl (xs := ([x.le, ym] : List (List S85))) (inner := [.slice s.a17 x.le.length s.c17, .slice Am ym.length cm]) (ok := wk.Q P w.heap.size [gv]) (okp := wk.Q P w.heap.size [gv]) ?hr_17 ?hp_17 (fun _ hk => hk) (wk.Q.new HN HB.size (.inr (Nat.le_refl _))) (Below.refl _ _) (Nat.le_refl _) (by simp) ?_
   case hr_17 => first | (go_simp; done) | (go_simp; rfl)
   case hp_17 => exact Reps.one (show Kd.FK (Kd.slice 85 k85) _ _ x.le _ from Kd.FK_slice_mk (Kd.V_reads' R.r17).2.1 (Kd.V_F R.r17)) (Reps.one (show Kd.FK (Kd.slice 85 k85) _ _ ym _ from Kd.FK_slice_mk (Kd.V_reads' Vm).2.1 (Kd.V_F Vm)) (Reps.none _ _))
   intro v_ W8_ hn_ hb_ hg_ hnew_
   clear hg_ hnew_
   rw [← Hr.out] at hn_
   have Vr := wk.V_b (base' := 0) (Kd.N_V (base' := 0) hn_)
   clear hn_
   replace R := R.below hb_
   replace VW := Kd.V_below VW hb_
   replace Vm := Kd.V_below Vm hb_
   replace Bh := blk_below Bh hb_
   replace Bv := blk_below Bv hb_
   replace HN := hN_ HN hb_.size
   replace HB := HB.tr_ hb_
   clear hb_
   obtain ⟨Ar, cr, rfl⟩ := Kd.V_slice Vr
   refine hK.out _ _ ⟨Bh, Bv, trivial⟩ (fun hHeld => ?_)
   clear hK K
   refine norm_ (a' := ?_) ?_ ?_
   rotate_left
   ·
    show Act.put _ (some 71) _ = _
    simp only [Act.put, List.setIfInBounds_toArray, List.set_cons_zero, List.set_cons_succ, i64_w, i32_w]
    rfl
   refine one_ (i := 19) (N := some 72) #[Y,Y,Y,Y,Y,Y,Y,Y,Y,Y,Y,Y,Y,Y,Y,Y,Y,Y,Y,Y,Z,Z,Z,Z] rfl rfl (by kernel_rfl) (by decide) (fun K hK => ?_)
   refine goes_ Try.func70 (by kernel_rfl) rfl #[.slice Ar yr.length cr] (by rfl) rfl rfl mS_ ?_
   with_reducible refine (api_Leak_70.calls k _ _ yr z _ (Kd.V_reads' Vr).2.2 (Kd.V_reads' Vr).2.1 h2).mono ?_
   rintro e W9_ ⟨v_, rfl, ho_, hb_⟩
   refine ⟨_, rfl, ?_⟩
   have Vz := wk.R_new (P := P) HN HB.size ho_
   obtain ⟨Az, cz, rfl⟩ := Kd.V_slice Vz
   clear ho_
   replace R := R.below hb_
   replace VW := Kd.V_below VW hb_
   replace Vm := Kd.V_below Vm hb_
   replace Vr := Kd.V_below Vr hb_
   replace Bh := blk_below Bh hb_
   replace Bv := blk_below Bv hb_
   replace HN := hN_ HN hb_.size
   replace HB := HB.tr_ hb_
   clear hb_
   refine hK.out _ _ ⟨Bh, Bv, trivial⟩ (fun hHeld => ?_)
   clear hK K
   refine norm_ (a' := ?_) ?_ ?_
   rotate_left
   ·
    show Act.put _ (some 72) _ = _
    simp only [Act.put, List.setIfInBounds_toArray, List.set_cons_zero, List.set_cons_succ, i64_w, i32_w]
    rfl
   refine pure_ (i := 20) (N := some 73) (v := ?_) (a' := ?_) #[Y,Y,Y,Y,Y,Y,Y,Y,Y,Y,Y,Y,Y,Y,Y,Y,Y,Y,Y,Y,Y,Z,Z,Z] rfl rfl (by kernel_rfl) (fun _ _ _ h => h) (Or.inl ⟨by rfl, ?_⟩) ?_ ?_
   rotate_left
   ·
    intro w'
    go_simp
    with_reducible rfl
   rotate_left
   ·
    simp only [Act.put, List.setIfInBounds_toArray, List.set_cons_zero, List.set_cons_succ, i64_w, i32_w]
    rfl
   refine pure_ (i := 21) (N := some 74) (v := ?_) (a' := ?_) #[Y,Y,Y,Y,Y,Y,Y,Y,Y,Y,Y,Y,Y,Y,Y,Y,Y,Y,Y,Y,Y,Y,Z,Z] rfl rfl (by kernel_rfl) (fun _ _ _ h => h) (Or.inl ⟨by rfl, ?_⟩) ?_ ?_
   rotate_left
   ·
    intro w'
    go_simp
    with_reducible rfl
   rotate_left
   ·
    simp only [Act.put, List.setIfInBounds_toArray, List.set_cons_zero, List.set_cons_succ, i64_w, i32_w]
    rfl
   refine pure_ (i := 22) (N := some 75) (v := ?_) (a' := ?_) #[Y,Y,Y,Y,Y,Y,Y,Y,Y,Y,Y,Y,Y,Y,Y,Y,Y,Y,Y,Y,Y,Y,Y,Z] rfl rfl (by kernel_rfl) (fun _ _ _ h => h) (Or.inl ⟨by rfl, ?_⟩) ?_ ?_
   rotate_left
   ·
    intro w'
    go_simp
    with_reducible rfl
   rotate_left
   ·
    simp only [Act.put, List.setIfInBounds_toArray, List.set_cons_zero, List.set_cons_succ, i64_w, i32_w]
    rfl
   refine last_ (i := 23) (N := none) #[Y,Y,Y,Y,Y,Y,Y,Y,Y,Y,Y,Y,Y,Y,Y,Y,Y,Y,Y,Y,Y,Y,Y,Y] rfl rfl (by kernel_rfl) (by decide) (fun K hK => ?_)
   have kc_ : W9_.cell? ⟨gh, 41, none⟩ = some (.slice s.a17 x.le.length s.c17) := (blk_cell Bh 41).trans rfl
   have zc_ := blk_frozen Bh 41
   refine skip_ (w1 := W9_.setCell ⟨gh, 41, none⟩ (.slice Az z.length cz)) (by rfl) rfl ?hr_18 ?_
   case hr_18 => first | (go_simp; done) | (go_simp; rfl)
   clear kc_ zc_
   obtain ⟨W10_, hw_⟩ : ∃ W_ : World, W_ = W9_.setCell ⟨gh, 41, none⟩ (.slice Az z.length cz) := ⟨_, rfl⟩
   have b_ : W10_.heap[gh]? = some (.cells #[.int .u32 x.c0, .int .i64 x.c1, .int .i64 x.c2, .int .i64 x.c3, .int .i64 x.c4, .int .i64 x.c5, .int .i64 x.c6, .slice s.a7 x.dl.length s.c7, .int .i64 x.dn, .int .i64 x.br, .slice s.a10 x.bs.length s.c10, .int .i64 x.nr, .slice s.a12 x.ng.length s.c12, .slice s.a13 x.ns.length s.c13, .slice s.a14 x.pe.length s.c14, .slice s.a15 x.lo.length s.c15, .slice s.a16 x.re.length s.c16, .slice s.a17 x.le.length s.c17, .int .i64 o.kd, .int .i64 o.a, .int .i64 o.b, .int .i64 o.c, .int .i64 o.d, .slice aq o.ws.length cq, .int .u32 x.c0, .int .i64 x.c1, .int .i64 x.c2, .int .i64 x.c3, .int .i64 x.c4, .int .i64 x.c5, .int .i64 x.c6, .slice s.a7 x.dl.length s.c7, .int .i64 x.dn, .int .i64 x.br, .slice s.a10 x.bs.length s.c10, .int .i64 x.nr, .slice s.a12 x.ng.length s.c12, .slice s.a13 x.ns.length s.c13, .slice s.a14 x.pe.length s.c14, .slice s.a15 x.lo.length s.c15, .slice s.a16 x.re.length s.c16, .slice Az z.length cz] 68 (0, 0)) := (by rw [hw_]; exact blk_put (cs := #[.int .u32 x.c0, .int .i64 x.c1, .int .i64 x.c2, .int .i64 x.c3, .int .i64 x.c4, .int .i64 x.c5, .int .i64 x.c6, .slice s.a7 x.dl.length s.c7, .int .i64 x.dn, .int .i64 x.br, .slice s.a10 x.bs.length s.c10, .int .i64 x.nr, .slice s.a12 x.ng.length s.c12, .slice s.a13 x.ns.length s.c13, .slice s.a14 x.pe.length s.c14, .slice s.a15 x.lo.length s.c15, .slice s.a16 x.re.length s.c16, .slice s.a17 x.le.length s.c17, .int .i64 o.kd, .int .i64 o.a, .int .i64 o.b, .int .i64 o.c, .int .i64 o.d, .slice aq o.ws.length cq, .int .u32 x.c0, .int .i64 x.c1, .int .i64 x.c2, .int .i64 x.c3, .int .i64 x.c4, .int .i64 x.c5, .int .i64 x.c6, .slice s.a7 x.dl.length s.c7, .int .i64 x.dn, .int .i64 x.br, .slice s.a10 x.bs.length s.c10, .int .i64 x.nr, .slice s.a12 x.ng.length s.c12, .slice s.a13 x.ns.length s.c13, .slice s.a14 x.pe.length s.c14, .slice s.a15 x.lo.length s.c15, .slice s.a16 x.re.length s.c16, .slice s.a17 x.le.length s.c17]) (cs' := #[.int .u32 x.c0, .int .i64 x.c1, .int .i64 x.c2, .int .i64 x.c3, .int .i64 x.c4, .int .i64 x.c5, .int .i64 x.c6, .slice s.a7 x.dl.length s.c7, .int .i64 x.dn, .int .i64 x.br, .slice s.a10 x.bs.length s.c10, .int .i64 x.nr, .slice s.a12 x.ng.length s.c12, .slice s.a13 x.ns.length s.c13, .slice s.a14 x.pe.length s.c14, .slice s.a15 x.lo.length s.c15, .slice s.a16 x.re.length s.c16, .slice s.a17 x.le.length s.c17, .int .i64 o.kd, .int .i64 o.a, .int .i64 o.b, .int .i64 o.c, .int .i64 o.d, .slice aq o.ws.length cq, .int .u32 x.c0, .int .i64 x.c1, .int .i64 x.c2, .int .i64 x.c3, .int .i64 x.c4, .int .i64 x.c5, .int .i64 x.c6, .slice s.a7 x.dl.length s.c7, .int .i64 x.dn, .int .i64 x.br, .slice s.a10 x.bs.length s.c10, .int .i64 x.nr, .slice s.a12 x.ng.length s.c12, .slice s.a13 x.ns.length s.c13, .slice s.a14 x.pe.length s.c14, .slice s.a15 x.lo.length s.c15, .slice s.a16 x.re.length s.c16, .slice Az z.length cz]) Bh 41 _ (by kernel_rfl))
   have hs_ : wk.St gh W9_ W10_ := (by rw [hw_]; exact wk.St.cell _ _ _ _)
   rw [← hw_]
   clear hw_
   replace R := R.st hs_ (fun k hk => HH k hk.1)
   replace VW := wk.V_st VW hs_ (fun k hk => HH k hk.1)
   replace Vm := wk.V_st Vm hs_ (fun k hk => HH k hk.1)
   replace Vr := wk.V_st Vr hs_ (fun k hk => HH k hk.1)
   replace Vz := wk.V_st Vz hs_ (fun k hk => HH k hk.1)
   replace Bv := hs_.blk Bv nv_h
   replace HN := fun q hq => Nat.lt_of_lt_of_le (HN q hq) (hs_.bel 0 (Nat.zero_le _)).size
   replace HB := HB.st hs_
   replace Bh := b_
   clear b_ hs_
   refine hK.out _ _ ?_
   clear hK K
   refine done_ (by kernel_rfl) ?_
   try clear hHeld
   have kv_5 : W10_.cell? ⟨gv, 5, none⟩ = some (.int .u32 ev.f5) := (blk_cell Bv 5).trans rfl
   have zv_5 := blk_frozen Bv 5
   go_wp2_with (first | ((with_reducible refine gate_dst (N := 78) rfl ?_); (try (refine gate_guard (by rfl) ?_; dsimp only)); refine Kd.N_lit (Kd.int .u32) _ 22 ?hg (N' := 78) ?hd (xs := ([ev.f5] : List Int)) (inner := [.int .u32 ev.f5]) (ok := wk.Q P w.heap.size [gv]) (okp := wk.Q P w.heap.size [gv]) ?hr ?hp (fun _ hk => hk) (wk.Q.new HN HB.size (.inr (Nat.le_refl _))) (Below.refl _ _) (Nat.le_refl _) (by simp) ?_; (case hd => rfl); (case hg => rfl); (case hr => first | (go_simp; done) | (go_simp; rfl)); (case hp => exact (Reps.none _ _).snoc (fun _ _ => rfl) rfl); intro v_ W11_ hn_ hb_ hg_ hnew_; clear hg_ hnew_; rw [← Hn.out] at hn_; have Vn := wk.V_b (base' := 0) (Kd.N_V (base' := 0) hn_); clear hn_; clear kv_5 zv_5; replace R := R.below hb_; replace VW := Kd.V_below VW hb_; replace Vm := Kd.V_below Vm hb_; replace Vr := Kd.V_below Vr hb_; replace Vz := Kd.V_below Vz hb_; replace Bh := blk_below Bh hb_; replace Bv := blk_below Bv hb_; replace HN := hN_ HN hb_.size; replace HB := HB.tr_ hb_; clear hb_; obtain ⟨An, cn, rfl⟩ := Kd.V_slice Vn; have kv_5 : W11_.cell? ⟨gv, 5, none⟩ = some (.int .u32 ev.f5) := (blk_cell Bv 5).trans rfl; have zv_5 := blk_frozen Bv 5))
   go_ret2
   exact wk.out An cn { s with a17 := Az, c17 := cz } Bh Vn (R.lea Vz) HB
  ·
   rw [if_neg c3] at h
   have c3b : (ev.f0 == 2) = false := beq_eq_false_iff_ne.mpr c3
   have c3c : (ev.f0 != 2) = true := bne_iff_ne.mpr c3
   clear c3
   simp only [Option.some.injEq, Prod.mk.injEq] at h
   obtain ⟨rfl, rfl, rfl⟩ := h
   have kh_20 : w.cell? ⟨gh, 20, none⟩ = some (.int .i64 o.b) := (blk_cell Bh 20).trans rfl
   have zh_20 := blk_frozen Bh 20
   have kh_15 : w.cell? ⟨gh, 15, none⟩ = some (.slice (some ad) x.lo.length s.c15) := (blk_cell Bh 15).trans (by rw [← HE.out]; rfl)
   have zh_15 := blk_frozen Bh 15
   go_enter Try.func54, Try.ntmps54
   go_wp2
   repeat (go_quiet (fail); try go_wp2)
   go_ret2
   exact wk.outd none 0 s Bh (Kd.V_nil _ _ _ _ _) R HB bR_
 ·
  rw [if_neg c2] at h
  simp only [Option.some.injEq, Prod.mk.injEq] at h
  obtain ⟨rfl, rfl, rfl⟩ := h
  have c1b : decide (o.b < 0) = false := decide_eq_false (by omega)
  have c2b : decide ((x.lo.length : Int) ≤ o.b) = true := decide_eq_true (by omega)
  have c2c : decide (o.b < (x.lo.length : Int)) = false := decide_eq_false c2
  clear c1 c2
  have kh_20 : w.cell? ⟨gh, 20, none⟩ = some (.int .i64 o.b) := (blk_cell Bh 20).trans rfl
  have zh_20 := blk_frozen Bh 20
  have kh_15 : w.cell? ⟨gh, 15, none⟩ = some (.slice s.a15 x.lo.length s.c15) := (blk_cell Bh 15).trans rfl
  have zh_15 := blk_frozen Bh 15
  go_enter Try.func54, Try.ntmps54
  go_wp2
  repeat (go_quiet (fail); try go_wp2)
  go_ret2
  exact wk.outd none 0 s Bh (Kd.V_nil _ _ _ _ _) R HB bR_

end Go.Proofs.Ythlcpbendleihaa.PAdvAlone
