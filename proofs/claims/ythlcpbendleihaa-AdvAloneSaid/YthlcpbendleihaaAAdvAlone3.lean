/- The law AdvAlone of the adversary's layer, walked by hand: text 3. -/
import Derived.Test.YthlcpbendleihaaAAdvAlone2
namespace Go.Proofs.Ythlcpbendleihaa.PAdvAlone
open Go Go.RowKit Go.Proofs.YthlcpbendleihaaW.PrintWords Go.Proofs.YthlcpbendleihaaW.PrintLast Go.Proofs.YthlcpbendleihaaW.PrintMore
set_option linter.unusedVariables false
set_option linter.unusedSimpArgs false
def adv_cat.g (k : Nat) (x : wk.X) (ra rb : List Int) (ok is_ : Bool) : Option (List Int × Int × wk.X) := if ok = true then (if is_ = true then (if 64 < wrap64 ((ra.length : Int) + (rb.length : Int)) then some ([], 3, x) else (slices_Concat_uint32_uint32.f k [ra, rb]).bind fun t => some (t, 0, x)) else some ([], 1, x)) else some ([], 1, x)
/-! ### (*hand).cat: function 50 -/
def adv_cat.f (k : Nat) (x : wk.X) (o : wk.O) : Option (List Int × Int × wk.X) := adv_cat.g k x (adv_reg.f x.re o.b).1 (adv_reg.f x.re o.c).1 (adv_reg.f x.re o.b).2 (adv_reg.f x.re o.c).2
set_option maxHeartbeats 8000000 in
set_option maxRecDepth 100000 in
theorem adv_cat.calls (k : Nat) : wk.Deed 50 (adv_cat.f k) := by
 intro x s o aq cq gh P w l e y Bh R VW hP h
 have hu39 := Try.underlying39
 have hu41 := Try.underlying41
 have hu68 := Try.underlying68
 have hu34 := Try.underlying34
 have hu30 := Try.underlying30
 have ghl := blk_lt Bh
 have HH : ∀ k, (P k ∨ w.heap.size ≤ k) → k ≠ gh := fun k hk => hk.elim (hP k) (fun q => by omega)
 have HB : wk.Kb gh w w := wk.Kb.of (Below.refl w.heap.size w)
 have HN : ∀ q ∈ ([] : List Nat), q < w.heap.size := fun q hq => by simp at hq
 replace R := R.start w.heap.size
 replace VW := wk.V_start w.heap.size VW
 unfold wk.hc at Bh
 unfold adv_cat.f at h
 obtain ⟨⟨ra, ok⟩, hra⟩ : ∃ z, adv_reg.f x.re o.b = z := ⟨_, rfl⟩
 obtain ⟨⟨rb, is_⟩, hrb⟩ : ∃ z, adv_reg.f x.re o.c = z := ⟨_, rfl⟩
 rw [hra, hrb] at h
 unfold adv_cat.g at h
 cases ok with
 | false =>
  rw [if_neg (show ¬ (false = true) by decide)] at h
  simp only [Option.some.injEq, Prod.mk.injEq] at h
  obtain ⟨rfl, rfl, rfl⟩ := h
  have Jh := wk.ca Bh
  have Yh := wk.za Bh
  go_enter Try.func50, Try.ntmps50
  go_wp2_with (first | (go_at_call 22; have c16_ : w.cell? ⟨gh, 16, none⟩ = some (.slice s.a16 x.re.length s.c16) := (blk_cell Bh 16).trans rfl; (with_reducible refine (adv_reg.calls gh x.re o.b _ _ _ _ c16_ R.r16 ra false hra).mono ?_); rintro e W1_ ⟨Aa, ca, rfl, Va, hb_⟩; clear Jh Yh; clear c16_; replace R := R.below hb_; replace VW := Kd.V_below VW hb_; replace Bh := blk_below Bh hb_; replace HN := hN_ HN hb_.size; replace HB := HB.tr_ hb_; clear hb_; have Jh := wk.ca Bh; have Yh := wk.za Bh) | (go_at_call 22; have c16_ : W1_.cell? ⟨gh, 16, none⟩ = some (.slice s.a16 x.re.length s.c16) := (blk_cell Bh 16).trans rfl; (with_reducible refine (adv_reg.calls gh x.re o.c _ _ _ _ c16_ R.r16 rb is_ hrb).mono ?_); rintro e W2_ ⟨Ab, cb, rfl, Vb, hb_⟩; clear Jh Yh; clear c16_; replace R := R.below hb_; replace VW := Kd.V_below VW hb_; replace Va := Kd.V_below Va hb_; replace Bh := blk_below Bh hb_; replace HN := hN_ HN hb_.size; replace HB := HB.tr_ hb_; clear hb_; have Jh := wk.ca Bh; have Yh := wk.za Bh))
  go_ret2
  exact wk.outd none 0 s Bh (Kd.V_nil _ _ _ _ _) R HB bR_
 | true =>
  rw [if_pos rfl] at h
  cases is_ with
  | false =>
   rw [if_neg (show ¬ (false = true) by decide)] at h
   simp only [Option.some.injEq, Prod.mk.injEq] at h
   obtain ⟨rfl, rfl, rfl⟩ := h
   have Jh := wk.ca Bh
   have Yh := wk.za Bh
   go_enter Try.func50, Try.ntmps50
   go_wp2_with (first | (go_at_call 22; have c16_ : w.cell? ⟨gh, 16, none⟩ = some (.slice s.a16 x.re.length s.c16) := (blk_cell Bh 16).trans rfl; (with_reducible refine (adv_reg.calls gh x.re o.b _ _ _ _ c16_ R.r16 ra true hra).mono ?_); rintro e W1_ ⟨Aa, ca, rfl, Va, hb_⟩; clear Jh Yh; clear c16_; replace R := R.below hb_; replace VW := Kd.V_below VW hb_; replace Bh := blk_below Bh hb_; replace HN := hN_ HN hb_.size; replace HB := HB.tr_ hb_; clear hb_; have Jh := wk.ca Bh; have Yh := wk.za Bh) | (go_at_call 22; have c16_ : W1_.cell? ⟨gh, 16, none⟩ = some (.slice s.a16 x.re.length s.c16) := (blk_cell Bh 16).trans rfl; (with_reducible refine (adv_reg.calls gh x.re o.c _ _ _ _ c16_ R.r16 rb false hrb).mono ?_); rintro e W2_ ⟨Ab, cb, rfl, Vb, hb_⟩; clear Jh Yh; clear c16_; replace R := R.below hb_; replace VW := Kd.V_below VW hb_; replace Va := Kd.V_below Va hb_; replace Bh := blk_below Bh hb_; replace HN := hN_ HN hb_.size; replace HB := HB.tr_ hb_; clear hb_; have Jh := wk.ca Bh; have Yh := wk.za Bh))
   go_ret2
   exact wk.outd none 0 s Bh (Kd.V_nil _ _ _ _ _) R HB bR_
  | true =>
   rw [if_pos rfl] at h
   obtain ⟨ji, hji⟩ : ∃ j_ : Int, wrap64 ((ra.length : Int) + (rb.length : Int)) = j_ := ⟨_, rfl⟩
   rw [hji] at h
   have hjiw : IntKind.i64.wrap ((ra.length : Int) + (rb.length : Int)) = ji := (i64_w _).trans hji
   by_cases c1 : 64 < ji
   ·
    rw [if_pos c1] at h
    have c1b : decide (64 < ji) = true := decide_eq_true c1
    clear c1
    simp only [Option.some.injEq, Prod.mk.injEq] at h
    obtain ⟨rfl, rfl, rfl⟩ := h
    have Jh := wk.ca Bh
    have Yh := wk.za Bh
    go_enter Try.func50, Try.ntmps50
    go_wp2_with (first | (go_at_call 22; have c16_ : w.cell? ⟨gh, 16, none⟩ = some (.slice s.a16 x.re.length s.c16) := (blk_cell Bh 16).trans rfl; (with_reducible refine (adv_reg.calls gh x.re o.b _ _ _ _ c16_ R.r16 ra true hra).mono ?_); rintro e W1_ ⟨Aa, ca, rfl, Va, hb_⟩; clear Jh Yh; clear c16_; replace R := R.below hb_; replace VW := Kd.V_below VW hb_; replace Bh := blk_below Bh hb_; replace HN := hN_ HN hb_.size; replace HB := HB.tr_ hb_; clear hb_; have Jh := wk.ca Bh; have Yh := wk.za Bh) | (go_at_call 22; have c16_ : W1_.cell? ⟨gh, 16, none⟩ = some (.slice s.a16 x.re.length s.c16) := (blk_cell Bh 16).trans rfl; (with_reducible refine (adv_reg.calls gh x.re o.c _ _ _ _ c16_ R.r16 rb true hrb).mono ?_); rintro e W2_ ⟨Ab, cb, rfl, Vb, hb_⟩; clear Jh Yh; clear c16_; replace R := R.below hb_; replace VW := Kd.V_below VW hb_; replace Va := Kd.V_below Va hb_; replace Bh := blk_below Bh hb_; replace HN := hN_ HN hb_.size; replace HB := HB.tr_ hb_; clear hb_; have Jh := wk.ca Bh; have Yh := wk.za Bh))
    go_ret2
    exact wk.outd none 0 s Bh (Kd.V_nil _ _ _ _ _) R HB bR_
   ·
    rw [if_neg c1] at h
    have c1b : decide (64 < ji) = false := decide_eq_false c1
    clear c1
    obtain ⟨z, h1, h2⟩ := Option.bind_eq_some_iff.mp h
    clear h
    obtain ⟨yn, hyn⟩ : ∃ y_ : List (List Int), y_ = [ra, rb] := ⟨_, rfl⟩
    rw [← hyn] at h1
    have Hn := Aside0.mk hyn
    clear hyn
    simp only [Option.some.injEq, Prod.mk.injEq] at h2
    obtain ⟨rfl, rfl, rfl⟩ := h2
    have Jh := wk.ca Bh
    have Yh := wk.za Bh
    go_enter Try.func50, Try.ntmps50
    go_wp2_with (first | (go_at_call 22; have c16_ : w.cell? ⟨gh, 16, none⟩ = some (.slice s.a16 x.re.length s.c16) := (blk_cell Bh 16).trans rfl; (with_reducible refine (adv_reg.calls gh x.re o.b _ _ _ _ c16_ R.r16 ra true hra).mono ?_); rintro e W1_ ⟨Aa, ca, rfl, Va, hb_⟩; clear Jh Yh; clear c16_; replace R := R.below hb_; replace VW := Kd.V_below VW hb_; replace Bh := blk_below Bh hb_; replace HN := hN_ HN hb_.size; replace HB := HB.tr_ hb_; clear hb_; have Jh := wk.ca Bh; have Yh := wk.za Bh) | (go_at_call 22; have c16_ : W1_.cell? ⟨gh, 16, none⟩ = some (.slice s.a16 x.re.length s.c16) := (blk_cell Bh 16).trans rfl; (with_reducible refine (adv_reg.calls gh x.re o.c _ _ _ _ c16_ R.r16 rb true hrb).mono ?_); rintro e W2_ ⟨Ab, cb, rfl, Vb, hb_⟩; clear Jh Yh; clear c16_; replace R := R.below hb_; replace VW := Kd.V_below VW hb_; replace Va := Kd.V_below Va hb_; replace Bh := blk_below Bh hb_; replace HN := hN_ HN hb_.size; replace HB := HB.tr_ hb_; clear hb_; have Jh := wk.ca Bh; have Yh := wk.za Bh) | ((with_reducible refine gate_dst (N := 44) rfl ?_); (try (refine gate_guard (by rfl) ?_; dsimp only)); refine Kd.N_lit (Kd.slice 22 (Kd.int .u32)) _ 25 ?hg (N' := 44) ?hd (xs := ([ra, rb] : List (List Int))) (inner := [.slice Aa ra.length ca, .slice Ab rb.length cb]) (ok := wk.Q P w.heap.size []) (okp := wk.Q P w.heap.size []) ?hr ?hp (fun _ hk => hk) (wk.Q.new HN HB.size (.inr (Nat.le_refl _))) (Below.refl _ _) (Nat.le_refl _) (by simp) ?_; (case hd => rfl); (case hg => rfl); (case hr => first | (go_simp; done) | (go_simp; rfl)); (case hp => exact Reps.one (show Kd.FK (Kd.slice 22 (Kd.int .u32)) _ _ ra _ from Kd.FK_slice_mk (Kd.V_reads' Va).2.1 (Kd.V_F Va)) (Reps.one (show Kd.FK (Kd.slice 22 (Kd.int .u32)) _ _ rb _ from Kd.FK_slice_mk (Kd.V_reads' Vb).2.1 (Kd.V_F Vb)) (Reps.none _ _))); intro v_ W3_ hn_ hb_ hg_ hnew_; clear hg_ hnew_; rw [← Hn.out] at hn_; have Vn := wk.V_b (base' := 0) (Kd.N_V (base' := 0) hn_); clear hn_; replace R := R.below hb_; replace VW := Kd.V_below VW hb_; replace Va := Kd.V_below Va hb_; replace Vb := Kd.V_below Vb hb_; replace Bh := blk_below Bh hb_; replace HN := hN_ HN hb_.size; replace HB := HB.tr_ hb_; clear hb_; obtain ⟨An, cn, rfl⟩ := Kd.V_slice Vn; skip) | (go_at_call 63; (with_reducible refine (slices_Concat_uint32_uint32.calls k _ _ yn z _ (Kd.V_reads' Vn).2.2 (Kd.V_reads' Vn).2.1 h1).mono ?_); rintro e W4_ ⟨v_, rfl, ho_, hb_⟩; have V := wk.R_new (P := P) HN HB.size ho_; obtain ⟨Av, cv, rfl⟩ := Kd.V_slice V; clear ho_; replace R := R.below hb_; replace VW := Kd.V_below VW hb_; replace Va := Kd.V_below Va hb_; replace Vb := Kd.V_below Vb hb_; replace Vn := Kd.V_below Vn hb_; replace Bh := blk_below Bh hb_; replace HN := hN_ HN hb_.size; replace HB := HB.tr_ hb_; clear hb_; skip))
    go_ret2
    exact wk.out Av cv s Bh V R HB
def adv_open.g (x : wk.X) (va vb vd : Int) (a b c : Bool) : Option (List Int × Int × wk.X) := if a = true then (if b = true then (if c = true then (box_Open.f x.br x.bs va vb vd).bind fun t => if t.2 = true then some (t.1, 0, x) else some ([], 6, x) else some ([], 1, x)) else some ([], 1, x)) else some ([], 1, x)
/-! ### (*hand).open: function 52 -/
def adv_open.f (k : Nat) (x : wk.X) (o : wk.O) : Option (List Int × Int × wk.X) := adv_open.g x (adv_first.f x.re o.b).1 (adv_first.f x.re o.c).1 (adv_first.f x.re o.d).1 (adv_first.f x.re o.b).2 (adv_first.f x.re o.c).2 (adv_first.f x.re o.d).2
set_option maxHeartbeats 8000000 in
set_option maxRecDepth 100000 in
theorem adv_open.calls (k : Nat) : wk.Deed 52 (adv_open.f k) := by
 intro x s o aq cq gh P w l e y Bh R VW hP h
 have hu39 := Try.underlying39
 have hu41 := Try.underlying41
 have hu68 := Try.underlying68
 have hu34 := Try.underlying34
 have hu30 := Try.underlying30
 have ghl := blk_lt Bh
 have HH : ∀ k, (P k ∨ w.heap.size ≤ k) → k ≠ gh := fun k hk => hk.elim (hP k) (fun q => by omega)
 have HB : wk.Kb gh w w := wk.Kb.of (Below.refl w.heap.size w)
 have HN : ∀ q ∈ ([] : List Nat), q < w.heap.size := fun q hq => by simp at hq
 replace R := R.start w.heap.size
 replace VW := wk.V_start w.heap.size VW
 unfold wk.hc at Bh
 unfold adv_open.f at h
 obtain ⟨⟨va, a⟩, hra⟩ : ∃ z, adv_first.f x.re o.b = z := ⟨_, rfl⟩
 obtain ⟨⟨vb, b⟩, hrb⟩ : ∃ z, adv_first.f x.re o.c = z := ⟨_, rfl⟩
 obtain ⟨⟨vd, c⟩, hrc⟩ : ∃ z, adv_first.f x.re o.d = z := ⟨_, rfl⟩
 rw [hra, hrb, hrc] at h
 unfold adv_open.g at h
 cases a with
 | false =>
  rw [if_neg (show ¬ (false = true) by decide)] at h
  simp only [Option.some.injEq, Prod.mk.injEq] at h
  obtain ⟨rfl, rfl, rfl⟩ := h
  have Jh := wk.ca Bh
  have Yh := wk.za Bh
  go_enter Try.func52, Try.ntmps52
  go_wp2_with (first | (go_at_call 64; have c16_ : w.cell? ⟨gh, 16, none⟩ = some (.slice s.a16 x.re.length s.c16) := (blk_cell Bh 16).trans rfl; (with_reducible refine (adv_first.calls gh x.re o.b _ _ _ _ c16_ R.r16 va false hra).mono ?_); rintro e W1_ ⟨rfl, hb_⟩; clear Jh Yh; clear c16_; replace R := R.below hb_; replace VW := Kd.V_below VW hb_; replace Bh := blk_below Bh hb_; replace HN := hN_ HN hb_.size; replace HB := HB.tr_ hb_; clear hb_; have Jh := wk.ca Bh; have Yh := wk.za Bh) | (go_at_call 64; have c16_ : W1_.cell? ⟨gh, 16, none⟩ = some (.slice s.a16 x.re.length s.c16) := (blk_cell Bh 16).trans rfl; (with_reducible refine (adv_first.calls gh x.re o.c _ _ _ _ c16_ R.r16 vb b hrb).mono ?_); rintro e W2_ ⟨rfl, hb_⟩; clear Jh Yh; clear c16_; replace R := R.below hb_; replace VW := Kd.V_below VW hb_; replace Bh := blk_below Bh hb_; replace HN := hN_ HN hb_.size; replace HB := HB.tr_ hb_; clear hb_; have Jh := wk.ca Bh; have Yh := wk.za Bh) | (go_at_call 64; have c16_ : W2_.cell? ⟨gh, 16, none⟩ = some (.slice s.a16 x.re.length s.c16) := (blk_cell Bh 16).trans rfl; (with_reducible refine (adv_first.calls gh x.re o.d _ _ _ _ c16_ R.r16 vd c hrc).mono ?_); rintro e W3_ ⟨rfl, hb_⟩; clear Jh Yh; clear c16_; replace R := R.below hb_; replace VW := Kd.V_below VW hb_; replace Bh := blk_below Bh hb_; replace HN := hN_ HN hb_.size; replace HB := HB.tr_ hb_; clear hb_; have Jh := wk.ca Bh; have Yh := wk.za Bh))
  go_ret2
  exact wk.outd none 0 s Bh (Kd.V_nil _ _ _ _ _) R HB bR_
 | true =>
  rw [if_pos rfl] at h
  cases b with
  | false =>
   rw [if_neg (show ¬ (false = true) by decide)] at h
   simp only [Option.some.injEq, Prod.mk.injEq] at h
   obtain ⟨rfl, rfl, rfl⟩ := h
   have Jh := wk.ca Bh
   have Yh := wk.za Bh
   go_enter Try.func52, Try.ntmps52
   go_wp2_with (first | (go_at_call 64; have c16_ : w.cell? ⟨gh, 16, none⟩ = some (.slice s.a16 x.re.length s.c16) := (blk_cell Bh 16).trans rfl; (with_reducible refine (adv_first.calls gh x.re o.b _ _ _ _ c16_ R.r16 va true hra).mono ?_); rintro e W1_ ⟨rfl, hb_⟩; clear Jh Yh; clear c16_; replace R := R.below hb_; replace VW := Kd.V_below VW hb_; replace Bh := blk_below Bh hb_; replace HN := hN_ HN hb_.size; replace HB := HB.tr_ hb_; clear hb_; have Jh := wk.ca Bh; have Yh := wk.za Bh) | (go_at_call 64; have c16_ : W1_.cell? ⟨gh, 16, none⟩ = some (.slice s.a16 x.re.length s.c16) := (blk_cell Bh 16).trans rfl; (with_reducible refine (adv_first.calls gh x.re o.c _ _ _ _ c16_ R.r16 vb false hrb).mono ?_); rintro e W2_ ⟨rfl, hb_⟩; clear Jh Yh; clear c16_; replace R := R.below hb_; replace VW := Kd.V_below VW hb_; replace Bh := blk_below Bh hb_; replace HN := hN_ HN hb_.size; replace HB := HB.tr_ hb_; clear hb_; have Jh := wk.ca Bh; have Yh := wk.za Bh) | (go_at_call 64; have c16_ : W2_.cell? ⟨gh, 16, none⟩ = some (.slice s.a16 x.re.length s.c16) := (blk_cell Bh 16).trans rfl; (with_reducible refine (adv_first.calls gh x.re o.d _ _ _ _ c16_ R.r16 vd c hrc).mono ?_); rintro e W3_ ⟨rfl, hb_⟩; clear Jh Yh; clear c16_; replace R := R.below hb_; replace VW := Kd.V_below VW hb_; replace Bh := blk_below Bh hb_; replace HN := hN_ HN hb_.size; replace HB := HB.tr_ hb_; clear hb_; have Jh := wk.ca Bh; have Yh := wk.za Bh))
   go_ret2
   exact wk.outd none 0 s Bh (Kd.V_nil _ _ _ _ _) R HB bR_
  | true =>
   rw [if_pos rfl] at h
   cases c with
   | false =>
    rw [if_neg (show ¬ (false = true) by decide)] at h
    simp only [Option.some.injEq, Prod.mk.injEq] at h
    obtain ⟨rfl, rfl, rfl⟩ := h
    have Jh := wk.ca Bh
    have Yh := wk.za Bh
    go_enter Try.func52, Try.ntmps52
    go_wp2_with (first | (go_at_call 64; have c16_ : w.cell? ⟨gh, 16, none⟩ = some (.slice s.a16 x.re.length s.c16) := (blk_cell Bh 16).trans rfl; (with_reducible refine (adv_first.calls gh x.re o.b _ _ _ _ c16_ R.r16 va true hra).mono ?_); rintro e W1_ ⟨rfl, hb_⟩; clear Jh Yh; clear c16_; replace R := R.below hb_; replace VW := Kd.V_below VW hb_; replace Bh := blk_below Bh hb_; replace HN := hN_ HN hb_.size; replace HB := HB.tr_ hb_; clear hb_; have Jh := wk.ca Bh; have Yh := wk.za Bh) | (go_at_call 64; have c16_ : W1_.cell? ⟨gh, 16, none⟩ = some (.slice s.a16 x.re.length s.c16) := (blk_cell Bh 16).trans rfl; (with_reducible refine (adv_first.calls gh x.re o.c _ _ _ _ c16_ R.r16 vb true hrb).mono ?_); rintro e W2_ ⟨rfl, hb_⟩; clear Jh Yh; clear c16_; replace R := R.below hb_; replace VW := Kd.V_below VW hb_; replace Bh := blk_below Bh hb_; replace HN := hN_ HN hb_.size; replace HB := HB.tr_ hb_; clear hb_; have Jh := wk.ca Bh; have Yh := wk.za Bh) | (go_at_call 64; have c16_ : W2_.cell? ⟨gh, 16, none⟩ = some (.slice s.a16 x.re.length s.c16) := (blk_cell Bh 16).trans rfl; (with_reducible refine (adv_first.calls gh x.re o.d _ _ _ _ c16_ R.r16 vd false hrc).mono ?_); rintro e W3_ ⟨rfl, hb_⟩; clear Jh Yh; clear c16_; replace R := R.below hb_; replace VW := Kd.V_below VW hb_; replace Bh := blk_below Bh hb_; replace HN := hN_ HN hb_.size; replace HB := HB.tr_ hb_; clear hb_; have Jh := wk.ca Bh; have Yh := wk.za Bh))
    go_ret2
    exact wk.outd none 0 s Bh (Kd.V_nil _ _ _ _ _) R HB bR_
   | true =>
    rw [if_pos rfl] at h
    obtain ⟨⟨z, b⟩, h1, h⟩ := Option.bind_eq_some_iff.mp h
    cases b with
    | false =>
     rw [if_neg (show ¬ (false = true) by decide)] at h
     simp only [Option.some.injEq, Prod.mk.injEq] at h
     obtain ⟨rfl, rfl, rfl⟩ := h
     have Jh := wk.ca Bh
     have Yh := wk.za Bh
     go_enter Try.func52, Try.ntmps52
     go_wp2_with (first | (go_at_call 64; have c16_ : w.cell? ⟨gh, 16, none⟩ = some (.slice s.a16 x.re.length s.c16) := (blk_cell Bh 16).trans rfl; (with_reducible refine (adv_first.calls gh x.re o.b _ _ _ _ c16_ R.r16 va true hra).mono ?_); rintro e W1_ ⟨rfl, hb_⟩; clear Jh Yh; clear c16_; replace R := R.below hb_; replace VW := Kd.V_below VW hb_; replace Bh := blk_below Bh hb_; replace HN := hN_ HN hb_.size; replace HB := HB.tr_ hb_; clear hb_; have Jh := wk.ca Bh; have Yh := wk.za Bh) | (go_at_call 64; have c16_ : W1_.cell? ⟨gh, 16, none⟩ = some (.slice s.a16 x.re.length s.c16) := (blk_cell Bh 16).trans rfl; (with_reducible refine (adv_first.calls gh x.re o.c _ _ _ _ c16_ R.r16 vb true hrb).mono ?_); rintro e W2_ ⟨rfl, hb_⟩; clear Jh Yh; clear c16_; replace R := R.below hb_; replace VW := Kd.V_below VW hb_; replace Bh := blk_below Bh hb_; replace HN := hN_ HN hb_.size; replace HB := HB.tr_ hb_; clear hb_; have Jh := wk.ca Bh; have Yh := wk.za Bh) | (go_at_call 64; have c16_ : W2_.cell? ⟨gh, 16, none⟩ = some (.slice s.a16 x.re.length s.c16) := (blk_cell Bh 16).trans rfl; (with_reducible refine (adv_first.calls gh x.re o.d _ _ _ _ c16_ R.r16 vd true hrc).mono ?_); rintro e W3_ ⟨rfl, hb_⟩; clear Jh Yh; clear c16_; replace R := R.below hb_; replace VW := Kd.V_below VW hb_; replace Bh := blk_below Bh hb_; replace HN := hN_ HN hb_.size; replace HB := HB.tr_ hb_; clear hb_; have Jh := wk.ca Bh; have Yh := wk.za Bh) | (go_at_call 67; (with_reducible refine (box_Open.calls x.br _ _ x.bs va vb vd z false _ (Kd.V_reads' R.r10).2.2 (Kd.V_reads' R.r10).2.1 h1).mono ?_); rintro e W4_ ⟨v_, rfl, ho_, hb_⟩; clear Jh Yh; have V := wk.R_new (P := P) HN HB.size ho_; obtain ⟨Av, cv, rfl⟩ := Kd.V_slice V; clear ho_; replace R := R.below hb_; replace VW := Kd.V_below VW hb_; replace Bh := blk_below Bh hb_; replace HN := hN_ HN hb_.size; replace HB := HB.tr_ hb_; clear hb_; have Jh := wk.ca Bh; have Yh := wk.za Bh))
     go_ret2
     exact wk.outd none 0 s Bh (Kd.V_nil _ _ _ _ _) R HB bR_
    | true =>
     rw [if_pos rfl] at h
     simp only [Option.some.injEq, Prod.mk.injEq] at h
     obtain ⟨rfl, rfl, rfl⟩ := h
     have Jh := wk.ca Bh
     have Yh := wk.za Bh
     go_enter Try.func52, Try.ntmps52
     go_wp2_with (first | (go_at_call 64; have c16_ : w.cell? ⟨gh, 16, none⟩ = some (.slice s.a16 x.re.length s.c16) := (blk_cell Bh 16).trans rfl; (with_reducible refine (adv_first.calls gh x.re o.b _ _ _ _ c16_ R.r16 va true hra).mono ?_); rintro e W1_ ⟨rfl, hb_⟩; clear Jh Yh; clear c16_; replace R := R.below hb_; replace VW := Kd.V_below VW hb_; replace Bh := blk_below Bh hb_; replace HN := hN_ HN hb_.size; replace HB := HB.tr_ hb_; clear hb_; have Jh := wk.ca Bh; have Yh := wk.za Bh) | (go_at_call 64; have c16_ : W1_.cell? ⟨gh, 16, none⟩ = some (.slice s.a16 x.re.length s.c16) := (blk_cell Bh 16).trans rfl; (with_reducible refine (adv_first.calls gh x.re o.c _ _ _ _ c16_ R.r16 vb true hrb).mono ?_); rintro e W2_ ⟨rfl, hb_⟩; clear Jh Yh; clear c16_; replace R := R.below hb_; replace VW := Kd.V_below VW hb_; replace Bh := blk_below Bh hb_; replace HN := hN_ HN hb_.size; replace HB := HB.tr_ hb_; clear hb_; have Jh := wk.ca Bh; have Yh := wk.za Bh) | (go_at_call 64; have c16_ : W2_.cell? ⟨gh, 16, none⟩ = some (.slice s.a16 x.re.length s.c16) := (blk_cell Bh 16).trans rfl; (with_reducible refine (adv_first.calls gh x.re o.d _ _ _ _ c16_ R.r16 vd true hrc).mono ?_); rintro e W3_ ⟨rfl, hb_⟩; clear Jh Yh; clear c16_; replace R := R.below hb_; replace VW := Kd.V_below VW hb_; replace Bh := blk_below Bh hb_; replace HN := hN_ HN hb_.size; replace HB := HB.tr_ hb_; clear hb_; have Jh := wk.ca Bh; have Yh := wk.za Bh) | (go_at_call 67; (with_reducible refine (box_Open.calls x.br _ _ x.bs va vb vd z true _ (Kd.V_reads' R.r10).2.2 (Kd.V_reads' R.r10).2.1 h1).mono ?_); rintro e W4_ ⟨v_, rfl, ho_, hb_⟩; clear Jh Yh; have V := wk.R_new (P := P) HN HB.size ho_; obtain ⟨Av, cv, rfl⟩ := Kd.V_slice V; clear ho_; replace R := R.below hb_; replace VW := Kd.V_below VW hb_; replace Bh := blk_below Bh hb_; replace HN := hN_ HN hb_.size; replace HB := HB.tr_ hb_; clear hb_; have Jh := wk.ca Bh; have Yh := wk.za Bh))
     go_ret2
     exact wk.out Av cv s Bh V R HB

end Go.Proofs.Ythlcpbendleihaa.PAdvAlone
