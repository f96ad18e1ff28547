/- The law AdvAlone of the adversary's layer, walked by hand: text 9. -/
import Derived.Test.YthlcpbendleihaaAAdvAlone8
namespace Go.Proofs.Ythlcpbendleihaa.PAdvAlone
open Go Go.RowKit Go.Proofs.YthlcpbendleihaaW.PrintWords Go.Proofs.YthlcpbendleihaaW.PrintLast Go.Proofs.YthlcpbendleihaaW.PrintMore
set_option linter.unusedVariables false
set_option linter.unusedSimpArgs false
/-! ### ref12.Few: function 19 -/
def few_regs (l : List (List Int)) : Bool := (List.range 20).all fun i => decide (l.length ≤ i) || decide ((rd_L1 l (i : Int)).length ≤ 100)
theorem few_yes {l : List (List Int)} {n : Nat} (h : ∀ j : Nat, j < n → (rd_L1 l (j : Int)).length ≤ 100) (hn : l.length ≤ n ∨ 20 ≤ n) : few_regs l = true := by
 unfold few_regs
 rw [List.all_eq_true]
 intro i hi
 rw [List.mem_range] at hi
 by_cases c : i < n
 ·
  rw [decide_eq_true (h i c), Bool.or_true]
 ·
  rw [decide_eq_true (show l.length ≤ i by omega), Bool.true_or]
theorem few_no {l : List (List Int)} {n : Nat} (h1 : n < 20) (h2 : n < l.length) (h3 : ¬ (rd_L1 l (n : Int)).length ≤ 100) : few_regs l = false := by
 unfold few_regs
 rw [List.all_eq_false]
 exact ⟨n, List.mem_range.2 h1, by rw [decide_eq_false (show ¬ l.length ≤ n by omega), decide_eq_false h3]; decide⟩
theorem few_cmp (a b c d : Nat) : (decide ((a : Int) ≤ 10) = false ∧ decide (a ≤ 10) = false) ∨ (decide ((a : Int) ≤ 10) = true ∧ decide (a ≤ 10) = true ∧ decide ((b : Int) ≤ 300) = false ∧ decide (b ≤ 300) = false) ∨ (decide ((a : Int) ≤ 10) = true ∧ decide (a ≤ 10) = true ∧ decide ((b : Int) ≤ 300) = true ∧ decide (b ≤ 300) = true ∧ decide ((c : Int) ≤ 300) = false ∧ decide (c ≤ 300) = false) ∨ (decide ((a : Int) ≤ 10) = true ∧ decide (a ≤ 10) = true ∧ decide ((b : Int) ≤ 300) = true ∧ decide (b ≤ 300) = true ∧ decide ((c : Int) ≤ 300) = true ∧ decide (c ≤ 300) = true ∧ decide ((d : Int) ≤ 1000) = decide (d ≤ 1000)) := by
 simp only [decide_eq_true_eq, decide_eq_false_iff_not, decide_eq_decide]
 omega
theorem few_exit (n l : Nat) : (n < l ∧ n < 20 ∧ decide ((n : Int) < (l : Int)) = true ∧ decide (n < l) = true ∧ decide ((n : Int) < 20) = true ∧ decide (n < 20) = true) ∨ ((l ≤ n ∨ 20 ≤ n) ∧ decide ((n : Int) < (l : Int)) = true ∧ decide (n < l) = true ∧ decide ((n : Int) < 20) = false ∧ decide (n < 20) = false) ∨ ((l ≤ n ∨ 20 ≤ n) ∧ decide ((n : Int) < (l : Int)) = false ∧ decide (n < l) = false) := by
 simp only [decide_eq_true_eq, decide_eq_false_iff_not]
 omega
def chamberlainref12_Few.f (k : Nat) (x : wk.X) : Option Bool := if few_regs x.re = true then (chamberlainref07_Few.f k x.br x.bs).bind fun a => if a = true then (chamberlainref06_Few.f k x.nr x.ng x.ns).bind fun b => if b = true then (chamberlainref10_Few.f k x.pe).bind fun c => if c = true then some (decide (x.re.length ≤ 10) && decide (x.lo.length ≤ 300) && decide (x.le.length ≤ 300) && decide (x.dl.length ≤ 1000)) else some false else some false else some false else some false
set_option maxHeartbeats 8000000 in
set_option maxRecDepth 100000 in
theorem chamberlainref12_Few.calls (k : Nat) (x : wk.X) (s : wk.S) (P : Nat → Prop) (r : Bool) (w : World) (R : wk.Rd w P x s) (h : chamberlainref12_Few.f k x = some r) :
 Calls Try.prog 19 #[.agg (wk.cs x s)] w fun e w' => e = .returned (.bool r) ∧ Below w.heap.size w w' := by
 have hu39 := Try.underlying39
 have hu27 := Try.underlying27
 have hu30 := Try.underlying30
 have hu34 := Try.underlying34
 unfold wk.cs
 have HB := Below.refl w.heap.size w
 have HN : ∀ q ∈ ([] : List Nat), q < w.heap.size := fun q hq => by simp at hq
 replace R := R.start w.heap.size
 unfold chamberlainref12_Few.f at h
 have HH0 := Aside0.mk h
 have hmax : x.re.length ≤ 9223372036854775807 := (Kd.V_reads' R.r16).2.2.2.1
 clear h
 go_enter Try.func19, Try.ntmps19
 go_wp2_with (first | ((with_reducible refine gate_dst (N := 1) rfl ?_); (try (refine gate_guard (by rfl) ?_; dsimp only)); refine box_event ?hg (N := 1) ?hd (cs := #[.int .u32 x.c0, .int .i64 x.c1, .int .i64 x.c2, .int .i64 x.c3, .int .i64 x.c4, .int .i64 x.c5, .int .i64 x.c6, .slice s.a7 x.dl.length s.c7, .int .i64 x.dn, .int .i64 x.br, .slice s.a10 x.bs.length s.c10, .int .i64 x.nr, .slice s.a12 x.ng.length s.c12, .slice s.a13 x.ns.length s.c13, .slice s.a14 x.pe.length s.c14, .slice s.a15 x.lo.length s.c15, .slice s.a16 x.re.length s.c16, .slice s.a17 x.le.length s.c17]) (t := 39) ?hr ?_; (case hd => rfl); (case hg => rfl); (case hr => first | (go_simp; done) | (go_simp; rfl)); intro ga hg_ W1_ Ba hb_; have gea : w.heap.size ≤ ga := (by rw [hg_]; exact HB.size); replace R := (R.fresh hg_).below hb_; replace HN := wk.N_new HN hb_.size (blk_lt Ba); replace HB := HB.tr_ hb_; clear hb_ hg_; skip))
 go_loopw [3] (fun i wr => ∃ n : Nat, n ≤ x.re.length ∧ n ≤ 20 ∧ i = .int .i64 n ∧ Aside0 (∀ j : Nat, j < n → (rd_L1 x.re (j : Int)).length ≤ 100) ∧ Aside0 (wr.heap[ga]? = some (.cells #[.int .u32 x.c0, .int .i64 x.c1, .int .i64 x.c2, .int .i64 x.c3, .int .i64 x.c4, .int .i64 x.c5, .int .i64 x.c6, .slice s.a7 x.dl.length s.c7, .int .i64 x.dn, .int .i64 x.br, .slice s.a10 x.bs.length s.c10, .int .i64 x.nr, .slice s.a12 x.ng.length s.c12, .slice s.a13 x.ns.length s.c13, .slice s.a14 x.pe.length s.c14, .slice s.a15 x.lo.length s.c15, .slice s.a16 x.re.length s.c16, .slice s.a17 x.le.length s.c17] 39 (0, 0))) ∧ Aside0 (wk.Rd wr (wk.Q P w.heap.size [ga]) x s) ∧ Aside0 (Below w.heap.size w wr)) (fun i _ => x.re.length - (intOf i).toNat)
 case atStart => exact ⟨0, Nat.zero_le _, Nat.zero_le _, rfl, ⟨fun j hj => by omega⟩, ⟨Ba⟩, ⟨R⟩, ⟨HB⟩⟩
 case round =>
  obtain ⟨n, hn, hn20, rfl, HNO, BA, RR, HBB⟩ := hrel
  have h := HH0.out
  clear HH0 Ba R HB HN
  have Ba := BA.out
  have R := RR.out
  have HB := HBB.out
  clear BA RR HBB
  have HN : ∀ q ∈ [ga], q < wr.heap.size := fun q hq => by rw [List.mem_singleton] at hq; rw [hq]; exact blk_lt Ba
  rcases few_exit n x.re.length with ⟨c1, c2, c1b, c1c, c2b, c2c⟩ | ⟨hx, c1b, c1c, c2b, c2c⟩ | ⟨hx, c1b, c1c⟩
  ·
   obtain ⟨ad, Ae, ce, ee, hx, VE⟩ := wk.row_get R.r16 (n : Int) (by omega) (by omega)
   have HE := Aside0.mk ee
   clear ee VE
   have p1 : (0 ≤ (n : Int)) = True := eq_true (by omega)
   have q1 : ((n : Int) < (x.re.length : Int)) = True := eq_true (by omega)
   have q2 : (n < x.re.length) = True := eq_true c1
   rw [Int.toNat_natCast] at hx
   have ka_16 : wr.cell? ⟨ga, 16, none⟩ = some (.slice (some ad) x.re.length s.c16) := (blk_cell Ba 16).trans (by rw [← HE.out]; rfl)
   have za_16 := blk_frozen Ba 16
   have HBo := Aside0.mk HB
   have HRo := Aside0.mk R
   have HAo := Aside0.mk Ba
   by_cases c3 : (rd_L1 x.re (n : Int)).length ≤ 100
   ·
    have c3b : decide (100 < ((rd_L1 x.re (n : Int)).length : Int)) = false := decide_eq_false (by omega)
    have c3c : decide (100 < (rd_L1 x.re (n : Int)).length) = false := decide_eq_false (by omega)
    clear R HB Ba HN h
    go_wp2
    go_roundw
    case rel => exact ⟨n + 1, by omega, by omega, by go_num, ⟨fun j hj => by rcases Nat.lt_or_ge j n with q | q; (exact HNO.out j q); (obtain rfl : j = n := by omega); exact c3⟩, HAo, HRo, HBo⟩
    case measure => simp [intOf]; omega
   ·
    have c3b : decide (100 < ((rd_L1 x.re (n : Int)).length : Int)) = true := decide_eq_true (by omega)
    have c3c : decide (100 < (rd_L1 x.re (n : Int)).length) = true := decide_eq_true (by omega)
    rw [few_no c2 c1 c3, if_neg (show ¬ (false = true) by decide)] at h
    obtain rfl := Option.some.inj h
    clear R HB Ba HN h
    go_wp2
    go_ret
    exact ⟨rfl, HBo.out⟩
  all_goals
   have hq := few_yes HNO.out hx
   rw [hq, if_pos rfl] at h
   clear hq hx
   obtain ⟨a, h10, h⟩ := Option.bind_eq_some_iff.mp h
   have h1 := Aside0.mk h10
   clear h10
   have Ja := wk.ca Ba
   have Ya := wk.za Ba
   go_wp2_with (first | (go_at_call 38; (with_reducible refine (chamberlainref07_Few.calls k x.br _ _ x.bs a _ (Kd.V_reads' R.r10).2.2 (Kd.V_reads' R.r10).2.1 h1.out).mono ?_); rintro e W1_ ⟨rfl, hb_⟩; clear Ja Ya; replace R := R.below hb_; replace Ba := blk_below Ba hb_; replace HN := hN_ HN hb_.size; replace HB := HB.tr_ hb_; clear hb_; have Ja := wk.ca Ba; have Ya := wk.za Ba; cases a; (rw [if_neg (show ¬ (false = true) by decide)] at h; obtain rfl := Option.some.inj h); rotate_left; (rw [if_pos rfl] at h; obtain ⟨b, h20, h⟩ := Option.bind_eq_some_iff.mp h; have h2 := Aside0.mk h20; clear h20)) | (go_at_call 39; (with_reducible refine (chamberlainref06_Few.calls k x.nr _ _ x.ng _ _ x.ns b _ (Kd.V_reads' R.r12).2.2 (Kd.V_reads' R.r12).2.1 (Kd.V_reads' R.r13).2.2 (Kd.V_reads' R.r13).2.1 h2.out).mono ?_); rintro e W2_ ⟨rfl, hb_⟩; clear Ja Ya; replace R := R.below hb_; replace Ba := blk_below Ba hb_; replace HN := hN_ HN hb_.size; replace HB := HB.tr_ hb_; clear hb_; have Ja := wk.ca Ba; have Ya := wk.za Ba; cases b; (rw [if_neg (show ¬ (false = true) by decide)] at h; obtain rfl := Option.some.inj h); rotate_left; (rw [if_pos rfl] at h; obtain ⟨c, h30, h⟩ := Option.bind_eq_some_iff.mp h; have h3 := Aside0.mk h30; clear h30)) | (go_at_call 40; (with_reducible refine (chamberlainref10_Few.calls k _ _ x.pe c _ (Kd.V_reads' R.r14).2.2 (Kd.V_reads' R.r14).2.1 h3.out).mono ?_); rintro e W3_ ⟨rfl, hd_⟩; have hb_ := hd_.below; clear Ja Ya; replace R := R.below hb_; replace Ba := blk_below Ba hb_; replace HN := hN_ HN hb_.size; replace HB := HB.tr_ hb_; clear hb_; have Ja := wk.ca Ba; have Ya := wk.za Ba; cases c; (rw [if_neg (show ¬ (false = true) by decide)] at h; obtain rfl := Option.some.inj h); rotate_left; (rw [if_pos rfl] at h; obtain rfl := Option.some.inj h; clear h; rcases few_cmp x.re.length x.lo.length x.le.length x.dl.length with ⟨q1b, q1c⟩ | ⟨q1b, q1c, q2b, q2c⟩ | ⟨q1b, q1c, q2b, q2c, q3b, q3c⟩ | ⟨q1b, q1c, q2b, q2c, q3b, q3c, q4b⟩)))
   all_goals
    go_ret
    exact ⟨by first | done | rfl | (simp [q1c]; done) | (simp [q1c, q2c]; done) | (simp [q1c, q2c, q3c]; done) | (simp [q1c, q2c, q3c]; omega), HB⟩

/-! ### ref12.Form: function 20 -/
/-- A person's cells in a row of persons, and its own rows. -/
theorem wk.per_get {W : World} {base n c : Nat} {P : Nat → Prop} {A : Option Addr} {l : List S55} (h : Kd.V k55 55 W base P (.slice A n c) l) (i : Int) (h0 : 0 ≤ i) (h1 : i < n) :
  ∃ ad A3 c3 A4 c4, A = some ad ∧ W.cell? (ad.add (i.toNat * 6)) = some (.int .u32 (rd_T55 l i).f0) ∧ W.cell? ⟨(ad.add (i.toNat * 6)).block, (ad.add (i.toNat * 6)).off + 1, none⟩ = some (.int .u32 (rd_T55 l i).f1) ∧ W.cell? ⟨(ad.add (i.toNat * 6)).block, (ad.add (i.toNat * 6)).off + 2, none⟩ = some (.int .u32 (rd_T55 l i).f2) ∧ W.cell? ⟨(ad.add (i.toNat * 6)).block, (ad.add (i.toNat * 6)).off + 3, none⟩ = some (.slice A3 (rd_T55 l i).f3.length c3) ∧ W.cell? ⟨(ad.add (i.toNat * 6)).block, (ad.add (i.toNat * 6)).off + 4, none⟩ = some (.slice A4 (rd_T55 l i).f4.length c4) ∧ W.cell? ⟨(ad.add (i.toNat * 6)).block, (ad.add (i.toNat * 6)).off + 5, none⟩ = some (.bool (rd_T55 l i).f5) ∧ Kd.V (Kd.int .u32) 22 W 0 P (.slice A3 (rd_T55 l i).f3.length c3) (rd_T55 l i).f3 ∧ Kd.V k113 113 W 0 P (.slice A4 (rd_T55 l i).f4.length c4) (rd_T55 l i).f4 := by
 obtain ⟨rfl, _, hC⟩ := Kd.V_reads' h
 obtain ⟨ad, _, _, _, _, e, _⟩ := at_T55 hC i h0 h1
 subst e
 obtain ⟨ce, _, hM, hc0⟩ := Kd.V_get h z55 i h0 h1
 have hc : ∀ j u, ce[j]? = some u → W.cell? (ad.add (i.toNat * 6 + j)) = some u := fun j u hu => hc0 j u hu
 obtain ⟨A3, c3, A4, c4, rfl, l3, g3, l4, g4⟩ := k55_openF hM
 exact ⟨ad, A3, c3, A4, c4, rfl, hc 0 _ rfl, by rw [← add_field _ _ 1 (by omega)]; exact hc 1 _ rfl, by rw [← add_field _ _ 2 (by omega)]; exact hc 2 _ rfl, by rw [← add_field _ _ 3 (by omega)]; exact hc 3 _ rfl, by rw [← add_field _ _ 4 (by omega)]; exact hc 4 _ rfl, by rw [← add_field _ _ 5 (by omega)]; exact hc 5 _ rfl, Kd.V_mk l3 g3, Kd.V_mk l4 g4⟩
/-- A world has its form. -/
structure wk.Form (k : Nat) (x : wk.X) : Prop where
 may : chamberlainref12_May.f x.c0 x.c1 x.c2 x.c3 x.c4 x.c5 x.c6 = some true
 box : chamberlainref07_Right.f k x.br x.bs = some true
 broom : x.br = x.c2
 net : chamberlainref06_Right.f x.nr x.ng x.ns = some true
 nroom : x.nr = x.c5
 peo : chamberlainref10_Right.f k x.pe = some true
 plen : (x.pe.length : Int) = x.c1 + 1
 rlen : (x.re.length : Int) = x.c6
 dn0 : 0 ≤ x.dn
 dn1 : x.dn ≤ 1048576
 used : ∀ i : Nat, i < x.pe.length → chamberlainref08_Right.f k (rd_T55 x.pe i).f3 x.c3 = some true ∧ chamberlainref09_Right.f k (rd_T55 x.pe i).f4 x.c4 = some true ∧ (rd_T55 x.pe i).f2 ≤ 1073741824
 regs : ∀ i : Nat, i < x.re.length → (rd_L1 x.re i).length ≤ 64
 seen : ∀ i : Nat, i < x.ns.length → (rd_L1 x.ns i).length ≤ 64
 grams : ∀ i : Nat, i < x.ng.length → (rd_T94 x.ng i).f1.length ≤ 64
theorem wk.may_six {a b c d e f g : Int} (h : chamberlainref12_May.f a b c d e f g = some true) : b ≤ 6 ∧ 1 ≤ b := by
 unfold chamberlainref12_May.f at h
 by_cases q1 : a ≤ 1048576 <;> by_cases q2 : b ≥ 1 <;> by_cases q3 : b ≤ 6 <;> simp_all
theorem wk.may_wrap {a b c d e f g : Int} (h : chamberlainref12_May.f a b c d e f g = some true) : wrap64 (b + 1) = b + 1 := by
 have := wk.may_six h
 unfold wrap64
 omega
theorem wk.eq3 (a b : Int) : (Aside0 (a = b) ∧ (a == b) = true ∧ (a != b) = false) ∨ ((a == b) = false ∧ (a != b) = true) := by
 by_cases h : a = b
 ·
  exact .inl ⟨⟨h⟩, beq_iff_eq.mpr h, bne_eq_false_iff_eq.mpr h⟩
 ·
  exact .inr ⟨beq_eq_false_iff_ne.mpr h, bne_iff_ne.mpr h⟩
theorem wk.lt2 (a b : Int) : (Aside0 (¬ a < b) ∧ decide (a < b) = false) ∨ decide (a < b) = true := by
 by_cases h : a < b
 ·
  exact .inr (decide_eq_true h)
 ·
  exact .inl ⟨⟨h⟩, decide_eq_false h⟩
set_option maxHeartbeats 8000000 in
set_option maxRecDepth 100000 in
theorem chamberlainref12_Form.calls (k : Nat) (x : wk.X) (s : wk.S) (P : Nat → Prop) (m b7 n6 p10 : Bool) (w : World) (R : wk.Rd w P x s) (hm : Aside0 (chamberlainref12_May.f x.c0 x.c1 x.c2 x.c3 x.c4 x.c5 x.c6 = some m)) (h7 : Aside0 (chamberlainref07_Right.f k x.br x.bs = some b7)) (h6 : Aside0 (chamberlainref06_Right.f x.nr x.ng x.ns = some n6)) (h10 : Aside0 (chamberlainref10_Right.f k x.pe = some p10))
  (hU : ∀ i : Nat, i < x.pe.length → ∃ a b, chamberlainref08_Right.f k (rd_T55 x.pe i).f3 x.c3 = some a ∧ chamberlainref09_Right.f k (rd_T55 x.pe i).f4 x.c4 = some b) :
 Calls Try.prog 20 #[.agg (wk.cs x s)] w fun e w' => ∃ r, e = .returned (.bool r) ∧ (r = true → wk.Form k x) ∧ Below w.heap.size w w' := by
 have hu39 := Try.underlying39
 have hu24 := Try.underlying24
 have hu27 := Try.underlying27
 have hu30 := Try.underlying30
 have hu34 := Try.underlying34
 have hu55 := Try.underlying55
 have hu94 := Try.underlying94
 have hmax1 : x.re.length ≤ 9223372036854775807 := (Kd.V_reads' R.r16).2.2.2.1
 have hmax2 : x.pe.length ≤ 9223372036854775807 := (Kd.V_reads' R.r14).2.2.2.1
 have hmax3 : x.ns.length ≤ 9223372036854775807 := (Kd.V_reads' R.r13).2.2.2.1
 have hmax4 : x.ng.length ≤ 9223372036854775807 := (Kd.V_reads' R.r12).2.2.2.1
 unfold wk.cs
 have HB := Below.refl w.heap.size w
 have HN : ∀ q ∈ ([] : List Nat), q < w.heap.size := fun q hq => by simp at hq
 replace R := R.start w.heap.size
 go_enter Try.func20, Try.ntmps20
 go_wp2_with (first | ((with_reducible refine gate_dst (N := 1) rfl ?_); (try (refine gate_guard (by rfl) ?_; dsimp only)); refine box_event ?hg (N := 1) ?hd (cs := #[.int .u32 x.c0, .int .i64 x.c1, .int .i64 x.c2, .int .i64 x.c3, .int .i64 x.c4, .int .i64 x.c5, .int .i64 x.c6, .slice s.a7 x.dl.length s.c7, .int .i64 x.dn, .int .i64 x.br, .slice s.a10 x.bs.length s.c10, .int .i64 x.nr, .slice s.a12 x.ng.length s.c12, .slice s.a13 x.ns.length s.c13, .slice s.a14 x.pe.length s.c14, .slice s.a15 x.lo.length s.c15, .slice s.a16 x.re.length s.c16, .slice s.a17 x.le.length s.c17]) (t := 39) ?hr ?_; (case hd => rfl); (case hg => rfl); (case hr => first | (go_simp; done) | (go_simp; rfl)); intro ga hg_ W1_ Ba hb_; have gea : w.heap.size ≤ ga := (by rw [hg_]; exact HB.size); replace R := (R.fresh hg_).below hb_; replace HN := wk.N_new HN hb_.size (blk_lt Ba); replace HB := HB.tr_ hb_; clear hb_ hg_; have Ja := wk.ca Ba; have Ya := wk.za Ba) | (go_at_call 41; (with_reducible refine (chamberlainref12_May.calls _ _ _ _ _ _ _ m _ hm.out).mono ?_); rintro e W2_ ⟨rfl, hb_⟩; clear Ja Ya; replace R := R.below hb_; replace Ba := blk_below Ba hb_; replace HN := hN_ HN hb_.size; replace HB := HB.tr_ hb_; clear hb_; have Ja := wk.ca Ba; have Ya := wk.za Ba; cases m; rotate_left; (have hw1 := wk.may_wrap hm.out)) | (go_at_call 42; (with_reducible refine (chamberlainref07_Right.calls k x.br _ _ x.bs b7 _ (Kd.V_reads' R.r10).2.2 (Kd.V_reads' R.r10).2.1 h7.out).mono ?_); rintro e W3_ ⟨rfl, hb_⟩; clear Ja Ya; replace R := R.below hb_; replace Ba := blk_below Ba hb_; replace HN := hN_ HN hb_.size; replace HB := HB.tr_ hb_; clear hb_; have Ja := wk.ca Ba; have Ya := wk.za Ba; cases b7; rotate_left; (rcases wk.eq3 x.br x.c2 with ⟨e1, e1b, e1c⟩ | ⟨e1b, e1c⟩)) | (go_at_call 43; (with_reducible refine (chamberlainref06_Right.calls x.nr _ _ x.ng _ _ x.ns n6 _ (Kd.V_reads' R.r12).2.2 (Kd.V_reads' R.r12).2.1 (Kd.V_reads' R.r13).2.2 (Kd.V_reads' R.r13).2.1 h6.out).mono ?_); rintro e W4_ ⟨rfl, hb_⟩; clear Ja Ya; replace R := R.below hb_; replace Ba := blk_below Ba hb_; replace HN := hN_ HN hb_.size; replace HB := HB.tr_ hb_; clear hb_; have Ja := wk.ca Ba; have Ya := wk.za Ba; cases n6; rotate_left; (rcases wk.eq3 x.nr x.c5 with ⟨e2, e2b, e2c⟩ | ⟨e2b, e2c⟩)) | (go_at_call 44; (with_reducible refine (chamberlainref10_Right.calls k _ _ x.pe p10 _ (Kd.V_reads' R.r14).2.2 (Kd.V_reads' R.r14).2.1 h10.out).mono ?_); rintro e W5_ ⟨rfl, hd_⟩; have hb_ := hd_.below; clear Ja Ya; replace R := R.below hb_; replace Ba := blk_below Ba hb_; replace HN := hN_ HN hb_.size; replace HB := HB.tr_ hb_; clear hb_; have Ja := wk.ca Ba; have Ya := wk.za Ba; cases p10; rotate_left; (rcases wk.eq3 (x.pe.length : Int) (x.c1 + 1) with ⟨e3, e3b, e3c⟩ | ⟨e3b, e3c⟩; rcases wk.eq3 (x.re.length : Int) x.c6 with ⟨e4, e4b, e4c⟩ | ⟨e4b, e4c⟩; rcases wk.lt2 x.dn 0 with ⟨e5, e5b⟩ | e5b; rcases wk.lt2 1048576 x.dn with ⟨e6, e6b⟩ | e6b)))
 all_goals try (go_ret; exact ⟨false, rfl, (fun h_ => absurd h_ (by decide)), HB⟩)
 have HU := Aside0.mk hU
 clear hU hw1
 clear Ja Ya
 go_loopw [3] (fun i_ wr => ∃ n : Nat, n ≤ x.pe.length ∧ i_ = .int .i64 n ∧ Aside0 (∀ j : Nat, j < n → chamberlainref08_Right.f k (rd_T55 x.pe j).f3 x.c3 = some true ∧ chamberlainref09_Right.f k (rd_T55 x.pe j).f4 x.c4 = some true ∧ (rd_T55 x.pe j).f2 ≤ 1073741824) ∧ Aside0 (wr.heap[ga]? = some (.cells #[.int .u32 x.c0, .int .i64 x.c1, .int .i64 x.c2, .int .i64 x.c3, .int .i64 x.c4, .int .i64 x.c5, .int .i64 x.c6, .slice s.a7 x.dl.length s.c7, .int .i64 x.dn, .int .i64 x.br, .slice s.a10 x.bs.length s.c10, .int .i64 x.nr, .slice s.a12 x.ng.length s.c12, .slice s.a13 x.ns.length s.c13, .slice s.a14 x.pe.length s.c14, .slice s.a15 x.lo.length s.c15, .slice s.a16 x.re.length s.c16, .slice s.a17 x.le.length s.c17] 39 (0, 0))) ∧ Aside0 (wk.Rd wr (wk.Q P w.heap.size [ga]) x s) ∧ Aside0 (Below w.heap.size w wr)) (fun i_ _ => x.pe.length - (intOf i_).toNat)
 case atStart => exact ⟨0, Nat.zero_le _, rfl, ⟨fun j hj => by omega⟩, ⟨Ba⟩, ⟨R⟩, ⟨HB⟩⟩
 case round =>
  clear Ba R HB HN
  obtain ⟨n, hn, rfl, HF1, BA, RR, HBB⟩ := hrel
  have Ba := BA.out
  have R := RR.out
  have HB := HBB.out
  clear BA RR HBB
  have HN : ∀ q ∈ [ga], q < wr.heap.size := fun q hq => by rw [List.mem_singleton] at hq; rw [hq]; exact blk_lt Ba
  by_cases c1 : n < x.pe.length
  ·
   have c1b : decide ((n : Int) < (x.pe.length : Int)) = true := decide_eq_true (by omega)
   have c1c : decide (n < x.pe.length) = true := decide_eq_true c1
   obtain ⟨a, b, ha0, hb0⟩ := HU.out n c1
   have ha := Aside0.mk ha0
   have hb := Aside0.mk hb0
   clear ha0 hb0
   obtain ⟨ad, A3, c3, A4, c4, ee, hx0, hx1, hx2, hx3, hx4, hx5, V3, V4⟩ := wk.per_get R.r14 (n : Int) (by omega) (by omega)
   have HE := Aside0.mk ee
   clear ee
   have p1 : (0 ≤ (n : Int)) = True := eq_true (by omega)
   have q1 : ((n : Int) < (x.pe.length : Int)) = True := eq_true (by omega)
   have q2 : (n < x.pe.length) = True := eq_true c1
   rw [Int.toNat_natCast] at hx0 hx1 hx2 hx3 hx4 hx5
   have ka_14 : wr.cell? ⟨ga, 14, none⟩ = some (.slice (some ad) x.pe.length s.c14) := (blk_cell Ba 14).trans (by rw [← HE.out]; rfl)
   have za_14 := blk_frozen Ba 14
   have ka_3 : wr.cell? ⟨ga, 3, none⟩ = some (.int .i64 x.c3) := (blk_cell Ba 3).trans rfl
   have za_3 := blk_frozen Ba 3
   have ka_4 : wr.cell? ⟨ga, 4, none⟩ = some (.int .i64 x.c4) := (blk_cell Ba 4).trans rfl
   have za_4 := blk_frozen Ba 4
   go_wp2_with (first | ((with_reducible refine gate_dst (N := 4) rfl ?_); (try (refine gate_guard (by rfl) ?_; dsimp only)); refine box_event ?hg (N := 4) ?hd (cs := #[.int .u32 0, .int .u32 0, .int .u32 0, .slice none 0 0, .slice none 0 0, .bool false]) (t := 55) ?hr ?_; (case hd => rfl); (case hg => rfl); (case hr => first | (go_simp; done) | (go_simp; rfl)); intro gp hg_ W1_ Bp hb_; have gep : w.heap.size ≤ gp := (by rw [hg_]; exact HB.size); have na_p : ga ≠ gp := (by rw [hg_]; exact Nat.ne_of_lt (blk_lt Ba)); have np_a : gp ≠ ga := na_p.symm; clear ka_3 za_3; clear ka_4 za_4; replace R := (R.fresh hg_).below hb_; replace V3 := Kd.V_below (wk.V_fresh V3 hg_) hb_; replace V4 := Kd.V_below (wk.V_fresh V4 hg_) hb_; replace Ba := blk_below Ba hb_; replace HN := wk.N_new HN hb_.size (blk_lt Bp); replace HB := HB.tr_ hb_; clear hb_ hg_; have ka_3 : W1_.cell? ⟨ga, 3, none⟩ = some (.int .i64 x.c3) := (blk_cell Ba 3).trans rfl; have za_3 := blk_frozen Ba 3; have ka_4 : W1_.cell? ⟨ga, 4, none⟩ = some (.int .i64 x.c4) := (blk_cell Ba 4).trans rfl; have za_4 := blk_frozen Ba 4; have kp_2 : W1_.cell? ⟨gp, 2, none⟩ = some (.int .u32 0) := (blk_cell Bp 2).trans rfl; have zp_2 := blk_frozen Bp 2; have kp_3 : W1_.cell? ⟨gp, 3, none⟩ = some (.slice none 0 0) := (blk_cell Bp 3).trans rfl; have zp_3 := blk_frozen Bp 3; have kp_4 : W1_.cell? ⟨gp, 4, none⟩ = some (.slice none 0 0) := (blk_cell Bp 4).trans rfl; have zp_4 := blk_frozen Bp 4) | ((with_reducible refine gate_store (t := 55) (p := 4) rfl ?_); refine wk.put_event (t := 55) (p := 4) rfl rfl rfl (cells := #[.int .u32 (rd_T55 x.pe n).f0, .int .u32 (rd_T55 x.pe n).f1, .int .u32 (rd_T55 x.pe n).f2, .slice A3 (rd_T55 x.pe n).f3.length c3, .slice A4 (rd_T55 x.pe n).f4.length c4, .bool (rd_T55 x.pe n).f5]) ?hx ?hy Bp ?hi ?hs ?h1 ?_; (case hx => first | rfl | (go_simp; done)); (case hy => first | rfl | (go_simp; done)); (case hi => kernel_rfl); (case hs => rfl); (case h1 => simp [Value.oneCell']); intro W2_ b_ hs_; clear ka_3 za_3; clear ka_4 za_4; clear kp_2 zp_2; clear kp_3 zp_3; clear kp_4 zp_4; replace R := R.st hs_ (fun k hk => hk.ne (by simp)); replace V3 := wk.V_st V3 hs_ (fun k hk => hk.ne (by simp)); replace V4 := wk.V_st V4 hs_ (fun k hk => hk.ne (by simp)); replace Ba := hs_.blk Ba na_p; replace HN := fun q hq => Nat.lt_of_lt_of_le (HN q hq) (hs_.bel 0 (Nat.zero_le _)).size; replace HB := hs_.below gep HB; replace Bp := b_; clear b_ hs_; have ka_3 : W2_.cell? ⟨ga, 3, none⟩ = some (.int .i64 x.c3) := (blk_cell Ba 3).trans rfl; have za_3 := blk_frozen Ba 3; have ka_4 : W2_.cell? ⟨ga, 4, none⟩ = some (.int .i64 x.c4) := (blk_cell Ba 4).trans rfl; have za_4 := blk_frozen Ba 4; have kp_2 : W2_.cell? ⟨gp, 2, none⟩ = some (.int .u32 (rd_T55 x.pe n).f2) := (blk_cell Bp 2).trans rfl; have zp_2 := blk_frozen Bp 2; have kp_3 : W2_.cell? ⟨gp, 3, none⟩ = some (.slice A3 (rd_T55 x.pe n).f3.length c3) := (blk_cell Bp 3).trans rfl; have zp_3 := blk_frozen Bp 3; have kp_4 : W2_.cell? ⟨gp, 4, none⟩ = some (.slice A4 (rd_T55 x.pe n).f4.length c4) := (blk_cell Bp 4).trans rfl; have zp_4 := blk_frozen Bp 4) | (go_at_call 45; (with_reducible refine (chamberlainref08_Right.calls k _ _ (rd_T55 x.pe n).f3 x.c3 a _ (Kd.V_reads' V3).2.2 (Kd.V_reads' V3).2.1 ha.out).mono ?_); rintro e W3_ ⟨rfl, hd_⟩; have hb_ := hd_.below; clear ka_3 za_3; clear ka_4 za_4; clear kp_2 zp_2; clear kp_3 zp_3; clear kp_4 zp_4; replace R := R.below hb_; replace V3 := Kd.V_below V3 hb_; replace V4 := Kd.V_below V4 hb_; replace Ba := blk_below Ba hb_; replace Bp := blk_below Bp hb_; replace HN := hN_ HN hb_.size; replace HB := HB.tr_ hb_; clear hb_; have ka_3 : W3_.cell? ⟨ga, 3, none⟩ = some (.int .i64 x.c3) := (blk_cell Ba 3).trans rfl; have za_3 := blk_frozen Ba 3; have ka_4 : W3_.cell? ⟨ga, 4, none⟩ = some (.int .i64 x.c4) := (blk_cell Ba 4).trans rfl; have za_4 := blk_frozen Ba 4; have kp_2 : W3_.cell? ⟨gp, 2, none⟩ = some (.int .u32 (rd_T55 x.pe n).f2) := (blk_cell Bp 2).trans rfl; have zp_2 := blk_frozen Bp 2; have kp_3 : W3_.cell? ⟨gp, 3, none⟩ = some (.slice A3 (rd_T55 x.pe n).f3.length c3) := (blk_cell Bp 3).trans rfl; have zp_3 := blk_frozen Bp 3; have kp_4 : W3_.cell? ⟨gp, 4, none⟩ = some (.slice A4 (rd_T55 x.pe n).f4.length c4) := (blk_cell Bp 4).trans rfl; have zp_4 := blk_frozen Bp 4; cases a; rotate_left) | (go_at_call 46; (with_reducible refine (chamberlainref09_Right.calls k _ _ (rd_T55 x.pe n).f4 x.c4 b _ (Kd.V_reads' V4).2.2 (Kd.V_reads' V4).2.1 hb.out).mono ?_); rintro e W4_ ⟨rfl, hb_⟩; clear ka_3 za_3; clear ka_4 za_4; clear kp_2 zp_2; clear kp_3 zp_3; clear kp_4 zp_4; replace R := R.below hb_; replace V3 := Kd.V_below V3 hb_; replace V4 := Kd.V_below V4 hb_; replace Ba := blk_below Ba hb_; replace Bp := blk_below Bp hb_; replace HN := hN_ HN hb_.size; replace HB := HB.tr_ hb_; clear hb_; have ka_3 : W4_.cell? ⟨ga, 3, none⟩ = some (.int .i64 x.c3) := (blk_cell Ba 3).trans rfl; have za_3 := blk_frozen Ba 3; have ka_4 : W4_.cell? ⟨ga, 4, none⟩ = some (.int .i64 x.c4) := (blk_cell Ba 4).trans rfl; have za_4 := blk_frozen Ba 4; have kp_2 : W4_.cell? ⟨gp, 2, none⟩ = some (.int .u32 (rd_T55 x.pe n).f2) := (blk_cell Bp 2).trans rfl; have zp_2 := blk_frozen Bp 2; have kp_3 : W4_.cell? ⟨gp, 3, none⟩ = some (.slice A3 (rd_T55 x.pe n).f3.length c3) := (blk_cell Bp 3).trans rfl; have zp_3 := blk_frozen Bp 3; have kp_4 : W4_.cell? ⟨gp, 4, none⟩ = some (.slice A4 (rd_T55 x.pe n).f4.length c4) := (blk_cell Bp 4).trans rfl; have zp_4 := blk_frozen Bp 4; cases b; rotate_left; (rcases wk.lt2 1073741824 (rd_T55 x.pe n).f2 with ⟨e7, e7b⟩ | e7b)))
   all_goals try (go_ret; exact ⟨false, rfl, (fun h_ => absurd h_ (by decide)), HB⟩)
   go_roundw
   case rel => exact ⟨n + 1, by omega, by go_num, ⟨fun j hj => by rcases Nat.lt_or_ge j n with q | q; (exact HF1.out j q); (obtain rfl : j = n := by omega); exact ⟨ha.out, hb.out, by have := e7.out; omega⟩⟩, ⟨Ba⟩, ⟨R.mono (fun k hk => ⟨hk.1, fun h_ => hk.2 (List.mem_cons_of_mem _ h_)⟩)⟩, ⟨HB⟩⟩
   case measure => simp [intOf]; omega
  ·
   have c1b : decide ((n : Int) < (x.pe.length : Int)) = false := decide_eq_false (by omega)
   have c1c : decide (n < x.pe.length) = false := decide_eq_false c1
   have hn' : n = x.pe.length := by omega
   replace HF1 : Aside0 (∀ j : Nat, j < x.pe.length → chamberlainref08_Right.f k (rd_T55 x.pe j).f3 x.c3 = some true ∧ chamberlainref09_Right.f k (rd_T55 x.pe j).f4 x.c4 = some true ∧ (rd_T55 x.pe j).f2 ≤ 1073741824) := ⟨fun j hj => HF1.out j (by omega)⟩
   clear c1 hn'
   have ka_12 : wr.cell? ⟨ga, 12, none⟩ = some (.slice s.a12 x.ng.length s.c12) := (blk_cell Ba 12).trans rfl
   have za_12 := blk_frozen Ba 12
   have ka_13 : wr.cell? ⟨ga, 13, none⟩ = some (.slice s.a13 x.ns.length s.c13) := (blk_cell Ba 13).trans rfl
   have za_13 := blk_frozen Ba 13
   have ka_14 : wr.cell? ⟨ga, 14, none⟩ = some (.slice s.a14 x.pe.length s.c14) := (blk_cell Ba 14).trans rfl
   have za_14 := blk_frozen Ba 14
   have ka_16 : wr.cell? ⟨ga, 16, none⟩ = some (.slice s.a16 x.re.length s.c16) := (blk_cell Ba 16).trans rfl
   have za_16 := blk_frozen Ba 16
   go_wp2
   clear ka_12 za_12; clear ka_13 za_13; clear ka_14 za_14; clear ka_16 za_16
   go_loopw [5] (fun i_ wr => ∃ n : Nat, n ≤ x.re.length ∧ i_ = .int .i64 n ∧ Aside0 (∀ j : Nat, j < n → (rd_L1 x.re j).length ≤ 64) ∧ Aside0 (wr.heap[ga]? = some (.cells #[.int .u32 x.c0, .int .i64 x.c1, .int .i64 x.c2, .int .i64 x.c3, .int .i64 x.c4, .int .i64 x.c5, .int .i64 x.c6, .slice s.a7 x.dl.length s.c7, .int .i64 x.dn, .int .i64 x.br, .slice s.a10 x.bs.length s.c10, .int .i64 x.nr, .slice s.a12 x.ng.length s.c12, .slice s.a13 x.ns.length s.c13, .slice s.a14 x.pe.length s.c14, .slice s.a15 x.lo.length s.c15, .slice s.a16 x.re.length s.c16, .slice s.a17 x.le.length s.c17] 39 (0, 0))) ∧ Aside0 (wk.Rd wr (wk.Q P w.heap.size [ga]) x s) ∧ Aside0 (Below w.heap.size w wr)) (fun i_ _ => x.re.length - (intOf i_).toNat)
   case atStart => exact ⟨0, Nat.zero_le _, rfl, ⟨fun j hj => by omega⟩, ⟨Ba⟩, ⟨R⟩, ⟨HB⟩⟩
   case round =>
    clear Ba R HB HN
    obtain ⟨n, hn, rfl, HF2, BA, RR, HBB⟩ := hrel
    have Ba := BA.out
    have R := RR.out
    have HB := HBB.out
    clear BA RR HBB
    have HN : ∀ q ∈ [ga], q < wr.heap.size := fun q hq => by rw [List.mem_singleton] at hq; rw [hq]; exact blk_lt Ba
    by_cases c1 : n < x.re.length
    ·
     have c1b : decide ((n : Int) < (x.re.length : Int)) = true := decide_eq_true (by omega)
     have c1c : decide (n < x.re.length) = true := decide_eq_true c1
     obtain ⟨ad, Ae, ce, ee, hx, VE⟩ := wk.row_get R.r16 (n : Int) (by omega) (by omega)
     clear VE
     have HE := Aside0.mk ee
     clear ee
     have p1 : (0 ≤ (n : Int)) = True := eq_true (by omega)
     have q1 : ((n : Int) < (x.re.length : Int)) = True := eq_true (by omega)
     have q2 : (n < x.re.length) = True := eq_true c1
     rw [Int.toNat_natCast] at hx
     have ka_16 : wr.cell? ⟨ga, 16, none⟩ = some (.slice (some ad) x.re.length s.c16) := (blk_cell Ba 16).trans (by rw [← HE.out]; rfl)
     have za_16 := blk_frozen Ba 16
     have HBo := Aside0.mk HB
     have HRo := Aside0.mk R
     have HAo := Aside0.mk Ba
     clear R HB Ba HN
     by_cases e8 : 64 < (rd_L1 x.re (n : Int)).length
     ·
      have e8b : decide (64 < ((rd_L1 x.re (n : Int)).length : Int)) = true := decide_eq_true (by omega)
      have e8c : decide (64 < (rd_L1 x.re (n : Int)).length) = true := decide_eq_true e8
      clear e8
      go_wp2
      go_ret
      exact ⟨false, rfl, (fun h_ => absurd h_ (by decide)), HBo.out⟩
     ·
      have e8b : decide (64 < ((rd_L1 x.re (n : Int)).length : Int)) = false := decide_eq_false (by omega)
      have e8c : decide (64 < (rd_L1 x.re (n : Int)).length) = false := decide_eq_false e8
      replace e8 := Aside0.mk e8
      go_wp2
      go_roundw
      case rel => exact ⟨n + 1, by omega, by go_num, ⟨fun j hj => by rcases Nat.lt_or_ge j n with q | q; (exact HF2.out j q); (obtain rfl : j = n := by omega); exact (by have := e8.out; omega)⟩, HAo, HRo, HBo⟩
      case measure => simp [intOf]; omega
    ·
     have c1b : decide ((n : Int) < (x.re.length : Int)) = false := decide_eq_false (by omega)
     have c1c : decide (n < x.re.length) = false := decide_eq_false c1
     have hn' : n = x.re.length := by omega
     replace HF2 : Aside0 (∀ j : Nat, j < x.re.length → (rd_L1 x.re j).length ≤ 64) := ⟨fun j hj => HF2.out j (by omega)⟩
     clear c1 hn'
     have ka_12 : wr.cell? ⟨ga, 12, none⟩ = some (.slice s.a12 x.ng.length s.c12) := (blk_cell Ba 12).trans rfl
     have za_12 := blk_frozen Ba 12
     have ka_13 : wr.cell? ⟨ga, 13, none⟩ = some (.slice s.a13 x.ns.length s.c13) := (blk_cell Ba 13).trans rfl
     have za_13 := blk_frozen Ba 13
     have ka_14 : wr.cell? ⟨ga, 14, none⟩ = some (.slice s.a14 x.pe.length s.c14) := (blk_cell Ba 14).trans rfl
     have za_14 := blk_frozen Ba 14
     have ka_16 : wr.cell? ⟨ga, 16, none⟩ = some (.slice s.a16 x.re.length s.c16) := (blk_cell Ba 16).trans rfl
     have za_16 := blk_frozen Ba 16
     go_wp2
     clear ka_12 za_12; clear ka_13 za_13; clear ka_14 za_14; clear ka_16 za_16
     go_loopw [6] (fun i_ wr => ∃ n : Nat, n ≤ x.ns.length ∧ i_ = .int .i64 n ∧ Aside0 (∀ j : Nat, j < n → (rd_L1 x.ns j).length ≤ 64) ∧ Aside0 (wr.heap[ga]? = some (.cells #[.int .u32 x.c0, .int .i64 x.c1, .int .i64 x.c2, .int .i64 x.c3, .int .i64 x.c4, .int .i64 x.c5, .int .i64 x.c6, .slice s.a7 x.dl.length s.c7, .int .i64 x.dn, .int .i64 x.br, .slice s.a10 x.bs.length s.c10, .int .i64 x.nr, .slice s.a12 x.ng.length s.c12, .slice s.a13 x.ns.length s.c13, .slice s.a14 x.pe.length s.c14, .slice s.a15 x.lo.length s.c15, .slice s.a16 x.re.length s.c16, .slice s.a17 x.le.length s.c17] 39 (0, 0))) ∧ Aside0 (wk.Rd wr (wk.Q P w.heap.size [ga]) x s) ∧ Aside0 (Below w.heap.size w wr)) (fun i_ _ => x.ns.length - (intOf i_).toNat)
     case atStart => exact ⟨0, Nat.zero_le _, rfl, ⟨fun j hj => by omega⟩, ⟨Ba⟩, ⟨R⟩, ⟨HB⟩⟩
     case round =>
      clear Ba R HB HN
      obtain ⟨n, hn, rfl, HF3, BA, RR, HBB⟩ := hrel
      have Ba := BA.out
      have R := RR.out
      have HB := HBB.out
      clear BA RR HBB
      have HN : ∀ q ∈ [ga], q < wr.heap.size := fun q hq => by rw [List.mem_singleton] at hq; rw [hq]; exact blk_lt Ba
      by_cases c1 : n < x.ns.length
      ·
       have c1b : decide ((n : Int) < (x.ns.length : Int)) = true := decide_eq_true (by omega)
       have c1c : decide (n < x.ns.length) = true := decide_eq_true c1
       obtain ⟨ad, Ae, ce, ee, hx, VE⟩ := wk.row_get R.r13 (n : Int) (by omega) (by omega)
       clear VE
       have HE := Aside0.mk ee
       clear ee
       have p1 : (0 ≤ (n : Int)) = True := eq_true (by omega)
       have q1 : ((n : Int) < (x.ns.length : Int)) = True := eq_true (by omega)
       have q2 : (n < x.ns.length) = True := eq_true c1
       rw [Int.toNat_natCast] at hx
       have ka_13 : wr.cell? ⟨ga, 13, none⟩ = some (.slice (some ad) x.ns.length s.c13) := (blk_cell Ba 13).trans (by rw [← HE.out]; rfl)
       have za_13 := blk_frozen Ba 13
       have HBo := Aside0.mk HB
       have HRo := Aside0.mk R
       have HAo := Aside0.mk Ba
       clear R HB Ba HN
       by_cases e8 : 64 < (rd_L1 x.ns (n : Int)).length
       ·
        have e8b : decide (64 < ((rd_L1 x.ns (n : Int)).length : Int)) = true := decide_eq_true (by omega)
        have e8c : decide (64 < (rd_L1 x.ns (n : Int)).length) = true := decide_eq_true e8
        clear e8
        go_wp2
        go_ret
        exact ⟨false, rfl, (fun h_ => absurd h_ (by decide)), HBo.out⟩
       ·
        have e8b : decide (64 < ((rd_L1 x.ns (n : Int)).length : Int)) = false := decide_eq_false (by omega)
        have e8c : decide (64 < (rd_L1 x.ns (n : Int)).length) = false := decide_eq_false e8
        replace e8 := Aside0.mk e8
        go_wp2
        go_roundw
        case rel => exact ⟨n + 1, by omega, by go_num, ⟨fun j hj => by rcases Nat.lt_or_ge j n with q | q; (exact HF3.out j q); (obtain rfl : j = n := by omega); exact (by have := e8.out; omega)⟩, HAo, HRo, HBo⟩
        case measure => simp [intOf]; omega
      ·
       have c1b : decide ((n : Int) < (x.ns.length : Int)) = false := decide_eq_false (by omega)
       have c1c : decide (n < x.ns.length) = false := decide_eq_false c1
       have hn' : n = x.ns.length := by omega
       replace HF3 : Aside0 (∀ j : Nat, j < x.ns.length → (rd_L1 x.ns j).length ≤ 64) := ⟨fun j hj => HF3.out j (by omega)⟩
       clear c1 hn'
       have ka_12 : wr.cell? ⟨ga, 12, none⟩ = some (.slice s.a12 x.ng.length s.c12) := (blk_cell Ba 12).trans rfl
       have za_12 := blk_frozen Ba 12
       have ka_13 : wr.cell? ⟨ga, 13, none⟩ = some (.slice s.a13 x.ns.length s.c13) := (blk_cell Ba 13).trans rfl
       have za_13 := blk_frozen Ba 13
       have ka_14 : wr.cell? ⟨ga, 14, none⟩ = some (.slice s.a14 x.pe.length s.c14) := (blk_cell Ba 14).trans rfl
       have za_14 := blk_frozen Ba 14
       have ka_16 : wr.cell? ⟨ga, 16, none⟩ = some (.slice s.a16 x.re.length s.c16) := (blk_cell Ba 16).trans rfl
       have za_16 := blk_frozen Ba 16
       go_wp2
       clear ka_12 za_12; clear ka_13 za_13; clear ka_14 za_14; clear ka_16 za_16
       go_loopw [7] (fun i_ wr => ∃ n : Nat, n ≤ x.ng.length ∧ i_ = .int .i64 n ∧ Aside0 (∀ j : Nat, j < n → (rd_T94 x.ng j).f1.length ≤ 64) ∧ Aside0 (wr.heap[ga]? = some (.cells #[.int .u32 x.c0, .int .i64 x.c1, .int .i64 x.c2, .int .i64 x.c3, .int .i64 x.c4, .int .i64 x.c5, .int .i64 x.c6, .slice s.a7 x.dl.length s.c7, .int .i64 x.dn, .int .i64 x.br, .slice s.a10 x.bs.length s.c10, .int .i64 x.nr, .slice s.a12 x.ng.length s.c12, .slice s.a13 x.ns.length s.c13, .slice s.a14 x.pe.length s.c14, .slice s.a15 x.lo.length s.c15, .slice s.a16 x.re.length s.c16, .slice s.a17 x.le.length s.c17] 39 (0, 0))) ∧ Aside0 (wk.Rd wr (wk.Q P w.heap.size [ga]) x s) ∧ Aside0 (Below w.heap.size w wr)) (fun i_ _ => x.ng.length - (intOf i_).toNat)
       case atStart => exact ⟨0, Nat.zero_le _, rfl, ⟨fun j hj => by omega⟩, ⟨Ba⟩, ⟨R⟩, ⟨HB⟩⟩
       case round =>
        clear Ba R HB HN
        obtain ⟨n, hn, rfl, HF4, BA, RR, HBB⟩ := hrel
        have Ba := BA.out
        have R := RR.out
        have HB := HBB.out
        clear BA RR HBB
        have HN : ∀ q ∈ [ga], q < wr.heap.size := fun q hq => by rw [List.mem_singleton] at hq; rw [hq]; exact blk_lt Ba
        by_cases c1 : n < x.ng.length
        ·
         have c1b : decide ((n : Int) < (x.ng.length : Int)) = true := decide_eq_true (by omega)
         have c1c : decide (n < x.ng.length) = true := decide_eq_true c1
         obtain ⟨ad, Ae, ce, ee, hx_, hx, _, _⟩ := at_T94 (Kd.V_reads' R.r12).2.2 (n : Int) (by omega) (by omega)
         clear hx_
         have HE := Aside0.mk ee
         clear ee
         have p1 : (0 ≤ (n : Int)) = True := eq_true (by omega)
         have q1 : ((n : Int) < (x.ng.length : Int)) = True := eq_true (by omega)
         have q2 : (n < x.ng.length) = True := eq_true c1
         rw [Int.toNat_natCast] at hx
         have ka_12 : wr.cell? ⟨ga, 12, none⟩ = some (.slice (some ad) x.ng.length s.c12) := (blk_cell Ba 12).trans (by rw [← HE.out]; rfl)
         have za_12 := blk_frozen Ba 12
         have HBo := Aside0.mk HB
         have HRo := Aside0.mk R
         have HAo := Aside0.mk Ba
         clear R HB Ba HN
         by_cases e8 : 64 < (rd_T94 x.ng (n : Int)).f1.length
         ·
          have e8b : decide (64 < ((rd_T94 x.ng (n : Int)).f1.length : Int)) = true := decide_eq_true (by omega)
          have e8c : decide (64 < (rd_T94 x.ng (n : Int)).f1.length) = true := decide_eq_true e8
          clear e8
          go_wp2
          go_ret
          exact ⟨false, rfl, (fun h_ => absurd h_ (by decide)), HBo.out⟩
         ·
          have e8b : decide (64 < ((rd_T94 x.ng (n : Int)).f1.length : Int)) = false := decide_eq_false (by omega)
          have e8c : decide (64 < (rd_T94 x.ng (n : Int)).f1.length) = false := decide_eq_false e8
          replace e8 := Aside0.mk e8
          go_wp2
          go_roundw
          case rel => exact ⟨n + 1, by omega, by go_num, ⟨fun j hj => by rcases Nat.lt_or_ge j n with q | q; (exact HF4.out j q); (obtain rfl : j = n := by omega); exact (by have := e8.out; omega)⟩, HAo, HRo, HBo⟩
          case measure => simp [intOf]; omega
        ·
         have c1b : decide ((n : Int) < (x.ng.length : Int)) = false := decide_eq_false (by omega)
         have c1c : decide (n < x.ng.length) = false := decide_eq_false c1
         have hn' : n = x.ng.length := by omega
         replace HF4 : Aside0 (∀ j : Nat, j < x.ng.length → (rd_T94 x.ng j).f1.length ≤ 64) := ⟨fun j hj => HF4.out j (by omega)⟩
         clear c1 hn'
         have ka_12 : wr.cell? ⟨ga, 12, none⟩ = some (.slice s.a12 x.ng.length s.c12) := (blk_cell Ba 12).trans rfl
         have za_12 := blk_frozen Ba 12
         have ka_14 : wr.cell? ⟨ga, 14, none⟩ = some (.slice s.a14 x.pe.length s.c14) := (blk_cell Ba 14).trans rfl
         have za_14 := blk_frozen Ba 14
         have ka_13 : wr.cell? ⟨ga, 13, none⟩ = some (.slice s.a13 x.ns.length s.c13) := (blk_cell Ba 13).trans rfl
         have za_13 := blk_frozen Ba 13
         have ka_16 : wr.cell? ⟨ga, 16, none⟩ = some (.slice s.a16 x.re.length s.c16) := (blk_cell Ba 16).trans rfl
         have za_16 := blk_frozen Ba 16
         go_wp2
         clear ka_12 za_12; clear ka_14 za_14; clear ka_13 za_13; clear ka_16 za_16
         go_ret
         exact ⟨true, rfl, fun _ => ⟨hm.out, h7.out, e1.out, h6.out, e2.out, h10.out, e3.out, e4.out, by have := e5.out; omega, by have := e6.out; omega, HF1.out, HF2.out, HF3.out, HF4.out⟩, HB⟩
/-! ### fits: function 7 -/
/-- Whether a world has its form can be told. -/
structure wk.Pre (k : Nat) (x : wk.X) : Prop where
 hm : ∃ m, chamberlainref12_May.f x.c0 x.c1 x.c2 x.c3 x.c4 x.c5 x.c6 = some m
 h7 : ∃ m, chamberlainref07_Right.f k x.br x.bs = some m
 h6 : ∃ m, chamberlainref06_Right.f x.nr x.ng x.ns = some m
 h10 : ∃ m, chamberlainref10_Right.f k x.pe = some m
 hU : ∀ i : Nat, i < x.pe.length → ∃ a b, chamberlainref08_Right.f k (rd_T55 x.pe i).f3 x.c3 = some a ∧ chamberlainref09_Right.f k (rd_T55 x.pe i).f4 x.c4 = some b
set_option maxHeartbeats 8000000 in
set_option maxRecDepth 100000 in
theorem chamberlainlaw21_fits.calls (k : Nat) (x : wk.X) (s : wk.S) (o : wk.O) (aq : Option Addr) (cq : Nat) (P : Nat → Prop) (rf : Bool) (w : World) (R : wk.Rd w P x s) (hf : Aside0 (chamberlainref12_Few.f k x = some rf)) (hP : Aside0 (rf = true → wk.Pre k x)) :
 Calls Try.prog 7 #[.agg (wk.cs x s), .agg #[.int .i64 o.kd, .int .i64 o.a, .int .i64 o.b, .int .i64 o.c, .int .i64 o.d, .slice aq o.ws.length cq]] w fun e w' => ∃ r, e = .returned (.bool r) ∧ (r = true → wk.Form k x ∧ rf = true ∧ o.ws.length ≤ 100) ∧ Below w.heap.size w w' := by
 have hu39 := Try.underlying39
 have hu41 := Try.underlying41
 unfold wk.cs
 have HB := Below.refl w.heap.size w
 have HN : ∀ q ∈ ([] : List Nat), q < w.heap.size := fun q hq => by simp at hq
 replace R := R.start w.heap.size
 cases rf with
 | false =>
  go_enter Try.func7, Try.ntmps7
  go_wp2_with (first | ((with_reducible refine gate_dst (N := 2) rfl ?_); (try (refine gate_guard (by rfl) ?_; dsimp only)); refine box_event ?hg (N := 2) ?hd (cs := #[.int .u32 x.c0, .int .i64 x.c1, .int .i64 x.c2, .int .i64 x.c3, .int .i64 x.c4, .int .i64 x.c5, .int .i64 x.c6, .slice s.a7 x.dl.length s.c7, .int .i64 x.dn, .int .i64 x.br, .slice s.a10 x.bs.length s.c10, .int .i64 x.nr, .slice s.a12 x.ng.length s.c12, .slice s.a13 x.ns.length s.c13, .slice s.a14 x.pe.length s.c14, .slice s.a15 x.lo.length s.c15, .slice s.a16 x.re.length s.c16, .slice s.a17 x.le.length s.c17]) (t := 39) ?hr ?_; (case hd => rfl); (case hg => rfl); (case hr => first | (go_simp; done) | (go_simp; rfl)); intro ga hg_ W1_ Ba hb_; have gea : w.heap.size ≤ ga := (by rw [hg_]; exact HB.size); replace R := (R.fresh hg_).below hb_; replace HN := wk.N_new HN hb_.size (blk_lt Ba); replace HB := HB.tr_ hb_; clear hb_ hg_; skip) | ((with_reducible refine gate_dst (N := 3) rfl ?_); (try (refine gate_guard (by rfl) ?_; dsimp only)); refine box_event ?hg (N := 3) ?hd (cs := #[.int .i64 o.kd, .int .i64 o.a, .int .i64 o.b, .int .i64 o.c, .int .i64 o.d, .slice aq o.ws.length cq]) (t := 41) ?hr ?_; (case hd => rfl); (case hg => rfl); (case hr => first | (go_simp; done) | (go_simp; rfl)); intro gb hg_ W2_ Bb hb_; have geb : w.heap.size ≤ gb := (by rw [hg_]; exact HB.size); have na_b : ga ≠ gb := (by rw [hg_]; exact Nat.ne_of_lt (blk_lt Ba)); have nb_a : gb ≠ ga := na_b.symm; replace R := (R.fresh hg_).below hb_; replace Ba := blk_below Ba hb_; replace HN := wk.N_new HN hb_.size (blk_lt Bb); replace HB := HB.tr_ hb_; clear hb_ hg_; have Jb := wk.ca Bb; have Yb := wk.za Bb) | ((with_reducible refine gate_dst (N := 5) rfl ?_); (try (refine gate_guard (by rfl) ?_; dsimp only)); refine wk.get_event (N := 5) (t := 39) (p := 2) rfl rfl rfl ?hx Ba Try.underlying39 rfl ?hi ?_; (case hx => first | rfl | (go_simp; done)); (case hi => kernel_rfl)) | (go_at_call 19; have c65_ : (#[.int .u32 x.c0, .int .i64 x.c1, .int .i64 x.c2, .int .i64 x.c3, .int .i64 x.c4, .int .i64 x.c5, .int .i64 x.c6, .slice s.a7 x.dl.length s.c7, .int .i64 x.dn, .int .i64 x.br, .slice s.a10 x.bs.length s.c10, .int .i64 x.nr, .slice s.a12 x.ng.length s.c12, .slice s.a13 x.ns.length s.c13, .slice s.a14 x.pe.length s.c14, .slice s.a15 x.lo.length s.c15, .slice s.a16 x.re.length s.c16, .slice s.a17 x.le.length s.c17] : Array Value) = wk.cs x s := rfl; rw [c65_]; clear c65_; (with_reducible refine (chamberlainref12_Few.calls k x s _ false _ R hf.out).mono ?_); rintro e W3_ ⟨rfl, hb_⟩; clear Jb Yb; replace R := R.below hb_; replace Ba := blk_below Ba hb_; replace Bb := blk_below Bb hb_; replace HN := hN_ HN hb_.size; replace HB := HB.tr_ hb_; clear hb_; have Jb := wk.ca Bb; have Yb := wk.za Bb))
  go_ret
  exact ⟨false, rfl, (fun h_ => absurd h_ (by decide)), HB⟩
 | true =>
  obtain ⟨⟨m, hm0⟩, ⟨b7, h70⟩, ⟨n6, h60⟩, ⟨p10, h100⟩, hU⟩ := hP.out rfl
  have hm := Aside0.mk hm0
  have h7 := Aside0.mk h70
  have h6 := Aside0.mk h60
  have h10 := Aside0.mk h100
  clear hm0 h70 h60 h100
  replace hU := Aside0.mk hU
  go_enter Try.func7, Try.ntmps7
  go_wp2_with (first | ((with_reducible refine gate_dst (N := 2) rfl ?_); (try (refine gate_guard (by rfl) ?_; dsimp only)); refine box_event ?hg (N := 2) ?hd (cs := #[.int .u32 x.c0, .int .i64 x.c1, .int .i64 x.c2, .int .i64 x.c3, .int .i64 x.c4, .int .i64 x.c5, .int .i64 x.c6, .slice s.a7 x.dl.length s.c7, .int .i64 x.dn, .int .i64 x.br, .slice s.a10 x.bs.length s.c10, .int .i64 x.nr, .slice s.a12 x.ng.length s.c12, .slice s.a13 x.ns.length s.c13, .slice s.a14 x.pe.length s.c14, .slice s.a15 x.lo.length s.c15, .slice s.a16 x.re.length s.c16, .slice s.a17 x.le.length s.c17]) (t := 39) ?hr ?_; (case hd => rfl); (case hg => rfl); (case hr => first | (go_simp; done) | (go_simp; rfl)); intro ga hg_ W1_ Ba hb_; have gea : w.heap.size ≤ ga := (by rw [hg_]; exact HB.size); replace R := (R.fresh hg_).below hb_; replace HN := wk.N_new HN hb_.size (blk_lt Ba); replace HB := HB.tr_ hb_; clear hb_ hg_; skip) | ((with_reducible refine gate_dst (N := 3) rfl ?_); (try (refine gate_guard (by rfl) ?_; dsimp only)); refine box_event ?hg (N := 3) ?hd (cs := #[.int .i64 o.kd, .int .i64 o.a, .int .i64 o.b, .int .i64 o.c, .int .i64 o.d, .slice aq o.ws.length cq]) (t := 41) ?hr ?_; (case hd => rfl); (case hg => rfl); (case hr => first | (go_simp; done) | (go_simp; rfl)); intro gb hg_ W2_ Bb hb_; have geb : w.heap.size ≤ gb := (by rw [hg_]; exact HB.size); have na_b : ga ≠ gb := (by rw [hg_]; exact Nat.ne_of_lt (blk_lt Ba)); have nb_a : gb ≠ ga := na_b.symm; replace R := (R.fresh hg_).below hb_; replace Ba := blk_below Ba hb_; replace HN := wk.N_new HN hb_.size (blk_lt Bb); replace HB := HB.tr_ hb_; clear hb_ hg_; have Jb := wk.ca Bb; have Yb := wk.za Bb) | ((with_reducible refine gate_dst (N := 5) rfl ?_); (try (refine gate_guard (by rfl) ?_; dsimp only)); refine wk.get_event (N := 5) (t := 39) (p := 2) rfl rfl rfl ?hx Ba Try.underlying39 rfl ?hi ?_; (case hx => first | rfl | (go_simp; done)); (case hi => kernel_rfl)) | (go_at_call 19; have c65_ : (#[.int .u32 x.c0, .int .i64 x.c1, .int .i64 x.c2, .int .i64 x.c3, .int .i64 x.c4, .int .i64 x.c5, .int .i64 x.c6, .slice s.a7 x.dl.length s.c7, .int .i64 x.dn, .int .i64 x.br, .slice s.a10 x.bs.length s.c10, .int .i64 x.nr, .slice s.a12 x.ng.length s.c12, .slice s.a13 x.ns.length s.c13, .slice s.a14 x.pe.length s.c14, .slice s.a15 x.lo.length s.c15, .slice s.a16 x.re.length s.c16, .slice s.a17 x.le.length s.c17] : Array Value) = wk.cs x s := rfl; rw [c65_]; clear c65_; (with_reducible refine (chamberlainref12_Few.calls k x s _ true _ R hf.out).mono ?_); rintro e W3_ ⟨rfl, hb_⟩; clear Jb Yb; replace R := R.below hb_; replace Ba := blk_below Ba hb_; replace Bb := blk_below Bb hb_; replace HN := hN_ HN hb_.size; replace HB := HB.tr_ hb_; clear hb_; have Jb := wk.ca Bb; have Yb := wk.za Bb) | ((with_reducible refine gate_dst (N := 8) rfl ?_); (try (refine gate_guard (by rfl) ?_; dsimp only)); refine wk.get_event (N := 8) (t := 39) (p := 2) rfl rfl rfl ?hx Ba Try.underlying39 rfl ?hi ?_; (case hx => first | rfl | (go_simp; done)); (case hi => kernel_rfl)) | (go_at_call 20; have c65_ : (#[.int .u32 x.c0, .int .i64 x.c1, .int .i64 x.c2, .int .i64 x.c3, .int .i64 x.c4, .int .i64 x.c5, .int .i64 x.c6, .slice s.a7 x.dl.length s.c7, .int .i64 x.dn, .int .i64 x.br, .slice s.a10 x.bs.length s.c10, .int .i64 x.nr, .slice s.a12 x.ng.length s.c12, .slice s.a13 x.ns.length s.c13, .slice s.a14 x.pe.length s.c14, .slice s.a15 x.lo.length s.c15, .slice s.a16 x.re.length s.c16, .slice s.a17 x.le.length s.c17] : Array Value) = wk.cs x s := rfl; rw [c65_]; clear c65_; (with_reducible refine (chamberlainref12_Form.calls k x s _ m b7 n6 p10 _ R hm h7 h6 h10 hU.out).mono ?_); rintro e W4_ ⟨r1, rfl, hF0, hb_⟩; have hF := Aside0.mk hF0; clear hF0; clear Jb Yb; replace R := R.below hb_; replace Ba := blk_below Ba hb_; replace Bb := blk_below Bb hb_; replace HN := hN_ HN hb_.size; replace HB := HB.tr_ hb_; clear hb_; have Jb := wk.ca Bb; have Yb := wk.za Bb; cases r1))
  ·
   go_ret
   exact ⟨false, rfl, (fun h_ => absurd h_ (by decide)), HB⟩
  ·
   go_ret
   exact ⟨_, rfl, (fun h_ => ⟨by simpa using hF.out, by trivial, by have := of_decide_eq_true h_; omega⟩), HB⟩

end Go.Proofs.Ythlcpbendleihaa.PAdvAlone
