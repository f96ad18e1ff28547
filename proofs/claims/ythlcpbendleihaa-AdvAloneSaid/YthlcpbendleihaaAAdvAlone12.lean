/- The law AdvAlone of the adversary's layer, walked by hand: text 12. -/
import Derived.Test.YthlcpbendleihaaAAdvAlone11
namespace Go.Proofs.Ythlcpbendleihaa.PAdvAlone
open Go Go.RowKit Go.Proofs.YthlcpbendleihaaW.PrintWords Go.Proofs.YthlcpbendleihaaW.PrintLast Go.Proofs.YthlcpbendleihaaW.PrintMore
set_option linter.unusedVariables false
set_option linter.unusedSimpArgs false
/-- A person's cells in a row of persons, all at once. -/
theorem wk.per_all {W : World} {base n c : Nat} {P : Nat → Prop} {A : Option Addr} {l : List S55} (h : Kd.V k55 55 W base P (.slice A n c) l) (i : Int) (h0 : 0 ≤ i) (h1 : i < n) :
  ∃ ad A3 c3 A4 c4, A = some ad ∧ (∀ j u, (#[.int .u32 (rd_T55 l i).f0, .int .u32 (rd_T55 l i).f1, .int .u32 (rd_T55 l i).f2, .slice A3 (rd_T55 l i).f3.length c3, .slice A4 (rd_T55 l i).f4.length c4, .bool (rd_T55 l i).f5] : Array Value).toList[j]? = some u → W.cell? ((ad.add (i.toNat * 6)).add j) = some u) ∧ Kd.V (Kd.int .u32) 22 W 0 P (.slice A3 (rd_T55 l i).f3.length c3) (rd_T55 l i).f3 ∧ Kd.V k113 113 W 0 P (.slice A4 (rd_T55 l i).f4.length c4) (rd_T55 l i).f4 := by
 obtain ⟨rfl, _, hC⟩ := Kd.V_reads' h
 obtain ⟨ad, _, _, _, _, e, _⟩ := at_T55 hC i h0 h1
 subst e
 obtain ⟨ce, _, hM, hc0⟩ := Kd.V_get h z55 i h0 h1
 obtain ⟨A3, c3, A4, c4, rfl, l3, g3, l4, g4⟩ := k55_openF hM
 exact ⟨ad, A3, c3, A4, c4, rfl, fun j u hu => by rw [wk.add_add]; exact hc0 j u hu, Kd.V_mk l3 g3, Kd.V_mk l4 g4⟩
/-- What the law asks of the world behind the operation. -/
structure wk.Alone (k : Nat) (x : wk.X) (o : wk.O) (y : wk.X) : Prop where
 cs : ∀ t, wk.cs y t = #[.int .u32 x.c0, .int .i64 x.c1, .int .i64 x.c2, .int .i64 x.c3, .int .i64 x.c4, .int .i64 x.c5, .int .i64 x.c6, .slice t.a7 y.dl.length t.c7, .int .i64 y.dn, .int .i64 y.br, .slice t.a10 y.bs.length t.c10, .int .i64 y.nr, .slice t.a12 y.ng.length t.c12, .slice t.a13 y.ns.length t.c13, .slice t.a14 y.pe.length t.c14, .slice t.a15 y.lo.length t.c15, .slice t.a16 y.re.length t.c16, .slice t.a17 y.le.length t.c17]
 plen : y.pe.length = x.pe.length
 log : chamberlainref12_Events.f k y.lo x.lo = some true
 glen : y.ng.length = x.ng.length
 seen : chamberlainref01_Rows.f k y.ns x.ns = some true
 one : ∀ i : Nat, i < x.pe.length → ∀ q, (q = if o.kd = 6 ∧ (i : Int) = o.b ∧ (rd_T55 y.pe i).f5 = true then true else (rd_T55 x.pe i).f5) → chamberlainref10_One.f k (rd_T55 y.pe i).f0 (rd_T55 y.pe i).f1 (rd_T55 y.pe i).f2 (rd_T55 y.pe i).f3 (rd_T55 y.pe i).f4 (rd_T55 y.pe i).f5 (rd_T55 x.pe i).f0 (rd_T55 x.pe i).f1 (rd_T55 x.pe i).f2 (rd_T55 x.pe i).f3 (rd_T55 x.pe i).f4 q = some true
 box : y.bs.length = x.bs.length ∨ (o.kd = 4 ∧ y.bs.length = x.bs.length + 1 ∧ x.bs.length < 1000000)
set_option maxHeartbeats 8000000 in
set_option maxRecDepth 100000 in
theorem chamberlainlaw21_AdvAlone.calls (k : Nat) (x : wk.X) (s : wk.S) (o : wk.O) (aq : Option Addr) (cq : Nat) (P : Nat → Prop) (rf : Bool) (w : World) (R : wk.Rd w P x s) (VW : Kd.V (Kd.int .u32) 22 w 0 P (.slice aq o.ws.length cq) o.ws)
  (hA : ∀ w, Calls Try.prog 6 #[] w fun e w' => e = .returned (.bool true) ∧ Below w.heap.size w w')
  (hf : Aside0 (chamberlainref12_Few.f k x = some rf)) (hP : Aside0 (rf = true → wk.Pre k x))
  (hD : Aside0 (wk.Form k x → rf = true → o.ws.length ≤ 100 → ∃ y e', adv_Do.f k x o = some (y, e') ∧ wk.Alone k x o y)) :
 Calls Try.prog 4 #[.agg (wk.cs x s), .agg #[.int .i64 o.kd, .int .i64 o.a, .int .i64 o.b, .int .i64 o.c, .int .i64 o.d, .slice aq o.ws.length cq]] w fun e w' => e = .returned (.bool true) ∧ Below w.heap.size w w' := by
 have hu39 := Try.underlying39
 have hu24 := Try.underlying24
 have hu30 := Try.underlying30
 have hu34 := Try.underlying34
 have hu41 := Try.underlying41
 have hu55 := Try.underlying55
 have hmax : x.pe.length ≤ 9223372036854775807 := (Kd.V_reads' R.r14).2.2.2.1
 unfold wk.cs
 have HB := Below.refl w.heap.size w
 have HN : ∀ q ∈ ([] : List Nat), q < w.heap.size := fun q hq => by simp at hq
 replace R := R.start w.heap.size
 replace VW := wk.V_start w.heap.size VW
 go_enter Try.func4, Try.ntmps4
 go_wp2_with (first | ((with_reducible refine gate_dst (N := 2) rfl ?_); (try (refine gate_guard (by rfl) ?_; dsimp only)); refine box_event ?hg (N := 2) ?hd (cs := #[.int .u32 x.c0, .int .i64 x.c1, .int .i64 x.c2, .int .i64 x.c3, .int .i64 x.c4, .int .i64 x.c5, .int .i64 x.c6, .slice s.a7 x.dl.length s.c7, .int .i64 x.dn, .int .i64 x.br, .slice s.a10 x.bs.length s.c10, .int .i64 x.nr, .slice s.a12 x.ng.length s.c12, .slice s.a13 x.ns.length s.c13, .slice s.a14 x.pe.length s.c14, .slice s.a15 x.lo.length s.c15, .slice s.a16 x.re.length s.c16, .slice s.a17 x.le.length s.c17]) (t := 39) ?hr ?_; (case hd => rfl); (case hg => rfl); (case hr => first | (go_simp; done) | (go_simp; rfl)); intro ga hg_ W1_ Ba hb_; have gea : w.heap.size ≤ ga := (by rw [hg_]; exact HB.size); replace R := (R.fresh hg_).below hb_; replace VW := Kd.V_below (wk.V_fresh VW hg_) hb_; replace HN := wk.N_new HN hb_.size (blk_lt Ba); replace HB := HB.tr_ hb_; clear hb_ hg_; skip) | ((with_reducible refine gate_dst (N := 3) rfl ?_); (try (refine gate_guard (by rfl) ?_; dsimp only)); refine box_event ?hg (N := 3) ?hd (cs := #[.int .i64 o.kd, .int .i64 o.a, .int .i64 o.b, .int .i64 o.c, .int .i64 o.d, .slice aq o.ws.length cq]) (t := 41) ?hr ?_; (case hd => rfl); (case hg => rfl); (case hr => first | (go_simp; done) | (go_simp; rfl)); intro gb hg_ W2_ Bb hb_; have geb : w.heap.size ≤ gb := (by rw [hg_]; exact HB.size); have na_b : ga ≠ gb := (by rw [hg_]; exact Nat.ne_of_lt (blk_lt Ba)); have nb_a : gb ≠ ga := na_b.symm; replace R := (R.fresh hg_).below hb_; replace VW := Kd.V_below (wk.V_fresh VW hg_) hb_; replace Ba := blk_below Ba hb_; replace HN := wk.N_new HN hb_.size (blk_lt Bb); replace HB := HB.tr_ hb_; clear hb_ hg_; skip) | (go_at_call 6; (with_reducible refine (hA _).mono ?_); rintro e W3_ ⟨rfl, hb_⟩; replace R := R.below hb_; replace VW := Kd.V_below VW hb_; replace Ba := blk_below Ba hb_; replace Bb := blk_below Bb hb_; replace HN := hN_ HN hb_.size; replace HB := HB.tr_ hb_; clear hb_; skip) | ((with_reducible refine gate_dst (N := 12) rfl ?_); (try (refine gate_guard (by rfl) ?_; dsimp only)); refine wk.get_event (N := 12) (t := 39) (p := 2) rfl rfl rfl ?hx Ba Try.underlying39 rfl ?hi ?_; (case hx => first | rfl | (go_simp; done)); (case hi => kernel_rfl)) | ((with_reducible refine gate_dst (N := 13) rfl ?_); (try (refine gate_guard (by rfl) ?_; dsimp only)); refine wk.get_event (N := 13) (t := 41) (p := 3) rfl rfl rfl ?hx Bb Try.underlying41 rfl ?hi ?_; (case hx => first | rfl | (go_simp; done)); (case hi => kernel_rfl)) | (go_at_call 7; have c65_ : (#[.int .u32 x.c0, .int .i64 x.c1, .int .i64 x.c2, .int .i64 x.c3, .int .i64 x.c4, .int .i64 x.c5, .int .i64 x.c6, .slice s.a7 x.dl.length s.c7, .int .i64 x.dn, .int .i64 x.br, .slice s.a10 x.bs.length s.c10, .int .i64 x.nr, .slice s.a12 x.ng.length s.c12, .slice s.a13 x.ns.length s.c13, .slice s.a14 x.pe.length s.c14, .slice s.a15 x.lo.length s.c15, .slice s.a16 x.re.length s.c16, .slice s.a17 x.le.length s.c17] : Array Value) = wk.cs x s := rfl; rw [c65_]; clear c65_; (with_reducible refine (chamberlainlaw21_fits.calls k x s o aq cq _ rf _ R hf hP).mono ?_); rintro e W4_ ⟨r1, rfl, hF0, hb_⟩; have hF := Aside0.mk hF0; clear hF0; replace R := R.below hb_; replace VW := Kd.V_below VW hb_; replace Ba := blk_below Ba hb_; replace Bb := blk_below Bb hb_; replace HN := hN_ HN hb_.size; replace HB := HB.tr_ hb_; clear hb_; cases r1; rotate_left; (obtain ⟨y, e', hd_, AL0⟩ := hD.out (hF.out rfl).1 (hF.out rfl).2.1 (hF.out rfl).2.2; have hDo := Aside0.mk hd_; have AL := Aside0.mk AL0; clear hd_ AL0; have hpl := AL.out.plen; have hpb : ((y.pe.length : Int) != (x.pe.length : Int)) = false := bne_eq_false_iff_eq.mpr (by omega); have hpc : ((y.pe.length : Int) == (x.pe.length : Int)) = true := beq_iff_eq.mpr (by omega); have hpd : (y.pe.length == x.pe.length) = true := beq_iff_eq.mpr hpl; replace hpl := Aside0.mk hpl; have hgl := AL.out.glen; have hgb : ((y.ng.length : Int) != (x.ng.length : Int)) = false := bne_eq_false_iff_eq.mpr (by omega); have hgc : ((y.ng.length : Int) == (x.ng.length : Int)) = true := beq_iff_eq.mpr (by omega); have hgd : (y.ng.length == x.ng.length) = true := beq_iff_eq.mpr hgl; clear hgl); rotate_left) | ((with_reducible refine gate_dst (N := 19) rfl ?_); (try (refine gate_guard (by rfl) ?_; dsimp only)); refine wk.get_event (N := 19) (t := 39) (p := 2) rfl rfl rfl ?hx Ba Try.underlying39 rfl ?hi ?_; (case hx => first | rfl | (go_simp; done)); (case hi => kernel_rfl)) | ((with_reducible refine gate_dst (N := 20) rfl ?_); (try (refine gate_guard (by rfl) ?_; dsimp only)); refine wk.get_event (N := 20) (t := 41) (p := 3) rfl rfl rfl ?hx Bb Try.underlying41 rfl ?hi ?_; (case hx => first | rfl | (go_simp; done)); (case hi => kernel_rfl)) | (go_at_call 8; have C_ : Calls Try.prog 8 #[.agg #[.int .u32 x.c0, .int .i64 x.c1, .int .i64 x.c2, .int .i64 x.c3, .int .i64 x.c4, .int .i64 x.c5, .int .i64 x.c6, .slice s.a7 x.dl.length s.c7, .int .i64 x.dn, .int .i64 x.br, .slice s.a10 x.bs.length s.c10, .int .i64 x.nr, .slice s.a12 x.ng.length s.c12, .slice s.a13 x.ns.length s.c13, .slice s.a14 x.pe.length s.c14, .slice s.a15 x.lo.length s.c15, .slice s.a16 x.re.length s.c16, .slice s.a17 x.le.length s.c17], .agg #[.int .i64 o.kd, .int .i64 o.a, .int .i64 o.b, .int .i64 o.c, .int .i64 o.d, .slice aq o.ws.length cq]] W4_ _ := adv_Do.calls k x s o aq cq (wk.Q P w.heap.size [gb, ga]) y e' _ R VW hDo.out; (with_reducible refine (C_).mono ?_); rintro e W5_ ⟨t, he_, hr_, hb_⟩; rw [AL.out.cs t] at he_; subst he_; have R1 := wk.Rd.new (P := P) HN HB.size hr_; clear hr_ C_ VW; replace R := R.below hb_; replace Ba := blk_below Ba hb_; replace Bb := blk_below Bb hb_; replace HN := hN_ HN hb_.size; replace HB := HB.tr_ hb_; clear hb_; skip) | ((with_reducible refine gate_dst (N := 5) rfl ?_); (try (refine gate_guard (by rfl) ?_; dsimp only)); refine box_event ?hg (N := 5) ?hd (cs := #[.int .u32 0, .int .i64 0, .int .i64 0, .int .i64 0, .int .i64 0, .int .i64 0, .int .i64 0, .slice none 0 0, .int .i64 0, .int .i64 0, .slice none 0 0, .int .i64 0, .slice none 0 0, .slice none 0 0, .slice none 0 0, .slice none 0 0, .slice none 0 0, .slice none 0 0]) (t := 39) ?hr ?_; (case hd => rfl); (case hg => rfl); (case hr => first | (go_simp; done) | (go_simp; rfl)); intro gr hg_ W6_ Br hb_; have ger : w.heap.size ≤ gr := (by rw [hg_]; exact HB.size); have na_r : ga ≠ gr := (by rw [hg_]; exact Nat.ne_of_lt (blk_lt Ba)); have nr_a : gr ≠ ga := na_r.symm; have nb_r : gb ≠ gr := (by rw [hg_]; exact Nat.ne_of_lt (blk_lt Bb)); have nr_b : gr ≠ gb := nb_r.symm; replace R := (R.fresh hg_).below hb_; replace R1 := (R1.fresh hg_).below hb_; replace Ba := blk_below Ba hb_; replace Bb := blk_below Bb hb_; replace HN := wk.N_new HN hb_.size (blk_lt Br); replace HB := HB.tr_ hb_; clear hb_ hg_; skip) | ((with_reducible refine gate_store (t := 39) (p := 5) rfl ?_); refine wk.put_event (t := 39) (p := 5) rfl rfl rfl (cells := #[.int .u32 x.c0, .int .i64 x.c1, .int .i64 x.c2, .int .i64 x.c3, .int .i64 x.c4, .int .i64 x.c5, .int .i64 x.c6, .slice t.a7 y.dl.length t.c7, .int .i64 y.dn, .int .i64 y.br, .slice t.a10 y.bs.length t.c10, .int .i64 y.nr, .slice t.a12 y.ng.length t.c12, .slice t.a13 y.ns.length t.c13, .slice t.a14 y.pe.length t.c14, .slice t.a15 y.lo.length t.c15, .slice t.a16 y.re.length t.c16, .slice t.a17 y.le.length t.c17]) ?hx ?hy Br ?hi ?hs ?h1 ?_; (case hx => first | rfl | (go_simp; done)); (case hy => first | rfl | (go_simp; done)); (case hi => kernel_rfl); (case hs => rfl); (case h1 => simp [Value.oneCell']); intro W7_ b_ hs_; replace R := R.st hs_ (fun k hk => hk.ne (by simp)); replace R1 := R1.st hs_ (fun k hk => hk.ne (by simp)); replace Ba := hs_.blk Ba na_r; replace Bb := hs_.blk Bb nb_r; replace HN := fun q hq => Nat.lt_of_lt_of_le (HN q hq) (hs_.bel 0 (Nat.zero_le _)).size; replace HB := hs_.below ger HB; replace Br := b_; clear b_ hs_; have Ja := wk.ca Ba; have Ya := wk.za Ba; have Jr := wk.ca Br; have Yr := wk.za Br) | (go_at_call 12; (with_reducible refine (chamberlainref12_Events.calls k _ _ y.lo _ _ x.lo true _ (Kd.V_reads' R1.r15).2.2 (Kd.V_reads' R1.r15).2.1 (Kd.V_reads' R.r15).2.2 (Kd.V_reads' R.r15).2.1 AL.out.log).mono ?_); rintro e W8_ ⟨rfl, hd_⟩; have hb_ := hd_.below; clear Ja Ya Jr Yr; replace R := R.below hb_; replace R1 := R1.below hb_; replace Ba := blk_below Ba hb_; replace Bb := blk_below Bb hb_; replace Br := blk_below Br hb_; replace HN := hN_ HN hb_.size; replace HB := HB.tr_ hb_; clear hb_; have Ja := wk.ca Ba; have Ya := wk.za Ba; have Jr := wk.ca Br; have Yr := wk.za Br) | (go_at_call 13; (with_reducible refine (chamberlainref01_Rows.calls k _ _ y.ns _ _ x.ns true _ (Kd.V_reads' R1.r13).2.2 (Kd.V_reads' R1.r13).2.1 (Kd.V_reads' R.r13).2.2 (Kd.V_reads' R.r13).2.1 AL.out.seen).mono ?_); rintro e W9_ ⟨rfl, hd_⟩; have hb_ := hd_.below; clear Ja Ya Jr Yr; replace R := R.below hb_; replace R1 := R1.below hb_; replace Ba := blk_below Ba hb_; replace Bb := blk_below Bb hb_; replace Br := blk_below Br hb_; replace HN := hN_ HN hb_.size; replace HB := HB.tr_ hb_; clear hb_; have Ja := wk.ca Ba; have Ya := wk.za Ba; have Jr := wk.ca Br; have Yr := wk.za Br))
 ·
  go_ret
  exact ⟨rfl, HB⟩
 clear Ja Ya Jr Yr
 go_loopw [7] (fun i_ wr => ∃ n : Nat, n ≤ x.pe.length ∧ i_ = .int .i64 n ∧ Aside0 (wr.heap[ga]? = some (.cells #[.int .u32 x.c0, .int .i64 x.c1, .int .i64 x.c2, .int .i64 x.c3, .int .i64 x.c4, .int .i64 x.c5, .int .i64 x.c6, .slice s.a7 x.dl.length s.c7, .int .i64 x.dn, .int .i64 x.br, .slice s.a10 x.bs.length s.c10, .int .i64 x.nr, .slice s.a12 x.ng.length s.c12, .slice s.a13 x.ns.length s.c13, .slice s.a14 x.pe.length s.c14, .slice s.a15 x.lo.length s.c15, .slice s.a16 x.re.length s.c16, .slice s.a17 x.le.length s.c17] 39 (0, 0))) ∧ Aside0 (wr.heap[gb]? = some (.cells #[.int .i64 o.kd, .int .i64 o.a, .int .i64 o.b, .int .i64 o.c, .int .i64 o.d, .slice aq o.ws.length cq] 41 (0, 0))) ∧ Aside0 (wr.heap[gr]? = some (.cells #[.int .u32 x.c0, .int .i64 x.c1, .int .i64 x.c2, .int .i64 x.c3, .int .i64 x.c4, .int .i64 x.c5, .int .i64 x.c6, .slice t.a7 y.dl.length t.c7, .int .i64 y.dn, .int .i64 y.br, .slice t.a10 y.bs.length t.c10, .int .i64 y.nr, .slice t.a12 y.ng.length t.c12, .slice t.a13 y.ns.length t.c13, .slice t.a14 y.pe.length t.c14, .slice t.a15 y.lo.length t.c15, .slice t.a16 y.re.length t.c16, .slice t.a17 y.le.length t.c17] 39 (0, 0))) ∧ Aside0 (wk.Rd wr (wk.Q P w.heap.size [gr, gb, ga]) x s) ∧ Aside0 (wk.Rd wr (wk.Q P w.heap.size [gr, gb, ga]) y t) ∧ Aside0 (Below w.heap.size w wr)) (fun i_ _ => x.pe.length - (intOf i_).toNat)
 case atStart => exact ⟨0, Nat.zero_le _, rfl, ⟨Ba⟩, ⟨Bb⟩, ⟨Br⟩, ⟨R⟩, ⟨R1⟩, ⟨HB⟩⟩
 case round =>
  clear R R1 HB HN Ba Bb Br
  obtain ⟨n, hn, rfl, BAa, BAb, BAr, RR, RR1, HBB⟩ := hrel
  have Ba := BAa.out
  have Bb := BAb.out
  have Br := BAr.out
  have R := RR.out
  have R1 := RR1.out
  have HB := HBB.out
  clear RR RR1 HBB BAa BAb BAr
  have HN : ∀ q ∈ [gr, gb, ga], q < wr.heap.size := fun q hq => by
   simp only [List.mem_cons, List.not_mem_nil, or_false] at hq
   rcases hq with rfl | rfl | rfl
   ·
    exact blk_lt Br
   ·
    exact blk_lt Bb
   ·
    exact blk_lt Ba
  by_cases c1 : n < x.pe.length
  ·
   have c1b : decide ((n : Int) < (x.pe.length : Int)) = true := decide_eq_true (by omega)
   have c1c : decide (n < x.pe.length) = true := decide_eq_true c1
   have c1y : (n : Int) < (y.pe.length : Int) := by have := hpl.out; omega
   obtain ⟨ad, A3, c3, A4, c4, ee, hx0, hx1, hx2, hx3, hx4, hx5, V3, V4⟩ := wk.per_get R.r14 (n : Int) (by omega) (by omega)
   have HE := Aside0.mk ee
   clear ee
   have p1 : (0 ≤ (n : Int)) = True := eq_true (by omega)
   have q1 : ((n : Int) < (x.pe.length : Int)) = True := eq_true (by omega)
   have q2 : (n < x.pe.length) = True := eq_true c1
   have q1y : ((n : Int) < (y.pe.length : Int)) = True := eq_true c1y
   have q2y : (n < y.pe.length) = True := eq_true (by omega)
   rw [Int.toNat_natCast] at hx0 hx1 hx2 hx3 hx4 hx5
   have ka_14 : wr.cell? ⟨ga, 14, none⟩ = some (.slice (some ad) x.pe.length s.c14) := (blk_cell Ba 14).trans (by rw [← HE.out]; rfl)
   have za_14 := blk_frozen Ba 14
   go_upto_region 10 with (first | ((with_reducible refine gate_dst (N := 8) rfl ?_); (try (refine gate_guard (by rfl) ?_; dsimp only)); refine box_event ?hg (N := 8) ?hd (cs := #[.int .u32 0, .int .u32 0, .int .u32 0, .slice none 0 0, .slice none 0 0, .bool false]) (t := 55) ?hr ?_; (case hd => rfl); (case hg => rfl); (case hr => first | (go_simp; done) | (go_simp; rfl)); intro gp hg_ W1_ Bp hb_; have gep : w.heap.size ≤ gp := (by rw [hg_]; exact HB.size); have na_p : ga ≠ gp := (by rw [hg_]; exact Nat.ne_of_lt (blk_lt Ba)); have np_a : gp ≠ ga := na_p.symm; have nb_p : gb ≠ gp := (by rw [hg_]; exact Nat.ne_of_lt (blk_lt Bb)); have np_b : gp ≠ gb := nb_p.symm; have nr_p : gr ≠ gp := (by rw [hg_]; exact Nat.ne_of_lt (blk_lt Br)); have np_r : gp ≠ gr := nr_p.symm; replace R := (R.fresh hg_).below hb_; replace R1 := (R1.fresh hg_).below hb_; replace V3 := Kd.V_below (wk.V_fresh V3 hg_) hb_; replace V4 := Kd.V_below (wk.V_fresh V4 hg_) hb_; replace Ba := blk_below Ba hb_; replace Bb := blk_below Bb hb_; replace Br := blk_below Br hb_; replace HN := wk.N_new HN hb_.size (blk_lt Bp); replace HB := HB.tr_ hb_; clear hb_ hg_; skip) | ((with_reducible refine gate_store (t := 55) (p := 8) rfl ?_); refine wk.put_event (t := 55) (p := 8) rfl rfl rfl (cells := #[.int .u32 (rd_T55 x.pe n).f0, .int .u32 (rd_T55 x.pe n).f1, .int .u32 (rd_T55 x.pe n).f2, .slice A3 (rd_T55 x.pe n).f3.length c3, .slice A4 (rd_T55 x.pe n).f4.length c4, .bool (rd_T55 x.pe n).f5]) ?hx ?hy Bp ?hi ?hs ?h1 ?_; (case hx => first | rfl | (go_simp; done)); (case hy => first | rfl | (go_simp; done)); (case hi => kernel_rfl); (case hs => rfl); (case h1 => simp [Value.oneCell']); intro W2_ b_ hs_; replace R := R.st hs_ (fun k hk => hk.ne (by simp)); replace R1 := R1.st hs_ (fun k hk => hk.ne (by simp)); replace V3 := wk.V_st V3 hs_ (fun k hk => hk.ne (by simp)); replace V4 := wk.V_st V4 hs_ (fun k hk => hk.ne (by simp)); replace Ba := hs_.blk Ba na_p; replace Bb := hs_.blk Bb nb_p; replace Br := hs_.blk Br nr_p; replace HN := fun q hq => Nat.lt_of_lt_of_le (HN q hq) (hs_.bel 0 (Nat.zero_le _)).size; replace HB := hs_.below gep HB; replace Bp := b_; clear b_ hs_; clear ka_14 za_14 hx0 hx1 hx2 hx3 hx4 hx5))
   clear HE
   obtain ⟨ad2, B3, d3, B4, d4, ee2, hy0, hy1, hy2, hy3, hy4, hy5, _, _⟩ := wk.per_get R1.r14 (n : Int) (by omega) c1y
   have HE := Aside0.mk ee2
   clear ee2 hy0 hy1 hy2 hy3 hy4
   rw [Int.toNat_natCast] at hy5
   have kr_14 : W2_.cell? ⟨gr, 14, none⟩ = some (.slice (some ad2) y.pe.length t.c14) := (blk_cell Br 14).trans (by rw [← HE.out]; rfl)
   have zr_14 := blk_frozen Br 14
   have kb_0 : W2_.cell? ⟨gb, 0, none⟩ = some (.int .i64 o.kd) := (blk_cell Bb 0).trans rfl
   have zb_0 := blk_frozen Bb 0
   have kb_2 : W2_.cell? ⟨gb, 2, none⟩ = some (.int .i64 o.b) := (blk_cell Bb 2).trans rfl
   have zb_2 := blk_frozen Bb 2
   by_cases k6 : o.kd = 6
   ·
    have k6b : (o.kd == 6) = true := beq_iff_eq.mpr k6
    by_cases kb : (n : Int) = o.b
    ·
     have kbb : ((n : Int) == o.b) = true := beq_iff_eq.mpr kb
     cases hq : (rd_T55 y.pe n).f5 with
     | false =>
      rw [hq] at hy5
      replace k6 := Aside0.mk k6
      replace kb := Aside0.mk kb
      replace hq := Aside0.mk hq
      go_upto_region 12 with (fail)
      clear kr_14 zr_14 kb_0 zb_0 kb_2 zb_2 hy5
      clear HE
      have hOne := AL.out.one n c1 (rd_T55 x.pe n).f5 (by rw [if_neg (fun h_ => absurd (h_.2.2.symm.trans hq.out) (by decide))])
      obtain ⟨ad3, B3, d3, B4, d4, ee3, EX, U3, U4⟩ := wk.per_all R1.r14 (n : Int) (by omega) c1y
      have HE := Aside0.mk ee3
      clear ee3
      rw [Int.toNat_natCast] at EX
      refine start_ (n := 8) (S := fun w' => w'.heap[gp]? = some (.cells #[.int .u32 (rd_T55 x.pe n).f0, .int .u32 (rd_T55 x.pe n).f1, .int .u32 (rd_T55 x.pe n).f2, .slice A3 (rd_T55 x.pe n).f3.length c3, .slice A4 (rd_T55 x.pe n).f4.length c4, .bool (rd_T55 x.pe n).f5] 55 (0, 0)) ∧ w'.heap[gr]? = some (.cells #[.int .u32 x.c0, .int .i64 x.c1, .int .i64 x.c2, .int .i64 x.c3, .int .i64 x.c4, .int .i64 x.c5, .int .i64 x.c6, .slice t.a7 y.dl.length t.c7, .int .i64 y.dn, .int .i64 y.br, .slice t.a10 y.bs.length t.c10, .int .i64 y.nr, .slice t.a12 y.ng.length t.c12, .slice t.a13 y.ns.length t.c13, .slice t.a14 y.pe.length t.c14, .slice t.a15 y.lo.length t.c15, .slice t.a16 y.re.length t.c16, .slice t.a17 y.le.length t.c17] 39 (0, 0)) ∧ (∀ j u, (#[.int .u32 (rd_T55 y.pe n).f0, .int .u32 (rd_T55 y.pe n).f1, .int .u32 (rd_T55 y.pe n).f2, .slice B3 (rd_T55 y.pe n).f3.length d3, .slice B4 (rd_T55 y.pe n).f4.length d4, .bool (rd_T55 y.pe n).f5] : Array Value).toList[j]? = some u → w'.cell? ((ad3.add (n * 6)).add j) = some u) ∧ True) (ds := []) #[Z,Z,Z,Z,Z,Z,Z,Z] (by kernel_rfl) rfl rfl ⟨(blk_drew Bp), (blk_drew Br), (fun j u h => wk.cellb (EX j u h) (below_drew (Below.refl _ _))), trivial⟩ (fun hHeld => ?_)
      obtain ⟨W3_, hw_⟩ : ∃ W_ : World, W_ = W2_.drew := ⟨_, rfl⟩
      rw [← hw_] at hHeld ⊢
      have hb_ : Below W2_.heap.size W2_ W3_ := by rw [hw_]; exact below_drew (Below.refl _ _)
      clear hw_
      replace R := R.below hb_
      replace R1 := R1.below hb_
      replace V3 := Kd.V_below V3 hb_
      replace V4 := Kd.V_below V4 hb_
      replace U3 := Kd.V_below U3 hb_
      replace U4 := Kd.V_below U4 hb_
      replace EX := (fun j u h => wk.cellb (EX j u h) hb_)
      replace Ba := blk_below Ba hb_
      replace Bb := blk_below Bb hb_
      replace Br := blk_below Br hb_
      replace Bp := blk_below Bp hb_
      replace HN := hN_ HN hb_.size
      replace HB := HB.tr_ hb_
      clear hb_
      refine pure_ (i := 0) (N := some 97) (v := ?_) (a' := ?_) #[Y,Z,Z,Z,Z,Z,Z,Z] rfl rfl (by kernel_rfl) (fun _ _ _ h => h) (Or.inl ⟨by rfl, ?_⟩) ?_ ?_
      rotate_left
      ·
       intro w'
       go_simp
       with_reducible rfl
      rotate_left
      ·
       simp only [Act.put, List.setIfInBounds_toArray, List.set_cons_zero, List.set_cons_succ, i64_w, i32_w]
       rfl
      refine take_ (i := 1) (N := some 98) (v := ?_) (a' := ?_) #[Y,Y,Z,Z,Z,Z,Z,Z] rfl rfl (by kernel_rfl) (fun _ _ _ h => h) (Or.inl ⟨by rfl, ?_⟩) hHeld ?_ ?_
      rotate_left
      ·
       rintro w' ⟨s0, s1, s2, s3⟩
       have qr_14 : w'.cell? ⟨gr, 14, none⟩ = some (.slice (some ad3) y.pe.length t.c14) := (blk_cell s1 14).trans (by rw [← HE.out]; rfl)
       clear s0 s1
       go_simp
       with_reducible rfl
      rotate_left
      ·
       simp only [Act.put, List.setIfInBounds_toArray, List.set_cons_zero, List.set_cons_succ, i64_w, i32_w]
       rfl
      refine pure_ (i := 2) (N := some 99) (v := ?_) (a' := ?_) #[Y,Y,Y,Z,Z,Z,Z,Z] rfl rfl (by kernel_rfl) (fun _ _ _ h => h) (Or.inl ⟨by rfl, ?_⟩) ?_ ?_
      rotate_left
      ·
       intro w'
       go_simp
       with_reducible rfl
      rotate_left
      ·
       simp only [Act.put, List.setIfInBounds_toArray, List.set_cons_zero, List.set_cons_succ, i64_w, i32_w]
       rfl
      refine pure_ (i := 3) (N := some 100) (v := ?_) (a' := ?_) #[Y,Y,Y,Y,Z,Z,Z,Z] rfl rfl (by kernel_rfl) (fun _ _ _ h => h) (Or.inl ⟨by rfl, ?_⟩) ?_ ?_
      rotate_left
      ·
       intro w'
       go_simp
       with_reducible rfl
      rotate_left
      ·
       simp only [Act.put, List.setIfInBounds_toArray, List.set_cons_zero, List.set_cons_succ, i64_w, i32_w]
       rfl
      refine take_ (i := 4) (N := some 101) (v := ?_) (a' := ?_) #[Y,Y,Y,Y,Y,Z,Z,Z] rfl rfl (by kernel_rfl) (fun _ _ _ h => h) (Or.inl ⟨by rfl, ?_⟩) hHeld ?_ ?_
      rotate_left
      ·
       rintro w' ⟨s0, s1, s2, s3⟩
       refine wk.load_cells (t := 55) (x := .tmp 100) (A := ad3.add (n * 6)) (cells := #[.int .u32 (rd_T55 y.pe n).f0, .int .u32 (rd_T55 y.pe n).f1, .int .u32 (rd_T55 y.pe n).f2, .slice B3 (rd_T55 y.pe n).f3.length d3, .slice B4 (rd_T55 y.pe n).f4.length d4, .bool (rd_T55 y.pe n).f5]) ?ho_26 ?hx_26 s2 Try.underlying55 rfl ?hi_26
       case ho_26 => rfl
       case hx_26 => first | rfl | (go_simp; done)
       case hi_26 => kernel_rfl
      rotate_left
      ·
       simp only [Act.put, List.setIfInBounds_toArray, List.set_cons_zero, List.set_cons_succ, i64_w, i32_w]
       rfl
      refine take_ (i := 5) (N := some 102) (v := ?_) (a' := ?_) #[Y,Y,Y,Y,Y,Y,Z,Z] rfl rfl (by kernel_rfl) (fun _ _ _ h => h) (Or.inl ⟨by rfl, ?_⟩) hHeld ?_ ?_
      rotate_left
      ·
       rintro w' ⟨s0, s1, s2, s3⟩
       refine wk.load_at (t := 55) (x := .tmp 8) (off := 0) (cells := #[.int .u32 (rd_T55 x.pe n).f0, .int .u32 (rd_T55 x.pe n).f1, .int .u32 (rd_T55 x.pe n).f2, .slice A3 (rd_T55 x.pe n).f3.length c3, .slice A4 (rd_T55 x.pe n).f4.length c4, .bool (rd_T55 x.pe n).f5]) ?ho_27 ?hx_27 s0 Try.underlying55 rfl ?hi_27 ?hn_27
       case ho_27 => rfl
       case hx_27 => first | rfl | (go_simp; done)
       case hi_27 => kernel_rfl
       case hn_27 => kernel_rfl
      rotate_left
      ·
       simp only [Act.put, List.setIfInBounds_toArray, List.set_cons_zero, List.set_cons_succ, i64_w, i32_w]
       rfl
      refine one_ (i := 6) (N := some 103) #[Y,Y,Y,Y,Y,Y,Y,Z] rfl rfl (by kernel_rfl) (by decide) (fun K hK => ?_)
      refine goes_ Try.func14 (by kernel_rfl) rfl #[.agg #[.int .u32 (rd_T55 y.pe n).f0, .int .u32 (rd_T55 y.pe n).f1, .int .u32 (rd_T55 y.pe n).f2, .slice B3 (rd_T55 y.pe n).f3.length d3, .slice B4 (rd_T55 y.pe n).f4.length d4, .bool (rd_T55 y.pe n).f5], .agg #[.int .u32 (rd_T55 x.pe n).f0, .int .u32 (rd_T55 x.pe n).f1, .int .u32 (rd_T55 x.pe n).f2, .slice A3 (rd_T55 x.pe n).f3.length c3, .slice A4 (rd_T55 x.pe n).f4.length c4, .bool (rd_T55 x.pe n).f5]] (by rfl) rfl rfl mS_ ?_
      refine (chamberlainref10_One.calls k _ _ _ _ _ (rd_T55 y.pe n).f3 _ _ (rd_T55 y.pe n).f4 _ _ _ _ _ _ (rd_T55 x.pe n).f3 _ _ (rd_T55 x.pe n).f4 (rd_T55 x.pe n).f5 true _ (Kd.V_reads' U3).2.2 (Kd.V_reads' U3).2.1 (Kd.V_reads' U4).2.2 (Kd.V_reads' U4).2.1 (Kd.V_reads' V3).2.2 (Kd.V_reads' V3).2.1 (Kd.V_reads' V4).2.2 (Kd.V_reads' V4).2.1 hOne).mono ?_
      rintro e W4_ ⟨rfl, hb_⟩
      refine ⟨_, rfl, ?_⟩
      replace R := R.below hb_
      replace R1 := R1.below hb_
      replace V3 := Kd.V_below V3 hb_
      replace V4 := Kd.V_below V4 hb_
      replace U3 := Kd.V_below U3 hb_
      replace U4 := Kd.V_below U4 hb_
      replace EX := (fun j u h => wk.cellb (EX j u h) hb_)
      replace Ba := blk_below Ba hb_
      replace Bb := blk_below Bb hb_
      replace Br := blk_below Br hb_
      replace Bp := blk_below Bp hb_
      replace HN := hN_ HN hb_.size
      replace HB := HB.tr_ hb_
      clear hb_
      refine hK.out _ _ ⟨Bp, Br, EX, trivial⟩ (fun hHeld => ?_)
      clear hK K
      refine norm_ (a' := ?_) ?_ ?_
      rotate_left
      ·
       show Act.put _ (some 103) _ = _
       simp only [Act.put, List.setIfInBounds_toArray, List.set_cons_zero, List.set_cons_succ, i64_w, i32_w]
       rfl
      refine pure_ (i := 7) (N := some 104) (v := ?_) (a' := ?_) #[Y,Y,Y,Y,Y,Y,Y,Y] rfl rfl (by kernel_rfl) (fun _ _ _ h => h) (Or.inl ⟨by rfl, ?_⟩) ?_ ?_
      rotate_left
      ·
       intro w'
       go_simp
       with_reducible rfl
      rotate_left
      ·
       simp only [Act.put, List.setIfInBounds_toArray, List.set_cons_zero, List.set_cons_succ, i64_w, i32_w]
       rfl
      refine done_ (by kernel_rfl) ?_
      try clear hHeld
      go_wp2
      go_roundw
      case rel => exact ⟨n + 1, by omega, by go_num, ⟨Ba⟩, ⟨Bb⟩, ⟨Br⟩, ⟨R.mono (fun k hk => ⟨hk.1, fun h_ => hk.2 (List.mem_cons_of_mem _ h_)⟩)⟩, ⟨R1.mono (fun k hk => ⟨hk.1, fun h_ => hk.2 (List.mem_cons_of_mem _ h_)⟩)⟩, ⟨HB⟩⟩
      case measure => simp [intOf]; omega
     | true =>
      rw [hq] at hy5
      replace k6 := Aside0.mk k6
      replace kb := Aside0.mk kb
      replace hq := Aside0.mk hq
      have kp_5 : W2_.cell? ⟨gp, 5, none⟩ = some (.bool (rd_T55 x.pe n).f5) := (blk_cell Bp 5).trans rfl
      have zp_5 := blk_frozen Bp 5
      go_upto_region 12 with (first | ((with_reducible refine gate_store (t := 4) (p := 96) rfl ?_); refine store_event (t := 4) (p := 96) (v := ?vo96_1_) (w1 := (W2_.setCell ⟨gp, 5, none⟩ (.bool true))) ?hg ?ho ?hn ?hr ?_; (case ho => rfl); (case hg => rfl); (case hn => rfl); (case hr => first | (go_simp; done) | (go_simp; rfl)); intro W3_ hw_; have b_ : W3_.heap[gp]? = some (.cells #[.int .u32 (rd_T55 x.pe n).f0, .int .u32 (rd_T55 x.pe n).f1, .int .u32 (rd_T55 x.pe n).f2, .slice A3 (rd_T55 x.pe n).f3.length c3, .slice A4 (rd_T55 x.pe n).f4.length c4, .bool true] 55 (0, 0)) := (by rw [hw_]; exact (blk_put (cs := #[.int .u32 (rd_T55 x.pe n).f0, .int .u32 (rd_T55 x.pe n).f1, .int .u32 (rd_T55 x.pe n).f2, .slice A3 (rd_T55 x.pe n).f3.length c3, .slice A4 (rd_T55 x.pe n).f4.length c4, .bool (rd_T55 x.pe n).f5]) (cs' := #[.int .u32 (rd_T55 x.pe n).f0, .int .u32 (rd_T55 x.pe n).f1, .int .u32 (rd_T55 x.pe n).f2, .slice A3 (rd_T55 x.pe n).f3.length c3, .slice A4 (rd_T55 x.pe n).f4.length c4, .bool true]) Bp 5 _ rfl)); have hs_ : wk.St gp W2_ W3_ := (by rw [hw_]; exact wk.St.cell _ _ _ _); clear hw_; clear kp_5 zp_5; replace R := R.st hs_ (fun k hk => hk.ne (by simp)); replace R1 := R1.st hs_ (fun k hk => hk.ne (by simp)); replace V3 := wk.V_st V3 hs_ (fun k hk => hk.ne (by simp)); replace V4 := wk.V_st V4 hs_ (fun k hk => hk.ne (by simp)); replace Ba := hs_.blk Ba na_p; replace Bb := hs_.blk Bb nb_p; replace Br := hs_.blk Br nr_p; replace HN := fun q hq => Nat.lt_of_lt_of_le (HN q hq) (hs_.bel 0 (Nat.zero_le _)).size; replace HB := hs_.below gep HB; replace Bp := b_; clear b_ hs_; have kp_5 : W3_.cell? ⟨gp, 5, none⟩ = some (.bool true) := (blk_cell Bp 5).trans rfl; have zp_5 := blk_frozen Bp 5))
      clear kr_14 zr_14 kb_0 zb_0 kb_2 zb_2 hy5 kp_5 zp_5
      clear HE
      have hOne := AL.out.one n c1 true (by rw [if_pos ⟨k6.out, kb.out, hq.out⟩])
      obtain ⟨ad3, B3, d3, B4, d4, ee3, EX, U3, U4⟩ := wk.per_all R1.r14 (n : Int) (by omega) c1y
      have HE := Aside0.mk ee3
      clear ee3
      rw [Int.toNat_natCast] at EX
      refine start_ (n := 8) (S := fun w' => w'.heap[gp]? = some (.cells #[.int .u32 (rd_T55 x.pe n).f0, .int .u32 (rd_T55 x.pe n).f1, .int .u32 (rd_T55 x.pe n).f2, .slice A3 (rd_T55 x.pe n).f3.length c3, .slice A4 (rd_T55 x.pe n).f4.length c4, .bool true] 55 (0, 0)) ∧ w'.heap[gr]? = some (.cells #[.int .u32 x.c0, .int .i64 x.c1, .int .i64 x.c2, .int .i64 x.c3, .int .i64 x.c4, .int .i64 x.c5, .int .i64 x.c6, .slice t.a7 y.dl.length t.c7, .int .i64 y.dn, .int .i64 y.br, .slice t.a10 y.bs.length t.c10, .int .i64 y.nr, .slice t.a12 y.ng.length t.c12, .slice t.a13 y.ns.length t.c13, .slice t.a14 y.pe.length t.c14, .slice t.a15 y.lo.length t.c15, .slice t.a16 y.re.length t.c16, .slice t.a17 y.le.length t.c17] 39 (0, 0)) ∧ (∀ j u, (#[.int .u32 (rd_T55 y.pe n).f0, .int .u32 (rd_T55 y.pe n).f1, .int .u32 (rd_T55 y.pe n).f2, .slice B3 (rd_T55 y.pe n).f3.length d3, .slice B4 (rd_T55 y.pe n).f4.length d4, .bool (rd_T55 y.pe n).f5] : Array Value).toList[j]? = some u → w'.cell? ((ad3.add (n * 6)).add j) = some u) ∧ True) (ds := []) #[Z,Z,Z,Z,Z,Z,Z,Z] (by kernel_rfl) rfl rfl ⟨(blk_drew Bp), (blk_drew Br), (fun j u h => wk.cellb (EX j u h) (below_drew (Below.refl _ _))), trivial⟩ (fun hHeld => ?_)
      obtain ⟨W4_, hw_⟩ : ∃ W_ : World, W_ = W3_.drew := ⟨_, rfl⟩
      rw [← hw_] at hHeld ⊢
      have hb_ : Below W3_.heap.size W3_ W4_ := by rw [hw_]; exact below_drew (Below.refl _ _)
      clear hw_
      replace R := R.below hb_
      replace R1 := R1.below hb_
      replace V3 := Kd.V_below V3 hb_
      replace V4 := Kd.V_below V4 hb_
      replace U3 := Kd.V_below U3 hb_
      replace U4 := Kd.V_below U4 hb_
      replace EX := (fun j u h => wk.cellb (EX j u h) hb_)
      replace Ba := blk_below Ba hb_
      replace Bb := blk_below Bb hb_
      replace Br := blk_below Br hb_
      replace Bp := blk_below Bp hb_
      replace HN := hN_ HN hb_.size
      replace HB := HB.tr_ hb_
      clear hb_
      refine pure_ (i := 0) (N := some 97) (v := ?_) (a' := ?_) #[Y,Z,Z,Z,Z,Z,Z,Z] rfl rfl (by kernel_rfl) (fun _ _ _ h => h) (Or.inl ⟨by rfl, ?_⟩) ?_ ?_
      rotate_left
      ·
       intro w'
       go_simp
       with_reducible rfl
      rotate_left
      ·
       simp only [Act.put, List.setIfInBounds_toArray, List.set_cons_zero, List.set_cons_succ, i64_w, i32_w]
       rfl
      refine take_ (i := 1) (N := some 98) (v := ?_) (a' := ?_) #[Y,Y,Z,Z,Z,Z,Z,Z] rfl rfl (by kernel_rfl) (fun _ _ _ h => h) (Or.inl ⟨by rfl, ?_⟩) hHeld ?_ ?_
      rotate_left
      ·
       rintro w' ⟨s0, s1, s2, s3⟩
       have qr_14 : w'.cell? ⟨gr, 14, none⟩ = some (.slice (some ad3) y.pe.length t.c14) := (blk_cell s1 14).trans (by rw [← HE.out]; rfl)
       clear s0 s1
       go_simp
       with_reducible rfl
      rotate_left
      ·
       simp only [Act.put, List.setIfInBounds_toArray, List.set_cons_zero, List.set_cons_succ, i64_w, i32_w]
       rfl
      refine pure_ (i := 2) (N := some 99) (v := ?_) (a' := ?_) #[Y,Y,Y,Z,Z,Z,Z,Z] rfl rfl (by kernel_rfl) (fun _ _ _ h => h) (Or.inl ⟨by rfl, ?_⟩) ?_ ?_
      rotate_left
      ·
       intro w'
       go_simp
       with_reducible rfl
      rotate_left
      ·
       simp only [Act.put, List.setIfInBounds_toArray, List.set_cons_zero, List.set_cons_succ, i64_w, i32_w]
       rfl
      refine pure_ (i := 3) (N := some 100) (v := ?_) (a' := ?_) #[Y,Y,Y,Y,Z,Z,Z,Z] rfl rfl (by kernel_rfl) (fun _ _ _ h => h) (Or.inl ⟨by rfl, ?_⟩) ?_ ?_
      rotate_left
      ·
       intro w'
       go_simp
       with_reducible rfl
      rotate_left
      ·
       simp only [Act.put, List.setIfInBounds_toArray, List.set_cons_zero, List.set_cons_succ, i64_w, i32_w]
       rfl
      refine take_ (i := 4) (N := some 101) (v := ?_) (a' := ?_) #[Y,Y,Y,Y,Y,Z,Z,Z] rfl rfl (by kernel_rfl) (fun _ _ _ h => h) (Or.inl ⟨by rfl, ?_⟩) hHeld ?_ ?_
      rotate_left
      ·
       rintro w' ⟨s0, s1, s2, s3⟩
       refine wk.load_cells (t := 55) (x := .tmp 100) (A := ad3.add (n * 6)) (cells := #[.int .u32 (rd_T55 y.pe n).f0, .int .u32 (rd_T55 y.pe n).f1, .int .u32 (rd_T55 y.pe n).f2, .slice B3 (rd_T55 y.pe n).f3.length d3, .slice B4 (rd_T55 y.pe n).f4.length d4, .bool (rd_T55 y.pe n).f5]) ?ho_28 ?hx_28 s2 Try.underlying55 rfl ?hi_28
       case ho_28 => rfl
       case hx_28 => first | rfl | (go_simp; done)
       case hi_28 => kernel_rfl
      rotate_left
      ·
       simp only [Act.put, List.setIfInBounds_toArray, List.set_cons_zero, List.set_cons_succ, i64_w, i32_w]
       rfl
      refine take_ (i := 5) (N := some 102) (v := ?_) (a' := ?_) #[Y,Y,Y,Y,Y,Y,Z,Z] rfl rfl (by kernel_rfl) (fun _ _ _ h => h) (Or.inl ⟨by rfl, ?_⟩) hHeld ?_ ?_
      rotate_left
      ·
       rintro w' ⟨s0, s1, s2, s3⟩
       refine wk.load_at (t := 55) (x := .tmp 8) (off := 0) (cells := #[.int .u32 (rd_T55 x.pe n).f0, .int .u32 (rd_T55 x.pe n).f1, .int .u32 (rd_T55 x.pe n).f2, .slice A3 (rd_T55 x.pe n).f3.length c3, .slice A4 (rd_T55 x.pe n).f4.length c4, .bool true]) ?ho_29 ?hx_29 s0 Try.underlying55 rfl ?hi_29 ?hn_29
       case ho_29 => rfl
       case hx_29 => first | rfl | (go_simp; done)
       case hi_29 => kernel_rfl
       case hn_29 => kernel_rfl
      rotate_left
      ·
       simp only [Act.put, List.setIfInBounds_toArray, List.set_cons_zero, List.set_cons_succ, i64_w, i32_w]
       rfl
      refine one_ (i := 6) (N := some 103) #[Y,Y,Y,Y,Y,Y,Y,Z] rfl rfl (by kernel_rfl) (by decide) (fun K hK => ?_)
      refine goes_ Try.func14 (by kernel_rfl) rfl #[.agg #[.int .u32 (rd_T55 y.pe n).f0, .int .u32 (rd_T55 y.pe n).f1, .int .u32 (rd_T55 y.pe n).f2, .slice B3 (rd_T55 y.pe n).f3.length d3, .slice B4 (rd_T55 y.pe n).f4.length d4, .bool (rd_T55 y.pe n).f5], .agg #[.int .u32 (rd_T55 x.pe n).f0, .int .u32 (rd_T55 x.pe n).f1, .int .u32 (rd_T55 x.pe n).f2, .slice A3 (rd_T55 x.pe n).f3.length c3, .slice A4 (rd_T55 x.pe n).f4.length c4, .bool true]] (by rfl) rfl rfl mS_ ?_
      refine (chamberlainref10_One.calls k _ _ _ _ _ (rd_T55 y.pe n).f3 _ _ (rd_T55 y.pe n).f4 _ _ _ _ _ _ (rd_T55 x.pe n).f3 _ _ (rd_T55 x.pe n).f4 true true _ (Kd.V_reads' U3).2.2 (Kd.V_reads' U3).2.1 (Kd.V_reads' U4).2.2 (Kd.V_reads' U4).2.1 (Kd.V_reads' V3).2.2 (Kd.V_reads' V3).2.1 (Kd.V_reads' V4).2.2 (Kd.V_reads' V4).2.1 hOne).mono ?_
      rintro e W5_ ⟨rfl, hb_⟩
      refine ⟨_, rfl, ?_⟩
      replace R := R.below hb_
      replace R1 := R1.below hb_
      replace V3 := Kd.V_below V3 hb_
      replace V4 := Kd.V_below V4 hb_
      replace U3 := Kd.V_below U3 hb_
      replace U4 := Kd.V_below U4 hb_
      replace EX := (fun j u h => wk.cellb (EX j u h) hb_)
      replace Ba := blk_below Ba hb_
      replace Bb := blk_below Bb hb_
      replace Br := blk_below Br hb_
      replace Bp := blk_below Bp hb_
      replace HN := hN_ HN hb_.size
      replace HB := HB.tr_ hb_
      clear hb_
      refine hK.out _ _ ⟨Bp, Br, EX, trivial⟩ (fun hHeld => ?_)
      clear hK K
      refine norm_ (a' := ?_) ?_ ?_
      rotate_left
      ·
       show Act.put _ (some 103) _ = _
       simp only [Act.put, List.setIfInBounds_toArray, List.set_cons_zero, List.set_cons_succ, i64_w, i32_w]
       rfl
      refine pure_ (i := 7) (N := some 104) (v := ?_) (a' := ?_) #[Y,Y,Y,Y,Y,Y,Y,Y] rfl rfl (by kernel_rfl) (fun _ _ _ h => h) (Or.inl ⟨by rfl, ?_⟩) ?_ ?_
      rotate_left
      ·
       intro w'
       go_simp
       with_reducible rfl
      rotate_left
      ·
       simp only [Act.put, List.setIfInBounds_toArray, List.set_cons_zero, List.set_cons_succ, i64_w, i32_w]
       rfl
      refine done_ (by kernel_rfl) ?_
      try clear hHeld
      go_wp2
      go_roundw
      case rel => exact ⟨n + 1, by omega, by go_num, ⟨Ba⟩, ⟨Bb⟩, ⟨Br⟩, ⟨R.mono (fun k hk => ⟨hk.1, fun h_ => hk.2 (List.mem_cons_of_mem _ h_)⟩)⟩, ⟨R1.mono (fun k hk => ⟨hk.1, fun h_ => hk.2 (List.mem_cons_of_mem _ h_)⟩)⟩, ⟨HB⟩⟩
      case measure => simp [intOf]; omega
    ·
     have kbb : ((n : Int) == o.b) = false := beq_eq_false_iff_ne.mpr kb
     replace k6 := Aside0.mk k6
     replace kb := Aside0.mk kb
     go_upto_region 12 with (fail)
     clear kr_14 zr_14 kb_0 zb_0 kb_2 zb_2 hy5
     clear HE
     have hOne := AL.out.one n c1 (rd_T55 x.pe n).f5 (by rw [if_neg (fun h_ => kb.out h_.2.1)])
     obtain ⟨ad3, B3, d3, B4, d4, ee3, EX, U3, U4⟩ := wk.per_all R1.r14 (n : Int) (by omega) c1y
     have HE := Aside0.mk ee3
     clear ee3
     rw [Int.toNat_natCast] at EX
     refine start_ (n := 8) (S := fun w' => w'.heap[gp]? = some (.cells #[.int .u32 (rd_T55 x.pe n).f0, .int .u32 (rd_T55 x.pe n).f1, .int .u32 (rd_T55 x.pe n).f2, .slice A3 (rd_T55 x.pe n).f3.length c3, .slice A4 (rd_T55 x.pe n).f4.length c4, .bool (rd_T55 x.pe n).f5] 55 (0, 0)) ∧ w'.heap[gr]? = some (.cells #[.int .u32 x.c0, .int .i64 x.c1, .int .i64 x.c2, .int .i64 x.c3, .int .i64 x.c4, .int .i64 x.c5, .int .i64 x.c6, .slice t.a7 y.dl.length t.c7, .int .i64 y.dn, .int .i64 y.br, .slice t.a10 y.bs.length t.c10, .int .i64 y.nr, .slice t.a12 y.ng.length t.c12, .slice t.a13 y.ns.length t.c13, .slice t.a14 y.pe.length t.c14, .slice t.a15 y.lo.length t.c15, .slice t.a16 y.re.length t.c16, .slice t.a17 y.le.length t.c17] 39 (0, 0)) ∧ (∀ j u, (#[.int .u32 (rd_T55 y.pe n).f0, .int .u32 (rd_T55 y.pe n).f1, .int .u32 (rd_T55 y.pe n).f2, .slice B3 (rd_T55 y.pe n).f3.length d3, .slice B4 (rd_T55 y.pe n).f4.length d4, .bool (rd_T55 y.pe n).f5] : Array Value).toList[j]? = some u → w'.cell? ((ad3.add (n * 6)).add j) = some u) ∧ True) (ds := []) #[Z,Z,Z,Z,Z,Z,Z,Z] (by kernel_rfl) rfl rfl ⟨(blk_drew Bp), (blk_drew Br), (fun j u h => wk.cellb (EX j u h) (below_drew (Below.refl _ _))), trivial⟩ (fun hHeld => ?_)
     obtain ⟨W3_, hw_⟩ : ∃ W_ : World, W_ = W2_.drew := ⟨_, rfl⟩
     rw [← hw_] at hHeld ⊢
     have hb_ : Below W2_.heap.size W2_ W3_ := by rw [hw_]; exact below_drew (Below.refl _ _)
     clear hw_
     replace R := R.below hb_
     replace R1 := R1.below hb_
     replace V3 := Kd.V_below V3 hb_
     replace V4 := Kd.V_below V4 hb_
     replace U3 := Kd.V_below U3 hb_
     replace U4 := Kd.V_below U4 hb_
     replace EX := (fun j u h => wk.cellb (EX j u h) hb_)
     replace Ba := blk_below Ba hb_
     replace Bb := blk_below Bb hb_
     replace Br := blk_below Br hb_
     replace Bp := blk_below Bp hb_
     replace HN := hN_ HN hb_.size
     replace HB := HB.tr_ hb_
     clear hb_
     refine pure_ (i := 0) (N := some 97) (v := ?_) (a' := ?_) #[Y,Z,Z,Z,Z,Z,Z,Z] rfl rfl (by kernel_rfl) (fun _ _ _ h => h) (Or.inl ⟨by rfl, ?_⟩) ?_ ?_
     rotate_left
     ·
      intro w'
      go_simp
      with_reducible rfl
     rotate_left
     ·
      simp only [Act.put, List.setIfInBounds_toArray, List.set_cons_zero, List.set_cons_succ, i64_w, i32_w]
      rfl
     refine take_ (i := 1) (N := some 98) (v := ?_) (a' := ?_) #[Y,Y,Z,Z,Z,Z,Z,Z] rfl rfl (by kernel_rfl) (fun _ _ _ h => h) (Or.inl ⟨by rfl, ?_⟩) hHeld ?_ ?_
     rotate_left
     ·
      rintro w' ⟨s0, s1, s2, s3⟩
      have qr_14 : w'.cell? ⟨gr, 14, none⟩ = some (.slice (some ad3) y.pe.length t.c14) := (blk_cell s1 14).trans (by rw [← HE.out]; rfl)
      clear s0 s1
      go_simp
      with_reducible rfl
     rotate_left
     ·
      simp only [Act.put, List.setIfInBounds_toArray, List.set_cons_zero, List.set_cons_succ, i64_w, i32_w]
      rfl
     refine pure_ (i := 2) (N := some 99) (v := ?_) (a' := ?_) #[Y,Y,Y,Z,Z,Z,Z,Z] rfl rfl (by kernel_rfl) (fun _ _ _ h => h) (Or.inl ⟨by rfl, ?_⟩) ?_ ?_
     rotate_left
     ·
      intro w'
      go_simp
      with_reducible rfl
     rotate_left
     ·
      simp only [Act.put, List.setIfInBounds_toArray, List.set_cons_zero, List.set_cons_succ, i64_w, i32_w]
      rfl
     refine pure_ (i := 3) (N := some 100) (v := ?_) (a' := ?_) #[Y,Y,Y,Y,Z,Z,Z,Z] rfl rfl (by kernel_rfl) (fun _ _ _ h => h) (Or.inl ⟨by rfl, ?_⟩) ?_ ?_
     rotate_left
     ·
      intro w'
      go_simp
      with_reducible rfl
     rotate_left
     ·
      simp only [Act.put, List.setIfInBounds_toArray, List.set_cons_zero, List.set_cons_succ, i64_w, i32_w]
      rfl
     refine take_ (i := 4) (N := some 101) (v := ?_) (a' := ?_) #[Y,Y,Y,Y,Y,Z,Z,Z] rfl rfl (by kernel_rfl) (fun _ _ _ h => h) (Or.inl ⟨by rfl, ?_⟩) hHeld ?_ ?_
     rotate_left
     ·
      rintro w' ⟨s0, s1, s2, s3⟩
      refine wk.load_cells (t := 55) (x := .tmp 100) (A := ad3.add (n * 6)) (cells := #[.int .u32 (rd_T55 y.pe n).f0, .int .u32 (rd_T55 y.pe n).f1, .int .u32 (rd_T55 y.pe n).f2, .slice B3 (rd_T55 y.pe n).f3.length d3, .slice B4 (rd_T55 y.pe n).f4.length d4, .bool (rd_T55 y.pe n).f5]) ?ho_30 ?hx_30 s2 Try.underlying55 rfl ?hi_30
      case ho_30 => rfl
      case hx_30 => first | rfl | (go_simp; done)
      case hi_30 => kernel_rfl
     rotate_left
     ·
      simp only [Act.put, List.setIfInBounds_toArray, List.set_cons_zero, List.set_cons_succ, i64_w, i32_w]
      rfl
     refine take_ (i := 5) (N := some 102) (v := ?_) (a' := ?_) #[Y,Y,Y,Y,Y,Y,Z,Z] rfl rfl (by kernel_rfl) (fun _ _ _ h => h) (Or.inl ⟨by rfl, ?_⟩) hHeld ?_ ?_
     rotate_left
     ·
      rintro w' ⟨s0, s1, s2, s3⟩
      refine wk.load_at (t := 55) (x := .tmp 8) (off := 0) (cells := #[.int .u32 (rd_T55 x.pe n).f0, .int .u32 (rd_T55 x.pe n).f1, .int .u32 (rd_T55 x.pe n).f2, .slice A3 (rd_T55 x.pe n).f3.length c3, .slice A4 (rd_T55 x.pe n).f4.length c4, .bool (rd_T55 x.pe n).f5]) ?ho_31 ?hx_31 s0 Try.underlying55 rfl ?hi_31 ?hn_31
      case ho_31 => rfl
      case hx_31 => first | rfl | (go_simp; done)
      case hi_31 => kernel_rfl
      case hn_31 => kernel_rfl
     rotate_left
     ·
      simp only [Act.put, List.setIfInBounds_toArray, List.set_cons_zero, List.set_cons_succ, i64_w, i32_w]
      rfl
     refine one_ (i := 6) (N := some 103) #[Y,Y,Y,Y,Y,Y,Y,Z] rfl rfl (by kernel_rfl) (by decide) (fun K hK => ?_)
     refine goes_ Try.func14 (by kernel_rfl) rfl #[.agg #[.int .u32 (rd_T55 y.pe n).f0, .int .u32 (rd_T55 y.pe n).f1, .int .u32 (rd_T55 y.pe n).f2, .slice B3 (rd_T55 y.pe n).f3.length d3, .slice B4 (rd_T55 y.pe n).f4.length d4, .bool (rd_T55 y.pe n).f5], .agg #[.int .u32 (rd_T55 x.pe n).f0, .int .u32 (rd_T55 x.pe n).f1, .int .u32 (rd_T55 x.pe n).f2, .slice A3 (rd_T55 x.pe n).f3.length c3, .slice A4 (rd_T55 x.pe n).f4.length c4, .bool (rd_T55 x.pe n).f5]] (by rfl) rfl rfl mS_ ?_
     refine (chamberlainref10_One.calls k _ _ _ _ _ (rd_T55 y.pe n).f3 _ _ (rd_T55 y.pe n).f4 _ _ _ _ _ _ (rd_T55 x.pe n).f3 _ _ (rd_T55 x.pe n).f4 (rd_T55 x.pe n).f5 true _ (Kd.V_reads' U3).2.2 (Kd.V_reads' U3).2.1 (Kd.V_reads' U4).2.2 (Kd.V_reads' U4).2.1 (Kd.V_reads' V3).2.2 (Kd.V_reads' V3).2.1 (Kd.V_reads' V4).2.2 (Kd.V_reads' V4).2.1 hOne).mono ?_
     rintro e W4_ ⟨rfl, hb_⟩
     refine ⟨_, rfl, ?_⟩
     replace R := R.below hb_
     replace R1 := R1.below hb_
     replace V3 := Kd.V_below V3 hb_
     replace V4 := Kd.V_below V4 hb_
     replace U3 := Kd.V_below U3 hb_
     replace U4 := Kd.V_below U4 hb_
     replace EX := (fun j u h => wk.cellb (EX j u h) hb_)
     replace Ba := blk_below Ba hb_
     replace Bb := blk_below Bb hb_
     replace Br := blk_below Br hb_
     replace Bp := blk_below Bp hb_
     replace HN := hN_ HN hb_.size
     replace HB := HB.tr_ hb_
     clear hb_
     refine hK.out _ _ ⟨Bp, Br, EX, trivial⟩ (fun hHeld => ?_)
     clear hK K
     refine norm_ (a' := ?_) ?_ ?_
     rotate_left
     ·
      show Act.put _ (some 103) _ = _
      simp only [Act.put, List.setIfInBounds_toArray, List.set_cons_zero, List.set_cons_succ, i64_w, i32_w]
      rfl
     refine pure_ (i := 7) (N := some 104) (v := ?_) (a' := ?_) #[Y,Y,Y,Y,Y,Y,Y,Y] rfl rfl (by kernel_rfl) (fun _ _ _ h => h) (Or.inl ⟨by rfl, ?_⟩) ?_ ?_
     rotate_left
     ·
      intro w'
      go_simp
      with_reducible rfl
     rotate_left
     ·
      simp only [Act.put, List.setIfInBounds_toArray, List.set_cons_zero, List.set_cons_succ, i64_w, i32_w]
      rfl
     refine done_ (by kernel_rfl) ?_
     try clear hHeld
     go_wp2
     go_roundw
     case rel => exact ⟨n + 1, by omega, by go_num, ⟨Ba⟩, ⟨Bb⟩, ⟨Br⟩, ⟨R.mono (fun k hk => ⟨hk.1, fun h_ => hk.2 (List.mem_cons_of_mem _ h_)⟩)⟩, ⟨R1.mono (fun k hk => ⟨hk.1, fun h_ => hk.2 (List.mem_cons_of_mem _ h_)⟩)⟩, ⟨HB⟩⟩
     case measure => simp [intOf]; omega
   ·
    have k6b : (o.kd == 6) = false := beq_eq_false_iff_ne.mpr k6
    replace k6 := Aside0.mk k6
    go_upto_region 12 with (fail)
    clear kr_14 zr_14 kb_0 zb_0 kb_2 zb_2 hy5
    clear HE
    have hOne := AL.out.one n c1 (rd_T55 x.pe n).f5 (by rw [if_neg (fun h_ => k6.out h_.1)])
    obtain ⟨ad3, B3, d3, B4, d4, ee3, EX, U3, U4⟩ := wk.per_all R1.r14 (n : Int) (by omega) c1y
    have HE := Aside0.mk ee3
    clear ee3
    rw [Int.toNat_natCast] at EX
    refine start_ (n := 8) (S := fun w' => w'.heap[gp]? = some (.cells #[.int .u32 (rd_T55 x.pe n).f0, .int .u32 (rd_T55 x.pe n).f1, .int .u32 (rd_T55 x.pe n).f2, .slice A3 (rd_T55 x.pe n).f3.length c3, .slice A4 (rd_T55 x.pe n).f4.length c4, .bool (rd_T55 x.pe n).f5] 55 (0, 0)) ∧ w'.heap[gr]? = some (.cells #[.int .u32 x.c0, .int .i64 x.c1, .int .i64 x.c2, .int .i64 x.c3, .int .i64 x.c4, .int .i64 x.c5, .int .i64 x.c6, .slice t.a7 y.dl.length t.c7, .int .i64 y.dn, .int .i64 y.br, .slice t.a10 y.bs.length t.c10, .int .i64 y.nr, .slice t.a12 y.ng.length t.c12, .slice t.a13 y.ns.length t.c13, .slice t.a14 y.pe.length t.c14, .slice t.a15 y.lo.length t.c15, .slice t.a16 y.re.length t.c16, .slice t.a17 y.le.length t.c17] 39 (0, 0)) ∧ (∀ j u, (#[.int .u32 (rd_T55 y.pe n).f0, .int .u32 (rd_T55 y.pe n).f1, .int .u32 (rd_T55 y.pe n).f2, .slice B3 (rd_T55 y.pe n).f3.length d3, .slice B4 (rd_T55 y.pe n).f4.length d4, .bool (rd_T55 y.pe n).f5] : Array Value).toList[j]? = some u → w'.cell? ((ad3.add (n * 6)).add j) = some u) ∧ True) (ds := []) #[Z,Z,Z,Z,Z,Z,Z,Z] (by kernel_rfl) rfl rfl ⟨(blk_drew Bp), (blk_drew Br), (fun j u h => wk.cellb (EX j u h) (below_drew (Below.refl _ _))), trivial⟩ (fun hHeld => ?_)
    obtain ⟨W3_, hw_⟩ : ∃ W_ : World, W_ = W2_.drew := ⟨_, rfl⟩
    rw [← hw_] at hHeld ⊢
    have hb_ : Below W2_.heap.size W2_ W3_ := by rw [hw_]; exact below_drew (Below.refl _ _)
    clear hw_
    replace R := R.below hb_
    replace R1 := R1.below hb_
    replace V3 := Kd.V_below V3 hb_
    replace V4 := Kd.V_below V4 hb_
    replace U3 := Kd.V_below U3 hb_
    replace U4 := Kd.V_below U4 hb_
    replace EX := (fun j u h => wk.cellb (EX j u h) hb_)
    replace Ba := blk_below Ba hb_
    replace Bb := blk_below Bb hb_
    replace Br := blk_below Br hb_
    replace Bp := blk_below Bp hb_
    replace HN := hN_ HN hb_.size
    replace HB := HB.tr_ hb_
    clear hb_
    refine pure_ (i := 0) (N := some 97) (v := ?_) (a' := ?_) #[Y,Z,Z,Z,Z,Z,Z,Z] rfl rfl (by kernel_rfl) (fun _ _ _ h => h) (Or.inl ⟨by rfl, ?_⟩) ?_ ?_
    rotate_left
    ·
     intro w'
     go_simp
     with_reducible rfl
    rotate_left
    ·
     simp only [Act.put, List.setIfInBounds_toArray, List.set_cons_zero, List.set_cons_succ, i64_w, i32_w]
     rfl
    refine take_ (i := 1) (N := some 98) (v := ?_) (a' := ?_) #[Y,Y,Z,Z,Z,Z,Z,Z] rfl rfl (by kernel_rfl) (fun _ _ _ h => h) (Or.inl ⟨by rfl, ?_⟩) hHeld ?_ ?_
    rotate_left
    ·
     rintro w' ⟨s0, s1, s2, s3⟩
     have qr_14 : w'.cell? ⟨gr, 14, none⟩ = some (.slice (some ad3) y.pe.length t.c14) := (blk_cell s1 14).trans (by rw [← HE.out]; rfl)
     clear s0 s1
     go_simp
     with_reducible rfl
    rotate_left
    ·
     simp only [Act.put, List.setIfInBounds_toArray, List.set_cons_zero, List.set_cons_succ, i64_w, i32_w]
     rfl
    refine pure_ (i := 2) (N := some 99) (v := ?_) (a' := ?_) #[Y,Y,Y,Z,Z,Z,Z,Z] rfl rfl (by kernel_rfl) (fun _ _ _ h => h) (Or.inl ⟨by rfl, ?_⟩) ?_ ?_
    rotate_left
    ·
     intro w'
     go_simp
     with_reducible rfl
    rotate_left
    ·
     simp only [Act.put, List.setIfInBounds_toArray, List.set_cons_zero, List.set_cons_succ, i64_w, i32_w]
     rfl
    refine pure_ (i := 3) (N := some 100) (v := ?_) (a' := ?_) #[Y,Y,Y,Y,Z,Z,Z,Z] rfl rfl (by kernel_rfl) (fun _ _ _ h => h) (Or.inl ⟨by rfl, ?_⟩) ?_ ?_
    rotate_left
    ·
     intro w'
     go_simp
     with_reducible rfl
    rotate_left
    ·
     simp only [Act.put, List.setIfInBounds_toArray, List.set_cons_zero, List.set_cons_succ, i64_w, i32_w]
     rfl
    refine take_ (i := 4) (N := some 101) (v := ?_) (a' := ?_) #[Y,Y,Y,Y,Y,Z,Z,Z] rfl rfl (by kernel_rfl) (fun _ _ _ h => h) (Or.inl ⟨by rfl, ?_⟩) hHeld ?_ ?_
    rotate_left
    ·
     rintro w' ⟨s0, s1, s2, s3⟩
     refine wk.load_cells (t := 55) (x := .tmp 100) (A := ad3.add (n * 6)) (cells := #[.int .u32 (rd_T55 y.pe n).f0, .int .u32 (rd_T55 y.pe n).f1, .int .u32 (rd_T55 y.pe n).f2, .slice B3 (rd_T55 y.pe n).f3.length d3, .slice B4 (rd_T55 y.pe n).f4.length d4, .bool (rd_T55 y.pe n).f5]) ?ho_32 ?hx_32 s2 Try.underlying55 rfl ?hi_32
     case ho_32 => rfl
     case hx_32 => first | rfl | (go_simp; done)
     case hi_32 => kernel_rfl
    rotate_left
    ·
     simp only [Act.put, List.setIfInBounds_toArray, List.set_cons_zero, List.set_cons_succ, i64_w, i32_w]
     rfl
    refine take_ (i := 5) (N := some 102) (v := ?_) (a' := ?_) #[Y,Y,Y,Y,Y,Y,Z,Z] rfl rfl (by kernel_rfl) (fun _ _ _ h => h) (Or.inl ⟨by rfl, ?_⟩) hHeld ?_ ?_
    rotate_left
    ·
     rintro w' ⟨s0, s1, s2, s3⟩
     refine wk.load_at (t := 55) (x := .tmp 8) (off := 0) (cells := #[.int .u32 (rd_T55 x.pe n).f0, .int .u32 (rd_T55 x.pe n).f1, .int .u32 (rd_T55 x.pe n).f2, .slice A3 (rd_T55 x.pe n).f3.length c3, .slice A4 (rd_T55 x.pe n).f4.length c4, .bool (rd_T55 x.pe n).f5]) ?ho_33 ?hx_33 s0 Try.underlying55 rfl ?hi_33 ?hn_33
     case ho_33 => rfl
     case hx_33 => first | rfl | (go_simp; done)
     case hi_33 => kernel_rfl
     case hn_33 => kernel_rfl
    rotate_left
    ·
     simp only [Act.put, List.setIfInBounds_toArray, List.set_cons_zero, List.set_cons_succ, i64_w, i32_w]
     rfl
    refine one_ (i := 6) (N := some 103) #[Y,Y,Y,Y,Y,Y,Y,Z] rfl rfl (by kernel_rfl) (by decide) (fun K hK => ?_)
    refine goes_ Try.func14 (by kernel_rfl) rfl #[.agg #[.int .u32 (rd_T55 y.pe n).f0, .int .u32 (rd_T55 y.pe n).f1, .int .u32 (rd_T55 y.pe n).f2, .slice B3 (rd_T55 y.pe n).f3.length d3, .slice B4 (rd_T55 y.pe n).f4.length d4, .bool (rd_T55 y.pe n).f5], .agg #[.int .u32 (rd_T55 x.pe n).f0, .int .u32 (rd_T55 x.pe n).f1, .int .u32 (rd_T55 x.pe n).f2, .slice A3 (rd_T55 x.pe n).f3.length c3, .slice A4 (rd_T55 x.pe n).f4.length c4, .bool (rd_T55 x.pe n).f5]] (by rfl) rfl rfl mS_ ?_
    refine (chamberlainref10_One.calls k _ _ _ _ _ (rd_T55 y.pe n).f3 _ _ (rd_T55 y.pe n).f4 _ _ _ _ _ _ (rd_T55 x.pe n).f3 _ _ (rd_T55 x.pe n).f4 (rd_T55 x.pe n).f5 true _ (Kd.V_reads' U3).2.2 (Kd.V_reads' U3).2.1 (Kd.V_reads' U4).2.2 (Kd.V_reads' U4).2.1 (Kd.V_reads' V3).2.2 (Kd.V_reads' V3).2.1 (Kd.V_reads' V4).2.2 (Kd.V_reads' V4).2.1 hOne).mono ?_
    rintro e W4_ ⟨rfl, hb_⟩
    refine ⟨_, rfl, ?_⟩
    replace R := R.below hb_
    replace R1 := R1.below hb_
    replace V3 := Kd.V_below V3 hb_
    replace V4 := Kd.V_below V4 hb_
    replace U3 := Kd.V_below U3 hb_
    replace U4 := Kd.V_below U4 hb_
    replace EX := (fun j u h => wk.cellb (EX j u h) hb_)
    replace Ba := blk_below Ba hb_
    replace Bb := blk_below Bb hb_
    replace Br := blk_below Br hb_
    replace Bp := blk_below Bp hb_
    replace HN := hN_ HN hb_.size
    replace HB := HB.tr_ hb_
    clear hb_
    refine hK.out _ _ ⟨Bp, Br, EX, trivial⟩ (fun hHeld => ?_)
    clear hK K
    refine norm_ (a' := ?_) ?_ ?_
    rotate_left
    ·
     show Act.put _ (some 103) _ = _
     simp only [Act.put, List.setIfInBounds_toArray, List.set_cons_zero, List.set_cons_succ, i64_w, i32_w]
     rfl
    refine pure_ (i := 7) (N := some 104) (v := ?_) (a' := ?_) #[Y,Y,Y,Y,Y,Y,Y,Y] rfl rfl (by kernel_rfl) (fun _ _ _ h => h) (Or.inl ⟨by rfl, ?_⟩) ?_ ?_
    rotate_left
    ·
     intro w'
     go_simp
     with_reducible rfl
    rotate_left
    ·
     simp only [Act.put, List.setIfInBounds_toArray, List.set_cons_zero, List.set_cons_succ, i64_w, i32_w]
     rfl
    refine done_ (by kernel_rfl) ?_
    try clear hHeld
    go_wp2
    go_roundw
    case rel => exact ⟨n + 1, by omega, by go_num, ⟨Ba⟩, ⟨Bb⟩, ⟨Br⟩, ⟨R.mono (fun k hk => ⟨hk.1, fun h_ => hk.2 (List.mem_cons_of_mem _ h_)⟩)⟩, ⟨R1.mono (fun k hk => ⟨hk.1, fun h_ => hk.2 (List.mem_cons_of_mem _ h_)⟩)⟩, ⟨HB⟩⟩
    case measure => simp [intOf]; omega
  ·
   have c1b : decide ((n : Int) < (x.pe.length : Int)) = false := decide_eq_false (by omega)
   have c1c : decide (n < x.pe.length) = false := decide_eq_false c1
   clear c1
   have ka_10 : wr.cell? ⟨ga, 10, none⟩ = some (.slice s.a10 x.bs.length s.c10) := (blk_cell Ba 10).trans rfl
   have za_10 := blk_frozen Ba 10
   have ka_14 : wr.cell? ⟨ga, 14, none⟩ = some (.slice s.a14 x.pe.length s.c14) := (blk_cell Ba 14).trans rfl
   have za_14 := blk_frozen Ba 14
   have kr_10 : wr.cell? ⟨gr, 10, none⟩ = some (.slice t.a10 y.bs.length t.c10) := (blk_cell Br 10).trans rfl
   have zr_10 := blk_frozen Br 10
   have kr_14 : wr.cell? ⟨gr, 14, none⟩ = some (.slice t.a14 y.pe.length t.c14) := (blk_cell Br 14).trans rfl
   have zr_14 := blk_frozen Br 14
   have kb_0 : wr.cell? ⟨gb, 0, none⟩ = some (.int .i64 o.kd) := (blk_cell Bb 0).trans rfl
   have zb_0 := blk_frozen Bb 0
   have hbox := AL.out.box
   by_cases d1 : y.bs.length = x.bs.length
   ·
    have d1b : ((y.bs.length : Int) == (x.bs.length : Int)) = true := beq_iff_eq.mpr (by omega)
    have d1c : (y.bs.length == x.bs.length) = true := beq_iff_eq.mpr (by omega)
    clear d1 hbox
    go_wp2
    go_ret
    exact ⟨by first | done | rfl | (simp; done) | (simp [*]; done), HB⟩
   ·
    have d1b : ((y.bs.length : Int) == (x.bs.length : Int)) = false := beq_eq_false_iff_ne.mpr (by omega)
    have d1c : (y.bs.length == x.bs.length) = false := beq_eq_false_iff_ne.mpr (by omega)
    obtain ⟨k4, d2, hm⟩ := hbox.resolve_left d1
    have k4b : (o.kd == 4) = true := beq_iff_eq.mpr k4
    have wr_ : wrap64 ((x.bs.length : Int) + 1) = (y.bs.length : Int) := by unfold wrap64; omega
    have wrb : ((y.bs.length : Int) == (x.bs.length : Int) + 1) = true := beq_iff_eq.mpr (by omega)
    clear d1 k4 d2 hm
    go_wp2
    go_ret
    exact ⟨by first | done | rfl | (simp; done) | (simp [*]; done), HB⟩

end Go.Proofs.Ythlcpbendleihaa.PAdvAlone
