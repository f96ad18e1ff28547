/- Whatever the adversary does to a world that has its form, nobody else's clock, key, runs or used words change, for every world and operation; no condition. The lemmas. -/
import Derived.Test.YthlcpbendleihaaKAdvAlone
namespace Go.Proofs.Ythlcpbendleihaa.Pure
open Go Go.RowKit Go.Proofs.Ythlcpbendleihaa.PAdvAlone Go.Proofs.YthlcpbendleihaaW.PrintWords Go.Proofs.YthlcpbendleihaaW.PrintLast Go.Proofs.YthlcpbendleihaaW.PrintMore
set_option linter.unusedVariables false
set_option linter.unusedSimpArgs false
/-! ### A world's bounds -/
/-- What is small of a world. -/
structure Bd (x : wk.X) : Prop where
  rl : x.re.length ≤ 10
  rw : ∀ r ∈ x.re, r.length ≤ 100
  lo : x.lo.length ≤ 300
  le : x.le.length ≤ 300
  dl : x.dl.length ≤ 1000
  bl : x.bs.length ≤ 70
  bw : ∀ s ∈ x.bs, pb.small s
  net : pn.Few x.ng x.ns
  pl : x.pe.length ≤ 10
  pw : ∀ p ∈ x.pe, pp.small p
/-- No row is longer than a row can be. -/
structure Ln (x : wk.X) : Prop where
  re : x.re.length ≤ 9223372036854775807
  bs : x.bs.length ≤ 9223372036854775807
  ng : x.ng.length ≤ 9223372036854775807
  ns : x.ns.length ≤ 9223372036854775807
  pe : x.pe.length ≤ 9223372036854775807
/-- Its numbers are in their ranges. -/
structure Rg (x : wk.X) : Prop where
  dl : ∀ w ∈ x.dl, (Lit.int .u32 w).wf = true
  lo : ∀ e ∈ x.lo, 0 ≤ e.f4 ∧ e.f4 < 4294967296
theorem few_regs_bd (l : List (List Int)) (h : few_regs l = true) (hl : l.length ≤ 10) : ∀ r ∈ l, r.length ≤ 100 := by
  intro r hr
  obtain ⟨i, hi, rfl⟩ := List.getElem_of_mem hr
  unfold few_regs at h
  rw [List.all_eq_true] at h
  have := h i (List.mem_range.2 (by omega))
  simp only [Bool.or_eq_true, decide_eq_true_eq] at this
  rcases this with q | q
  · omega
  · rwa [pn.rdL l i hi] at q
theorem few_some (x : wk.X) (k : Nat) (hk : 2000 ≤ k) (h : Ln x) : ∃ b, chamberlainref12_Few.f k x = some b ∧ (b = true → Bd x) := by
  unfold chamberlainref12_Few.f
  obtain ⟨b1, e1, f1⟩ := pb.few_some x.br x.bs k h.bs (by omega)
  obtain ⟨b2, e2, f2⟩ := pn.few_some x.nr x.ng x.ns k h.ng h.ns (by omega)
  have e3 := pp.few_eq x.pe k h.pe (by omega)
  rw [e1, e2, e3]
  simp only [Option.bind_some]
  by_cases c0 : few_regs x.re = true
  · rw [if_pos c0]
    by_cases c1 : b1 = true
    · rw [if_pos c1]
      by_cases c2 : b2 = true
      · rw [if_pos c2]
        by_cases c3 : pp.fewB x.pe = true
        · rw [if_pos c3]
          refine ⟨_, rfl, fun q => ?_⟩
          simp only [Bool.and_eq_true, decide_eq_true_eq] at q
          obtain ⟨⟨⟨q1, q2⟩, q3⟩, q4⟩ := q
          obtain ⟨p1, p2⟩ := (pp.fewB_iff x.pe).1 c3
          exact ⟨q1, few_regs_bd x.re c0 q1, q2, q3, q4, (f1 c1).1, (f1 c1).2, f2 c2, p1, p2⟩
        · rw [if_neg c3]; exact ⟨_, rfl, fun q => by cases q⟩
      · rw [if_neg c2]; exact ⟨_, rfl, fun q => by cases q⟩
    · rw [if_neg c1]; exact ⟨_, rfl, fun q => by cases q⟩
  · rw [if_neg c0]; exact ⟨_, rfl, fun q => by cases q⟩
theorem room_some (a : Int) : ∃ b, chamberlainref12_room.f a = some b := by
  unfold chamberlainref12_room.f
  split
  · exact ⟨_, rfl⟩
  · exact ⟨_, rfl⟩
theorem may_some (a b c d e f g : Int) : ∃ m, chamberlainref12_May.f a b c d e f g = some m := by
  unfold chamberlainref12_May.f
  obtain ⟨r1, h1⟩ := room_some c
  obtain ⟨r2, h2⟩ := room_some d
  obtain ⟨r3, h3⟩ := room_some e
  obtain ⟨r4, h4⟩ := room_some f
  rw [h1, h2, h3, h4]
  simp only [Option.bind_some]
  repeat' split
  all_goals exact ⟨_, rfl⟩
theorem rd_mem {α : Type} (l : List α) (d : α) (i : Int) (h0 : 0 ≤ i) (h1 : i < (l.length : Int)) : l.getD i.toNat d ∈ l := by
  rw [List.getD_eq_getElem?_getD, List.getElem?_eq_getElem (by omega)]
  exact List.getElem_mem _
theorem pre_of (x : wk.X) (k : Nat) (hk : 1010000 < k) (h : Bd x) : wk.Pre k x := by
  refine ⟨may_some _ _ _ _ _ _ _, ⟨_, pb.rright_eq x.br x.bs k (by have := h.bl; omega) (by have := h.bl; omega)⟩, ⟨_, pn.rright_eq x.nr x.ng x.ns⟩, ⟨_, pp.rright_eq x.pe k (by have := h.pl; omega) (by have := h.pl; omega)⟩, fun i hi => ?_⟩
  have hm : rd_T55 x.pe i ∈ x.pe := rd_mem x.pe z55 i (by omega) (by omega)
  have hs := h.pw _ hm
  exact ⟨_, _, pu.rright_eq _ _ k (by have := hs.1; omega) (by omega), pr.rright_eq _ _ k (by have := hs.2; omega) (by have := hs.2; omega)⟩
/-! ### What the operations come to -/
/-- What an operation leaves of a world. -/
structure Keep (x : wk.X) (o : wk.O) (y : wk.X) : Prop where
  cf : y.c0 = x.c0 ∧ y.c1 = x.c1 ∧ y.c2 = x.c2 ∧ y.c3 = x.c3 ∧ y.c4 = x.c4 ∧ y.c5 = x.c5 ∧ y.c6 = x.c6
  lo : y.lo = x.lo
  ng : y.ng = x.ng
  ns : y.ns = x.ns
  bs : y.bs.length = x.bs.length ∨ (o.kd = 4 ∧ y.bs.length = x.bs.length + 1)
  pe : y.pe = x.pe ∨ (o.kd = 6 ∧ 0 ≤ o.b ∧ o.b < (x.pe.length : Int) ∧ y.pe = x.pe.set o.b.toNat { rd_T55 x.pe o.b with f5 := true })
theorem Keep.refl (x : wk.X) (o : wk.O) : Keep x o x := ⟨⟨rfl, rfl, rfl, rfl, rfl, rfl, rfl⟩, rfl, rfl, rfl, .inl rfl, .inl rfl⟩
theorem Keep.re {x y : wk.X} {o : wk.O} (h : Keep x o y) (l : List (List Int)) : Keep x o { y with re := l } := ⟨h.cf, h.lo, h.ng, h.ns, h.bs, h.pe⟩
theorem reg_len (l : List (List Int)) (i : Int) (h : ∀ r ∈ l, r.length ≤ 100) : (adv_reg.f l i).1.length ≤ 100 := by
  unfold adv_reg.f
  split
  · simp
  · split
    · exact h _ (rd_mem l _ i (by omega) (by omega))
    · simp
theorem cut_some (o : wk.O) (l : List Int) (ok : Bool) (hl : l.length ≤ 100) : ∃ r e, adv_cut.f o l ok = some (r, e) := by
  unfold adv_cut.f
  split
  · rw [pw.cut_eq l o.c o.d (by omega), Option.bind_some]
    split
    · exact ⟨_, _, rfl⟩
    · exact ⟨_, _, rfl⟩
  · exact ⟨_, _, rfl⟩
theorem draw_some (x : wk.X) (hr : Rg x) (h0 : 0 ≤ x.dn) (h1 : x.dn ≤ 1048576) : desk_Draw.f x = some ({ x with dn := x.dn + 1 }, pp.atOf x.dl x.dn) := by
  unfold desk_Draw.f draw_Take.f
  rw [pp.at_eq x.dl x.dn x.dn hr.dl h0, Option.bind_some, Option.bind_some, w64 (by omega) (by omega)]
/-- Can a world of this form be told? -/
structure Ok (k : Nat) (x : wk.X) (o : wk.O) : Prop where
  fm : wk.Form k x
  bd : Bd x
  rg : Rg x
  ws : o.ws.length ≤ 100
theorem Ok.room {k : Nat} {x : wk.X} {o : wk.O} (h : Ok k x o) (hk : 1010000 < k) : 0 ≤ x.br ∧ x.br ≤ 64 := by
  have h1 := h.fm.box
  rw [pb.rright_eq x.br x.bs k (by have := h.bd.bl; omega) (by have := h.bd.bl; omega)] at h1
  have := (pb.rightB_iff x.br x.bs).1 (Option.some.inj h1)
  omega
theorem Ok.names {k : Nat} {x : wk.X} {o : wk.O} (h : Ok k x o) (hk : 1010000 < k) : (∀ i (hi : i < x.pe.length), x.pe[i].f0 = (i : Int)) ∧ 2 ≤ x.pe.length ∧ x.pe.length ≤ 7 := by
  have h1 := h.fm.peo
  rw [pp.rright_eq x.pe k (by have := h.bd.pl; omega) (by have := h.bd.pl; omega)] at h1
  exact (pp.rightP_iff x.pe).1 (Option.some.inj h1)
theorem lit_some (k : Nat) (x : wk.X) (o : wk.O) (h : Ok k x o) : ∃ l e y, adv_lit.f k x o = some (l, e, y) ∧ Keep x o y := by
  unfold adv_lit.f
  split
  · exact ⟨_, _, _, rfl, Keep.refl x o⟩
  · rw [pw.clone_eq _ (by have := h.ws; omega), Option.bind_some]
    exact ⟨_, _, _, rfl, Keep.refl x o⟩
theorem part_some (k : Nat) (x : wk.X) (o : wk.O) (h : Ok k x o) : ∃ l e y, adv_part.f k x o = some (l, e, y) ∧ Keep x o y := by
  unfold adv_part.f
  obtain ⟨r, e, hc⟩ := cut_some o (adv_reg.f x.re o.b).1 (adv_reg.f x.re o.b).2 (reg_len _ _ h.bd.rw)
  rw [hc, Option.bind_some]
  exact ⟨_, _, _, rfl, Keep.refl x o⟩
theorem seen_some (k : Nat) (x : wk.X) (o : wk.O) (h : Ok k x o) : ∃ l e y, adv_seen.f k x o = some (l, e, y) ∧ Keep x o y := by
  unfold adv_seen.f
  split
  · exact ⟨_, _, _, rfl, Keep.refl x o⟩
  · split
    · obtain ⟨r, e, hc⟩ := cut_some o (rd_L1 x.ns o.b) true (h.bd.net.ws _ (rd_mem x.ns _ o.b (by omega) (by omega)))
      rw [hc, Option.bind_some]
      exact ⟨_, _, _, rfl, Keep.refl x o⟩
    · exact ⟨_, _, _, rfl, Keep.refl x o⟩
theorem cat_some (k : Nat) (x : wk.X) (o : wk.O) (hk : 10 < k) (h : Ok k x o) : ∃ l e y, adv_cat.f k x o = some (l, e, y) ∧ Keep x o y := by
  unfold adv_cat.f adv_cat.g
  have h1 := reg_len x.re o.b h.bd.rw
  have h2 := reg_len x.re o.c h.bd.rw
  rw [concat_eqW [(adv_reg.f x.re o.b).1, (adv_reg.f x.re o.c).1] k (by simp) (by simp; omega) (by simp; omega)]
  simp only [Option.bind_some]
  repeat' split
  all_goals exact ⟨_, _, _, rfl, Keep.refl x o⟩
theorem open_some (k : Nat) (x : wk.X) (o : wk.O) (h : Ok k x o) : ∃ l e y, adv_open.f k x o = some (l, e, y) ∧ Keep x o y := by
  unfold adv_open.f adv_open.g
  rw [pb.open_eq x.br x.bs _ _ _ h.bd.bw]
  simp only [Option.bind_some]
  repeat' split
  all_goals exact ⟨_, _, _, rfl, Keep.refl x o⟩
theorem seal_some (k : Nat) (x : wk.X) (o : wk.O) (hk : 1010000 < k) (h : Ok k x o) (h4 : o.kd = 4) : ∃ l e y, adv_seal.f k x o = some (l, e, y) ∧ Keep x o y := by
  unfold adv_seal.f adv_seal.g
  obtain ⟨r0, r1⟩ := h.room hk
  rw [draw_some x h.rg h.fm.dn0 h.fm.dn1]
  simp only [Option.bind_some]
  rw [pb.seal_eq x.br x.bs _ _ _ _ r0 r1 (by have := h.bd.bl; omega)]
  simp only [Option.bind_some]
  split
  · split
    · split
      · split
        · rename_i c
          refine ⟨_, _, _, rfl, ⟨⟨rfl, rfl, rfl, rfl, rfl, rfl, rfl⟩, rfl, rfl, rfl, ?_, .inl rfl⟩⟩
          unfold pb.sealS
          split
          · exact .inl rfl
          · split
            · exact .inl rfl
            · split
              · exact .inl rfl
              · exact .inr ⟨h4, by simp⟩
        · exact ⟨_, _, _, rfl, Keep.refl x o⟩
      · exact ⟨_, _, _, rfl, Keep.refl x o⟩
    · exact ⟨_, _, _, rfl, Keep.refl x o⟩
  · exact ⟨_, _, _, rfl, Keep.refl x o⟩
theorem corrupt_some (k : Nat) (x : wk.X) (o : wk.O) (hk : 1010000 < k) (h : Ok k x o) (h6 : o.kd = 6) : ∃ l e y, adv_corrupt.f k x o = some (l, e, y) ∧ Keep x o y := by
  unfold adv_corrupt.f
  obtain ⟨hn, hp1, hp2⟩ := h.names hk
  by_cases c1 : o.b < 1
  · rw [if_pos c1]; exact ⟨_, _, _, rfl, Keep.refl x o⟩
  by_cases c2 : o.b < (x.pe.length : Int)
  · rw [if_neg c1, if_pos c2]
    obtain ⟨n, hn'⟩ : ∃ n : Nat, o.b = (n : Int) := ⟨o.b.toNat, by omega⟩
    have e1 : o.b % 4294967296 = (n : Int) := by omega
    have hnl : n < x.pe.length := by omega
    rw [e1]
    unfold desk_Person.f desk_With.f
    rw [pp.get_eq x.pe n (by omega) (by omega)]
    unfold pp.getOf
    rw [if_pos (by omega)]
    simp only [pp.six, Option.bind_some]
    have hf0 : (rd_T55 x.pe (n : Int)).f0 = (n : Int) := by rw [pp.rdP x.pe n hnl]; exact hn n hnl
    rw [hf0, pp.set_eq x.pe n _ _ _ _ _ (by omega) (by omega)]
    unfold pp.setOf
    rw [if_pos (by show (n : Int) < _; omega)]
    simp only [Option.bind_some]
    refine ⟨_, _, _, rfl, ⟨⟨rfl, rfl, rfl, rfl, rfl, rfl, rfl⟩, rfl, rfl, rfl, .inl rfl, .inr ⟨h6, by omega, c2, ?_⟩⟩⟩
    rw [hn']
    show x.pe.set _ _ = x.pe.set _ _
    have he : ∀ p : S55, p.f0 = (n : Int) → (⟨(n : Int), p.f1, p.f2, p.f3, p.f4, true⟩ : S55) = { p with f5 := true } := by
      intro p hp
      rw [← hp]
    exact congrArg (x.pe.set n) (he _ hf0)
  · rw [if_neg c1, if_neg c2]; exact ⟨_, _, _, rfl, Keep.refl x o⟩
theorem leak_some (k : Nat) (x : wk.X) (o : wk.O) (hk : 1010000 < k) (h : Ok k x o) : ∃ l e y, adv_leak.f k x o = some (l, e, y) ∧ Keep x o y := by
  unfold adv_leak.f
  by_cases c1 : o.b < 0
  · rw [if_pos c1]; exact ⟨_, _, _, rfl, Keep.refl x o⟩
  by_cases c2 : o.b < (x.lo.length : Int)
  · rw [if_neg c1, if_pos c2]
    by_cases c3 : (rd_T83 x.lo o.b).f0 = 2
    · rw [if_pos c3]
      have hr := h.rg.lo _ (rd_mem x.lo z83 o.b (by omega) c2)
      unfold desk_Person.f
      rw [pp.get_eq x.pe (rd_T83 x.lo o.b).f4 (by have := h.bd.pl; omega) hr]
      simp only [Option.bind_some]
      rw [concat_eqK _ k (by simp) (by simp; have := h.bd.le; omega) (by simp; omega)]
      simp only [Option.bind_some]
      exact ⟨_, _, _, rfl, ⟨⟨rfl, rfl, rfl, rfl, rfl, rfl, rfl⟩, rfl, rfl, rfl, .inl rfl, .inl rfl⟩⟩
    · rw [if_neg c3]; exact ⟨_, _, _, rfl, Keep.refl x o⟩
  · rw [if_neg c1, if_neg c2]; exact ⟨_, _, _, rfl, Keep.refl x o⟩
theorem deed_some (k : Nat) (x : wk.X) (o : wk.O) (hk : 1010000 < k) (h : Ok k x o) (F : wk.X → wk.O → Option (List Int × Int × wk.X)) (hF : adv_deed k o.kd = some F) : ∃ l e y, F x o = some (l, e, y) ∧ Keep x o y := by
  unfold adv_deed at hF
  by_cases c0 : o.kd = 0
  · rw [if_pos c0] at hF; obtain rfl := Option.some.inj hF; exact lit_some k x o h
  rw [if_neg c0] at hF
  by_cases c1 : o.kd = 1
  · rw [if_pos c1] at hF; obtain rfl := Option.some.inj hF; exact seen_some k x o h
  rw [if_neg c1] at hF
  by_cases c2 : o.kd = 2
  · rw [if_pos c2] at hF; obtain rfl := Option.some.inj hF; exact part_some k x o h
  rw [if_neg c2] at hF
  by_cases c3 : o.kd = 3
  · rw [if_pos c3] at hF; obtain rfl := Option.some.inj hF; exact cat_some k x o (by omega) h
  rw [if_neg c3] at hF
  by_cases c4 : o.kd = 4
  · rw [if_pos c4] at hF; obtain rfl := Option.some.inj hF; exact seal_some k x o hk h c4
  rw [if_neg c4] at hF
  by_cases c5 : o.kd = 5
  · rw [if_pos c5] at hF; obtain rfl := Option.some.inj hF; exact open_some k x o h
  rw [if_neg c5] at hF
  by_cases c6 : o.kd = 6
  · rw [if_pos c6] at hF; obtain rfl := Option.some.inj hF; exact corrupt_some k x o hk h c6
  rw [if_neg c6] at hF
  by_cases c7 : o.kd = 7
  · rw [if_pos c7] at hF; obtain rfl := Option.some.inj hF; exact leak_some k x o hk h
  rw [if_neg c7] at hF
  cases hF
theorem do_some (k : Nat) (x : wk.X) (o : wk.O) (hk : 1010000 < k) (h : Ok k x o) : ∃ y e, adv_Do.f k x o = some (y, e) ∧ Keep x o y := by
  unfold adv_Do.f
  cases hd : adv_deed k o.kd with
  | none => exact ⟨_, _, rfl, Keep.refl x o⟩
  | some F =>
    dsimp only
    by_cases c : (adv_reg.f x.re o.a).2 = true
    · rw [if_pos c]
      obtain ⟨l, e, y, hF, hK⟩ := deed_some k x o hk h F hd
      rw [hF]
      simp only [Option.bind_some]
      by_cases c2 : e = 0
      · rw [if_pos c2]
        unfold slices_Clone_uint32_uint32_23.f
        rw [Option.bind_some, if_pos (by have := h.bd.rl; simp; omega)]
        simp only [Option.bind_some]
        exact ⟨_, _, rfl, hK.re _⟩
      · rw [if_neg c2]; exact ⟨_, _, rfl, Keep.refl x o⟩
    · rw [if_neg c]; exact ⟨_, _, rfl, Keep.refl x o⟩
theorem alone_of (k : Nat) (x : wk.X) (o : wk.O) (y : wk.X) (hk : 1010000 < k) (h : Ok k x o) (hK : Keep x o y) : wk.Alone k x o y := by
  obtain ⟨g0, g1, g2, g3, g4, g5, g6⟩ := hK.cf
  have hlen : y.pe.length = x.pe.length := by
    rcases hK.pe with q | ⟨_, _, _, q⟩
    · rw [q]
    · rw [q, List.length_set]
  have hsm : ∀ p ∈ x.pe, pp.small p := h.bd.pw
  refine ⟨fun t => by unfold wk.cs; rw [g0, g1, g2, g3, g4, g5, g6], hlen, ?_, by rw [hK.ng], ?_, ?_, ?_⟩
  · rw [hK.lo]; exact pl.events_self x.lo k (by have := h.bd.lo; omega) (by have := h.bd.lo; omega)
  · rw [hK.ns]; exact pn.rows_self x.ns k (by have := h.bd.net.ls; omega) h.bd.net.ws (by have := h.bd.net.ls; omega)
  · intro i hi q hq
    have hmi : rd_T55 x.pe (i : Int) = x.pe[i] := pp.rdP x.pe i hi
    have hsi : pp.small (rd_T55 x.pe (i : Int)) := by rw [hmi]; exact hsm _ (List.getElem_mem _)
    rcases hK.pe with e | ⟨h6, hb0, hb1, e⟩
    · rw [e] at hq ⊢
      have hq' : q = (rd_T55 x.pe (i : Int)).f5 := by
        rw [hq]
        split
        · rename_i c; exact c.2.2.symm
        · rfl
      rw [hq']
      exact pp.one_self _ k hsi (by omega)
    · by_cases c : (i : Int) = o.b
      · have ei : o.b.toNat = i := by omega
        have hy : rd_T55 y.pe (i : Int) = { rd_T55 x.pe (i : Int) with f5 := true } := by
          rw [e, pp.rdP _ i (by rw [List.length_set]; omega)]
          simp only [ei, List.getElem_set_self]
          rw [← c]
        rw [hy] at hq ⊢
        have hq' : q = true := by rw [hq, if_pos ⟨h6, c, rfl⟩]
        rw [hq']
        exact pp.one_self { rd_T55 x.pe (i : Int) with f5 := true } k hsi (by omega)
      · have hy : rd_T55 y.pe (i : Int) = rd_T55 x.pe (i : Int) := by
          rw [e, pp.rdP _ i (by rw [List.length_set]; omega), hmi, List.getElem_set_ne (by omega)]
        rw [hy] at hq ⊢
        have hq' : q = (rd_T55 x.pe (i : Int)).f5 := by rw [hq, if_neg (fun q => c q.2.1)]
        rw [hq']
        exact pp.one_self _ k hsi (by omega)
  · rcases hK.bs with q | ⟨q1, q2⟩
    · exact .inl q
    · exact .inr ⟨q1, q2, by have := h.bd.bl; omega⟩
/-! ### awake, at its own numbers -/
def aw.P1 : S55 := ⟨0, 0, 0, [], [], false⟩
def aw.P2 : S55 := ⟨1, 2147483659, 0, [], [], false⟩
def aw.P3 : S55 := ⟨2, 2147483660, 0, [], [], false⟩
def aw.X (dn : Int) (bs : List S92) (pe : List S55) (re : List (List Int)) : wk.X := { c0 := 5, c1 := 2, c2 := 9, c3 := 4, c4 := 4, c5 := 9, c6 := 3, dl := [11, 12, 13, 14], dn := dn, br := 9, bs := bs, nr := 9, ng := [], ns := [], pe := pe, lo := [], re := re, le := [] }
def aw.B : List S92 := [⟨2147483661, 2, 1, [1, 2, 3]⟩]
def aw.pe : List S55 := [aw.P1, aw.P2, aw.P3]
theorem awake_holds (w : World) : Calls Try.prog 6 #[] w fun e w' => e = .returned (.bool true) ∧ Below w.heap.size w w' :=
  chamberlainlaw21_awake.calls 60 [11, 12, 13, 14] [1, 2, 3] [2] [1, 2, 3] [2147483660] aw.pe [11, 12, 13, 14] 2
    (aw.X 2 [] aw.pe [[], [], []]) (aw.X 2 [] aw.pe [[1, 2, 3], [], []]) (aw.X 2 [] aw.pe [[1, 2, 3], [2], []]) (aw.X 3 aw.B aw.pe [[1, 2, 3], [2], [2147483661]]) (aw.X 3 aw.B aw.pe [[1, 2, 3], [1, 2, 3], [2147483661]]) (aw.X 3 aw.B aw.pe [[1, 2, 3], [2], [2147483661]])
    (aw.X 2 [] [aw.P1, aw.P2, ⟨2, 2147483660, 0, [], [], true⟩] [[2147483660], [], []]) (aw.X 2 [] aw.pe [[], [], []]) (aw.X 2 [] aw.pe [[], [], []]) (aw.X 2 [] aw.pe [[], [], []]) ⟨2, 2147483660, 0, [], [], true⟩ w
    ⟨rfl⟩ ⟨rfl⟩ ⟨rfl⟩ ⟨rfl⟩ ⟨rfl⟩ ⟨by kernel_rfl⟩ ⟨by kernel_rfl⟩ ⟨by kernel_rfl⟩ ⟨by kernel_rfl⟩ ⟨by kernel_rfl⟩ ⟨by kernel_rfl⟩ ⟨by kernel_rfl⟩ ⟨by kernel_rfl⟩ ⟨by kernel_rfl⟩ ⟨by kernel_rfl⟩ ⟨by kernel_rfl⟩ ⟨by kernel_rfl⟩ ⟨by kernel_rfl⟩ ⟨by kernel_rfl⟩ ⟨by kernel_rfl⟩ ⟨by kernel_rfl⟩ ⟨by kernel_rfl⟩ ⟨by kernel_rfl⟩ ⟨by kernel_rfl⟩
theorem ln_of {w : World} {P : Nat → Prop} {x : wk.X} {s : wk.S} (R : wk.Rd w P x s) : Ln x := ⟨(Kd.V_reads' R.r16).2.2.2.1, (Kd.V_reads' R.r10).2.2.2.1, (Kd.V_reads' R.r12).2.2.2.1, (Kd.V_reads' R.r13).2.2.2.1, (Kd.V_reads' R.r14).2.2.2.1⟩
theorem law_holds (x : wk.X) (s : wk.S) (o : wk.O) (aq : Option Addr) (cq : Nat) (P : Nat → Prop) (w : World) (R : wk.Rd w P x s) (VW : Kd.V (Kd.int .u32) 22 w 0 P (.slice aq o.ws.length cq) o.ws) (hg : Rg x) :
    Calls Try.prog 4 #[.agg (wk.cs x s), .agg #[.int .i64 o.kd, .int .i64 o.a, .int .i64 o.b, .int .i64 o.c, .int .i64 o.d, .slice aq o.ws.length cq]] w fun e w' => e = .returned (.bool true) ∧ Below w.heap.size w w' := by
  obtain ⟨k, hk⟩ : ∃ k, k = 1010100 := ⟨_, rfl⟩
  obtain ⟨rf, hf, hb⟩ := few_some x k (by omega) (ln_of R)
  exact chamberlainlaw21_AdvAlone.calls k x s o aq cq P rf w R VW awake_holds ⟨hf⟩ ⟨fun q => pre_of x k (by omega) (hb q)⟩ ⟨fun hF q hw => by
    have hO : Ok k x o := ⟨hF, hb q, hg, hw⟩
    obtain ⟨y, e, h1, h2⟩ := do_some k x o (by omega) hO
    exact ⟨y, e, h1, alone_of k x o y (by omega) hO h2⟩⟩

end Go.Proofs.Ythlcpbendleihaa.Pure
