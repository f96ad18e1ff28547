-- Written for this claim by wip/tools/myprint.py (print.py's forms; proofs of the faked functions by hand).
import Derived.Test.YtifdlpnpbicahaaPBoxKeepsx0
namespace Go.Proofs.Ytifdlpnpbicahaa.PBoxKeeps
open Go.RowKit Go.Proofs.YtifdlpnpbicahaaW.PrintWords Go.Proofs.YtifdlpnpbicahaaW.PrintLast Go.Proofs.YtifdlpnpbicahaaW.PrintMore
attribute [local go_sem] max2_int min2_int max_two min_two max_three min_three max_four min_four   -- for this text's walks alone
set_option linter.unusedVariables false
set_option linter.unusedSimpArgs false

/-! ### box_Right: function 10 -/
theorem unlk.look {P : Program} (w : World) {ops : Array Oper} {rest : List Oper} {o : Oper} {a : Act} {Q : Exit → Act → World → Prop}
    (hg : o.guard = none) (m x : Operand) (t : TypeId) (hop : o.op = Op.lookup t m x false)
    (k e : TypeId) (K : Maps.Keyed P k) (ht : P.underlying t = some (.map k e)) (he : P.underlying e = some .bool) (hz : (zeroValue e).run P w = .ok (.bool false) w) (b n : Nat) (D : DataW Unit)
    (hm : a.eval m = .map (some b)) (hown : w.ownsMap P k (plainElem P e) b n D) (key : Value) (kl : Lit) (hx : a.eval x = key) (hkey : keyOf P k key = some kl) (c : Bool) (hc : D.atKey kl (.lit (.bool false)) = .lit (.bool c))
    (hK : wpList P ops Q rest (a.put o.dst (.bool c)) w) :
    wpList P ops Q (o :: rest) a w := by
  refine wpList_plain hg fun K' hK' => ?_
  obtain ⟨v, ps, hrun, hv⟩ := hown.lookup K ht hz (plainElem_bool he false) hkey
  obtain rfl : v = .bool c := by
    rw [hc] at hv
    unfold plainElem at hv
    rw [he] at hv
    cases v <;> simp at hv
    rw [hv.1]
  unfold Oper.wp
  simp [execOp, hop, hm, hx, hrun, Result.andThen]
  exact hK' _ _ hK
/-- What the map holds behind so many elements. -/
def unlk.D (g : Nat → Int) : Nat → DataW Unit
  | 0 => .map []
  | i + 1 => (unlk.D g i).put (.int .u32 (g i)) (.lit (.bool true))
theorem unlk.isMap (g : Nat → Int) : ∀ i, Maps.IsMap (unlk.D g i)
  | 0 => Maps.isMap_empty
  | i + 1 => (unlk.isMap g i).put _ _
theorem unlk.at_ (g : Nat → Int) (x : Int) : ∀ i : Nat, ((∃ t : Nat, t < i ∧ g t = x) → (unlk.D g i).atKey (.int .u32 x) (.lit (.bool false)) = .lit (.bool true)) ∧ ((¬ ∃ t : Nat, t < i ∧ g t = x) → (unlk.D g i).atKey (.int .u32 x) (.lit (.bool false)) = .lit (.bool false)) := by
  intro i
  induction i with
  | zero => exact ⟨fun ⟨t, h, _⟩ => absurd h (by omega), fun _ => rfl⟩
  | succ i ih =>
    unfold unlk.D
    by_cases e : g i = x
    · rw [← e]
      refine ⟨fun _ => Maps.atKey_put_same (unlk.isMap g i) (show WideAt.IsKeyLit (.int .u32 (g i)) from trivial) _ _, fun h => absurd ⟨i, by omega, rfl⟩ h⟩
    · have ne : (Lit.int .u32 x) ≠ (Lit.int .u32 (g i)) := fun h => e (by injection h with _ h2; exact h2.symm)
      rw [Maps.atKey_put_other ne]
      refine ⟨fun ⟨t, h1, h2⟩ => ih.1 ⟨t, ?_, h2⟩, fun h => ih.2 (fun ⟨t, h1, h2⟩ => h ⟨t, by omega, h2⟩)⟩
      rcases Nat.lt_or_ge t i with q | q
      · exact q
      · have : t = i := by omega
        subst this
        exact absurd h2 e
theorem bright.rd_get (l : List S43) (n : Nat) (hn : n < l.length) : rd_T43 l (n : Int) = l[n] := by
  unfold rd_T43
  rw [Int.toNat_natCast, List.getD_eq_getElem?_getD, List.getElem?_eq_getElem hn]
  rfl
/-- Whether the entry at i is one too many: its handle was there, or its words are too many. -/
def bright.seen (l : List S43) (i : Nat) : Bool := (List.range i).any (fun t => (rd_T43 l t).f0 == (rd_T43 l i).f0)
def bright.long (l : List S43) (i : Nat) : Bool := decide (64 < ((rd_T43 l i).f3.length : Int))
def bright.ok (l : List S43) : Bool := (List.range l.length).all (fun i => !bright.seen l i && !bright.long l i)
theorem bright.ok_no (l : List S43) (i : Nat) (hi : i < l.length) (h : bright.seen l i = true ∨ bright.long l i = true) : bright.ok l = false := by
  unfold bright.ok
  rw [List.all_eq_false]
  refine ⟨i, List.mem_range.2 hi, ?_⟩
  rcases h with h | h <;> simp [h]
theorem bright.ok_yes (l : List S43) (h : ∀ i, i < l.length → bright.seen l i = false ∧ bright.long l i = false) : bright.ok l = true := by
  unfold bright.ok
  rw [List.all_eq_true]
  intro i hi
  obtain ⟨a, b⟩ := h i (List.mem_range.1 hi)
  simp [a, b]
theorem bright.seen_iff (l : List S43) (i : Nat) : bright.seen l i = true ↔ ∃ t : Nat, t < i ∧ (fun j : Nat => (rd_T43 l j).f0) t = (rd_T43 l i).f0 := by
  unfold bright.seen
  rw [List.any_eq_true]
  constructor
  · rintro ⟨t, h1, h2⟩; exact ⟨t, List.mem_range.1 h1, by simpa using h2⟩
  · rintro ⟨t, h1, h2⟩; exact ⟨t, List.mem_range.2 h1, by simpa using h2⟩
def bright.u32 (l : List S43) : Bool := l.all (fun s => decide (0 ≤ s.f0) && decide (s.f0 < 4294967296))
theorem bright.wf (l : List S43) (h : bright.u32 l = true) (i : Nat) (hi : i < l.length) : (Lit.int .u32 (rd_T43 l i).f0).wf = true := by
  unfold bright.u32 at h
  have := List.all_eq_true.1 h l[i] (List.getElem_mem hi)
  simp at this
  rw [bright.rd_get l i hi]
  simp only [Lit.wf, IntKind.min, IntKind.max, IntKind.signed, IntKind.bits, Bool.and_eq_true]
  simp
  omega
def box_Right.f (a0_0 : Int) (l0_1 : List (S43)) : Option (Bool) := if a0_0 < 0 then some false else if a0_0 > 64 then some false else if (l0_1.length : Int) > a0_0 then some false else if bright.u32 l0_1 = true then some (bright.ok l0_1) else none
theorem bright.ret_bool {a b : Bool} (h : a = b) : Ending.returned (.bool a) = .returned (.bool b) := by rw [h]
set_option maxHeartbeats 8000000 in
set_option maxRecDepth 100000 in
theorem box_Right.calls (a0_0 : Int) (A0_1 : Option Addr) (c0_1 : Nat) (l0_1 : List (S43)) (r : Bool) (w : World) (hr0_1 : Kd.C k43 w A0_1 l0_1.length l0_1) (hc0_1 : l0_1.length ≤ c0_1) (h : box_Right.f a0_0 l0_1 = some r) :
    Calls Try.prog 10 #[.agg #[.int .i64 a0_0, .slice A0_1 l0_1.length c0_1]] w fun e w' => e = .returned (.bool r) ∧ Below w.heap.size w w' := by
  unfold box_Right.f at h
  have hcell : ∀ (o : Obj), True := fun _ => trivial
  by_cases g1 : a0_0 < 0
  · rw [if_pos g1] at h
    cases h
    have e1 : decide (a0_0 < 0) = true := decide_eq_true g1
    go_enter Try.func10, Try.ntmps10
    go_wp2
    go_ret
    exact ⟨rfl, (Below.refl _ _).alloc (Nat.le_refl _) _⟩
  rw [if_neg g1] at h
  by_cases g2 : a0_0 > 64
  · rw [if_pos g2] at h
    cases h
    have e1 : decide (a0_0 < 0) = false := decide_eq_false g1
    have e2 : decide (64 < a0_0) = true := decide_eq_true g2
    go_enter Try.func10, Try.ntmps10
    go_wp2
    go_ret
    exact ⟨rfl, (Below.refl _ _).alloc (Nat.le_refl _) _⟩
  rw [if_neg g2] at h
  by_cases g3 : (l0_1.length : Int) > a0_0
  · rw [if_pos g3] at h
    cases h
    have e1 : decide (a0_0 < 0) = false := decide_eq_false g1
    have e2 : decide (64 < a0_0) = false := decide_eq_false g2
    have e3 : decide (a0_0 < (l0_1.length : Int)) = true := decide_eq_true g3
    go_enter Try.func10, Try.ntmps10
    go_wp2
    go_ret
    exact ⟨rfl, (Below.refl _ _).alloc (Nat.le_refl _) _⟩
  rw [if_neg g3] at h
  by_cases g5 : ¬ bright.u32 l0_1 = true
  · rw [if_neg g5] at h; cases h
  have g4 : bright.u32 l0_1 = true := Decidable.not_not.mp g5
  clear g5
  rw [if_pos g4] at h
  have HR := Aside0.mk (Option.some.inj h)
  have HU := Aside0.mk g4
  clear h g4
  have hl : l0_1.length ≤ 64 := by omega
  have e1 : decide (a0_0 < 0) = false := decide_eq_false g1
  have e2 : decide (64 < a0_0) = false := decide_eq_false g2
  have e3 : decide (a0_0 < (l0_1.length : Int)) = false := decide_eq_false g3
  have hmm := @run_makeMap Try.prog
  have K : Maps.Keyed Try.prog 25 := Maps.int_keyed Try.underlying25
  have zb : ∀ w : World, (zeroValue 4).run Try.prog w = .ok (.bool false) w := fun _ => by kernel_rfl
  go_enter Try.func10, Try.ntmps10
  go_wp2
  go_loopw [26] (fun i wr => ∃ n : Nat, n ≤ l0_1.length ∧ i = .int .i64 n ∧ (∀ j, j < n → bright.seen l0_1 j = false ∧ bright.long l0_1 j = false) ∧ wr.ownsMap Try.prog 25 (plainElem Try.prog 4) (w.heap.size + 1) n (unlk.D (fun j : Nat => (rd_T43 l0_1 j).f0) n) ∧ Below w.heap.size w wr ∧ w.heap.size + 1 < wr.heap.size)
    (fun i _ => l0_1.length - (intOf i).toNat)
  case atStart => exact ⟨0, Nat.zero_le _, rfl, fun j hj => by omega, by have := World.ownsMap_made (H := Unit) (w.alloc (.cells #[.int .i64 a0_0, .slice A0_1 l0_1.length c0_1] 24)) Try.prog 25 (plainElem Try.prog 4); rw [unlk.D]; simpa using this, ((Below.refl _ _).alloc (Nat.le_refl _) _).alloc (by simp) _, by simp⟩
  case round =>
    obtain ⟨n, hn, rfl, hno, hown, hnx, hsz⟩ := hrel
    have HNO := Aside0.mk hno
    have HNX := Aside0.mk hnx
    have HSZ := Aside0.mk hsz
    clear hno hsz
    by_cases hlt : n < l0_1.length
    · obtain ⟨ad, A3, c3, e, x0, x1, x2, x3, _, _⟩ := at_T43 (Kd.C_below hr0_1 hnx) (n : Int) (by omega) (by omega)
      subst e
      rw [Int.toNat_natCast] at x0 x1 x2 x3
      have hkey : keyOf Try.prog 25 (.int .u32 (rd_T43 l0_1 n).f0) = some (.int .u32 (rd_T43 l0_1 n).f0) := Maps.keyOf_int_mk Try.underlying25 (bright.wf l0_1 HU.out n hlt)
      have hown2 := fun o : Obj => hown.alloc o
      have HOWN := Aside0.mk hown
      clear hnx hown
      by_cases hs : bright.seen l0_1 n = true
      · have hat := (unlk.at_ (fun j : Nat => (rd_T43 l0_1 j).f0) (rd_T43 l0_1 n).f0 n).1 ((bright.seen_iff l0_1 n).1 hs)
        have HK := Aside0.mk hkey
        have HAT := Aside0.mk hat
        clear hkey hat hown2
        go_wp2_with (first
          | (at_lookup; refine unlk.look _ rfl _ _ 45 rfl 25 4 K Try.underlying45 Try.underlying4 (zb _) (w.heap.size + 1) n _ rfl (HOWN.out.alloc _) _ _ rfl HK.out true HAT.out ?_)
          | go_in)
        go_ret
        exact ⟨bright.ret_bool ((bright.ok_no l0_1 n hlt (.inl hs)).symm.trans HR.out), HNX.out.alloc HNX.out.size _⟩
      · replace hs : bright.seen l0_1 n = false := by simpa using hs
        have hat := (unlk.at_ (fun j : Nat => (rd_T43 l0_1 j).f0) (rd_T43 l0_1 n).f0 n).2 (fun q => by rw [(bright.seen_iff l0_1 n).2 q] at hs; cases hs)
        have HK := Aside0.mk hkey
        have HAT := Aside0.mk hat
        have HS := Aside0.mk hs
        clear hkey hat hown2 hs
        by_cases hg : bright.long l0_1 n = true
        · have hg2 : decide (64 < ((rd_T43 l0_1 n).f3.length : Int)) = true := hg
          have hg3 : decide (64 < (rd_T43 l0_1 n).f3.length) = true := decide_eq_true (by have := of_decide_eq_true hg2; omega)
          have HG := Aside0.mk hg
          clear hg
          go_wp2_with (first
            | (at_lookup; refine unlk.look _ rfl _ _ 45 rfl 25 4 K Try.underlying45 Try.underlying4 (zb _) (w.heap.size + 1) n _ rfl (HOWN.out.alloc _) _ _ rfl HK.out false HAT.out ?_)
            | go_in)
          go_ret
          exact ⟨bright.ret_bool ((bright.ok_no l0_1 n hlt (.inr HG.out)).symm.trans HR.out), HNX.out.alloc HNX.out.size _⟩
        · replace hg : bright.long l0_1 n = false := by simpa using hg
          have hg2 : decide (64 < ((rd_T43 l0_1 n).f3.length : Int)) = false := hg
          have hg3 : decide (64 < (rd_T43 l0_1 n).f3.length) = false := decide_eq_false (by have := of_decide_eq_false hg2; omega)
          have HG := Aside0.mk hg
          clear hg
          go_wp2_with (first
            | (at_lookup; refine unlk.look _ rfl _ _ 45 rfl 25 4 K Try.underlying45 Try.underlying4 (zb _) (w.heap.size + 1) n _ rfl (HOWN.out.alloc _) _ _ rfl HK.out false HAT.out ?_)
            | (at_mapUpdate; refine wpList_mapUpdate_own _ rfl _ _ _ 45 rfl 25 4 K Try.underlying45 _ (w.heap.size + 1) n _ rfl (HOWN.out.alloc _) (by unfold maxLen; omega) _ _ _ rfl rfl HK.out _ [] (plainElem_bool Try.underlying4 true) ?_; intro w1 hown1 hgrow1)
            | go_in)
          go_roundw
          case rel => exact ⟨n + 1, by omega, by go_num, fun j hj => by rcases Nat.lt_or_ge j n with q | q; (exact HNO.out j q); (obtain rfl : j = n := by omega); exact ⟨HS.out, HG.out⟩, hown1, (HNX.out.alloc HNX.out.size _).grown hgrow1 (by have := HNX.out.size; simp; omega) (fun j hj => by cases hj; omega), by have := hgrow1.size; have := HSZ.out; simp at *; omega⟩
          case measure => simp [intOf]; omega
    · obtain rfl : n = l0_1.length := by omega
      go_wp2
      go_ret
      exact ⟨bright.ret_bool ((bright.ok_yes l0_1 HNO.out).symm.trans HR.out), HNX.out⟩
theorem box_Right.calls_nil (a0_0 : Int) (r : Bool) (w : World) (h : box_Right.f a0_0 [] = some r) : Calls Try.prog 10 #[.agg #[.int .i64 a0_0, .slice none 0 0]] w fun e w' => e = .returned (.bool r) ∧ Below w.heap.size w w' := box_Right.calls a0_0 none 0 [] r w (Kd.C_nil _ _) (Nat.le_refl _) h


/-! ### box_Free: function 18 -/
def box_Free.f (a0_0 : Int) (l0_1 : List (S43)) : Option (Int) := some (wrap64 (a0_0 - (l0_1.length : Int)))
set_option maxHeartbeats 8000000 in
set_option maxRecDepth 100000 in
theorem box_Free.calls (a0_0 : Int) (A0_1 : Option Addr) (c0_1 : Nat) (l0_1 : List (S43)) (r : Int) (w : World) (hr0_1 : Kd.C k43 w A0_1 l0_1.length l0_1) (hc0_1 : l0_1.length ≤ c0_1) (h : box_Free.f a0_0 l0_1 = some r) :
    Calls Try.prog 18 #[.agg #[.int .i64 a0_0, .slice A0_1 l0_1.length c0_1]] w fun e w' => e = .returned (.int .i64 r) ∧ Below w.heap.size w w' := by
  have hu24 := Try.underlying24
  have HR0_1 := Aside0.mk hr0_1
  have HC0_1 := Aside0.mk hc0_1
  clear hr0_1 hc0_1
  have HB := Aside0.mk (Below.refl w.heap.size w)
  have H : (some (wrap64 (a0_0 - (l0_1.length : Int)))) = some r := h
  clear h
  obtain rfl := Option.some.inj H
  go_enter Try.func18, Try.ntmps18
  go_wp2_with (first | ((with_reducible refine gate_dst (N := 1) rfl ?_); refine box_event ?hg (N := 1) ?hd (cs := #[.int .i64 a0_0, .slice A0_1 l0_1.length c0_1]) (t := 24) ?hr ?_; (case hd => rfl); (case hg => rfl); (case hr => first | (go_simp; done) | (go_simp; rfl)); intro gb104 hg w2 hbox hb; have n0_ := Aside0.mk (below_step (by repeat (first | (with_reducible first | exact HB.out | apply below_alloc | apply pw_below_drewN | apply below_drew1) | exact HB.out)) hb); have n1_ := Aside0.mk (hbox); have n2_ := Aside0.mk ((by rw [hg]; exact (below_size (by repeat (first | (with_reducible first | exact HB.out | apply below_alloc | apply pw_below_drewN | apply below_drew1) | exact HB.out))) : w.heap.size ≤ gb104)); have n3_ := Aside0.mk ((by rw [hg]; exact (below_size (by repeat (first | (with_reducible first | exact HB.out | apply below_alloc | apply pw_below_drewN | apply below_drew1) | exact HB.out))) : w.heap.size ≤ gb104)); clear HB; have HB := n0_; have BK104 := n1_; have GW104 := n2_; have GE104 := n3_; clear n0_ n1_ n2_ n3_; clear hb hbox hg; have hcz3_0 : w2.cell? ⟨gb104, 0, none⟩ = some (.int .i64 a0_0) := (blk_cell BK104.out 0).trans rfl; have hcz3_1 : w2.cell? ⟨gb104, 1, none⟩ = some (.slice A0_1 l0_1.length c0_1) := (blk_cell BK104.out 1).trans rfl; have hfz3_0 := blk_frozen BK104.out 0; have hfz3_1 := blk_frozen BK104.out 1))
  go_ret
  exact ⟨by first | rfl | (simp [errW_none, errW_some] <;> rfl) | (simp [*, errW_none, errW_some] <;> rfl), by repeat (first | (with_reducible first | exact HB.out | apply below_alloc | apply pw_below_drewN | apply below_drew1 | refine below_set ?_ GE104.out) | exact HB.out)⟩

-- NOT PRINTED: function 24 (api_Sealed_24)
theorem box_Free.calls_nil (a0_0 : Int) (r : Int) (w : World) (h : box_Free.f a0_0 [] = some r) : Calls Try.prog 18 #[.agg #[.int .i64 a0_0, .slice none 0 0]] w fun e w' => e = .returned (.int .i64 r) ∧ Below w.heap.size w w' := box_Free.calls a0_0 none 0 [] r w (Kd.C_nil _ _) (Nat.le_refl _) h


/-! ### box_find: function 21 -/
/-- The closure asks the handle. -/
theorem bfind.clos (h x0 x1 x2 : Int) (v3 : Value) (hb : Addr) (w : World) (hc : w.cell? hb = some (.int .u32 h)) :
    Calls Try.prog 25 #[.agg #[.int .u32 x0, .int .u32 x1, .int .u32 x2, v3], .pointer (some hb)] w fun e w' => e = .returned (.bool (x0 == h)) ∧ Below w.heap.size w w' := by
  have hlt := World.block_lt_of_cell? w _ hc
  have hc2 : ∀ o : Obj, (w.alloc o).cell? hb = some (.int .u32 h) := fun o => by rw [World.cell?_alloc_lt _ _ _ hlt]; exact hc
  go_enter Try.func25, Try.ntmps25
  go_wp2
  go_ret
  exact ⟨rfl, (Below.refl _ _).alloc (Nat.le_refl _) _⟩
/-- Where a handle's entry is, or -1. -/
def bfind.pos (h : Int) (l : List S43) : Int := if l.findIdx (fun s => s.f0 == h) < l.length then (l.findIdx (fun s => s.f0 == h) : Int) else -1
theorem bfind.rd_get (l : List S43) (n : Nat) (hn : n < l.length) : rd_T43 l (n : Int) = l[n] := by
  unfold rd_T43
  rw [Int.toNat_natCast, List.getD_eq_getElem?_getD, List.getElem?_eq_getElem hn]
  rfl
theorem bfind.pos_here (h : Int) (l : List S43) (n : Nat) (hn : n < l.length) (h1 : ((rd_T43 l n).f0 == h) = true) (h2 : ∀ j : Nat, j < n → ((rd_T43 l j).f0 == h) = false) : bfind.pos h l = n := by
  have e : l.findIdx (fun s => s.f0 == h) = n := by
    rw [List.findIdx_eq hn]
    rw [bfind.rd_get l n hn] at h1
    refine ⟨h1, fun j hj => ?_⟩
    have := h2 j hj
    rwa [bfind.rd_get l j (by omega)] at this
  unfold bfind.pos
  rw [e, if_pos hn]
theorem bfind.pos_none (h : Int) (l : List S43) (h2 : ∀ j : Nat, j < l.length → ((rd_T43 l j).f0 == h) = false) : bfind.pos h l = -1 := by
  have e : l.findIdx (fun s => s.f0 == h) = l.length := by
    refine List.findIdx_eq_length.2 (fun x hx => ?_)
    obtain ⟨j, hj, rfl⟩ := List.getElem_of_mem hx
    have := h2 j hj
    rwa [bfind.rd_get l j hj] at this
  unfold bfind.pos
  rw [e, if_neg (by omega)]
theorem bfind.ret_int {a b : Int} (h : a = b) : Ending.returned (.int .i64 a) = .returned (.int .i64 b) := by rw [h]
theorem bfind.idx (h : Int) (A : Option Addr) (c : Nat) (l : List S43) (hb : Addr) (w : World) (hr : Kd.C k43 w A l.length l) (hc : w.cell? hb = some (.int .u32 h)) :
    Calls Try.prog 24 #[.slice A l.length c, .func (.func 25) #[] #[.pointer (some hb)]] w fun e w' => e = .returned (.int .i64 (bfind.pos h l)) ∧ Below w.heap.size w w' := by
  have hlt := World.block_lt_of_cell? w _ hc
  have hmax : l.length ≤ 9223372036854775807 := hr.2.1
  go_enter Try.func24, Try.ntmps24
  go_wp2
  go_loopw [8] (fun i wr => ∃ n : Nat, n ≤ l.length ∧ i = .int .i64 n ∧ (∀ j : Nat, j < n → ((rd_T43 l j).f0 == h) = false) ∧ Below w.heap.size w wr) (fun i _ => l.length - (intOf i).toNat)
  case atStart => exact ⟨0, Nat.zero_le _, rfl, fun j hj => by omega, Below.refl _ _⟩
  case round =>
    obtain ⟨n, hn, rfl, hno, hnx⟩ := hrel
    have hw : ∀ w1 : World, Below wr.heap.size wr w1 → Below w.heap.size w w1 := fun w1 h1 => hnx.trans (h1.mono hnx.size)
    have hcr : wr.cell? hb = some (.int .u32 h) := by rw [hnx.cell hlt]; exact hc
    have HNO := Aside0.mk hno
    have HW := Aside0.mk hw
    clear hno hw
    by_cases hltn : n < l.length
    · obtain ⟨ad, A3, c3, e, x0, x1, x2, x3, _, _⟩ := at_T43 (Kd.C_below hr hnx) (n : Int) (by omega) (by omega)
      subst e
      rw [Int.toNat_natCast] at x0 x1 x2 x3
      have hcell : ∀ o : Obj, (wr.alloc o).cell? hb = some (.int .u32 h) := fun o => by rw [World.cell?_alloc_lt _ _ _ (World.block_lt_of_cell? wr _ hcr)]; exact hcr
      by_cases hq : ((rd_T43 l n).f0 == h) = true
      · go_wp2_with (go_at_call 25; refine (bfind.clos h _ _ _ _ hb _ hcr).mono ?_; rintro e w1 ⟨rfl, hb1⟩)
        go_ret
        exact ⟨bfind.ret_int (bfind.pos_here h l n hltn hq HNO.out).symm, HW.out _ hb1⟩
      · replace hq : ((rd_T43 l n).f0 == h) = false := by simpa using hq
        go_wp2_with (go_at_call 25; refine (bfind.clos h _ _ _ _ hb _ hcr).mono ?_; rintro e w1 ⟨rfl, hb1⟩)
        go_roundw
        case rel => exact ⟨n + 1, by omega, by go_num, fun j hj => by rcases Nat.lt_or_ge j n with q | q; (exact HNO.out j q); (obtain rfl : j = n := by omega); exact hq, HW.out _ hb1⟩
        case measure => simp [intOf]; omega
    · obtain rfl : n = l.length := by omega
      go_wp2
      go_ret
      exact ⟨bfind.ret_int (bfind.pos_none h l HNO.out).symm, hnx⟩
/-- An entry, read: its cells, and its words with their footprint. -/
theorem bfind.elem {w : World} {base : Nat} {ok : Nat → Prop} {A : Option Addr} {n c : Nat} {l : List S43} (h : Kd.V k43 43 w base ok (.slice A n c) l) (i : Int) (h0 : 0 ≤ i) (h1 : i < n) :
    ∃ ad A3 c3, A = some ad ∧ w.cell? (ad.add (i.toNat * 4)) = some (.int .u32 (rd_T43 l i).f0) ∧ w.cell? ⟨(ad.add (i.toNat * 4)).block, (ad.add (i.toNat * 4)).off + 1, none⟩ = some (.int .u32 (rd_T43 l i).f1) ∧ w.cell? ⟨(ad.add (i.toNat * 4)).block, (ad.add (i.toNat * 4)).off + 2, none⟩ = some (.int .u32 (rd_T43 l i).f2) ∧
      w.cell? ⟨(ad.add (i.toNat * 4)).block, (ad.add (i.toNat * 4)).off + 3, none⟩ = some (.slice A3 (rd_T43 l i).f3.length c3) ∧ Kd.V (Kd.int .u32) 25 w base ok (.slice A3 (rd_T43 l i).f3.length c3) (rd_T43 l i).f3 := by
  obtain ⟨rfl, _, hC⟩ := Kd.V_reads' h
  obtain ⟨ad, A3, c3, e, x0, x1, x2, x3, _, _⟩ := at_T43 hC i h0 h1
  subst e
  obtain ⟨ce, hce, hM, hcc⟩ := Kd.V_get h z43 i h0 h1
  obtain ⟨ua, uc, rfl, ul, ge⟩ := k43_openF hM
  have hv := hcc 3 _ rfl
  rw [add_field _ _ 3 (by omega)] at hv
  replace hv := Option.some.inj (hv.symm.trans x3)
  injection hv with hva hvn hvc
  rw [hva] at ge
  rw [hvc] at ul
  exact ⟨ad, A3, c3, rfl, x0, x1, x2, x3, Kd.V_mk ul ge⟩
def box_find.f (a0_0 : Int) (l0_1 : List (S43)) (a1 : Int) : Option (Int × Int × Int × List Int × Bool) := if bfind.pos a1 l0_1 < 0 then some (0, 0, 0, ([] : List Int), false) else some ((rd_T43 l0_1 (bfind.pos a1 l0_1)).f0, (rd_T43 l0_1 (bfind.pos a1 l0_1)).f1, (rd_T43 l0_1 (bfind.pos a1 l0_1)).f2, (rd_T43 l0_1 (bfind.pos a1 l0_1)).f3, true)
set_option maxHeartbeats 8000000 in
set_option maxRecDepth 100000 in
theorem box_find.calls (a0_0 : Int) (P0_1_ : Nat → Prop) (A0_1 : Option Addr) (c0_1 : Nat) (l0_1 : List (S43)) (a1 : Int) (r1 : Int) (r2 : Int) (r3 : Int) (r4 : List Int) (r5 : Bool) (w : World) (hs0_1 : Kd.V k43 43 w w.heap.size (fun k_ => P0_1_ k_) (.slice A0_1 l0_1.length c0_1) l0_1) (h : box_find.f a0_0 l0_1 a1 = some (r1, r2, r3, r4, r5)) :
    Calls Try.prog 21 #[.agg #[.int .i64 a0_0, .slice A0_1 l0_1.length c0_1], .int .u32 a1] w fun e w' => ∃ v3_ : Value, e = .returned (.tuple #[.agg #[.int .u32 r1, .int .u32 r2, .int .u32 r3, v3_], .bool r5]) ∧ Kd.V (Kd.int .u32) 25 w' w.heap.size (fun k_ => (P0_1_ k_ ∨ w.heap.size ≤ k_)) v3_ r4 ∧ Below w.heap.size w w' := by
  have hr := (Kd.V_reads' hs0_1).2.2
  obtain ⟨p, hp⟩ : ∃ p, p = bfind.pos a1 l0_1 := ⟨_, rfl⟩
  have HP := Aside0.mk hp
  have hb : p < 0 ∨ 0 ≤ p ∧ p < l0_1.length := by
    rw [hp]; unfold bfind.pos; split <;> omega
  unfold box_find.f at h
  rw [← hp] at h
  clear hp
  have HS := Aside0.mk hs0_1
  clear hs0_1
  obtain ⟨W1, hW1⟩ : ∃ W1 : World, W1 = w.alloc (.cells #[.int .i64 a0_0, .slice A0_1 l0_1.length c0_1] 24) := ⟨_, rfl⟩
  obtain ⟨W2, hW2⟩ : ∃ W2 : World, W2 = W1.alloc (.cells #[.int .u32 a1] 25) := ⟨_, rfl⟩
  obtain ⟨W3, hW3⟩ : ∃ W3 : World, W3 = W2.alloc (.cells #[.int .u32 0, .int .u32 0, .int .u32 0, .slice none 0 0] 43) := ⟨_, rfl⟩
  have s1 : W1.heap.size = w.heap.size + 1 := by rw [hW1]; simp
  have s2 : W2.heap.size = w.heap.size + 1 + 1 := by rw [hW2]; simp [s1]
  have s3 : W3.heap.size = w.heap.size + 1 + 1 + 1 := by rw [hW3]; simp [s2]
  have b1 : W1.heap[w.heap.size]? = some (.cells #[.int .i64 a0_0, .slice A0_1 l0_1.length c0_1] 24 (0, 0)) := by rw [hW1]; exact (MapKept.heap_alloc _ _).1
  have b2 : W2.heap[w.heap.size + 1]? = some (.cells #[.int .u32 a1] 25 (0, 0)) := by rw [hW2, ← s1]; exact (MapKept.heap_alloc _ _).1
  have b3 : W3.heap[w.heap.size + 1 + 1]? = some (.cells #[.int .u32 0, .int .u32 0, .int .u32 0, .slice none 0 0] 43 (0, 0)) := by rw [hW3, ← s2]; exact (MapKept.heap_alloc _ _).1
  have b1' : W3.heap[w.heap.size]? = some (.cells #[.int .i64 a0_0, .slice A0_1 l0_1.length c0_1] 24 (0, 0)) := by rw [hW3, hW2]; exact blk_alloc (blk_alloc b1 _) _
  have b2' : W3.heap[w.heap.size + 1]? = some (.cells #[.int .u32 a1] 25 (0, 0)) := by rw [hW3]; exact blk_alloc b2 _
  have hB3 : Below w.heap.size w W3 := by rw [hW3, hW2, hW1]; exact (((Below.refl _ w).alloc (Nat.le_refl _) _).alloc (by simp) _).alloc (by simp; omega) _
  have hc2 : W3.cell? ⟨w.heap.size + 1, 0, none⟩ = some (.int .u32 a1) := (blk_cell b2' 0).trans rfl
  have HV3 := Aside0.mk (Kd.V_below (Kd.V_bound HS.out) hB3)
  have Hr3 := Aside0.mk (Kd.C_below hr hB3)
  have Hb1 := Aside0.mk b1'
  have Hb3 := Aside0.mk b3
  have HB3 := Aside0.mk hB3
  have Hs3 := Aside0.mk s3
  have Hc2 := Aside0.mk hc2
  have Hw := Aside0.mk (hW3.trans (by rw [hW2, hW1]))
  clear hr b1 b2 b3 b1' b2' hB3 s1 s2 s3 hc2 hW1 hW2 hW3
  go_enter Try.func21, Try.ntmps21
  rcases hb with hb | ⟨hb1, hb2⟩
  · rw [if_pos hb] at h
    simp only [Option.some.injEq, Prod.mk.injEq] at h
    obtain ⟨rfl, rfl, rfl, rfl, rfl⟩ := h
    go_wp2_with (rw [← Hw.out]; go_at_call 24; refine (bfind.idx a1 _ _ _ _ _ Hr3.out Hc2.out).mono ?_; rintro e w1 ⟨rfl, hb1⟩; rw [← HP.out]; have B3 := Aside0.mk (blk_below Hb3.out hb1); have HB1 := Aside0.mk hb1; clear hb1; have k0 : w1.cell? ⟨w.heap.size + 1 + 1, 0, none⟩ = some (.int .u32 0) := (blk_cell B3.out 0).trans rfl; have k1 : w1.cell? ⟨w.heap.size + 1 + 1, 1, none⟩ = some (.int .u32 0) := (blk_cell B3.out 1).trans rfl; have k2 : w1.cell? ⟨w.heap.size + 1 + 1, 2, none⟩ = some (.int .u32 0) := (blk_cell B3.out 2).trans rfl; have k3 : w1.cell? ⟨w.heap.size + 1 + 1, 3, none⟩ = some (.slice none 0 0) := (blk_cell B3.out 3).trans rfl; have f0 := blk_frozen B3.out 0; have f1 := blk_frozen B3.out 1; have f2 := blk_frozen B3.out 2; have f3 := blk_frozen B3.out 3)
    refine bodyPost_ret (results_ct rfl _ _ (w.heap.size + 1 + 1) 43 #[.int .u32 0, .int .u32 0, .int .u32 0, .slice none 0 0] (0, 0) _ rfl (by refine blk_put (cs := #[.int .u32 0, .int .u32 0, .int .u32 0, .slice none 0 0]) ?_ 3 _ rfl; refine blk_put (cs := #[.int .u32 0, .int .u32 0, .int .u32 0, .slice none 0 0]) ?_ 2 _ rfl; refine blk_put (cs := #[.int .u32 0, .int .u32 0, .int .u32 0, .slice none 0 0]) ?_ 1 _ rfl; refine blk_put (cs := #[.int .u32 0, .int .u32 0, .int .u32 0, .slice none 0 0]) B3.out 0 _ rfl) Try.underlying43 rfl (by kernel_rfl)) rfl ?_
    have hg : w.heap.size ≤ w.heap.size + 1 + 1 := by omega
    exact ⟨_, rfl, Kd.V_nil _ _ _ _ _, below_set (below_set (below_set (below_set (HB3.out.trans (HB1.out.mono (by have := Hs3.out; omega))) hg) hg) hg) hg⟩
  · rw [if_neg (by omega)] at h
    simp only [Option.some.injEq, Prod.mk.injEq] at h
    obtain ⟨rfl, rfl, rfl, rfl, rfl⟩ := h
    have hp1 : ¬ p < 0 := by omega
    have hb1_ := hb1
    have hb2_ := hb2
    have hb3_ : p.toNat < l0_1.length := by omega
    clear hb1 hb2
    go_wp2_with (rw [← Hw.out]; go_at_call 24; refine (bfind.idx a1 _ _ _ _ _ Hr3.out Hc2.out).mono ?_; rintro e w1 ⟨rfl, hb1⟩; rw [← HP.out]; obtain ⟨ad, A3, c3, ee, x0, x1, x2, x3, hv⟩ := bfind.elem (Kd.V_below HV3.out hb1) p hb1_ hb2_; cases ee; have q1 : w1.cell? ⟨w.heap.size, 1, none⟩ = some (.slice (some ad) l0_1.length c0_1) := (blk_cell (blk_below Hb1.out hb1) 1).trans rfl; have HV := Aside0.mk hv; clear hv; have B3 := Aside0.mk (blk_below Hb3.out hb1); have HB1 := Aside0.mk hb1; clear hb1; have k0 : w1.cell? ⟨w.heap.size + 1 + 1, 0, none⟩ = some (.int .u32 0) := (blk_cell B3.out 0).trans rfl; have k1 : w1.cell? ⟨w.heap.size + 1 + 1, 1, none⟩ = some (.int .u32 0) := (blk_cell B3.out 1).trans rfl; have k2 : w1.cell? ⟨w.heap.size + 1 + 1, 2, none⟩ = some (.int .u32 0) := (blk_cell B3.out 2).trans rfl; have k3 : w1.cell? ⟨w.heap.size + 1 + 1, 3, none⟩ = some (.slice none 0 0) := (blk_cell B3.out 3).trans rfl; have f0 := blk_frozen B3.out 0; have f1 := blk_frozen B3.out 1; have f2 := blk_frozen B3.out 2; have f3 := blk_frozen B3.out 3)
    refine bodyPost_ret (results_ct rfl _ _ (w.heap.size + 1 + 1) 43 #[.int .u32 (rd_T43 l0_1 p).f0, .int .u32 (rd_T43 l0_1 p).f1, .int .u32 (rd_T43 l0_1 p).f2, .slice A3 (rd_T43 l0_1 p).f3.length c3] (0, 0) _ rfl (by refine blk_put (cs := #[.int .u32 (rd_T43 l0_1 p).f0, .int .u32 (rd_T43 l0_1 p).f1, .int .u32 (rd_T43 l0_1 p).f2, .slice none 0 0]) ?_ 3 _ rfl; refine blk_put (cs := #[.int .u32 (rd_T43 l0_1 p).f0, .int .u32 (rd_T43 l0_1 p).f1, .int .u32 0, .slice none 0 0]) ?_ 2 _ rfl; refine blk_put (cs := #[.int .u32 (rd_T43 l0_1 p).f0, .int .u32 0, .int .u32 0, .slice none 0 0]) ?_ 1 _ rfl; refine blk_put (cs := #[.int .u32 0, .int .u32 0, .int .u32 0, .slice none 0 0]) B3.out 0 _ rfl) Try.underlying43 rfl (by kernel_rfl)) rfl ?_
    have hg : w.heap.size ≤ w.heap.size + 1 + 1 := by omega
    have hne : ∀ k, P0_1_ k ∧ k < w.heap.size → k ≠ w.heap.size + 1 + 1 := fun k hk => by have := hk.2; omega
    exact ⟨_, rfl, Kd.V_mono (Kd.V_far (Kd.V_far (Kd.V_far (Kd.V_far HV.out hne _) hne _) hne _) hne _) (fun k hk => .inl hk.1), below_set (below_set (below_set (below_set (HB3.out.trans (HB1.out.mono (by have := Hs3.out; omega))) hg) hg) hg) hg⟩

/-! ### slices_Clone_uint32_uint32: function 22 -/
def slices_Clone_uint32_uint32.f (l0 : List Int) : Option (List Int) := (some (([] : List Int) : List Int)).bind fun y108 => (if y108.length + l0.length < 35184372088832 then (some (y108 ++ l0)) else (none))
set_option maxHeartbeats 8000000 in
set_option maxRecDepth 100000 in
theorem slices_Clone_uint32_uint32.calls (A0 : Option Addr) (c0 : Nat) (l0 : List Int) (r : List Int) (w : World) (hr0 : Kd.C (Kd.int .u32) w A0 l0.length l0) (hc0 : l0.length ≤ c0) (h : slices_Clone_uint32_uint32.f l0 = some r) :
    Calls Try.prog 22 #[.slice A0 l0.length c0] w fun e w' => ∃ v0_ : Value, e = .returned (v0_) ∧ Kd.R (Kd.int .u32) 25 w' w.heap.size (fun _ => True) v0_ r ∧ Below w.heap.size w w' := by
  rcases A0 with _ | x0
  · have hl0 : l0 = [] := by
      rcases l0 with _ | ⟨y, ys⟩
      · rfl
      · obtain ⟨ad, had, _⟩ := hr0.2.2 (by simp)
        cases had
    subst hl0
    have hr : r = [] := by
      have h2 := h
      simp [slices_Clone_uint32_uint32.f] at h2
      exact h2
    subst hr
    clear h hr0 hc0
    have ke := fun (w : World) (a : Option Addr) (n c n' c' : Nat) => Lib.run_eql_slice_nil (P := Try.prog) w 26 25 a n c n' c' Try.underlying26
    go_enter Try.func22, Try.ntmps22
    go_wp2
    go_ret
    exact ⟨_, rfl, Kd.R_nil _ _ _ _ _, Below.refl _ _⟩
  have ke := fun (w : World) (n c n' c' : Nat) => Lib.run_eql_slice_nil (P := Try.prog) w 26 25 (some x0) n c n' c' Try.underlying26
  have HR0 := Aside0.mk hr0
  have HC0 := Aside0.mk hc0
  clear hr0 hc0
  have HB := Aside0.mk (Below.refl w.heap.size w)
  have H : ((some (([] : List Int) : List Int)).bind fun y108 => (if y108.length + l0.length < 35184372088832 then (some (y108 ++ l0)) else (none))) = some r := h
  clear h
  obtain ⟨y108, hy108⟩ : ∃ y_ : List Int, y_ = (([] : List Int)) := ⟨_, rfl⟩
  replace H : (if y108.length + l0.length < 35184372088832 then (some (y108 ++ l0)) else (none)) = some r := by first | (rw [hy108]; with_reducible exact H) | (have H2_ := (Option.bind_some _ _).symm.trans H; rw [hy108]; with_reducible exact H2_) | (have H2_ := (Option.bind_some _ _).symm.trans H; with_reducible exact H2_) | with_reducible exact H | (rw [hy108]; exact H) | exact H
  have Ny108 := Aside0.mk hy108
  clear hy108
  by_cases c2 : y108.length + l0.length < 35184372088832
  · rw [if_pos c2] at H
    have LMc2 := Aside0.mk c2
    clear c2
    obtain ⟨y111, hy111⟩ : ∃ y_ : List Int, y_ = (y108 ++ l0) := ⟨_, rfl⟩
    replace H : (some y111) = some r := by first | (rw [hy111]; with_reducible exact H) | (have H2_ := (Option.bind_some _ _).symm.trans H; rw [hy111]; with_reducible exact H2_) | (have H2_ := (Option.bind_some _ _).symm.trans H; with_reducible exact H2_) | with_reducible exact H | (rw [hy111]; exact H) | exact H
    have Ny111 := Aside0.mk hy111
    clear hy111
    obtain rfl := Option.some.inj H
    go_enter Try.func22, Try.ntmps22
    go_wp2_with (first | ((with_reducible refine gate_dst (N := 5) rfl ?_); refine Kd.R_lit (Kd.int .u32) _ 25 ?hg (N := 5) ?hd (xs := ([] : List Int)) (inner := []) (ok := fun _ => True) (okp := fun _ => True) ?hr ?hp (fun _ hk => hk) trivial (Below.refl _ _) (Nat.le_refl _) (by simp) ?_; (case hd => rfl); (case hg => rfl); (case hr => first | (go_simp; done) | (go_simp; rfl)); (case hp => exact (Reps.none _ _)); intro v109 w3 ho4 hb hg_ hnew_; clear hg_ hnew_; (first | rw [← Ny108.out] at ho4 | (simp only [Int.reduceToNat] at ho4; rw [← Ny108.out] at ho4)); have n0_ := Aside0.mk (Kd.R_lower ho4 (below_size (by repeat (first | (with_reducible first | exact HB.out | apply below_alloc | apply pw_below_drewN | apply below_drew1) | exact HB.out)))); have n1_ := Aside0.mk (below_step (by repeat (first | (with_reducible first | exact HB.out | apply below_alloc | apply pw_below_drewN | apply below_drew1) | exact HB.out)) hb); clear HB; have HO110 := n0_; have HB := n1_; clear n0_ n1_; clear hb ho4) | ((with_reducible refine gate_builtin (b := .append) (xs := #[.tmp 5, .tmp 6]) rfl ?_); at_builtin; refine Kd.R_append_rows (Kd.int .u32) (w0 := w) w.heap.size rfl (.tmp 5) (.tmp 6) 26 25 (.int .u32 0) 4 rfl Try.underlying26 info25 rfl (by decide) (by omega) v109 y108 l0 _ _ _ (fun _ => True) (fun _ => False) rfl rfl ?aO ?aR (fun _ _ h => h) (fun _ h => h.elim) ?aF ?aB ?aS ?aL ?_; (case aR => repeat (first | exact (Kd.C_below HR0.out HB.out) | (with_reducible refine Kd.C_alloc ?_ _) | (with_reducible refine Kd.C_drewN ?_ _) | (with_reducible refine Kd.C_drew ?_))); (case aB => exact (by repeat (first | (with_reducible first | exact HB.out | apply below_alloc | apply pw_below_drewN | apply below_drew1) | exact HB.out))); (case aF => exact (fun _ _ => trivial)); (case aO => exact (by (with_reducible repeat (first | apply Kd.R_alloc | apply Kd.R_drewN | apply Kd.R_drew)); exact HO110.out)); (case aS => exact (below_size (by repeat (first | (with_reducible first | exact HB.out | apply below_alloc | apply pw_below_drewN | apply below_drew1) | exact HB.out)))); (case aL => have := LMc2.out; omega); intro v112 w5 ho hb hg hat; rw [← Ny111.out] at ho; have n0_ := Aside0.mk (hb); have n1_ := Aside0.mk (ho); clear HB; clear HO110; have HB := n0_; have HO113 := n1_; clear n0_ n1_; clear ho hb hg hat))
    go_ret
    exact ⟨_, by first | rfl | (simp [errW_none, errW_some] <;> rfl) | (simp [*, errW_none, errW_some] <;> rfl), by (with_reducible repeat (first | apply Kd.R_alloc | apply Kd.R_drewN | apply Kd.R_drew)); exact HO113.out, by repeat (first | (with_reducible first | exact HB.out | apply below_alloc | apply pw_below_drewN | apply below_drew1) | exact HB.out)⟩
  · rw [if_neg c2] at H
    exact absurd H (by simp)

/-! ### api_Sealed_26: function 26 -/
def api_Sealed_26.f (l0 : List (S43)) (a1 : Int) : Option ((List (S43))) := if a1 < 0 then (none) else (if (l0.length : Int) > 0 then (none) else (if a1 > 0 then (if 0 ≤ a1 then (if ([] : List (S43)).length + (a1 : Int).toNat < 3518437208883 then ((some (([] : List (S43)) ++ List.replicate (a1 : Int).toNat z43 : List (S43))).bind fun y114 => (if 0 ≤ (y114.length : Int) then (some (y114.take (0 : Int).toNat)) else (none))) else (none)) else (none)) else (some ([] : List (S43)))))
set_option maxHeartbeats 8000000 in
set_option maxRecDepth 100000 in
theorem api_Sealed_26.calls (A0 : Option Addr) (c0 : Nat) (l0 : List (S43)) (a1 : Int) (r : List (S43)) (w : World) (hr0 : Kd.C k43 w A0 l0.length l0) (hc0 : l0.length ≤ c0) (h : api_Sealed_26.f l0 a1 = some r) (hA : A0 = none := by rfl) (hcap : c0 = 0 := by rfl) :
    Calls Try.prog 26 #[.slice A0 l0.length c0, .int .i64 a1] w fun e w' => ∃ v0_ : Value, e = .returned (v0_) ∧ Kd.S k43 43 w' w.heap.size (fun _ => True) v0_ r ∧ Below w.heap.size w w' := by
  subst hA hcap
  have hl0 : l0 = [] := by
    rcases l0 with _ | ⟨y, ys⟩
    · rfl
    · obtain ⟨ad, had, _⟩ := hr0.2.2 (by simp)
      cases had
  subst hl0
  have HR0 := Aside0.mk hr0
  have HC0 := Aside0.mk hc0
  clear hr0 hc0
  have HB := Aside0.mk (Below.refl w.heap.size w)
  have H : (if a1 < 0 then (none) else (if (([] : List (S43)).length : Int) > 0 then (none) else (if a1 > 0 then (if 0 ≤ a1 then (if ([] : List (S43)).length + (a1 : Int).toNat < 3518437208883 then ((some (([] : List (S43)) ++ List.replicate (a1 : Int).toNat z43 : List (S43))).bind fun y114 => (if 0 ≤ (y114.length : Int) then (some (y114.take (0 : Int).toNat)) else (none))) else (none)) else (none)) else (some ([] : List (S43)))))) = some r := h
  clear h
  by_cases c3 : a1 < 0
  · rw [if_pos c3] at H
    exact absurd H (by simp)
  · rw [if_neg c3] at H
    have c3b0 : decide (a1 < 0) = false := decide_eq_false c3
    clear c3
    by_cases c4 : (([] : List (S43)).length : Int) > 0
    · rw [if_pos c4] at H
      exact absurd H (by simp)
    · rw [if_neg c4] at H
      have c4b0 : decide (0 < (([] : List (S43)).length : Int)) = false := decide_eq_false c4
      have c4b1 : decide (0 < ([] : List (S43)).length) = false := decide_eq_false (by omega)
      clear c4
      by_cases c5 : a1 > 0
      · rw [if_pos c5] at H
        have c5b0 : decide (0 < a1) = true := decide_eq_true c5
        clear c5
        by_cases c6 : 0 ≤ a1
        · rw [if_pos c6] at H
          have c6b0 := eq_true c6
          have c6b1 : decide (0 ≤ a1) = true := decide_eq_true c6
          clear c6
          by_cases c7 : ([] : List (S43)).length + (a1 : Int).toNat < 3518437208883
          · rw [if_pos c7] at H
            have LMc7 := Aside0.mk c7
            clear c7
            obtain ⟨y114, hy114⟩ : ∃ y_ : List (S43), y_ = (([] : List (S43)) ++ List.replicate (a1 : Int).toNat z43) := ⟨_, rfl⟩
            replace H : (if 0 ≤ (y114.length : Int) then (some (y114.take (0 : Int).toNat)) else (none)) = some r := by first | (rw [hy114]; with_reducible exact H) | (have H2_ := (Option.bind_some _ _).symm.trans H; rw [hy114]; with_reducible exact H2_) | (have H2_ := (Option.bind_some _ _).symm.trans H; with_reducible exact H2_) | with_reducible exact H | (rw [hy114]; exact H) | exact H
            have Ny114 := Aside0.mk hy114
            clear hy114
            by_cases c8 : 0 ≤ (y114.length : Int)
            · rw [if_pos c8] at H
              have c8b0 := eq_true c8
              have c8b1 : decide (0 ≤ (y114.length : Int)) = true := decide_eq_true c8
              clear c8
              obtain ⟨y117, hy117⟩ : ∃ y_ : List (S43), y_ = (y114.take (0 : Int).toNat) := ⟨_, rfl⟩
              replace H : (some y117) = some r := by first | (rw [hy117]; with_reducible exact H) | (have H2_ := (Option.bind_some _ _).symm.trans H; rw [hy117]; with_reducible exact H2_) | (have H2_ := (Option.bind_some _ _).symm.trans H; with_reducible exact H2_) | with_reducible exact H | (rw [hy117]; exact H) | exact H
              have Ny117 := Aside0.mk hy117
              clear hy117
              obtain rfl := Option.some.inj H
              have hhi : a1 ≤ 35184372088832 := by have := LMc7.out; simp only [List.length_nil] at this; omega
              have hlo : 0 ≤ a1 := of_decide_eq_true c6b1
              show Calls Try.prog 26 #[.slice none 0 0, .int .i64 a1] w _
              go_enter Try.func26, Try.ntmps26
              go_wp2_with (first | (at_builtin; refine Kd.S_append_zeros k43 (w0 := w) w.heap.size rfl (.tmp 20) (.tmp 21) 22 3 43 (.agg #[(.int .u32 0), (.int .u32 0), (.int .u32 0), (.slice none 0 0)]) 40 rfl Try.underlying22 Try.underlying3 info43 rfl (by decide) (by omega) (.slice none 0 0) ([] : List (S43)) z43 (a1 : Int) (fun _ => True) rfl rfl (k43_mkM _ _ _ z43 (Kd.R_nil _ _ _ _ _)) ?aF ?aO (of_decide_eq_true (by first | (with_reducible assumption) | assumption)) ?aB ?aS ?aL ?_; (case aB => exact (by repeat (first | (with_reducible first | exact HB.out | apply below_alloc | apply pw_below_drewN | apply below_drew1) | exact HB.out))); (case aF => exact (fun _ _ => trivial)); (case aO => exact ((Kd.S_nil _ _ _ _ _))); (case aS => exact (below_size (by repeat (first | (with_reducible first | exact HB.out | apply below_alloc | apply pw_below_drewN | apply below_drew1) | exact HB.out)))); (case aL => have := LMc7.out; omega); intro v115 w9 ho hb hg hat; rw [← Ny114.out] at ho; have n0_ := Aside0.mk (hb); have n1_ := Aside0.mk (ho); clear HB; have HB := n0_; have HO116 := n1_; clear n0_ n1_; clear ho hb hg hat; obtain ⟨Ao10, co10, eo10⟩ := Kd.S_slice HO116.out; subst eo10; have q11 : (0 : Int) ≤ ((y114.length : Int) : Int) := of_decide_eq_true (by first | (with_reducible assumption) | assumption); obtain ⟨i011, hi011, _, hsz11, _⟩ := info_parts info43; have hcut11 := cut_to (P := Try.prog) 22 43 .i64 Try.underlying22 hi011 Ao10 y114.length co10 0 (by omega) q11 (Kd.S_reads' HO116.out).2.1; have hr11 := Kd.S_take (m := (0 : Int).toNat) HO116.out (by omega); have hy11 : y117.length = (0 : Int).toNat := (by rw [Ny117.out, List.length_take]; omega); rw [← Ny117.out] at hr11; rw [← hy11] at hr11 hcut11; clear hy11 hi011 hsz11 HO116; have HO119 := Aside0.mk hr11; clear hr11; replace q11 := eq_true q11))
              go_ret
              exact ⟨_, by first | rfl | (simp [errW_none, errW_some] <;> rfl) | (simp [*, errW_none, errW_some] <;> rfl), by (with_reducible repeat (first | apply Kd.S_alloc | apply Kd.S_drewN | apply Kd.S_drew)); exact HO119.out, by repeat (first | (with_reducible first | exact HB.out | apply below_alloc | apply pw_below_drewN | apply below_drew1) | exact HB.out)⟩
            · rw [if_neg c8] at H
              exact absurd H (by simp)
          · rw [if_neg c7] at H
            exact absurd H (by simp)
        · rw [if_neg c6] at H
          exact absurd H (by simp)
      · rw [if_neg c5] at H
        have c5b0 : decide (0 < a1) = false := decide_eq_false c5
        clear c5
        obtain rfl := Option.some.inj H
        have ha1 : a1 = 0 := by have q1 := of_decide_eq_false c3b0; have q2 := of_decide_eq_false c5b0; omega
        clear c3b0 c5b0 c4b0 c4b1
        subst ha1
        show Calls Try.prog 26 #[.slice none 0 0, .int .i64 0] w _
        go_enter Try.func26, Try.ntmps26
        go_wp2
        go_ret
        exact ⟨_, by first | rfl | (simp [errW_none, errW_some] <;> rfl) | (simp [*, errW_none, errW_some] <;> rfl), by first | exact Kd.S_nil _ _ _ _ _ | exact Kd.N_nil _ _ _ _ _ | exact Kd.V_nil _ _ _ _ _ | exact Kd.Q_nil _ _ _ _ _ | exact Kd.R_nil _ _ _ _ _, by repeat (first | (with_reducible first | exact HB.out | apply below_alloc | apply pw_below_drewN | apply below_drew1) | exact HB.out)⟩

/-! ### api_Sealed_23: function 23 -/
mutual
def api_Sealed_23.l0 : Nat → List (List (S43)) → Int → List (List (S43)) → Int → Int → Option ((List (S43)))
  | 0, _, _, _, _, _ => none
  | k + 1, x0, x3, x9, x10, x11 => if x11 < x10 then (if 0 ≤ x11 then (if x11 < (x9.length : Int) then (if (wrap64 (x3 + ((rd_L3 x9 x11).length : Int))) < 0 then (none) else (api_Sealed_23.l0 k x0 (wrap64 (x3 + ((rd_L3 x9 x11).length : Int))) x9 x10 (wrap64 (x11 + 1)))) else (none)) else (none)) else ((api_Sealed_26.f ([] : List (S43)) x3).bind fun t121 => (api_Sealed_23.l1 k t121 x0 (x0.length : Int) 0))
def api_Sealed_23.l1 : Nat → List (S43) → List (List (S43)) → Int → Int → Option ((List (S43)))
  | 0, _, _, _, _ => none
  | k + 1, x6, x25, x26, x27 => if x27 < x26 then (if 0 ≤ x27 then (if x27 < (x25.length : Int) then (if x6.length + (rd_L3 x25 x27).length < 3518437208883 then (api_Sealed_23.l1 k (x6 ++ (rd_L3 x25 x27)) x25 x26 (wrap64 (x27 + 1))) else (none)) else (none)) else (none)) else (some x6)
end
def api_Sealed_23.f (k : Nat) (l0 : List (List (S43))) : Option ((List (S43))) := api_Sealed_23.l0 k l0 0 l0 (l0.length : Int) 0
theorem api_Sealed_23.mono_l : ∀ k, (∀ y0 y1 y2 y3 y4, LeO (api_Sealed_23.l0 k y0 y1 y2 y3 y4) (api_Sealed_23.l0 (k + 1) y0 y1 y2 y3 y4)) ∧ (∀ y0 y1 y2 y3, LeO (api_Sealed_23.l1 k y0 y1 y2 y3) (api_Sealed_23.l1 (k + 1) y0 y1 y2 y3))
  | 0 => ⟨fun _ _ _ _ _ r h => by simp [api_Sealed_23.l0] at h, fun _ _ _ _ r h => by simp [api_Sealed_23.l1] at h⟩
  | k + 1 => by
    obtain ⟨ih0, ih1⟩ := api_Sealed_23.mono_l k
    refine ⟨?_, ?_⟩
    · intro y0 y1 y2 y3 y4
      unfold api_Sealed_23.l0
      repeat' first
      | (with_reducible exact ih0 _ _ _ _ _)
      | (with_reducible exact ih1 _ _ _ _)
      | (with_reducible exact LeO.refl _)
      | (with_reducible exact LeO.none _)
      | (with_reducible refine LeO.ite ?_ ?_)
      | (with_reducible refine LeO.bind ?_ (fun _ => ?_))
      | exact ih0 _ _ _ _ _
      | exact ih1 _ _ _ _
      | exact LeO.none _
      | refine LeO.ite ?_ ?_
      | refine LeO.bind ?_ (fun _ => ?_)
    · intro y0 y1 y2 y3
      unfold api_Sealed_23.l1
      repeat' first
      | (with_reducible exact ih0 _ _ _ _ _)
      | (with_reducible exact ih1 _ _ _ _)
      | (with_reducible exact LeO.refl _)
      | (with_reducible exact LeO.none _)
      | (with_reducible refine LeO.ite ?_ ?_)
      | (with_reducible refine LeO.bind ?_ (fun _ => ?_))
      | exact ih0 _ _ _ _ _
      | exact ih1 _ _ _ _
      | exact LeO.none _
      | refine LeO.ite ?_ ?_
      | refine LeO.bind ?_ (fun _ => ?_)
theorem api_Sealed_23.mono : ∀ a0 k, LeO (api_Sealed_23.f k a0) (api_Sealed_23.f (k + 1) a0) := by
  intro a0 k
  obtain ⟨ih0, ih1⟩ := api_Sealed_23.mono_l k
  unfold api_Sealed_23.f
  repeat' first
      | (with_reducible exact ih0 _ _ _ _ _)
      | (with_reducible exact ih1 _ _ _ _)
      | (with_reducible exact LeO.refl _)
      | (with_reducible exact LeO.none _)
      | (with_reducible refine LeO.ite ?_ ?_)
      | (with_reducible refine LeO.bind ?_ (fun _ => ?_))
      | exact ih0 _ _ _ _ _
      | exact ih1 _ _ _ _
      | exact LeO.none _
      | refine LeO.ite ?_ ?_
      | refine LeO.bind ?_ (fun _ => ?_)
set_option maxHeartbeats 8000000 in
set_option maxRecDepth 100000 in
theorem api_Sealed_23.calls (k : Nat) (P0_ : Nat → Prop) (A0 : Option Addr) (c0 : Nat) (l0 : List (List (S43))) (r : List (S43)) (w : World) (hs0 : Kd.V (Kd.slice 43 k43) 22 w w.heap.size (fun k_ => P0_ k_) (.slice A0 l0.length c0) l0) (h : api_Sealed_23.f k l0 = some r) :
    Calls Try.prog 23 #[.slice A0 l0.length c0] w fun e w' => ∃ v0_ : Value, e = .returned (v0_) ∧ Kd.N k43 43 w' w.heap.size (fun k_ => (P0_ k_ ∨ w.heap.size ≤ k_)) v0_ r ∧ Below w.heap.size w w' := by
  have HO0 := Aside0.mk (show Kd.V (Kd.slice 43 k43) 22 w w.heap.size (fun k_ => (P0_ k_ ∨ w.heap.size ≤ k_)) (.slice A0 l0.length c0) l0 from Kd.V_mono hs0 (fun k_ hk => .inl hk))
  have HB := Aside0.mk (Below.refl w.heap.size w)
  have H : (api_Sealed_23.l0 k l0 0 l0 (l0.length : Int) 0) = some r := h
  clear h
  have H' := Aside0.mk H
  clear H
  go_enter Try.func23, Try.ntmps23
  go_wp2
  go_loopg [3, 11] k (fun kq v3 v11 w' => ∃ (x3_1 : Int) (x11_1 : Int), v3 = .int .i64 x3_1 ∧ v11 = .int .i64 x11_1 ∧ Aside0 (api_Sealed_23.l0 kq l0 x3_1 l0 (l0.length : Int) x11_1 = some r) ∧ Aside0 (kq ≤ k) ∧ Aside0 (Kd.V (Kd.slice 43 k43) 22 w' w.heap.size (fun k_ => (P0_ k_ ∨ w.heap.size ≤ k_)) (.slice A0 l0.length c0) l0) ∧ Aside0 (Kd.V (Kd.slice 43 k43) 22 w' w.heap.size (fun k_ => (P0_ k_ ∨ w.heap.size ≤ k_)) (.slice A0 l0.length c0) l0) ∧ Aside0 (Below w.heap.size w w'))
  case atStart => exact ⟨(0), (0), (by first | rfl | (simp; done) | (simp [*]; done)), (by first | rfl | (simp; done) | (simp [*]; done)), H', ⟨Nat.le_refl _⟩, ⟨by (with_reducible repeat (first | apply Kd.V_alloc | apply Kd.V_drewN | apply Kd.V_drew)); exact HO0.out⟩, ⟨by (with_reducible repeat (first | apply Kd.V_alloc | apply Kd.V_drewN | apply Kd.V_drew)); exact HO0.out⟩, ⟨by repeat (first | (with_reducible first | exact HB.out | apply below_alloc | apply pw_below_drewN | apply below_drew1) | exact HB.out)⟩⟩
  case round =>
    clear H'
    obtain ⟨x3_1, x11_1, rfl, rfl, HA, HK1, HO_0, HO_9, HB⟩ := hrel
    cases gk with
    | zero => exact absurd HA.out (by simp [api_Sealed_23.l0])
    | succ k1 =>
      have H := HA.out
      clear HA
      simp only [api_Sealed_23.l0] at H
      by_cases c2 : x11_1 < (l0.length : Int)
      · rw [if_pos c2] at H
        have c2b0 : decide (x11_1 < (l0.length : Int)) = true := decide_eq_true c2
        clear c2
        by_cases c3 : 0 ≤ x11_1
        · rw [if_pos c3] at H
          have c3b0 : decide (0 ≤ x11_1) = true := decide_eq_true c3
          clear c3
          by_cases c4 : x11_1 < (l0.length : Int)
          · rw [if_pos c4] at H
            have c4b0 : decide (x11_1 < (l0.length : Int)) = true := decide_eq_true c4
            clear c4
            by_cases c5 : (wrap64 (x3_1 + ((rd_L3 l0 x11_1).length : Int))) < 0
            · rw [if_pos c5] at H
              exact absurd H (by simp)
            · rw [if_neg c5] at H
              have c5b0 : decide ((wrap64 (x3_1 + ((rd_L3 l0 x11_1).length : Int))) < 0) = false := decide_eq_false c5
              clear c5
              have H' := Aside0.mk H
              clear H
              have p120 : 0 ≤ (x11_1 : Int) := of_decide_eq_true (by first | (with_reducible assumption) | assumption)
              have q120 : x11_1 < (l0.length : Int) := of_decide_eq_true (by first | (with_reducible assumption) | assumption)
              obtain ⟨ad120, A120_0, c120_0, e120, hx120_0, hl120_0, hi120_0⟩ := at_L3 (Kd.V_reads' HO_9.out).2.2 x11_1 p120 q120
              cases e120
              obtain ⟨ce120, hce120, hMe120, hcc120⟩ := Kd.V_get HO_9.out [] x11_1 p120 (by first | exact q120 | exact of_decide_eq_true (by first | (with_reducible assumption) | assumption) | (have e_ := (Kd.V_reads' HO_9.out).1; omega))
              obtain ⟨ua120_0, uc120_0, rfl, ul120_0, ge120_0⟩ := Kd.FK_slice_open hMe120
              have hv120_0 := hcc120 0 _ rfl
              rw [Nat.add_zero, show ((Kd.slice 43 k43)).sz = 1 from rfl, Nat.mul_one] at hv120_0
              replace hv120_0 := Option.some.inj (hv120_0.symm.trans hx120_0)
              injection hv120_0 with hva_ hvn_ hvc_
              rw [hva_] at ge120_0
              rw [hvc_] at ul120_0
              have HL120_0 := Aside0.mk (show Kd.V k43 43 _ w.heap.size _ _ (rd_L3 l0 x11_1) from Kd.V_mk ul120_0 ge120_0)
              clear hva_ hvn_ hvc_ ge120_0 ul120_0
              clear hcc120 hce120
              have HR120_0 := Aside0.mk hi120_0
              have HC120_0 := Aside0.mk hl120_0
              clear hi120_0 hl120_0
              replace p120 := eq_true p120
              replace q120 := eq_true q120
              go_wp2
              go_roundg k1
              case measure => have := HK1.out; omega
              case rel => exact ⟨(wrap64 (x3_1 + ((rd_L3 l0 x11_1).length : Int))), (wrap64 (x11_1 + 1)), (by first | rfl | (simp; done) | (simp [*]; done)), (by first | rfl | (simp; done) | (simp [*]; done)), H', ⟨by have := HK1.out; omega⟩, ⟨by (with_reducible repeat (first | apply Kd.V_alloc | apply Kd.V_drewN | apply Kd.V_drew)); exact HO_0.out⟩, ⟨by (with_reducible repeat (first | apply Kd.V_alloc | apply Kd.V_drewN | apply Kd.V_drew)); exact HO_9.out⟩, ⟨by repeat (first | (with_reducible first | exact HB.out | apply below_alloc | apply pw_below_drewN | apply below_drew1) | exact HB.out)⟩⟩
          · rw [if_neg c4] at H
            exact absurd H (by simp)
        · rw [if_neg c3] at H
          exact absurd H (by simp)
      · rw [if_neg c2] at H
        have c2b0 : decide (x11_1 < (l0.length : Int)) = false := decide_eq_false c2
        clear c2
        replace H := Option.bind_eq_some_iff.mp H
        obtain ⟨t121, A60, H⟩ := H
        replace H : (api_Sealed_23.l1 k1 t121 l0 (l0.length : Int) 0) = some r := H
        have A6 := Aside0.mk A60
        clear A60
        have H' := Aside0.mk H
        clear H
        go_wp2_with (first | ((with_reducible refine gate_callee (f := 26) rfl ?_); refine goesL_ (some 24) rfl rfl Try.func26 (by kernel_rfl) rfl #[.slice none 0 0, .int .i64 x3_1] rfl (by (try simp only [List.map_toArray, List.map_cons, List.map_nil]); first | done | rfl | (simp only [List.length_drop, List.length_take]; rfl)) ?_; (refine (api_Sealed_26.calls _ _ ([] : List (S43)) x3_1 t121 _ ?side1 ?side2 A6.out).mono ?_); (case side1 => exact Kd.C_nil _ _); (case side2 => exact Nat.le_refl _); rintro e w7 ⟨v122, rfl, ho0, hb⟩; refine ⟨_, rfl, ?_⟩; have n0_ := Aside0.mk (Kd.V_elder' (by (with_reducible repeat (first | apply Kd.V_alloc | apply Kd.V_drewN | apply Kd.V_drew)); exact HO_0.out) (Kd.S_base ho0) hb); have n1_ := Aside0.mk (Kd.V_elder' (by (with_reducible repeat (first | apply Kd.V_alloc | apply Kd.V_drewN | apply Kd.V_drew)); exact HO_9.out) (Kd.S_base ho0) hb); have n2_ := Aside0.mk (Kd.N_lower (Kd.N_mono (ok' := fun k_ => (P0_ k_ ∨ w.heap.size ≤ k_)) (Kd.S_N (Kd.S_bound ho0)) (fun k_ hk_ => (.inr (Nat.le_trans (below_size (by repeat (first | (with_reducible first | exact HB.out | apply below_alloc | apply pw_below_drewN | apply below_drew1) | exact HB.out))) hk_.2.1)))) (below_size (by repeat (first | (with_reducible first | exact HB.out | apply below_alloc | apply pw_below_drewN | apply below_drew1) | exact HB.out)))); have n3_ := Aside0.mk (below_step (by repeat (first | (with_reducible first | exact HB.out | apply below_alloc | apply pw_below_drewN | apply below_drew1) | exact HB.out)) hb); clear HO_0; clear HO_9; clear HB; have HO_0 := n0_; have HO_9 := n1_; have HO123 := n2_; have HB := n3_; clear n0_ n1_ n2_ n3_; (try clear hb); (try clear hb2); (try clear hk); (try clear hi); (try clear ho0)))
        go_loopg [6, 27] k1 (fun kq v6 v27 w' => ∃ (x6_2 : List (S43)) (x27_2 : Int), v27 = .int .i64 x27_2 ∧ Aside0 (api_Sealed_23.l1 kq x6_2 l0 (l0.length : Int) x27_2 = some r) ∧ Aside0 (kq ≤ k1) ∧ Aside0 (Kd.N k43 43 w' w.heap.size (fun k_ => (P0_ k_ ∨ w.heap.size ≤ k_)) v6 x6_2) ∧ Aside0 (Kd.V (Kd.slice 43 k43) 22 w' w.heap.size (fun k_ => (P0_ k_ ∨ w.heap.size ≤ k_) ∧ some k_ ≠ (v6 : Value).ownBlock) (.slice A0 l0.length c0) l0) ∧ Aside0 (Below w.heap.size w w'))
        case atStart => exact ⟨(t121), (0), (by first | rfl | (simp; done) | (simp [*]; done)), H', ⟨Nat.le_refl _⟩, ⟨by (with_reducible repeat (first | apply Kd.N_alloc | apply Kd.N_drewN | apply Kd.N_drew)); exact HO123.out⟩, ⟨by (with_reducible repeat (first | apply Kd.V_alloc | apply Kd.V_drewN | apply Kd.V_drew)); exact HO_0.out⟩, ⟨by repeat (first | (with_reducible first | exact HB.out | apply below_alloc | apply pw_below_drewN | apply below_drew1) | exact HB.out)⟩⟩
        case round =>
          clear H'
          try clear c1
          try clear p1
          try clear q1
          try clear hx1
          try clear c2
          try clear c2b0
          try clear p2
          try clear c3
          try clear c3b0
          try clear c4
          try clear c4b0
          try clear c5
          try clear c5b0
          try clear p6
          try clear hx120_0
          try clear p120
          try clear q120
          obtain ⟨x6_2, x27_2, rfl, HA, HK2, HO_6, HO_25, HB⟩ := hrel
          cases gk with
          | zero => exact absurd HA.out (by simp [api_Sealed_23.l1])
          | succ k2 =>
            have H := HA.out
            clear HA
            simp only [api_Sealed_23.l1] at H
            by_cases c8 : x27_2 < (l0.length : Int)
            · rw [if_pos c8] at H
              have c8b0 : decide (x27_2 < (l0.length : Int)) = true := decide_eq_true c8
              clear c8
              by_cases c9 : 0 ≤ x27_2
              · rw [if_pos c9] at H
                have c9b0 : decide (0 ≤ x27_2) = true := decide_eq_true c9
                clear c9
                by_cases c10 : x27_2 < (l0.length : Int)
                · rw [if_pos c10] at H
                  have c10b0 : decide (x27_2 < (l0.length : Int)) = true := decide_eq_true c10
                  clear c10
                  by_cases c11 : x6_2.length + (rd_L3 l0 x27_2).length < 3518437208883
                  · rw [if_pos c11] at H
                    have LMc11 := Aside0.mk c11
                    clear c11
                    obtain ⟨y125, hy125⟩ : ∃ y_ : List (S43), y_ = (x6_2 ++ (rd_L3 l0 x27_2)) := ⟨_, rfl⟩
                    replace H : (api_Sealed_23.l1 k2 y125 l0 (l0.length : Int) (wrap64 (x27_2 + 1))) = some r := by first | (rw [hy125]; with_reducible exact H) | (have H2_ := (Option.bind_some _ _).symm.trans H; rw [hy125]; with_reducible exact H2_) | (have H2_ := (Option.bind_some _ _).symm.trans H; with_reducible exact H2_) | with_reducible exact H | (rw [hy125]; exact H) | exact H
                    have Ny125 := Aside0.mk hy125
                    clear hy125
                    have H' := Aside0.mk H
                    clear H
                    have p124 : 0 ≤ (x27_2 : Int) := of_decide_eq_true (by first | (with_reducible assumption) | assumption)
                    have q124 : x27_2 < (l0.length : Int) := of_decide_eq_true (by first | (with_reducible assumption) | assumption)
                    obtain ⟨ad124, A124_0, c124_0, e124, hx124_0, hl124_0, hi124_0⟩ := at_L3 (Kd.V_reads' HO_25.out).2.2 x27_2 p124 q124
                    cases e124
                    obtain ⟨ce124, hce124, hMe124, hcc124⟩ := Kd.V_get HO_25.out [] x27_2 p124 (by first | exact q124 | exact of_decide_eq_true (by first | (with_reducible assumption) | assumption) | (have e_ := (Kd.V_reads' HO_25.out).1; omega))
                    obtain ⟨ua124_0, uc124_0, rfl, ul124_0, ge124_0⟩ := Kd.FK_slice_open hMe124
                    have hv124_0 := hcc124 0 _ rfl
                    rw [Nat.add_zero, show ((Kd.slice 43 k43)).sz = 1 from rfl, Nat.mul_one] at hv124_0
                    replace hv124_0 := Option.some.inj (hv124_0.symm.trans hx124_0)
                    injection hv124_0 with hva_ hvn_ hvc_
                    rw [hva_] at ge124_0
                    rw [hvc_] at ul124_0
                    have HL124_0 := Aside0.mk (show Kd.V k43 43 _ w.heap.size _ _ (rd_L3 l0 x27_2) from Kd.V_mk ul124_0 ge124_0)
                    clear hva_ hvn_ hvc_ ge124_0 ul124_0
                    clear hcc124 hce124
                    have HR124_0 := Aside0.mk hi124_0
                    have HC124_0 := Aside0.mk hl124_0
                    clear hi124_0 hl124_0
                    replace p124 := eq_true p124
                    replace q124 := eq_true q124
                    go_wp2_with (first | ((with_reducible refine gate_builtin (b := .append) (xs := #[.tmp 31, .tmp 32]) rfl ?_); at_builtin; refine Kd.N_append_rows k43 (w0 := w) w.heap.size rfl (.tmp 31) (.tmp 32) 22 43 (.agg #[(.int .u32 0), (.int .u32 0), (.int .u32 0), (.slice none 0 0)]) 40 rfl Try.underlying22 info43 rfl (by decide) (by omega) u6 x6_2 (rd_L3 l0 x27_2) _ _ _ (fun k_ => (P0_ k_ ∨ w.heap.size ≤ k_)) (fun k_ => ((fun k_ => (P0_ k_ ∨ w.heap.size ≤ k_))) k_ ∧ some k_ ≠ (u6 : Value).ownBlock) rfl rfl ?aO ?aR (fun _ hk => hk) ?aF ?aB ?aS ?aL ?_; (case aR => exact (by skip; exact Kd.V_F (Kd.V_mono (ok' := (fun k_ => ((fun k_ => (P0_ k_ ∨ w.heap.size ≤ k_))) k_ ∧ some k_ ≠ (u6 : Value).ownBlock)) (HL124_0.out) (fun k_ hk => ⟨hk.1, hk.2⟩)))); (case aB => exact (by repeat (first | (with_reducible first | exact HB.out | apply below_alloc | apply pw_below_drewN | apply below_drew1) | exact HB.out))); (case aF => exact (fun k_ hk => (.inr (Nat.le_trans (below_size (by repeat (first | (with_reducible first | exact HB.out | apply below_alloc | apply pw_below_drewN | apply below_drew1) | exact HB.out))) hk)))); (case aO => exact (by (with_reducible repeat (first | apply Kd.N_alloc | apply Kd.N_drewN | apply Kd.N_drew)); exact HO_6.out)); (case aS => exact (below_size (by repeat (first | (with_reducible first | exact HB.out | apply below_alloc | apply pw_below_drewN | apply below_drew1) | exact HB.out)))); (case aL => have := LMc11.out; omega); intro v126 w12 ho hb hg hat; rw [← Ny125.out] at ho; have n0_ := Aside0.mk (Kd.V_afterv (ok := (fun k_ => (P0_ k_ ∨ w.heap.size ≤ k_))) (by (with_reducible repeat (first | apply Kd.V_alloc | apply Kd.V_drewN | apply Kd.V_drew)); exact HO_25.out) hg hat); have n1_ := Aside0.mk (Kd.V_afterv (ok := (fun k_ => (P0_ k_ ∨ w.heap.size ≤ k_))) (by (with_reducible repeat (first | apply Kd.V_alloc | apply Kd.V_drewN | apply Kd.V_drew)); exact HL124_0.out) hg hat); have n2_ := Aside0.mk (hb); have n3_ := Aside0.mk (ho); clear HO_25; clear HL124_0; clear HB; clear HO_6; have HO_25 := n0_; have HL124_0 := n1_; have HB := n2_; have HO127 := n3_; clear n0_ n1_ n2_ n3_; clear ho hb hg hat))
                    go_roundg k2
                    case measure => have := HK1.out; have := HK2.out; omega
                    case rel => exact ⟨(y125), (wrap64 (x27_2 + 1)), (by first | rfl | (simp; done) | (simp [*]; done)), H', ⟨by have := HK1.out; have := HK2.out; omega⟩, ⟨by (with_reducible repeat (first | apply Kd.N_alloc | apply Kd.N_drewN | apply Kd.N_drew)); exact HO127.out⟩, ⟨by (with_reducible repeat (first | apply Kd.V_alloc | apply Kd.V_drewN | apply Kd.V_drew)); exact HO_25.out⟩, ⟨by repeat (first | (with_reducible first | exact HB.out | apply below_alloc | apply pw_below_drewN | apply below_drew1) | exact HB.out)⟩⟩
                  · rw [if_neg c11] at H
                    exact absurd H (by simp)
                · rw [if_neg c10] at H
                  exact absurd H (by simp)
              · rw [if_neg c9] at H
                exact absurd H (by simp)
            · rw [if_neg c8] at H
              have c8b0 : decide (x27_2 < (l0.length : Int)) = false := decide_eq_false c8
              clear c8
              obtain rfl := Option.some.inj H
              go_wp2
              go_ret
              exact ⟨_, by first | rfl | (simp [errW_none, errW_some] <;> rfl) | (simp [*, errW_none, errW_some] <;> rfl), by (with_reducible repeat (first | apply Kd.N_alloc | apply Kd.N_drewN | apply Kd.N_drew)); exact HO_6.out, by repeat (first | (with_reducible first | exact HB.out | apply below_alloc | apply pw_below_drewN | apply below_drew1) | exact HB.out)⟩

end Go.Proofs.Ytifdlpnpbicahaa.PBoxKeeps
