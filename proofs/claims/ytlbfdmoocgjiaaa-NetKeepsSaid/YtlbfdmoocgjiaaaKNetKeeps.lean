-- Written for this claim by wip/tools/myprint.py (print.py's forms; proofs of the faked functions by hand).
import Derived.Test.YtlbfdmoocgjiaaaPNetKeepsx1
import Derived.Test.YtlbfdmoocgjiaaaPNetKeepsx2
import Derived.Test.YtlbfdmoocgjiaaaPNetKeepsx4
import Derived.Test.YtlbfdmoocgjiaaaPNetKeepsx5
import Derived.Test.YtlbfdmoocgjiaaaPNetKeepsx6
import Derived.Test.YtlbfdmoocgjiaaaPNetKeepsx0
import Derived.Test.YtlbfdmoocgjiaaaPNetKeepsx3
import Derived.Test.YtlbfdmoocgjiaaaPNetKeepsx7
namespace Go.Proofs.Ytlbfdmoocgjiaaa.PNetKeeps
open Go.RowKit Go.Proofs.YtlbfdmoocgjiaaaW.PrintWords Go.Proofs.YtlbfdmoocgjiaaaW.PrintLast Go.Proofs.YtlbfdmoocgjiaaaW.PrintMore
attribute [local go_sem] max2_int min2_int max_two min_two max_three min_three max_four min_four   -- for this text's walks alone
set_option linter.unusedVariables false
set_option linter.unusedSimpArgs false

theorem kc.run {P : Program} (w : World) (dT sT ty elem : TypeId) (s g dLen dCap : Nat) (sp : Option Addr) (sLen sCap : Nat) (cur : List Value) (t : TypeId) (cs : List Value)
    (hu : P.underlying dT = some (.slice elem)) (hs : (P.info? elem).map (·.size) = some s) (hg : w.heap[g]? = some (.cells cur.toArray t (0, 0))) (hn : cs.length = Nat.min sLen dLen * s)
    (hsrc : 0 < cs.length → ∃ a, sp = some a ∧ ∀ j v, cs[j]? = some v → w.cell? (a.add j) = some v) (hfit : cs.length ≤ cur.length) (h1 : ∀ v ∈ cs, v.oneCell' = true) :
    (Builtin.copy_ #[dT, sT] ty #[.slice (some ⟨g, 0, none⟩) dLen dCap, .slice sp sLen sCap]).run P w = .ok (goInt (Nat.min sLen dLen)) (w.setRow g (cs ++ cur.drop cs.length).toArray) := by
  have hst := run_storeCells_at P g 0 t cs 0 cur.toArray w hg (by simpa using hfit) h1
  simp only [Nat.zero_add, List.take_zero, List.nil_append] at hst
  cases hq : P.info? elem with
  | none => simp [hq] at hs
  | some i =>
    have hi : i.size = s := by simpa [hq] using hs
    rcases Nat.eq_zero_or_pos cs.length with h0 | hp
    · obtain rfl : cs = [] := List.eq_nil_of_length_eq_zero h0
      have hl : ∀ (x : Addr), (loadCells x 0).run P w = .ok #[] w := fun x => by simpa using run_loadCells_list (P := P) w x [] (by simp)
      have hz : Nat.min sLen dLen * s = 0 := by simpa using hn.symm
      have hw : w.setRow g (([] : List Value) ++ cur.drop ([] : List Value).length).toArray = w := by simpa using setRow_self w g cur.toArray t (0, 0) hg
      rw [hw]
      cases sp <;> simp [Builtin.copy_, run_underlying hu, Builtin.lenOf, Builtin.firstCells, sizeOf, typeInfo, hq, hi, hz, hl, storeCells]
    · obtain ⟨a, rfl, hc⟩ := hsrc hp
      have hl := run_loadCells_list (P := P) w a cs hc
      simp [Builtin.copy_, run_underlying hu, Builtin.lenOf, Builtin.firstCells, sizeOf, typeInfo, hq, hi, ← hn, hl]
      simp [hst]
theorem kc.wp {P : Program} {w : World} {ops : Array Oper} {rest : List Oper} {o : Oper} {a : Act} {Q : Exit → Act → World → Prop} (hgd : o.guard = none) (d s : Operand) (dT sT elem : TypeId)
    (ho : o.op = .call { callee := .builtin .copy, args := #[d, s], argTypes := #[dT, sT] }) (sz g dLen dCap : Nat) (sp : Option Addr) (sLen sCap : Nat) (hd : a.eval d = .slice (some ⟨g, 0, none⟩) dLen dCap) (hs : a.eval s = .slice sp sLen sCap)
    (cur : List Value) (t : TypeId) (cs : List Value)
    (hu : P.underlying dT = some (.slice elem)) (hsz : (P.info? elem).map (·.size) = some sz) (hg : w.heap[g]? = some (.cells cur.toArray t (0, 0))) (hn : cs.length = Nat.min sLen dLen * sz)
    (hsrc : 0 < cs.length → ∃ a, sp = some a ∧ ∀ j v, cs[j]? = some v → w.cell? (a.add j) = some v) (hfit : cs.length ≤ cur.length) (h1 : ∀ v ∈ cs, v.oneCell' = true) (B : Nat) (w0 : World) (hb : Below B w0 w) (hBg : B ≤ g)
    (h : ∀ w', w'.heap[g]? = some (.cells (cs ++ cur.drop cs.length).toArray t (0, 0)) → Below B w0 w' → (∀ k, k ≠ g → w'.heap[k]? = w.heap[k]?) → wpList P ops Q rest (a.put o.dst (goInt (Nat.min sLen dLen))) w') : wpList P ops Q (o :: rest) a w := by
  refine wpList_plain hgd fun K hK => ?_
  have hr := kc.run (P := P) w dT sT o.type elem sz g dLen dCap sp sLen sCap cur t cs hu hsz hg hn hsrc hfit h1
  unfold Oper.wp execOp
  simp only [ho, resolve, invoke, builtin, Sem.run_bind, Sem.run_pure, Result.andThen_ok, List.map_toArray, List.map_cons, List.map_nil, hd, hs, hr]
  exact hK _ _ (h _ (setRow_heap w g _ _ t _ hg) (below_setRow hb hBg _) (fun k hk => setRow_other w g k _ hk))
theorem kk.open_ {W : World} {base sz e : Nat} {ok : Nat → Prop} {v : Value} {xs : List (List Value)} (h : Kd.R (Kd.raw sz) e W base ok v xs) (hp : 0 < xs.length) :
    ∃ g cap cur, v = .slice (some ⟨g, 0, none⟩) xs.length cap ∧ base ≤ g ∧ g < W.heap.size ∧ xs.length ≤ cap ∧ cap ≤ maxLen ∧ W.heap[g]? = some (.cells cur e (0, 0)) ∧ cur.size = cap * sz ∧ ∀ (j : Nat) (c : List Value), xs[j]? = some c → ∀ (i : Nat) (u : Value), c[i]? = some u → cur.toList[j * sz + i]? = some u := by
  obtain ⟨_, inner, ⟨hl, hn | ⟨g, cap, cur, hv, hb, hh, h1, h2, h3, h4⟩⟩, hr⟩ := h
  · omega
  · refine ⟨g, cap, cur, hv, hb, blk_lt hh, h1, h2, hh, h3, fun j c hc i u hu => ?_⟩
    have hm : (inner.drop (j * sz)).take sz = c := (hr.2 j c hc).1
    subst hm
    rw [List.getElem?_take] at hu
    split at hu
    · rw [List.getElem?_drop, ← h4, List.getElem?_take] at hu
      split at hu
      · exact hu
      · cases hu
    · cases hu
theorem kk.own {α : Type} {d : Kd α} {w W3 W4 : World} {g t : Nat} {l : List α} {olds rest : List Value} (hb3 : Below w.heap.size w W3) (hb4 : Below w.heap.size w W4) (hq : W4.heap[g]? = some (.cells (olds ++ rest).toArray t (0, 0))) (ho : olds.length = l.length * d.sz)
    (hf : ∀ (j : Nat) (x : α), l[j]? = some x → Kd.FK d W3 (fun k => k < w.heap.size) x ((olds.drop (j * d.sz)).take d.sz)) (hn : l.length ≤ 9223372036854775807) : Kd.F d W4 (fun k => k = g ∨ k < w.heap.size) (some ⟨g, 0, none⟩) l.length l := by
  refine nrow.F_block l (Kd.chunks d.sz l.length olds) hq (.inl rfl) (Kd.chunks_length _ _ _) ?_ ?_ hn
  · intro j x c hx hc
    have hj : j < l.length := (List.getElem?_eq_some_iff.1 hx).1
    obtain rfl := Kd.chunks_get hc
    refine ⟨Kd.FK_mono (Kd.FK_step (hf j x hx) (fun k hk _ => (hb4.block k hk).trans (hb3.block k hk).symm)) (fun k hk => .inr hk), ?_⟩
    rw [List.length_take, List.length_drop, ho]
    have : j * d.sz + d.sz ≤ l.length * d.sz := by rw [← Nat.succ_mul]; exact Nat.mul_le_mul_right _ hj
    omega
  · intro j c hc i u hu
    have hj : j < l.length := by have := (List.getElem?_eq_some_iff.1 hc).1; rwa [Kd.chunks_length] at this
    obtain rfl := Kd.chunks_get hc
    have hi : i < d.sz := by have := (List.getElem?_eq_some_iff.1 hu).1; rw [List.length_take] at this; omega
    rw [List.getElem?_take, if_pos hi, List.getElem?_drop] at hu
    have hlt := (List.getElem?_eq_some_iff.1 hu).1
    rw [List.getElem?_toArray, List.getElem?_append_left hlt]
    exact hu
/-- A block of so many cells. -/
def kk.Blk (W : World) (g t N : Nat) : Prop := ∃ cur, W.heap[g]? = some (.cells cur t (0, 0)) ∧ cur.size = N
theorem kk.Blk.set {W : World} {g t N : Nat} (h : kk.Blk W g t N) (j : Nat) (v : Value) : kk.Blk (W.setCell ⟨g, j, none⟩ v) g t N := by
  obtain ⟨cur, hc, hs⟩ := h
  exact ⟨cur.setIfInBounds j v, blk_put hc j v rfl, by simpa using hs⟩
theorem kk.Blk.cell {W : World} {g t N : Nat} (h : kk.Blk W g t N) (j : Nat) (hj : j < N) : ∃ v, W.cell? ⟨g, j, none⟩ = some v ∧ W.frozen? ⟨g, j, none⟩ = false := by
  obtain ⟨cur, hc, hs⟩ := h
  exact ⟨cur[j]'(by omega), (blk_cell hc j).trans (Array.getElem?_eq_getElem (by omega)), blk_frozen hc j⟩
theorem kk.Blk.below {W W1 : World} {g t N : Nat} (h : kk.Blk W g t N) (hb : Below W.heap.size W W1) : kk.Blk W1 g t N := by
  obtain ⟨cur, hc, hs⟩ := h
  exact ⟨cur, blk_below hc hb, hs⟩
theorem kk.Blk.grown {W W1 : World} {g t N : Nat} (h : kk.Blk W g t N) {row : Option Nat} (hg : W.grownBy W1 row) (hne : some g ≠ row) : kk.Blk W1 g t N := by
  obtain ⟨cur, hc, hs⟩ := h
  exact ⟨cur, (hg.block g (blk_lt hc) hne).trans hc, hs⟩
theorem kk.src {W : World} {A : Option Addr} {n sz : Nat} {olds : List Value} (h1 : olds.length = n * sz) (h2 : ∀ b, A = some b → ∀ j u, olds[j]? = some u → W.cell? (b.add j) = some u) (h3 : A = none → n = 0) : 0 < olds.length → ∃ a, A = some a ∧ ∀ j v, olds[j]? = some v → W.cell? (a.add j) = some v := by
  intro hp
  cases A with
  | none => rw [h3 rfl, Nat.zero_mul] at h1; omega
  | some b => exact ⟨b, rfl, h2 b rfl⟩
theorem kk.cut (t g cap n m s : Nat) (hu : Try.prog.underlying t = some (.slice (Try.prog.elem t))) (hs : ∀ W : World, (sizeOf (Try.prog.elem t)).run Try.prog W = .ok s W) (hm : m ≤ n) (hn : n ≤ cap) : ∀ W : World, (Instr.slice t (.slice (some ⟨g, 0, none⟩) n cap) none (some (.int .i64 (m : Int))) none).run Try.prog W = .ok (.slice (some ⟨g, 0, none⟩) m cap) W := by
  intro W
  rw [run_slice_h W t (some ⟨g, 0, none⟩) n cap hu .i64 (m : Int) (by omega) (by omega), hs]
  simp [sliced, Result.andThen, Addr.add]
theorem kk.rest {olds cur zs : List Value} {l sz : Nat} (ho : olds.length = l * sz) (hz : ∀ (i : Nat) (u : Value), zs[i]? = some u → cur[l * sz + i]? = some u) : ∀ (i : Nat) (u : Value), zs[i]? = some u → (olds ++ cur.drop olds.length).toArray[l * sz + i]? = some u := by
  intro i u hu
  rw [List.getElem?_toArray, List.getElem?_append_right (by omega), List.getElem?_drop, show olds.length + (l * sz + i - olds.length) = l * sz + i by omega]
  exact hz i u hu
/-- A row that is read now, and what its elements lead to, with the blocks that this lies in. -/
def kk.E {α : Type} (d : Kd α) (W : World) (ok : Nat → Prop) (A : Option Addr) (n : Nat) (xs : List α) : Prop := ReadsRow (fun x c => Kd.FK d W ok x c) d.sz W A n xs
theorem kk.E.below {α : Type} {d : Kd α} {W W1 : World} {ok : Nat → Prop} {A : Option Addr} {n : Nat} {xs : List α} (h : kk.E d W ok A n xs) (hb : Below W.heap.size W W1) : kk.E d W1 ok A n xs := ReadsRow.imp_ h hb (fun _ _ hp => Kd.FK_below hp hb)
theorem kk.E.old {α : Type} {d : Kd α} {W W1 : World} {ok : Nat → Prop} {A : Option Addr} {n : Nat} {xs : List α} (h : kk.E d W ok A n xs) (hb : Below W.heap.size W W1) : kk.E d W1 (fun k => ok k ∧ k < W.heap.size) A n xs := ReadsRow.imp_ h hb (fun _ _ hp => Kd.FK_below (Kd.FK_bound hp) hb)
theorem kk.E.mono {α : Type} {d : Kd α} {W : World} {ok ok' : Nat → Prop} {A : Option Addr} {n : Nat} {xs : List α} (h : kk.E d W ok A n xs) (hk : ∀ k, ok k → ok' k) : kk.E d W ok' A n xs := ReadsRow.imp_ h (Below.refl _ _) (fun _ _ hp => Kd.FK_mono hp hk)
theorem kk.E.ofF {α : Type} {d : Kd α} {W : World} {ok : Nat → Prop} {A : Option Addr} {n : Nat} {xs : List α} (h : Kd.F d W ok A n xs) : kk.E d W ok A n xs := Kd.F_rows h
theorem kk.E.ofN {α : Type} {d : Kd α} {e : Nat} {W : World} {base : Nat} {ok : Nat → Prop} {A : Option Addr} {n c : Nat} {xs : List α} (h : Kd.N d e W base ok (.slice A n c) xs) : kk.E d W (fun k => ok k ∧ some k ≠ (Value.slice A n c).ownBlock) A xs.length xs := by
  obtain ⟨_, rows, hl, hR, hf⟩ := h
  obtain ⟨hn, _, hC⟩ := Kd.R_reads' hR
  obtain ⟨h1, h2, h3⟩ := hC
  refine ⟨rfl, by omega, fun hp => ?_⟩
  obtain ⟨ad, hA, hc⟩ := h3 (by omega)
  refine ⟨ad, hA, fun j x hx => ?_⟩
  have hj : j < xs.length := (List.getElem?_eq_some_iff.1 hx).1
  obtain ⟨c', hs, ⟨rfl, _, _⟩, hcell⟩ := hc j (rows[j]'(by omega)) (List.getElem?_eq_getElem (by omega))
  exact ⟨_, hs, hf j x _ hx (List.getElem?_eq_getElem (by omega)), hcell⟩
theorem kk.N_append_rows {α : Type} {P : Program} {ops : Array Oper} {rest : List Oper} {o : Oper} {a : Act} {Q : Exit → Act → World → Prop} (d : Kd α) {w0 W : World} (base : Nat) (hgd : o.guard = none) (s x : Operand) (t e : TypeId) (z : Value) (bytes : Nat)
    (ho : o.op = .call { callee := .builtin .append, args := #[s, x], argTypes := #[t, t] })
    (ht : P.underlying t = some (.slice e)) (hinfo : (P.info? e).map (fun i => (i.zero, i.size, i.bytes)) = some (some z, d.sz, bytes)) (hz : z.cells.size = d.sz) (hs0 : 0 < d.sz) (hb0 : 0 < bytes)
    (v : Value) (xs ys : List α) (A : Option Addr) (m c : Nat) (ok okp : Nat → Prop) (hs : a.eval s = v) (hx : a.eval x = .slice A m c)
    (HO : Kd.N d e W base ok v xs) (HR : kk.E d W okp A m ys) (hokp : ∀ k, okp k → ok k ∧ some k ≠ v.ownBlock) (hfresh : ∀ k, W.heap.size ≤ k → ok k)
    (HB : Below base w0 W) (hbase : base ≤ W.heap.size) (hl : (xs.length + m) * bytes ≤ 140737488355328)
    (h : ∀ v1 w1, Kd.N d e w1 base ok v1 (xs ++ ys) → Below base w0 w1 → W.grownBy w1 v.ownBlock → (v1.ownBlock = v.ownBlock ∨ ∃ b, v1.ownBlock = some b ∧ W.heap.size ≤ b) → wpList P ops Q rest (a.put o.dst v1) w1) :
    wpList P ops Q (o :: rest) a W := by
  obtain ⟨h0, rows, hlr, hR, hf⟩ := HO
  obtain ⟨news, hnl, hnr, hnf⟩ := Kd.reads_raw HR (fun y c hk => ⟨d.K_len (Kd.FK_now hk), d.K_one (Kd.FK_now hk)⟩)
  refine Kd.R_append_rows (Kd.raw d.sz) base hgd s x t e z bytes ho ht hinfo hz hs0 hb0 v rows news A m c (fun _ => True) (fun _ => False) hs hx (Kd.raw_any hR) hnr (fun _ _ hk => hk) (fun _ hk => hk.elim) (fun _ _ => trivial) HB hbase (by rw [hlr]; exact hl) ?_
  intro v1 w1 hr hb hg hat
  exact h v1 w1 (Kd.N_appended h0 hlr hf hnl hnf hokp hfresh hr hg hat) hb hg hat
theorem kk.openB {W : World} {base sz e : Nat} {ok : Nat → Prop} {v : Value} {xs : List (List Value)} (h : Kd.R (Kd.raw sz) e W base ok v xs) {g : Nat} (hg : v.ownBlock = some g) :
    ∃ cap cur, v = .slice (some ⟨g, 0, none⟩) xs.length cap ∧ base ≤ g ∧ xs.length ≤ cap ∧ W.heap[g]? = some (.cells cur e (0, 0)) ∧ cur.size = cap * sz := by
  obtain ⟨_, inner, ⟨hl, hn | ⟨g', cap, cur, hv, hb, hh, h1, h2, h3, h4⟩⟩, hr⟩ := h
  · rw [hn.1] at hg
    simp [Value.ownBlock] at hg
  · subst hv
    have : g' = g := by simpa [Value.ownBlock] using hg
    subst this
    exact ⟨cap, cur, rfl, hb, h1, hh, h3⟩
/-- An own row, opened: its block, and so many cells. -/
theorem kk.openN {α : Type} {d : Kd α} {W : World} {base e : Nat} {ok : Nat → Prop} {v : Value} {xs : List α} (h : Kd.N d e W base ok v xs) {g : Nat} (hg : v.ownBlock = some g) :
    ∃ cap, v = .slice (some ⟨g, 0, none⟩) xs.length cap ∧ base ≤ g ∧ g < W.heap.size ∧ xs.length ≤ cap ∧ kk.Blk W g e (cap * d.sz) := by
  obtain ⟨_, rows, hl, hR, _⟩ := h
  obtain ⟨cap, cur, hv, hb, h1, hh, hs⟩ := kk.openB hR hg
  rw [hl] at hv h1
  exact ⟨cap, hv, hb, blk_lt hh, h1, cur, hh, hs⟩
/-- An own row, opened where it has elements; g is a block of its own in any case. -/
theorem kk.openZ {α : Type} {d : Kd α} {W : World} {base e : Nat} {ok : Nat → Prop} {v : Value} {xs : List α} (h : Kd.N d e W base ok v xs) :
    ∃ A g cap, v = .slice A xs.length cap ∧ base ≤ g ∧ xs.length ≤ cap ∧ (0 < xs.length → A = some ⟨g, 0, none⟩ ∧ kk.Blk W g e (cap * d.sz)) := by
  rcases Kd.N_base2 h with hn | ⟨g, hg, hb⟩
  · obtain ⟨A, c, rfl⟩ := Kd.N_slice h
    obtain ⟨_, hc, hC⟩ := Kd.N_reads' h
    refine ⟨A, base, c, rfl, Nat.le_refl _, hc, fun hp => ?_⟩
    obtain ⟨g, cap, hv, _⟩ := Kd.N_form h hp
    rw [hv] at hn
    simp [Value.ownBlock] at hn
  · obtain ⟨cap, rfl, h1, _, h2, h3⟩ := kk.openN h hg
    exact ⟨_, g, cap, rfl, h1, h2, fun _ => ⟨rfl, h3⟩⟩
/-- A row of rows that are read, with the blocks that these rows' elements lead to. -/
def kk.EE {α : Type} (d : Kd α) (W : World) (ok : Nat → Prop) (A : Option Addr) (ll : List (List α)) : Prop := ReadsRow (fun (x : List α) c => ∃ A1 c1, c = [Value.slice A1 x.length c1] ∧ kk.E d W ok A1 x.length x) 1 W A ll.length ll
theorem kk.EE.get {α : Type} {d : Kd α} {w W : World} {ok : Nat → Prop} {ad : Addr} {ll : List (List α)} (h : kk.EE d w ok (some ad) ll) (hb : Below w.heap.size w W) {i : Int} (h0 : 0 ≤ i) (h1 : i < (ll.length : Int)) {A1 : Option Addr} {n c : Nat} (hx : W.cell? (ad.add i.toNat) = some (.slice A1 n c)) :
    kk.E d W (fun k => ok k ∧ k < w.heap.size) A1 (ll.getD i.toNat []).length (ll.getD i.toNat []) := by
  have h' : ReadsRow (fun (x : List α) c => ∃ A1 c1, c = [Value.slice A1 x.length c1] ∧ kk.E d W (fun k => ok k ∧ k < w.heap.size) A1 x.length x) 1 W (some ad) ll.length ll :=
    ReadsRow.imp_ h hb (fun _ _ ⟨A1, c1, e1, hE⟩ => ⟨A1, c1, e1, kk.E.old hE hb⟩)
  obtain ⟨_, _, h3⟩ := h'
  have hi : i.toNat < ll.length := by omega
  obtain ⟨ad', hA, hc⟩ := h3 (by omega)
  cases hA
  obtain ⟨c', hs, ⟨A2, c2, rfl, hE⟩, hcell⟩ := hc i.toNat (ll[i.toNat]'hi) (List.getElem?_eq_getElem hi)
  have h4 := hcell 0 _ rfl
  rw [Nat.mul_one, Nat.add_zero, hx] at h4
  have h5 := Option.some.inj h4
  injection h5 with e1 e2 e3
  subst e1
  rw [List.getD_eq_getElem?_getD, List.getElem?_eq_getElem hi]
  exact hE
theorem kk.Blk.far {W : World} {g t N : Nat} (h : kk.Blk W g t N) {p : Addr} (hne : g ≠ p.block) (u : Value) : kk.Blk (W.setCell p u) g t N := by
  obtain ⟨cur, hc, hs⟩ := h
  exact ⟨cur, blk_far hc hne u, hs⟩
/-- What is read as a row, as cells one behind the other. -/
theorem kk.olds {α : Type} {d : Kd α} {W : World} {ok : Nat → Prop} {A : Option Addr} {l : List α} (hr : kk.E d W ok A l.length l) (hs : 0 < d.sz) :
    ∃ olds : List Value, olds.length = l.length * d.sz ∧ (∀ b, A = some b → ∀ j u, olds[j]? = some u → W.cell? (b.add j) = some u) ∧ (A = none → l.length = 0) ∧ (∀ (j : Nat) (x : α), l[j]? = some x → Kd.FK d W ok x ((olds.drop (j * d.sz)).take d.sz)) ∧ ∀ u ∈ olds, u.oneCell' = true := by
  have hr' : ReadsRow (fun x c => Kd.FK d W ok x c) d.sz W A l.length l := hr
  clear hr
  rcases Nat.eq_zero_or_pos l.length with h0 | hp
  · have : l = [] := List.eq_nil_of_length_eq_zero h0
    subst this
    exact ⟨[], by simp, fun b _ j u hu => by simp at hu, fun _ => rfl, fun j x hx => by simp at hx, fun u hu => by simp at hu⟩
  · obtain ⟨ad, rfl, _⟩ := hr'.2.2 hp
    obtain ⟨inner, hi, hc⟩ := ReadsRow.inner_ hr'
    refine ⟨inner, hi.1, fun b e j u hu => (by cases e; exact hc j u hu), (fun e => by cases e), hi.2, fun u hu => ?_⟩
    obtain ⟨j, hj, rfl⟩ := List.getElem_of_mem hu
    have hq : j / d.sz < l.length := Nat.div_lt_of_lt_mul (by rw [Nat.mul_comm, ← hi.1]; exact hj)
    have hk := hi.2 (j / d.sz) _ (List.getElem?_eq_getElem hq)
    refine d.K_one (Kd.FK_now hk) _ (List.mem_iff_getElem?.2 ⟨j % d.sz, ?_⟩)
    rw [List.getElem?_take, if_pos (Nat.mod_lt _ hs), List.getElem?_drop, Nat.mul_comm, Nat.div_add_mod, List.getElem?_eq_getElem hj]
theorem kk.E.grown {α : Type} {d : Kd α} {W W1 : World} {ok : Nat → Prop} {A : Option Addr} {n : Nat} {xs : List α} (h : kk.E d W ok A n xs) (hg : W.grownBy W1 none) : kk.E d W1 ok A n xs :=
  kk.E.below h ((Below.refl W.heap.size W).grown hg (Nat.le_refl _) (fun k hk => by cases hk))
theorem kk.elem29 {W : World} {ok : Nat → Prop} {A : Option Addr} {l : List S29} (h : kk.E k29 W ok A l.length l) (i : Int) (h0 : 0 ≤ i) (h1 : i < l.length) :
    ∃ ad A1 c1, A = some ad ∧ W.cell? (ad.add (i.toNat * 2)) = some (.int .u32 (rd_T29 l i).f0) ∧ W.cell? ⟨(ad.add (i.toNat * 2)).block, (ad.add (i.toNat * 2)).off + 1, none⟩ = some (.slice A1 (rd_T29 l i).f1.length c1) ∧ (rd_T29 l i).f1.length ≤ c1 ∧ Kd.F (Kd.int .u32) W ok A1 (rd_T29 l i).f1.length (rd_T29 l i).f1 := by
  have hC : Kd.C k29 W A l.length l := ReadsRow.imp_ h (Below.refl _ _) (fun _ _ hp => Kd.FK_now hp)
  obtain ⟨ad, A1, c1, hA, hx0, hx1, hl, hi⟩ := at_T29 hC i h0 h1
  cases hA
  obtain ⟨_, _, h3⟩ := h
  have hi : i.toNat < l.length := by omega
  obtain ⟨ad', hA, hc⟩ := h3 (by omega)
  cases hA
  obtain ⟨cs, hcl, hM, hcc⟩ := hc i.toNat (l[i.toNat]'hi) (List.getElem?_eq_getElem hi)
  rw [show l[i.toNat]'hi = rd_T29 l i from (by unfold rd_T29; rw [List.getD_eq_getElem?_getD, List.getElem?_eq_getElem hi]; rfl)] at hM
  obtain ⟨ua, uc, rfl, ul, ge⟩ := k29_openF hM
  have hv := hcc 1 _ rfl
  have hv2 : W.cell? ⟨(ad.add (i.toNat * 2)).block, (ad.add (i.toNat * 2)).off + 1, none⟩ = some (.slice ua (rd_T29 l i).f1.length uc) := by
    rw [show k29.sz = 2 from rfl, add_field _ _ 1 (by omega)] at hv
    exact hv
  have e := Option.some.inj (hv2.symm.trans hx1)
  injection e with e1 _ e3
  subst e1
  subst e3
  exact ⟨ad, ua, uc, rfl, hx0, hx1, ul, ge⟩
theorem kk.ownE {α : Type} {d : Kd α} {w W3 W4 : World} {g t : Nat} {l : List α} {olds rest : List Value} (hb3 : Below w.heap.size w W3) (hb4 : Below w.heap.size w W4) (hq : W4.heap[g]? = some (.cells (olds ++ rest).toArray t (0, 0))) (ho : olds.length = l.length * d.sz)
    (hf : ∀ (j : Nat) (x : α), l[j]? = some x → Kd.FK d W3 (fun k => k < w.heap.size) x ((olds.drop (j * d.sz)).take d.sz)) (hn : l.length ≤ 9223372036854775807) : kk.E d W4 (fun k => k < w.heap.size) (some ⟨g, 0, none⟩) l.length l := by
  refine ⟨rfl, hn, fun _ => ⟨⟨g, 0, none⟩, rfl, fun j x hx => ?_⟩⟩
  have hj : j < l.length := (List.getElem?_eq_some_iff.1 hx).1
  have hlt : j * d.sz + d.sz ≤ l.length * d.sz := by rw [← Nat.succ_mul]; exact Nat.mul_le_mul_right _ hj
  refine ⟨(olds.drop (j * d.sz)).take d.sz, by rw [List.length_take, List.length_drop, ho]; omega, Kd.FK_step (hf j x hx) (fun k hk _ => (hb4.block k hk).trans (hb3.block k hk).symm), fun i u hu => ?_⟩
  have hi : i < d.sz := by have := (List.getElem?_eq_some_iff.1 hu).1; rw [List.length_take] at this; omega
  rw [List.getElem?_take, if_pos hi, List.getElem?_drop] at hu
  have hlt := (List.getElem?_eq_some_iff.1 hu).1
  rw [show (⟨g, 0, none⟩ : Addr).add (j * d.sz + i) = ⟨g, j * d.sz + i, none⟩ from nrow.add0 _ _, blk_cell hq, List.getElem?_toArray, List.getElem?_append_left hlt]
  exact hu
set_option maxHeartbeats 8000000 in
set_option maxRecDepth 100000 in
theorem net_with.new (a0_0 : Int) (P0_1_ Q0_ : Nat → Prop) (A0_1 : Option Addr) (c0_1 : Nat) (l0_1 : List (S29)) (P0_2_ : Nat → Prop) (A0_2 : Option Addr) (c0_2 : Nat) (l0_2 : List (List Int)) (a1_0 : Int) (P1_1_ : Nat → Prop) (A1_1 : Option Addr) (c1_1 : Nat) (l1_1 : List Int) (r1 : Int) (r2 : List (S29)) (r3 : List (List Int)) (w : World) (hs0_1 : Kd.V k29 29 w w.heap.size (fun k_ => P0_1_ k_) (.slice A0_1 l0_1.length c0_1) l0_1) (hs0_2 : Kd.V (Kd.slice 26 (Kd.int .u32)) 27 w w.heap.size (fun k_ => P0_2_ k_) (.slice A0_2 l0_2.length c0_2) l0_2) (hs1_1 : Kd.V (Kd.int .u32) 26 w w.heap.size (fun k_ => P1_1_ k_) (.slice A1_1 l1_1.length c1_1) l1_1) (hE : kk.E k29 w (fun k_ => Q0_ k_) A0_1 l0_1.length l0_1) (h : net_with.f a0_0 l0_1 l0_2 a1_0 l1_1 = some (r1, r2, r3)) :
    Calls Try.prog 22 #[.agg #[.int .i64 a0_0, .slice A0_1 l0_1.length c0_1, .slice A0_2 l0_2.length c0_2], .agg #[.int .u32 a1_0, .slice A1_1 l1_1.length c1_1]] w fun e w' => ∃ v1_ v2_ : Value, e = .returned (.agg #[.int .i64 r1, v1_, v2_]) ∧ Kd.V k29 29 w' w.heap.size (fun k_ => ((Q0_ k_ ∨ P0_2_ k_ ∨ P1_1_ k_) ∨ w.heap.size ≤ k_)) v1_ r2 ∧ Kd.V (Kd.slice 26 (Kd.int .u32)) 27 w' w.heap.size (fun k_ => ((Q0_ k_ ∨ P0_2_ k_ ∨ P1_1_ k_) ∨ w.heap.size ≤ k_)) v2_ r3 ∧ Below w.heap.size w w' := by
  unfold net_with.f at h
  by_cases hm : l0_1.length < 1000000
  rotate_left
  · rw [if_neg hm] at h; cases h
  rw [if_pos hm] at h
  simp only [Option.some.injEq, Prod.mk.injEq] at h
  obtain ⟨rfl, rfl, rfl⟩ := h
  obtain ⟨_, hc1, F1⟩ := Kd.V_at hs0_1
  obtain ⟨_, hc2, F2⟩ := Kd.V_at hs0_2
  obtain ⟨_, hc3, F3⟩ := Kd.V_at hs1_1
  have HE := Aside0.mk hE
  clear hE
  have HM := Aside0.mk hm
  have HL := Aside0.mk (show ∀ W : World, (Instr.slice 22 (.slice A0_1 l0_1.length c0_1) none (some (.int .i64 l0_1.length)) (some (.int .i64 l0_1.length))).run Try.prog W = .ok (.slice A0_1 l0_1.length l0_1.length) W from nwith.cut A0_1 l0_1.length c0_1 hc1)
  obtain ⟨Wn, hWn⟩ : ∃ Wn : World, Wn = ((w.alloc (.cells #[.int .i64 a0_0, .slice A0_1 l0_1.length c0_1, .slice A0_2 l0_2.length c0_2] 25)).alloc (.cells #[.int .u32 a1_0, .slice A1_1 l1_1.length c1_1] 29)).alloc (.cells #[.int .i64 0, .slice none 0 0, .slice none 0 0] 25) := ⟨_, rfl⟩
  clear hs0_1 hs0_2 hs1_1 hm
  go_enter Try.func22, Try.ntmps22
  go_wp2
  rw [← hWn]
  have sz : Wn.heap.size = w.heap.size + 1 + 1 + 1 := by rw [hWn]; simp
  have B1 : Wn.heap[w.heap.size]? = some (.cells #[.int .i64 a0_0, .slice A0_1 l0_1.length c0_1, .slice A0_2 l0_2.length c0_2] 25 (0, 0)) := by rw [hWn]; exact blk_alloc (blk_alloc (MapKept.heap_alloc _ _).1 _) _
  have B2 : Wn.heap[w.heap.size + 1]? = some (.cells #[.int .u32 a1_0, .slice A1_1 l1_1.length c1_1] 29 (0, 0)) := by rw [hWn]; refine blk_alloc ?_ _; have := (MapKept.heap_alloc (w.alloc (.cells #[.int .i64 a0_0, .slice A0_1 l0_1.length c0_1, .slice A0_2 l0_2.length c0_2] 25)) (.cells #[.int .u32 a1_0, .slice A1_1 l1_1.length c1_1] 29)).1; simpa using this
  have B3 : Wn.heap[w.heap.size + 1 + 1]? = some (.cells #[.int .i64 0, .slice none 0 0, .slice none 0 0] 25 (0, 0)) := by rw [hWn]; have := (MapKept.heap_alloc ((w.alloc (.cells #[.int .i64 a0_0, .slice A0_1 l0_1.length c0_1, .slice A0_2 l0_2.length c0_2] 25)).alloc (.cells #[.int .u32 a1_0, .slice A1_1 l1_1.length c1_1] 29)) (.cells #[.int .i64 0, .slice none 0 0, .slice none 0 0] 25)).1; simpa using this
  have hB : Below w.heap.size w Wn := by rw [hWn]; exact below_alloc (below_alloc (below_alloc (Below.refl _ _) _) _) _
  have HN := Aside0.mk hWn
  clear hWn
  refine start_ (n := 14) (S := fun w' => w'.cell? ⟨w.heap.size, 0, none⟩ = some (.int .i64 a0_0) ∧ w'.cell? ⟨w.heap.size, 1, none⟩ = some (.slice A0_1 l0_1.length c0_1) ∧ w'.cell? ⟨w.heap.size, 2, none⟩ = some (.slice A0_2 l0_2.length c0_2) ∧ w'.cell? ⟨w.heap.size + 1, 0, none⟩ = some (.int .u32 a1_0) ∧ w'.cell? ⟨w.heap.size + 1, 1, none⟩ = some (.slice A1_1 l1_1.length c1_1)) (ds := [13]) #[false, false, false, false, false, false, false, false, false, false, false, false, false, false] (by kernel_rfl) rfl rfl ⟨(blk_cell (blk_drew B1) 0).trans rfl, (blk_cell (blk_drew B1) 1).trans rfl, (blk_cell (blk_drew B1) 2).trans rfl, (blk_cell (blk_drew B2) 0).trans rfl, (blk_cell (blk_drew B2) 1).trans rfl⟩ (fun hHeld => ?_)
  refine pure_ (i := 0) (N := some 5) (v := ?_) (a' := ?_) #[true, false, false, false, false, false, false, false, false, false, false, false, false, false] rfl rfl (by kernel_rfl) (fun _ _ _ h => h) (Or.inl ⟨by rfl, ?_⟩) ?_ ?_
  rotate_left
  · intro w'
    go_simp
    with_reducible rfl
  rotate_left
  · simp only [Act.put, List.setIfInBounds_toArray, List.set_cons_zero, List.set_cons_succ, i64_w, i32_w]
    rfl
  refine take_ (i := 1) (N := some 6) (v := ?_) (a' := ?_) #[true, true, false, false, false, false, false, false, false, false, false, false, false, false] rfl rfl (by kernel_rfl) (fun _ _ _ h => h) (Or.inl ⟨by rfl, ?_⟩) hHeld ?_ ?_
  rotate_left
  · rintro w' ⟨s0, s1, s2, s3, s4⟩
    go_simp
    with_reducible rfl
  rotate_left
  · simp only [Act.put, List.setIfInBounds_toArray, List.set_cons_zero, List.set_cons_succ, i64_w, i32_w]
    rfl
  refine pure_ (i := 2) (N := some 7) (v := ?_) (a' := ?_) #[true, true, true, false, false, false, false, false, false, false, false, false, false, false] rfl rfl (by kernel_rfl) (fun _ _ _ h => h) (Or.inl ⟨by rfl, ?_⟩) ?_ ?_
  rotate_left
  · intro w'
    go_simp
    with_reducible rfl
  rotate_left
  · simp only [Act.put, List.setIfInBounds_toArray, List.set_cons_zero, List.set_cons_succ, i64_w, i32_w]
    rfl
  refine take_ (i := 3) (N := some 8) (v := ?_) (a' := ?_) #[true, true, true, true, false, false, false, false, false, false, false, false, false, false] rfl rfl (by kernel_rfl) (fun _ _ _ h => h) (Or.inl ⟨by rfl, ?_⟩) hHeld ?_ ?_
  rotate_left
  · rintro w' ⟨s0, s1, s2, s3, s4⟩
    go_simp
    with_reducible rfl
  rotate_left
  · simp only [Act.put, List.setIfInBounds_toArray, List.set_cons_zero, List.set_cons_succ, i64_w, i32_w]
    rfl
  refine pure_ (i := 4) (N := some 9) (v := ?_) (a' := ?_) #[true, true, true, true, true, false, false, false, false, false, false, false, false, false] rfl rfl (by kernel_rfl) (fun _ _ _ h => h) (Or.inl ⟨by rfl, ?_⟩) ?_ ?_
  rotate_left
  · intro w'
    go_simp
    with_reducible rfl
  rotate_left
  · simp only [Act.put, List.setIfInBounds_toArray, List.set_cons_zero, List.set_cons_succ, i64_w, i32_w]
    rfl
  refine pure_ (i := 5) (N := some 10) (v := ?_) (a' := ?_) #[true, true, true, true, true, true, false, false, false, false, false, false, false, false] rfl rfl (by kernel_rfl) (fun _ _ _ h => h) (Or.inl ⟨by rfl, ?_⟩) ?_ ?_
  rotate_left
  · intro w'
    go_simp
    with_reducible rfl
  rotate_left
  · simp only [Act.put, List.setIfInBounds_toArray, List.set_cons_zero, List.set_cons_succ, i64_w, i32_w]
    rfl
  refine take_ (i := 6) (N := some 11) (v := ?_) (a' := ?_) #[true, true, true, true, true, true, true, false, false, false, false, false, false, false] rfl rfl (by kernel_rfl) (fun _ _ _ h => h) (Or.inl ⟨by rfl, ?_⟩) hHeld ?_ ?_
  rotate_left
  · rintro w' ⟨s0, s1, s2, s3, s4⟩
    go_simp
    with_reducible rfl
  rotate_left
  · simp only [Act.put, List.setIfInBounds_toArray, List.set_cons_zero, List.set_cons_succ, i64_w, i32_w]
    rfl
  refine pure_ (i := 7) (N := some 12) (v := ?_) (a' := ?_) #[true, true, true, true, true, true, true, true, false, false, false, false, false, false] rfl rfl (by kernel_rfl) (fun _ _ _ h => h) (Or.inl ⟨by rfl, ?_⟩) ?_ ?_
  rotate_left
  · intro w'
    go_simp
    with_reducible rfl
  rotate_left
  · simp only [Act.put, List.setIfInBounds_toArray, List.set_cons_zero, List.set_cons_succ, i64_w, i32_w]
    rfl
  refine pure_ (i := 8) (N := some 13) (v := ?_) (a' := ?_) #[true, true, true, true, true, true, true, true, true, false, false, false, false, false] rfl rfl (by kernel_rfl) (fun _ _ _ h => h) (Or.inl ⟨by rfl, ?_⟩) ?_ ?_
  rotate_left
  · intro w'
    have e_ := HL.out w'
    go_simp
    with_reducible rfl
  rotate_left
  · simp only [Act.put, List.setIfInBounds_toArray, List.set_cons_zero, List.set_cons_succ, i64_w, i32_w]
    rfl
  refine take_ (i := 9) (N := some 14) (v := ?_) (a' := ?_) #[true, true, true, true, true, true, true, true, true, true, false, false, false, false] rfl rfl (by kernel_rfl) (fun _ _ _ h => h) (Or.inl ⟨by rfl, ?_⟩) hHeld ?_ ?_
  rotate_left
  · rintro w' ⟨s0, s1, s2, s3, s4⟩
    go_simp
    with_reducible rfl
  rotate_left
  · simp only [Act.put, List.setIfInBounds_toArray, List.set_cons_zero, List.set_cons_succ, i64_w, i32_w]
    rfl
  refine one_ (i := 10) (N := some 15) #[true, true, true, true, true, true, true, true, true, true, true, false, false, false] rfl rfl (by kernel_rfl) (by decide) (fun K hK => ?_)
  obtain ⟨Wd, hWd⟩ : ∃ Wd : World, Wd = Wn.drew := ⟨_, rfl⟩
  have hBd : Below Wn.heap.size Wn Wd := by rw [hWd]; exact below_drew (Below.refl _ _)
  rw [← hWd] at hHeld ⊢
  clear hWd
  have hsd : w.heap.size + 1 + 1 + 1 ≤ Wd.heap.size := by have := hBd.size; omega
  have C1 := blk_below B1 hBd
  have C2 := blk_below B2 hBd
  have C3 := blk_below B3 hBd
  have hBd2 : Below w.heap.size w Wd := hB.trans (hBd.mono (by omega))
  have G1 := kk.E.mono (ok' := fun k => (Q0_ k ∨ P0_2_ k ∨ P1_1_ k) ∧ k < w.heap.size ∨ w.heap.size + 1 + 1 + 1 ≤ k) (kk.E.old HE.out hBd2) (fun k hk => .inl ⟨.inl hk.1, hk.2⟩)
  have G2 := Kd.F_mono (ok' := fun k => (Q0_ k ∨ P0_2_ k ∨ P1_1_ k) ∧ k < w.heap.size ∨ w.heap.size + 1 + 1 + 1 ≤ k) (Kd.F_below (Kd.F_bound F2) hBd2) (fun k hk => .inl ⟨.inr (.inl hk.1), hk.2⟩)
  have G3 := Kd.F_mono (ok' := fun k => (Q0_ k ∨ P0_2_ k ∨ P1_1_ k) ∧ k < w.heap.size ∨ w.heap.size + 1 + 1 + 1 ≤ k) (Kd.F_below (Kd.F_bound F3) hBd2) (fun k hk => .inl ⟨.inr (.inr hk.1), hk.2⟩)
  have FE := k29_mkF Wd _ (⟨a1_0, l1_1⟩ : S29) hc3 G3
  clear B1 B2 B3 hBd hB HN sz F1 F2 F3 G3 hHeld
  refine Kd.N_lit_step k29 (w0 := w) w.heap.size 29 ?hg (N' := 15) ?hd (xs := [(⟨a1_0, l1_1⟩ : S29)]) (inner := [.int .u32 a1_0, .slice A1_1 l1_1.length c1_1]) (ok := fun k => (Q0_ k ∨ P0_2_ k ∨ P1_1_ k) ∧ k < w.heap.size ∨ w.heap.size + 1 + 1 + 1 ≤ k) (okp := fun k => (Q0_ k ∨ P0_2_ k ∨ P1_1_ k) ∧ k < w.heap.size ∨ w.heap.size + 1 + 1 + 1 ≤ k) ?hr ?hp (fun _ hk => hk) (.inr hsd) hBd2 (by omega) (by simp) ?_
  case hd => rfl
  case hg => rfl
  case hr => first | (go_simp; done) | (go_simp; rfl)
  case hp => exact (Reps.none (Kd.FK k29 Wd _) 2).snoc FE rfl
  intro vE W1 hoE hB1 hg1 _
  obtain ⟨AE, cE, hvE⟩ := Kd.N_slice hoE
  subst hvE
  obtain ⟨gE, capE, hvE, _⟩ := Kd.N_form hoE (by simp)
  injection hvE with hAE _ _
  subst hAE
  obtain ⟨cs, hcl, hFK, hcc⟩ := Kd.N_get hoE (⟨0, []⟩ : S29) 0 (by omega) (by simp)
  have D1 := blk_grown C1 hg1 (by simp)
  have D2 := blk_grown C2 hg1 (by simp)
  have D3 := blk_grown C3 hg1 (by simp)
  have hs1 : w.heap.size + 1 + 1 + 1 ≤ W1.heap.size := by have := hg1.size; omega
  have H1 := kk.E.grown G1 hg1
  have H2 := Kd.F_grown G2 hg1 (fun k _ => by simp)
  clear C1 C2 C3 G1 G2 hg1 hsd FE hBd2
  refine hK.out _ _ ⟨(blk_cell D1 0).trans rfl, (blk_cell D1 1).trans rfl, (blk_cell D1 2).trans rfl, (blk_cell D2 0).trans rfl, (blk_cell D2 1).trans rfl⟩ (fun hHeld => ?_)
  clear hK K
  refine norm_ (a' := ?_) ?_ ?_
  rotate_left
  · show Act.put _ (some 15) _ = _
    simp only [Act.put, List.setIfInBounds_toArray, List.set_cons_zero, List.set_cons_succ, i64_w, i32_w]
    rfl
  obtain ⟨i0, hi, hz0, hz1, hz2⟩ := info_parts info29
  obtain ⟨olds, ho1, ho2, ho3, ho4, _⟩ := kk.olds H1 (by decide)
  refine one_ (i := 11) (N := some 16) #[true, true, true, true, true, true, true, true, true, true, true, true, false, false] rfl rfl (by kernel_rfl) (by decide) (fun K hK => ?_)
  have Hhi := Aside0.mk hi
  have Hz0 := Aside0.mk hz0
  have Hz1 := Aside0.mk hz1
  have Hz2 := Aside0.mk hz2
  have Ho1 := Aside0.mk ho1
  have Ho2 := Aside0.mk ho2
  have Hcc := Aside0.mk hcc
  have Hcl := Aside0.mk hcl
  clear hi hz0 hz1 hz2 ho1 ho2 hcc hcl
  refine step_append_grows (by rfl) (.tmp 13) (.tmp 15) 22 (by rfl) 29 i0 (.agg #[(.int .u32 0), (.slice none 0 0)]) 2 32 Try.underlying22 Hhi.out Hz0.out Hz1.out Hz2.out (by rfl) (by decide) A0_1 l0_1.length l0_1.length olds (by rfl) (fun h => ⟨ho3 h, ho3 h⟩) Ho1.out Ho2.out ⟨gE, 0, none⟩ 1 cE cs (by rfl) (by rw [Hcl.out]; rfl) (fun j u hu => by have := Hcc.out j u hu; simpa using this) (fun u hu => k29.K_one (Kd.FK_now hFK) u hu) (by omega) (by have := HM.out; unfold maxLen; omega) (by have := HM.out; omega) ?_
  intro vA W2 hoA hg2
  have E1 := blk_grown D1 hg2 (by simp)
  have E2 := blk_grown D2 hg2 (by simp)
  have E3 := blk_grown D3 hg2 (by simp)
  have hVA : Kd.V k29 29 W2 0 (fun k => (Q0_ k ∨ P0_2_ k ∨ P1_1_ k) ∧ k < w.heap.size ∨ w.heap.size + 1 + 1 + 1 ≤ k) vA (l0_1 ++ [(⟨a1_0, l1_1⟩ : S29)]) := nrow.V (by decide) hoA hg2 Ho1.out ho4 (by rw [Hcl.out]) (Kd.FK_mono hFK (fun k hk => hk.1)) (fun k hk => hk) (fun k hk => .inr (by omega)) HM.out
  have I2 := Kd.F_grown H2 hg2 (fun k _ => by simp)
  have hBw : Below w.heap.size w W2 := (hB1.grown hg2 hB1.size (fun k hk => by cases hk))
  clear D1 D2 D3 H1 H2 hg2 hoA
  obtain ⟨AA, cA, hvA⟩ := Kd.V_slice hVA
  rw [show (l0_1 ++ [(⟨a1_0, l1_1⟩ : S29)]).length = l0_1.length + 1 by simp] at hvA
  subst hvA
  refine hK.out _ _ ⟨(blk_cell E1 0).trans rfl, (blk_cell E1 1).trans rfl, (blk_cell E1 2).trans rfl, (blk_cell E2 0).trans rfl, (blk_cell E2 1).trans rfl⟩ (fun hHeld => ?_)
  clear hK K
  refine norm_ (a' := ?_) ?_ ?_
  rotate_left
  · show Act.put _ (some 16) _ = _
    simp only [Act.put, List.setIfInBounds_toArray, List.set_cons_zero, List.set_cons_succ, i64_w, i32_w]
    rfl
  refine pure_ (i := 12) (N := some 17) (v := ?_) (a' := ?_) #[true, true, true, true, true, true, true, true, true, true, true, true, true, false] rfl rfl (by kernel_rfl) (fun _ _ _ h => h) (Or.inl ⟨by rfl, ?_⟩) ?_ ?_
  rotate_left
  · intro w'
    go_simp
    with_reducible rfl
  rotate_left
  · simp only [Act.put, List.setIfInBounds_toArray, List.set_cons_zero, List.set_cons_succ, i64_w, i32_w]
    rfl
  refine last_ (i := 13) (N := none) #[true, true, true, true, true, true, true, true, true, true, true, true, true, true] rfl rfl (by kernel_rfl) (by decide) (fun K hK => ?_)
  have q1 : W2.cell? ⟨w.heap.size, 1, none⟩ = some (.slice A0_1 l0_1.length c0_1) := (blk_cell E1 1).trans rfl
  have z1 := blk_frozen E1 1
  refine skip_ (w1 := ?_) (by rfl) rfl ?_ ?_
  rotate_left
  · go_simp
    rfl
  refine hK.out _ _ ?_
  clear hK K
  refine done_ (by kernel_rfl) ?_
  have hgN : w.heap.size ≠ w.heap.size + 1 + 1 := by omega
  have J1 : (W2.setCell ⟨w.heap.size, 1, none⟩ (.slice AA (l0_1.length + 1) cA)).heap[w.heap.size]? = some (.cells #[.int .i64 a0_0, .slice AA (l0_1.length + 1) cA, .slice A0_2 l0_2.length c0_2] 25 (0, 0)) := blk_put E1 1 _ rfl
  have J3 : (W2.setCell ⟨w.heap.size, 1, none⟩ (.slice AA (l0_1.length + 1) cA)).heap[w.heap.size + 1 + 1]? = some (.cells #[.int .i64 0, .slice none 0 0, .slice none 0 0] 25 (0, 0)) := blk_far (p := ⟨w.heap.size, 1, none⟩) E3 (by show w.heap.size + 1 + 1 ≠ w.heap.size; omega) _
  have hB3 : Below w.heap.size w (W2.setCell ⟨w.heap.size, 1, none⟩ (.slice AA (l0_1.length + 1) cA)) := below_set hBw (Nat.le_refl _)
  have hne : ∀ k, ((Q0_ k ∨ P0_2_ k ∨ P1_1_ k) ∧ k < w.heap.size ∨ w.heap.size + 1 + 1 + 1 ≤ k) → k ≠ w.heap.size := fun k hk => by omega
  have hne3 : ∀ k, ((Q0_ k ∨ P0_2_ k ∨ P1_1_ k) ∧ k < w.heap.size ∨ w.heap.size + 1 + 1 + 1 ≤ k) → k ≠ w.heap.size + 1 + 1 := fun k hk => by omega
  have V1 := Kd.V_far (p := ⟨w.heap.size, 1, none⟩) hVA hne (.slice AA (l0_1.length + 1) cA)
  have V2 := Kd.V_far (p := ⟨w.heap.size, 1, none⟩) (Kd.V_mk (e := 27) (base := 0) hc2 I2) hne (.slice AA (l0_1.length + 1) cA)
  clear E1 E2 E3 I2 hVA q1 z1 hHeld hBw hne
  obtain ⟨W3, hW3⟩ : ∃ W3 : World, W3 = W2.setCell ⟨w.heap.size, 1, none⟩ (.slice AA (l0_1.length + 1) cA) := ⟨_, rfl⟩
  rw [← hW3] at J1 J3 hB3 V1 V2 ⊢
  clear hW3
  have k0 : W3.cell? ⟨w.heap.size, 0, none⟩ = some (.int .i64 a0_0) := (blk_cell J1 0).trans rfl
  have k1 : W3.cell? ⟨w.heap.size, 1, none⟩ = some (.slice AA (l0_1.length + 1) cA) := (blk_cell J1 1).trans rfl
  have k2 : W3.cell? ⟨w.heap.size, 2, none⟩ = some (.slice A0_2 l0_2.length c0_2) := (blk_cell J1 2).trans rfl
  have p0 : W3.cell? ⟨w.heap.size + 1 + 1, 0, none⟩ = some (.int .i64 0) := (blk_cell J3 0).trans rfl
  have p1 : W3.cell? ⟨w.heap.size + 1 + 1, 1, none⟩ = some (.slice none 0 0) := (blk_cell J3 1).trans rfl
  have p2 : W3.cell? ⟨w.heap.size + 1 + 1, 2, none⟩ = some (.slice none 0 0) := (blk_cell J3 2).trans rfl
  have g0 := blk_frozen J3 0
  have g1 := blk_frozen J3 1
  have g2 := blk_frozen J3 2
  go_wp2
  refine bodyPost_ret (nrow.res rfl _ _ (w.heap.size + 1 + 1) 25 #[.int .i64 a0_0, .slice AA (l0_1.length + 1) cA, .slice A0_2 l0_2.length c0_2] (0, 0) _ rfl (by refine blk_put (cs := #[.int .i64 a0_0, .slice AA (l0_1.length + 1) cA, .slice none 0 0]) ?_ 2 _ rfl; refine blk_put (cs := #[.int .i64 a0_0, .slice none 0 0, .slice none 0 0]) ?_ 1 _ rfl; exact blk_put J3 0 _ rfl) Try.underlying25 rfl (by kernel_rfl)) rfl ?_
  have hgg : w.heap.size ≤ w.heap.size + 1 + 1 := by omega
  exact ⟨_, _, rfl, Kd.V_mono (Kd.V_far (p := ⟨w.heap.size + 1 + 1, 2, none⟩) (Kd.V_far (p := ⟨w.heap.size + 1 + 1, 1, none⟩) (Kd.V_far (p := ⟨w.heap.size + 1 + 1, 0, none⟩) V1 hne3 _) hne3 _) hne3 _) (fun k hk => hk.elim (fun h => .inl h.1) (fun h => .inr (by omega))), Kd.V_mono (Kd.V_far (p := ⟨w.heap.size + 1 + 1, 2, none⟩) (Kd.V_far (p := ⟨w.heap.size + 1 + 1, 1, none⟩) (Kd.V_far (p := ⟨w.heap.size + 1 + 1, 0, none⟩) V2 hne3 _) hne3 _) hne3 _) (fun k hk => hk.elim (fun h => .inl h.1) (fun h => .inr (by omega))), below_set (below_set (below_set hB3 hgg) hgg) hgg⟩
set_option maxHeartbeats 8000000 in
set_option maxRecDepth 100000 in
theorem net_Send.new (a0_0 : Int) (P0_1_ Q0_ : Nat → Prop) (A0_1 : Option Addr) (c0_1 : Nat) (l0_1 : List (S29)) (P0_2_ : Nat → Prop) (A0_2 : Option Addr) (c0_2 : Nat) (l0_2 : List (List Int)) (a1_0 : Int) (P1_1_ : Nat → Prop) (A1_1 : Option Addr) (c1_1 : Nat) (l1_1 : List Int) (r1 : Int) (r2 : List (S29)) (r3 : List (List Int)) (r4 : Int) (w : World) (hs0_1 : Kd.V k29 29 w w.heap.size (fun k_ => P0_1_ k_) (.slice A0_1 l0_1.length c0_1) l0_1) (hs0_2 : Kd.V (Kd.slice 26 (Kd.int .u32)) 27 w w.heap.size (fun k_ => P0_2_ k_) (.slice A0_2 l0_2.length c0_2) l0_2) (hs1_1 : Kd.V (Kd.int .u32) 26 w w.heap.size (fun k_ => P1_1_ k_) (.slice A1_1 l1_1.length c1_1) l1_1) (hE : kk.E k29 w (fun k_ => Q0_ k_) A0_1 l0_1.length l0_1) (h : net_Send.f a0_0 l0_1 l0_2 a1_0 l1_1 = some (r1, r2, r3, r4)) :
    Calls Try.prog 12 #[.agg #[.int .i64 a0_0, .slice A0_1 l0_1.length c0_1, .slice A0_2 l0_2.length c0_2], .agg #[.int .u32 a1_0, .slice A1_1 l1_1.length c1_1]] w fun e w' => ∃ v1_ v2_ : Value, e = .returned (.tuple #[.agg #[.int .i64 r1, v1_, v2_], .int .i64 r4]) ∧ (∃ A_ c_, v1_ = .slice A_ r2.length c_) ∧ (∃ A_ c_, v2_ = .slice A_ r3.length c_) ∧ (r4 = 0 → Kd.V k29 29 w' w.heap.size (fun k_ => ((Q0_ k_ ∨ P0_2_ k_ ∨ P1_1_ k_) ∨ w.heap.size ≤ k_)) v1_ r2 ∧ Kd.V (Kd.slice 26 (Kd.int .u32)) 27 w' w.heap.size (fun k_ => ((Q0_ k_ ∨ P0_2_ k_ ∨ P1_1_ k_) ∨ w.heap.size ≤ k_)) v2_ r3) ∧ Below w.heap.size w w' := by
  unfold net_Send.f at h
  obtain ⟨W0, hW0⟩ : ∃ W0 : World, W0 = ((w.alloc (.cells #[.int .i64 a0_0, .slice A0_1 l0_1.length c0_1, .slice A0_2 l0_2.length c0_2] 25)).alloc (.cells #[.int .u32 a1_0, .slice A1_1 l1_1.length c1_1] 29)).alloc (.cells #[.int .i64 0, .slice none 0 0, .slice none 0 0] 25) := ⟨_, rfl⟩
  have B0 : W0.heap[w.heap.size]? = some (.cells #[.int .i64 a0_0, .slice A0_1 l0_1.length c0_1, .slice A0_2 l0_2.length c0_2] 25 (0, 0)) := by rw [hW0]; refine blk_alloc ?_ _; refine blk_alloc ?_ _; have := (MapKept.heap_alloc (w) (.cells #[.int .i64 a0_0, .slice A0_1 l0_1.length c0_1, .slice A0_2 l0_2.length c0_2] 25)).1; simpa using this
  have B1 : W0.heap[w.heap.size + 1]? = some (.cells #[.int .u32 a1_0, .slice A1_1 l1_1.length c1_1] 29 (0, 0)) := by rw [hW0]; refine blk_alloc ?_ _; have := (MapKept.heap_alloc ((w.alloc (.cells #[.int .i64 a0_0, .slice A0_1 l0_1.length c0_1, .slice A0_2 l0_2.length c0_2] 25))) (.cells #[.int .u32 a1_0, .slice A1_1 l1_1.length c1_1] 29)).1; simpa using this
  have B2 : W0.heap[w.heap.size + 1 + 1]? = some (.cells #[.int .i64 0, .slice none 0 0, .slice none 0 0] 25 (0, 0)) := by rw [hW0]; have := (MapKept.heap_alloc (((w.alloc (.cells #[.int .i64 a0_0, .slice A0_1 l0_1.length c0_1, .slice A0_2 l0_2.length c0_2] 25)).alloc (.cells #[.int .u32 a1_0, .slice A1_1 l1_1.length c1_1] 29))) (.cells #[.int .i64 0, .slice none 0 0, .slice none 0 0] 25)).1; simpa using this
  have hB0 : Below w.heap.size w W0 := by rw [hW0]; exact below_alloc (below_alloc (below_alloc (Below.refl _ _) _) _) _
  have hz0 : w.heap.size + 1 + 1 + 1 ≤ W0.heap.size := by rw [hW0]; simp
  have Hw0 := Aside0.mk hW0
  clear hW0
  have HE := Aside0.mk hE
  clear hE
  obtain ⟨_, hc1, F1⟩ := Kd.V_at hs0_1
  obtain ⟨_, hc2, F2⟩ := Kd.V_at hs0_2
  obtain ⟨_, hc3, F3⟩ := Kd.V_at hs1_1
  clear hs0_1 hs0_2 hs1_1
  obtain ⟨t, ht⟩ : ∃ t, t = wrap64 (a0_0 - (l0_1.length : Int)) := ⟨_, rfl⟩
  rw [← ht] at h
  have HT := Aside0.mk (show net_Free.f a0_0 l0_1 l0_2 = some t by rw [ht]; rfl)
  clear ht
  by_cases c3 : t < 1
  · rw [if_pos c3] at h
    simp only [Option.some.injEq, Prod.mk.injEq] at h
    obtain ⟨rfl, rfl, rfl, rfl⟩ := h
    have c3b : decide (t < 1) = true := decide_eq_true c3
    clear c3
    have c_0_0 : W0.cell? ⟨w.heap.size, 0, none⟩ = some (.int .i64 a0_0) := (blk_cell B0 0).trans rfl
    have c_0_1 : W0.cell? ⟨w.heap.size, 1, none⟩ = some (.slice A0_1 l0_1.length c0_1) := (blk_cell B0 1).trans rfl
    have c_0_2 : W0.cell? ⟨w.heap.size, 2, none⟩ = some (.slice A0_2 l0_2.length c0_2) := (blk_cell B0 2).trans rfl
    have z_0_0 := blk_frozen B0 0
    have z_0_1 := blk_frozen B0 1
    have z_0_2 := blk_frozen B0 2
    have c_1_0 : W0.cell? ⟨w.heap.size + 1, 0, none⟩ = some (.int .u32 a1_0) := (blk_cell B1 0).trans rfl
    have c_1_1 : W0.cell? ⟨w.heap.size + 1, 1, none⟩ = some (.slice A1_1 l1_1.length c1_1) := (blk_cell B1 1).trans rfl
    have z_1_0 := blk_frozen B1 0
    have z_1_1 := blk_frozen B1 1
    have c_2_0 : W0.cell? ⟨w.heap.size + 1 + 1, 0, none⟩ = some (.int .i64 0) := (blk_cell B2 0).trans rfl
    have c_2_1 : W0.cell? ⟨w.heap.size + 1 + 1, 1, none⟩ = some (.slice none 0 0) := (blk_cell B2 1).trans rfl
    have c_2_2 : W0.cell? ⟨w.heap.size + 1 + 1, 2, none⟩ = some (.slice none 0 0) := (blk_cell B2 2).trans rfl
    have z_2_0 := blk_frozen B2 0
    have z_2_1 := blk_frozen B2 1
    have z_2_2 := blk_frozen B2 2
    have lt_ : w.heap.size + 1 + 1 < W0.heap.size := by have := hz0; omega
    go_enter Try.func12, Try.ntmps12
    go_wp2_with fail
    rw [← Hw0.out]
    clear Hw0
    clear c_0_0 c_0_1 c_0_2 z_0_0 z_0_1 z_0_2 c_1_0 c_1_1 z_1_0 z_1_1 c_2_0 c_2_1 c_2_2 z_2_0 z_2_1 z_2_2 lt_
    refine (net_Free.calls a0_0 _ _ l0_1 _ _ l0_2 t _ (Kd.F_now (Kd.F_below F1 hB0)) hc1 (Kd.F_now (Kd.F_below F2 hB0)) hc2 HT.out).mono ?_
    rintro e W1 ⟨rfl, hb1⟩
    have B102 := blk_below B0 hb1
    have B103 := blk_below B1 hb1
    have B104 := blk_below B2 hb1
    have hB101 := hB0.trans (hb1.mono hB0.size)
    have hz101 : w.heap.size + 1 + 1 + 1 ≤ W1.heap.size := Nat.le_trans hz0 hb1.size
    clear B0 B1 B2 hB0 hz0
    clear hb1
    have V1 := Kd.V_mk (e := 29) (base := 0) hc1 (nrow.mv (R := fun k => P0_1_ k ∨ P0_2_ k ∨ P1_1_ k) (m := w.heap.size + 1 + 1 + 1) hB101 (fun k hk => .inl hk) F1)
    have V2 := Kd.V_mk (e := 27) (base := 0) hc2 (nrow.mv (R := fun k => P0_1_ k ∨ P0_2_ k ∨ P1_1_ k) (m := w.heap.size + 1 + 1 + 1) hB101 (fun k hk => .inr (.inl hk)) F2)
    have c_0_0 : W1.cell? ⟨w.heap.size, 0, none⟩ = some (.int .i64 a0_0) := (blk_cell B102 0).trans rfl
    have c_0_1 : W1.cell? ⟨w.heap.size, 1, none⟩ = some (.slice A0_1 l0_1.length c0_1) := (blk_cell B102 1).trans rfl
    have c_0_2 : W1.cell? ⟨w.heap.size, 2, none⟩ = some (.slice A0_2 l0_2.length c0_2) := (blk_cell B102 2).trans rfl
    have z_0_0 := blk_frozen B102 0
    have z_0_1 := blk_frozen B102 1
    have z_0_2 := blk_frozen B102 2
    have c_1_0 : W1.cell? ⟨w.heap.size + 1, 0, none⟩ = some (.int .u32 a1_0) := (blk_cell B103 0).trans rfl
    have c_1_1 : W1.cell? ⟨w.heap.size + 1, 1, none⟩ = some (.slice A1_1 l1_1.length c1_1) := (blk_cell B103 1).trans rfl
    have z_1_0 := blk_frozen B103 0
    have z_1_1 := blk_frozen B103 1
    have c_2_0 : W1.cell? ⟨w.heap.size + 1 + 1, 0, none⟩ = some (.int .i64 0) := (blk_cell B104 0).trans rfl
    have c_2_1 : W1.cell? ⟨w.heap.size + 1 + 1, 1, none⟩ = some (.slice none 0 0) := (blk_cell B104 1).trans rfl
    have c_2_2 : W1.cell? ⟨w.heap.size + 1 + 1, 2, none⟩ = some (.slice none 0 0) := (blk_cell B104 2).trans rfl
    have z_2_0 := blk_frozen B104 0
    have z_2_1 := blk_frozen B104 1
    have z_2_2 := blk_frozen B104 2
    have lt_ : w.heap.size + 1 + 1 < W1.heap.size := by have := hz101; omega
    go_wp2
    clear c_0_0 c_0_1 c_0_2 z_0_0 z_0_1 z_0_2 c_1_0 c_1_1 z_1_0 z_1_1 c_2_0 c_2_1 c_2_2 z_2_0 z_2_1 z_2_2 lt_
    have n105 : w.heap.size ≠ w.heap.size + 1 + 1 := by omega
    have n106 : w.heap.size + 1 ≠ w.heap.size + 1 + 1 := by omega
    have n107 : ∀ k, ((P0_1_ k ∨ P0_2_ k ∨ P1_1_ k) ∧ k < w.heap.size ∨ w.heap.size + 1 + 1 + 1 ≤ k) → k ≠ w.heap.size + 1 + 1 := fun k hk => by omega
    have n108 : w.heap.size ≤ w.heap.size + 1 + 1 := by omega
    have B110 := (blk_put (cs' := #[.int .i64 a0_0, .slice A0_1 l0_1.length c0_1, .slice A0_2 l0_2.length c0_2]) (blk_put (cs' := #[.int .i64 a0_0, .slice A0_1 l0_1.length c0_1, .slice none 0 0]) (blk_put (cs' := #[.int .i64 a0_0, .slice none 0 0, .slice none 0 0]) B104 0 (.int .i64 a0_0) rfl) 1 (.slice A0_1 l0_1.length c0_1) rfl) 2 (.slice A0_2 l0_2.length c0_2) rfl)
    have B111 := (blk_far (p := ⟨w.heap.size + 1 + 1, 2, none⟩) (blk_far (p := ⟨w.heap.size + 1 + 1, 1, none⟩) (blk_far (p := ⟨w.heap.size + 1 + 1, 0, none⟩) B102 n105 (.int .i64 a0_0)) n105 (.slice A0_1 l0_1.length c0_1)) n105 (.slice A0_2 l0_2.length c0_2))
    have B112 := (blk_far (p := ⟨w.heap.size + 1 + 1, 2, none⟩) (blk_far (p := ⟨w.heap.size + 1 + 1, 1, none⟩) (blk_far (p := ⟨w.heap.size + 1 + 1, 0, none⟩) B103 n106 (.int .i64 a0_0)) n106 (.slice A0_1 l0_1.length c0_1)) n106 (.slice A0_2 l0_2.length c0_2))
    have V113 := (Kd.V_far (p := ⟨w.heap.size + 1 + 1, 2, none⟩) (Kd.V_far (p := ⟨w.heap.size + 1 + 1, 1, none⟩) (Kd.V_far (p := ⟨w.heap.size + 1 + 1, 0, none⟩) V1 n107 (.int .i64 a0_0)) n107 (.slice A0_1 l0_1.length c0_1)) n107 (.slice A0_2 l0_2.length c0_2))
    have V114 := (Kd.V_far (p := ⟨w.heap.size + 1 + 1, 2, none⟩) (Kd.V_far (p := ⟨w.heap.size + 1 + 1, 1, none⟩) (Kd.V_far (p := ⟨w.heap.size + 1 + 1, 0, none⟩) V2 n107 (.int .i64 a0_0)) n107 (.slice A0_1 l0_1.length c0_1)) n107 (.slice A0_2 l0_2.length c0_2))
    have hB115 := (below_set (g := w.heap.size + 1 + 1) (j := 2) (v := .slice A0_2 l0_2.length c0_2) (below_set (g := w.heap.size + 1 + 1) (j := 1) (v := .slice A0_1 l0_1.length c0_1) (below_set (g := w.heap.size + 1 + 1) (j := 0) (v := .int .i64 a0_0) hB101 n108) n108) n108)
    have hz116 : w.heap.size + 1 + 1 + 1 ≤ (((W1.setCell ⟨w.heap.size + 1 + 1, 0, none⟩ (.int .i64 a0_0)).setCell ⟨w.heap.size + 1 + 1, 1, none⟩ (.slice A0_1 l0_1.length c0_1)).setCell ⟨w.heap.size + 1 + 1, 2, none⟩ (.slice A0_2 l0_2.length c0_2)).heap.size := by simpa [World.setCell] using hz101
    clear B102 B103 B104 V1 V2 hB101 hz101 n105 n106 n107 n108
    obtain ⟨W109, hW109⟩ : ∃ W_ : World, W_ = (((W1.setCell ⟨w.heap.size + 1 + 1, 0, none⟩ (.int .i64 a0_0)).setCell ⟨w.heap.size + 1 + 1, 1, none⟩ (.slice A0_1 l0_1.length c0_1)).setCell ⟨w.heap.size + 1 + 1, 2, none⟩ (.slice A0_2 l0_2.length c0_2)) := ⟨_, rfl⟩
    rw [← hW109] at B110 B111 B112 V113 V114 hB115 hz116 ⊢
    clear hW109
    refine bodyPost_ret (results_ct rfl _ _ (w.heap.size + 1 + 1) 25 #[.int .i64 a0_0, .slice A0_1 l0_1.length c0_1, .slice A0_2 l0_2.length c0_2] (0, 0) _ rfl B110 Try.underlying25 rfl (by kernel_rfl)) rfl ?_
    exact ⟨_, _, rfl, (by obtain ⟨A_, c_, e_⟩ := Kd.V_slice V113; exact ⟨A_, c_, e_⟩), (by obtain ⟨A_, c_, e_⟩ := Kd.V_slice V114; exact ⟨A_, c_, e_⟩), fun h0_ => absurd h0_ (by decide), hB115⟩
  rw [if_neg c3] at h
  have c3b : decide (t < 1) = false := decide_eq_false c3
  clear c3
  by_cases hm : l0_1.length < 1000000
  rotate_left
  · rw [if_neg hm] at h; cases h
  rw [if_pos hm] at h
  by_cases hm2 : l0_2.length < 1000000
  rotate_left
  · rw [if_neg hm2] at h; cases h
  rw [if_pos hm2] at h
  simp only [Option.some.injEq, Prod.mk.injEq] at h
  obtain ⟨rfl, rfl, rfl, rfl⟩ := h
  have HW := Aside0.mk (show net_with.f a0_0 l0_1 l0_2 a1_0 l1_1 = some (a0_0, l0_1 ++ [(⟨a1_0, l1_1⟩ : S29)], l0_2) by unfold net_with.f; rw [if_pos hm])
  have HC := Aside0.mk (show slices_Concat_uint32_uint32.f 100 [l0_2, [l1_1]] = some (l0_2 ++ [l1_1]) by rw [nsend.concat_eq _ 100 (by simp) (by simp; omega) (by simp)]; simp)
  clear hm hm2
  have c_0_0 : W0.cell? ⟨w.heap.size, 0, none⟩ = some (.int .i64 a0_0) := (blk_cell B0 0).trans rfl
  have c_0_1 : W0.cell? ⟨w.heap.size, 1, none⟩ = some (.slice A0_1 l0_1.length c0_1) := (blk_cell B0 1).trans rfl
  have c_0_2 : W0.cell? ⟨w.heap.size, 2, none⟩ = some (.slice A0_2 l0_2.length c0_2) := (blk_cell B0 2).trans rfl
  have z_0_0 := blk_frozen B0 0
  have z_0_1 := blk_frozen B0 1
  have z_0_2 := blk_frozen B0 2
  have c_1_0 : W0.cell? ⟨w.heap.size + 1, 0, none⟩ = some (.int .u32 a1_0) := (blk_cell B1 0).trans rfl
  have c_1_1 : W0.cell? ⟨w.heap.size + 1, 1, none⟩ = some (.slice A1_1 l1_1.length c1_1) := (blk_cell B1 1).trans rfl
  have z_1_0 := blk_frozen B1 0
  have z_1_1 := blk_frozen B1 1
  have c_2_0 : W0.cell? ⟨w.heap.size + 1 + 1, 0, none⟩ = some (.int .i64 0) := (blk_cell B2 0).trans rfl
  have c_2_1 : W0.cell? ⟨w.heap.size + 1 + 1, 1, none⟩ = some (.slice none 0 0) := (blk_cell B2 1).trans rfl
  have c_2_2 : W0.cell? ⟨w.heap.size + 1 + 1, 2, none⟩ = some (.slice none 0 0) := (blk_cell B2 2).trans rfl
  have z_2_0 := blk_frozen B2 0
  have z_2_1 := blk_frozen B2 1
  have z_2_2 := blk_frozen B2 2
  have lt_ : w.heap.size + 1 + 1 < W0.heap.size := by have := hz0; omega
  go_enter Try.func12, Try.ntmps12
  go_wp2_with fail
  rw [← Hw0.out]
  clear Hw0
  clear c_0_0 c_0_1 c_0_2 z_0_0 z_0_1 z_0_2 c_1_0 c_1_1 z_1_0 z_1_1 c_2_0 c_2_1 c_2_2 z_2_0 z_2_1 z_2_2 lt_
  refine (net_Free.calls a0_0 _ _ l0_1 _ _ l0_2 t _ (Kd.F_now (Kd.F_below F1 hB0)) hc1 (Kd.F_now (Kd.F_below F2 hB0)) hc2 HT.out).mono ?_
  rintro e W1 ⟨rfl, hb1⟩
  have B102 := blk_below B0 hb1
  have B103 := blk_below B1 hb1
  have B104 := blk_below B2 hb1
  have hB101 := hB0.trans (hb1.mono hB0.size)
  have hz101 : w.heap.size + 1 + 1 + 1 ≤ W1.heap.size := Nat.le_trans hz0 hb1.size
  clear B0 B1 B2 hB0 hz0
  clear hb1
  have c_0_0 : W1.cell? ⟨w.heap.size, 0, none⟩ = some (.int .i64 a0_0) := (blk_cell B102 0).trans rfl
  have c_0_1 : W1.cell? ⟨w.heap.size, 1, none⟩ = some (.slice A0_1 l0_1.length c0_1) := (blk_cell B102 1).trans rfl
  have c_0_2 : W1.cell? ⟨w.heap.size, 2, none⟩ = some (.slice A0_2 l0_2.length c0_2) := (blk_cell B102 2).trans rfl
  have z_0_0 := blk_frozen B102 0
  have z_0_1 := blk_frozen B102 1
  have z_0_2 := blk_frozen B102 2
  have c_1_0 : W1.cell? ⟨w.heap.size + 1, 0, none⟩ = some (.int .u32 a1_0) := (blk_cell B103 0).trans rfl
  have c_1_1 : W1.cell? ⟨w.heap.size + 1, 1, none⟩ = some (.slice A1_1 l1_1.length c1_1) := (blk_cell B103 1).trans rfl
  have z_1_0 := blk_frozen B103 0
  have z_1_1 := blk_frozen B103 1
  have c_2_0 : W1.cell? ⟨w.heap.size + 1 + 1, 0, none⟩ = some (.int .i64 0) := (blk_cell B104 0).trans rfl
  have c_2_1 : W1.cell? ⟨w.heap.size + 1 + 1, 1, none⟩ = some (.slice none 0 0) := (blk_cell B104 1).trans rfl
  have c_2_2 : W1.cell? ⟨w.heap.size + 1 + 1, 2, none⟩ = some (.slice none 0 0) := (blk_cell B104 2).trans rfl
  have z_2_0 := blk_frozen B104 0
  have z_2_1 := blk_frozen B104 1
  have z_2_2 := blk_frozen B104 2
  have lt_ : w.heap.size + 1 + 1 < W1.heap.size := by have := hz101; omega
  go_wp2_with fail
  clear c_0_0 c_0_1 c_0_2 z_0_0 z_0_1 z_0_2 c_1_0 c_1_1 z_1_0 z_1_1 c_2_0 c_2_1 c_2_2 z_2_0 z_2_1 z_2_2 lt_
  have VA := Kd.V_mk (e := 29) (base := W1.heap.size) hc1 (Kd.F_below (Kd.F_bound F1) hB101)
  have VB := Kd.V_mk (e := 27) (base := W1.heap.size) hc2 (Kd.F_below (Kd.F_bound F2) hB101)
  have VC := Kd.V_mk (e := 26) (base := W1.heap.size) hc3 (Kd.F_below (Kd.F_bound F3) hB101)
  refine (net_with.new a0_0 (fun k => P0_1_ k ∧ k < w.heap.size) (fun k => Q0_ k ∧ k < w.heap.size) _ _ l0_1 (fun k => P0_2_ k ∧ k < w.heap.size) _ _ l0_2 a1_0 (fun k => P1_1_ k ∧ k < w.heap.size) _ _ l1_1 a0_0 (l0_1 ++ [(⟨a1_0, l1_1⟩ : S29)]) l0_2 _ VA VB VC (kk.E.old HE.out hB101) HW.out).mono ?_
  rintro e W2 ⟨v1, v2, rfl, hv1, hv2, hb2⟩
  clear VA VB VC
  have U1 := Kd.V_mono (ok' := fun k => (Q0_ k ∨ P0_2_ k ∨ P1_1_ k) ∧ k < w.heap.size ∨ w.heap.size + 1 + 1 + 1 ≤ k) hv1 (fun k hk => hk.elim (fun h => .inl (h.elim (fun h => ⟨.inl h.1, h.2⟩) (fun h => h.elim (fun h => ⟨.inr (.inl h.1), h.2⟩) (fun h => ⟨.inr (.inr h.1), h.2⟩)))) (fun h => .inr (by have := hz101; omega)))
  have U2 := Kd.V_mono (ok' := fun k => (Q0_ k ∨ P0_2_ k ∨ P1_1_ k) ∧ k < w.heap.size ∨ w.heap.size + 1 + 1 + 1 ≤ k) hv2 (fun k hk => hk.elim (fun h => .inl (h.elim (fun h => ⟨.inl h.1, h.2⟩) (fun h => h.elim (fun h => ⟨.inr (.inl h.1), h.2⟩) (fun h => ⟨.inr (.inr h.1), h.2⟩)))) (fun h => .inr (by have := hz101; omega)))
  clear hv1 hv2
  obtain ⟨A5, c5, e5⟩ := Kd.V_slice U1
  rw [show (l0_1 ++ [(⟨a1_0, l1_1⟩ : S29)]).length = l0_1.length + 1 by simp] at e5
  subst e5
  obtain ⟨A6, c6, e6⟩ := Kd.V_slice U2
  subst e6
  have B106 := blk_below B102 hb2
  have B107 := blk_below B103 hb2
  have B108 := blk_below B104 hb2
  have hB105 := hB101.trans (hb2.mono hB101.size)
  have hz105 : w.heap.size + 1 + 1 + 1 ≤ W2.heap.size := Nat.le_trans hz101 hb2.size
  clear B102 B103 B104 hB101 hz101
  clear hb2
  have c_0_0 : W2.cell? ⟨w.heap.size, 0, none⟩ = some (.int .i64 a0_0) := (blk_cell B106 0).trans rfl
  have c_0_1 : W2.cell? ⟨w.heap.size, 1, none⟩ = some (.slice A0_1 l0_1.length c0_1) := (blk_cell B106 1).trans rfl
  have c_0_2 : W2.cell? ⟨w.heap.size, 2, none⟩ = some (.slice A0_2 l0_2.length c0_2) := (blk_cell B106 2).trans rfl
  have z_0_0 := blk_frozen B106 0
  have z_0_1 := blk_frozen B106 1
  have z_0_2 := blk_frozen B106 2
  have c_1_0 : W2.cell? ⟨w.heap.size + 1, 0, none⟩ = some (.int .u32 a1_0) := (blk_cell B107 0).trans rfl
  have c_1_1 : W2.cell? ⟨w.heap.size + 1, 1, none⟩ = some (.slice A1_1 l1_1.length c1_1) := (blk_cell B107 1).trans rfl
  have z_1_0 := blk_frozen B107 0
  have z_1_1 := blk_frozen B107 1
  have c_2_0 : W2.cell? ⟨w.heap.size + 1 + 1, 0, none⟩ = some (.int .i64 0) := (blk_cell B108 0).trans rfl
  have c_2_1 : W2.cell? ⟨w.heap.size + 1 + 1, 1, none⟩ = some (.slice none 0 0) := (blk_cell B108 1).trans rfl
  have c_2_2 : W2.cell? ⟨w.heap.size + 1 + 1, 2, none⟩ = some (.slice none 0 0) := (blk_cell B108 2).trans rfl
  have z_2_0 := blk_frozen B108 0
  have z_2_1 := blk_frozen B108 1
  have z_2_2 := blk_frozen B108 2
  have lt_ : w.heap.size + 1 + 1 < W2.heap.size := by have := hz105; omega
  go_upto_region 4 with (fail)
  clear c_0_0 c_0_1 c_0_2 z_0_0 z_0_1 z_0_2 c_1_0 c_1_1 z_1_0 z_1_1 c_2_0 c_2_1 c_2_2 z_2_0 z_2_1 z_2_2 lt_
  have n109 : w.heap.size + 1 ≠ w.heap.size := by omega
  have n110 : w.heap.size + 1 + 1 ≠ w.heap.size := by omega
  have n111 : ∀ k, ((Q0_ k ∨ P0_2_ k ∨ P1_1_ k) ∧ k < w.heap.size ∨ w.heap.size + 1 + 1 + 1 ≤ k) → k ≠ w.heap.size := fun k hk => by omega
  have n112 : w.heap.size ≤ w.heap.size := by omega
  have B114 := (blk_put (cs' := #[.int .i64 a0_0, .slice A5 (l0_1.length + 1) c5, .slice A6 l0_2.length c6]) (blk_put (cs' := #[.int .i64 a0_0, .slice A5 (l0_1.length + 1) c5, .slice A0_2 l0_2.length c0_2]) (blk_put (cs' := #[.int .i64 a0_0, .slice A0_1 l0_1.length c0_1, .slice A0_2 l0_2.length c0_2]) B106 0 (.int .i64 a0_0) rfl) 1 (.slice A5 (l0_1.length + 1) c5) rfl) 2 (.slice A6 l0_2.length c6) rfl)
  have B115 := (blk_far (p := ⟨w.heap.size, 2, none⟩) (blk_far (p := ⟨w.heap.size, 1, none⟩) (blk_far (p := ⟨w.heap.size, 0, none⟩) B107 n109 (.int .i64 a0_0)) n109 (.slice A5 (l0_1.length + 1) c5)) n109 (.slice A6 l0_2.length c6))
  have B116 := (blk_far (p := ⟨w.heap.size, 2, none⟩) (blk_far (p := ⟨w.heap.size, 1, none⟩) (blk_far (p := ⟨w.heap.size, 0, none⟩) B108 n110 (.int .i64 a0_0)) n110 (.slice A5 (l0_1.length + 1) c5)) n110 (.slice A6 l0_2.length c6))
  have V117 := (Kd.V_far (p := ⟨w.heap.size, 2, none⟩) (Kd.V_far (p := ⟨w.heap.size, 1, none⟩) (Kd.V_far (p := ⟨w.heap.size, 0, none⟩) U1 n111 (.int .i64 a0_0)) n111 (.slice A5 (l0_1.length + 1) c5)) n111 (.slice A6 l0_2.length c6))
  have V118 := (Kd.V_far (p := ⟨w.heap.size, 2, none⟩) (Kd.V_far (p := ⟨w.heap.size, 1, none⟩) (Kd.V_far (p := ⟨w.heap.size, 0, none⟩) U2 n111 (.int .i64 a0_0)) n111 (.slice A5 (l0_1.length + 1) c5)) n111 (.slice A6 l0_2.length c6))
  have hB119 := (below_set (g := w.heap.size) (j := 2) (v := .slice A6 l0_2.length c6) (below_set (g := w.heap.size) (j := 1) (v := .slice A5 (l0_1.length + 1) c5) (below_set (g := w.heap.size) (j := 0) (v := .int .i64 a0_0) hB105 n112) n112) n112)
  have hz120 : w.heap.size + 1 + 1 + 1 ≤ (((W2.setCell ⟨w.heap.size, 0, none⟩ (.int .i64 a0_0)).setCell ⟨w.heap.size, 1, none⟩ (.slice A5 (l0_1.length + 1) c5)).setCell ⟨w.heap.size, 2, none⟩ (.slice A6 l0_2.length c6)).heap.size := by simpa [World.setCell] using hz105
  clear B106 B107 B108 U1 U2 hB105 hz105 n109 n110 n111 n112
  obtain ⟨W113, hW113⟩ : ∃ W_ : World, W_ = (((W2.setCell ⟨w.heap.size, 0, none⟩ (.int .i64 a0_0)).setCell ⟨w.heap.size, 1, none⟩ (.slice A5 (l0_1.length + 1) c5)).setCell ⟨w.heap.size, 2, none⟩ (.slice A6 l0_2.length c6)) := ⟨_, rfl⟩
  rw [← hW113] at B114 B115 B116 V117 V118 hB119 hz120 ⊢
  clear hW113
  have c_0_0 : W113.cell? ⟨w.heap.size, 0, none⟩ = some (.int .i64 a0_0) := (blk_cell B114 0).trans rfl
  have c_0_1 : W113.cell? ⟨w.heap.size, 1, none⟩ = some (.slice A5 (l0_1.length + 1) c5) := (blk_cell B114 1).trans rfl
  have c_0_2 : W113.cell? ⟨w.heap.size, 2, none⟩ = some (.slice A6 l0_2.length c6) := (blk_cell B114 2).trans rfl
  have z_0_0 := blk_frozen B114 0
  have z_0_1 := blk_frozen B114 1
  have z_0_2 := blk_frozen B114 2
  have c_1_0 : W113.cell? ⟨w.heap.size + 1, 0, none⟩ = some (.int .u32 a1_0) := (blk_cell B115 0).trans rfl
  have c_1_1 : W113.cell? ⟨w.heap.size + 1, 1, none⟩ = some (.slice A1_1 l1_1.length c1_1) := (blk_cell B115 1).trans rfl
  have z_1_0 := blk_frozen B115 0
  have z_1_1 := blk_frozen B115 1
  have c_2_0 : W113.cell? ⟨w.heap.size + 1 + 1, 0, none⟩ = some (.int .i64 0) := (blk_cell B116 0).trans rfl
  have c_2_1 : W113.cell? ⟨w.heap.size + 1 + 1, 1, none⟩ = some (.slice none 0 0) := (blk_cell B116 1).trans rfl
  have c_2_2 : W113.cell? ⟨w.heap.size + 1 + 1, 2, none⟩ = some (.slice none 0 0) := (blk_cell B116 2).trans rfl
  have z_2_0 := blk_frozen B116 0
  have z_2_1 := blk_frozen B116 1
  have z_2_2 := blk_frozen B116 2
  have lt_ : w.heap.size + 1 + 1 < W113.heap.size := by have := hz120; omega
  go_wp2_with fail
  clear c_0_0 c_0_1 c_0_2 z_0_0 z_0_1 z_0_2 c_1_0 c_1_1 z_1_0 z_1_1 c_2_0 c_2_1 c_2_2 z_2_0 z_2_1 z_2_2 lt_
  have UL := Kd.V_mk (e := 26) (base := 0) hc3 (nrow.mv (R := fun k => Q0_ k ∨ P0_2_ k ∨ P1_1_ k) (m := w.heap.size + 1 + 1 + 1) hB119 (fun k hk => .inr (.inr hk)) F3)
  refine (slices_Concat_uint32_uint32.calls 100 (fun k => (Q0_ k ∨ P0_2_ k ∨ P1_1_ k) ∧ k < w.heap.size ∨ w.heap.size + 1 + 1 + 1 ≤ k) _ _ [l0_2, [l1_1]] (l0_2 ++ [l1_1]) _ (nsend.rows (fun k hk => .inr (Nat.le_trans hz120 hk)) V118 UL _) HC.out).mono ?_
  rintro e W5 ⟨v7, rfl, hv7, hb7⟩
  obtain ⟨A7, c7, e7⟩ := Kd.N_slice hv7
  rw [show (l0_2 ++ [l1_1]).length = l0_2.length + 1 by simp] at e7
  subst e7
  clear UL
  have hb := show Below W113.heap.size W113 W5 from (below_alloc (below_alloc (Below.refl _ _) _) _).trans (hb7.mono (by simp <;> omega))
  have U7 := Kd.V_mono (ok' := fun k => (Q0_ k ∨ P0_2_ k ∨ P1_1_ k) ∧ k < w.heap.size ∨ w.heap.size + 1 + 1 + 1 ≤ k) (Kd.N_V (base' := 0) hv7) (fun k hk => hk.elim (fun h => h) (fun h => .inr (by have := hz120; simp at h; omega)))
  clear hv7 hb7
  clear V118
  have B122 := blk_below B114 hb
  have B123 := blk_below B115 hb
  have B124 := blk_below B116 hb
  have V125 := Kd.V_below V117 hb
  have hB121 := hB119.trans (hb.mono hB119.size)
  have hz121 : w.heap.size + 1 + 1 + 1 ≤ W5.heap.size := Nat.le_trans hz120 hb.size
  clear B114 B115 B116 V117 hB119 hz120
  clear hb
  have c_0_0 : W5.cell? ⟨w.heap.size, 0, none⟩ = some (.int .i64 a0_0) := (blk_cell B122 0).trans rfl
  have c_0_1 : W5.cell? ⟨w.heap.size, 1, none⟩ = some (.slice A5 (l0_1.length + 1) c5) := (blk_cell B122 1).trans rfl
  have c_0_2 : W5.cell? ⟨w.heap.size, 2, none⟩ = some (.slice A6 l0_2.length c6) := (blk_cell B122 2).trans rfl
  have z_0_0 := blk_frozen B122 0
  have z_0_1 := blk_frozen B122 1
  have z_0_2 := blk_frozen B122 2
  have c_1_0 : W5.cell? ⟨w.heap.size + 1, 0, none⟩ = some (.int .u32 a1_0) := (blk_cell B123 0).trans rfl
  have c_1_1 : W5.cell? ⟨w.heap.size + 1, 1, none⟩ = some (.slice A1_1 l1_1.length c1_1) := (blk_cell B123 1).trans rfl
  have z_1_0 := blk_frozen B123 0
  have z_1_1 := blk_frozen B123 1
  have c_2_0 : W5.cell? ⟨w.heap.size + 1 + 1, 0, none⟩ = some (.int .i64 0) := (blk_cell B124 0).trans rfl
  have c_2_1 : W5.cell? ⟨w.heap.size + 1 + 1, 1, none⟩ = some (.slice none 0 0) := (blk_cell B124 1).trans rfl
  have c_2_2 : W5.cell? ⟨w.heap.size + 1 + 1, 2, none⟩ = some (.slice none 0 0) := (blk_cell B124 2).trans rfl
  have z_2_0 := blk_frozen B124 0
  have z_2_1 := blk_frozen B124 1
  have z_2_2 := blk_frozen B124 2
  have lt_ : w.heap.size + 1 + 1 < W5.heap.size := by have := hz121; omega
  go_upto_region 5 with (fail)
  clear c_0_0 c_0_1 c_0_2 z_0_0 z_0_1 z_0_2 c_1_0 c_1_1 z_1_0 z_1_1 c_2_0 c_2_1 c_2_2 z_2_0 z_2_1 z_2_2 lt_
  have n126 : w.heap.size + 1 ≠ w.heap.size := by omega
  have n127 : w.heap.size + 1 + 1 ≠ w.heap.size := by omega
  have n128 : ∀ k, ((Q0_ k ∨ P0_2_ k ∨ P1_1_ k) ∧ k < w.heap.size ∨ w.heap.size + 1 + 1 + 1 ≤ k) → k ≠ w.heap.size := fun k hk => by omega
  have n129 : w.heap.size ≤ w.heap.size := by omega
  have B131 := (blk_put (cs' := #[.int .i64 a0_0, .slice A5 (l0_1.length + 1) c5, .slice A7 (l0_2.length + 1) c7]) B122 2 (.slice A7 (l0_2.length + 1) c7) rfl)
  have B132 := (blk_far (p := ⟨w.heap.size, 2, none⟩) B123 n126 (.slice A7 (l0_2.length + 1) c7))
  have B133 := (blk_far (p := ⟨w.heap.size, 2, none⟩) B124 n127 (.slice A7 (l0_2.length + 1) c7))
  have V134 := (Kd.V_far (p := ⟨w.heap.size, 2, none⟩) V125 n128 (.slice A7 (l0_2.length + 1) c7))
  have V135 := (Kd.V_far (p := ⟨w.heap.size, 2, none⟩) U7 n128 (.slice A7 (l0_2.length + 1) c7))
  have hB136 := (below_set (g := w.heap.size) (j := 2) (v := .slice A7 (l0_2.length + 1) c7) hB121 n129)
  have hz137 : w.heap.size + 1 + 1 + 1 ≤ (W5.setCell ⟨w.heap.size, 2, none⟩ (.slice A7 (l0_2.length + 1) c7)).heap.size := by simpa [World.setCell] using hz121
  clear B122 B123 B124 V125 U7 hB121 hz121 n126 n127 n128 n129
  obtain ⟨W130, hW130⟩ : ∃ W_ : World, W_ = (W5.setCell ⟨w.heap.size, 2, none⟩ (.slice A7 (l0_2.length + 1) c7)) := ⟨_, rfl⟩
  rw [← hW130] at B131 B132 B133 V134 V135 hB136 hz137 ⊢
  clear hW130
  have c_0_0 : W130.cell? ⟨w.heap.size, 0, none⟩ = some (.int .i64 a0_0) := (blk_cell B131 0).trans rfl
  have c_0_1 : W130.cell? ⟨w.heap.size, 1, none⟩ = some (.slice A5 (l0_1.length + 1) c5) := (blk_cell B131 1).trans rfl
  have c_0_2 : W130.cell? ⟨w.heap.size, 2, none⟩ = some (.slice A7 (l0_2.length + 1) c7) := (blk_cell B131 2).trans rfl
  have z_0_0 := blk_frozen B131 0
  have z_0_1 := blk_frozen B131 1
  have z_0_2 := blk_frozen B131 2
  have c_1_0 : W130.cell? ⟨w.heap.size + 1, 0, none⟩ = some (.int .u32 a1_0) := (blk_cell B132 0).trans rfl
  have c_1_1 : W130.cell? ⟨w.heap.size + 1, 1, none⟩ = some (.slice A1_1 l1_1.length c1_1) := (blk_cell B132 1).trans rfl
  have z_1_0 := blk_frozen B132 0
  have z_1_1 := blk_frozen B132 1
  have c_2_0 : W130.cell? ⟨w.heap.size + 1 + 1, 0, none⟩ = some (.int .i64 0) := (blk_cell B133 0).trans rfl
  have c_2_1 : W130.cell? ⟨w.heap.size + 1 + 1, 1, none⟩ = some (.slice none 0 0) := (blk_cell B133 1).trans rfl
  have c_2_2 : W130.cell? ⟨w.heap.size + 1 + 1, 2, none⟩ = some (.slice none 0 0) := (blk_cell B133 2).trans rfl
  have z_2_0 := blk_frozen B133 0
  have z_2_1 := blk_frozen B133 1
  have z_2_2 := blk_frozen B133 2
  have lt_ : w.heap.size + 1 + 1 < W130.heap.size := by have := hz137; omega
  go_wp2
  clear c_0_0 c_0_1 c_0_2 z_0_0 z_0_1 z_0_2 c_1_0 c_1_1 z_1_0 z_1_1 c_2_0 c_2_1 c_2_2 z_2_0 z_2_1 z_2_2 lt_
  have n138 : w.heap.size ≠ w.heap.size + 1 + 1 := by omega
  have n139 : w.heap.size + 1 ≠ w.heap.size + 1 + 1 := by omega
  have n140 : ∀ k, ((Q0_ k ∨ P0_2_ k ∨ P1_1_ k) ∧ k < w.heap.size ∨ w.heap.size + 1 + 1 + 1 ≤ k) → k ≠ w.heap.size + 1 + 1 := fun k hk => by omega
  have n141 : w.heap.size ≤ w.heap.size + 1 + 1 := by omega
  have B143 := (blk_put (cs' := #[.int .i64 a0_0, .slice A5 (l0_1.length + 1) c5, .slice A7 (l0_2.length + 1) c7]) (blk_put (cs' := #[.int .i64 a0_0, .slice A5 (l0_1.length + 1) c5, .slice none 0 0]) (blk_put (cs' := #[.int .i64 a0_0, .slice none 0 0, .slice none 0 0]) B133 0 (.int .i64 a0_0) rfl) 1 (.slice A5 (l0_1.length + 1) c5) rfl) 2 (.slice A7 (l0_2.length + 1) c7) rfl)
  have B144 := (blk_far (p := ⟨w.heap.size + 1 + 1, 2, none⟩) (blk_far (p := ⟨w.heap.size + 1 + 1, 1, none⟩) (blk_far (p := ⟨w.heap.size + 1 + 1, 0, none⟩) B131 n138 (.int .i64 a0_0)) n138 (.slice A5 (l0_1.length + 1) c5)) n138 (.slice A7 (l0_2.length + 1) c7))
  have B145 := (blk_far (p := ⟨w.heap.size + 1 + 1, 2, none⟩) (blk_far (p := ⟨w.heap.size + 1 + 1, 1, none⟩) (blk_far (p := ⟨w.heap.size + 1 + 1, 0, none⟩) B132 n139 (.int .i64 a0_0)) n139 (.slice A5 (l0_1.length + 1) c5)) n139 (.slice A7 (l0_2.length + 1) c7))
  have V146 := (Kd.V_far (p := ⟨w.heap.size + 1 + 1, 2, none⟩) (Kd.V_far (p := ⟨w.heap.size + 1 + 1, 1, none⟩) (Kd.V_far (p := ⟨w.heap.size + 1 + 1, 0, none⟩) V134 n140 (.int .i64 a0_0)) n140 (.slice A5 (l0_1.length + 1) c5)) n140 (.slice A7 (l0_2.length + 1) c7))
  have V147 := (Kd.V_far (p := ⟨w.heap.size + 1 + 1, 2, none⟩) (Kd.V_far (p := ⟨w.heap.size + 1 + 1, 1, none⟩) (Kd.V_far (p := ⟨w.heap.size + 1 + 1, 0, none⟩) V135 n140 (.int .i64 a0_0)) n140 (.slice A5 (l0_1.length + 1) c5)) n140 (.slice A7 (l0_2.length + 1) c7))
  have hB148 := (below_set (g := w.heap.size + 1 + 1) (j := 2) (v := .slice A7 (l0_2.length + 1) c7) (below_set (g := w.heap.size + 1 + 1) (j := 1) (v := .slice A5 (l0_1.length + 1) c5) (below_set (g := w.heap.size + 1 + 1) (j := 0) (v := .int .i64 a0_0) hB136 n141) n141) n141)
  have hz149 : w.heap.size + 1 + 1 + 1 ≤ (((W130.setCell ⟨w.heap.size + 1 + 1, 0, none⟩ (.int .i64 a0_0)).setCell ⟨w.heap.size + 1 + 1, 1, none⟩ (.slice A5 (l0_1.length + 1) c5)).setCell ⟨w.heap.size + 1 + 1, 2, none⟩ (.slice A7 (l0_2.length + 1) c7)).heap.size := by simpa [World.setCell] using hz137
  clear B131 B132 B133 V134 V135 hB136 hz137 n138 n139 n140 n141
  obtain ⟨W142, hW142⟩ : ∃ W_ : World, W_ = (((W130.setCell ⟨w.heap.size + 1 + 1, 0, none⟩ (.int .i64 a0_0)).setCell ⟨w.heap.size + 1 + 1, 1, none⟩ (.slice A5 (l0_1.length + 1) c5)).setCell ⟨w.heap.size + 1 + 1, 2, none⟩ (.slice A7 (l0_2.length + 1) c7)) := ⟨_, rfl⟩
  rw [← hW142] at B143 B144 B145 V146 V147 hB148 hz149 ⊢
  clear hW142
  refine bodyPost_ret (results_ct rfl _ _ (w.heap.size + 1 + 1) 25 #[.int .i64 a0_0, .slice A5 (l0_1.length + 1) c5, .slice A7 (l0_2.length + 1) c7] (0, 0) _ rfl B143 Try.underlying25 rfl (by kernel_rfl)) rfl ?_
  exact ⟨_, _, rfl, (by obtain ⟨A_, c_, e_⟩ := Kd.V_slice V146; exact ⟨A_, c_, e_⟩), (by obtain ⟨A_, c_, e_⟩ := Kd.V_slice V147; exact ⟨A_, c_, e_⟩), fun _ => ⟨Kd.V_mono V146 (fun k hk => hk.elim (fun h => .inl h.1) (fun h => .inr (by omega))), Kd.V_mono V147 (fun k hk => hk.elim (fun h => .inl h.1) (fun h => .inr (by omega)))⟩, hB148⟩
set_option maxHeartbeats 8000000 in
set_option maxRecDepth 100000 in
theorem api_Gram_26.new (P0_ Q0_ : Nat → Prop) (A0 : Option Addr) (c0 : Nat) (l0 : List (S29)) (r : List (S29)) (w : World) (hs0 : Kd.V k29 29 w w.heap.size (fun k_ => P0_ k_) (.slice A0 l0.length c0) l0) (hE : kk.E k29 w (fun k_ => Q0_ k_) A0 l0.length l0) (h : api_Gram_26.f l0 = some r) :
    Calls Try.prog 26 #[.slice A0 l0.length c0] w fun e w' => ∃ v0_ : Value, e = .returned (v0_) ∧ Kd.N k29 29 w' w.heap.size (fun k_ => (Q0_ k_ ∨ w.heap.size ≤ k_)) v0_ r ∧ Below w.heap.size w w' := by
  rcases A0 with _ | x0
  · have hl0 : l0 = [] := by
      rcases l0 with _ | ⟨y, ys⟩
      · rfl
      · obtain ⟨ad, had, _⟩ := (Kd.V_reads' hs0).2.2.2.2 (by simp)
        cases had
    subst hl0
    have hr : r = [] := by
      have h2 := h
      simp [api_Gram_26.f] at h2
      exact h2
    subst hr
    clear h hs0 hE
    have ke := fun (w : World) (a : Option Addr) (n c n' c' : Nat) => Lib.run_eql_slice_nil (P := Try.prog) w 22 29 a n c n' c' Try.underlying22
    go_enter Try.func26, Try.ntmps26
    go_wp2
    go_ret
    exact ⟨_, rfl, Kd.N_nil _ _ _ _ _, Below.refl _ _⟩
  have ke := fun (w : World) (n c n' c' : Nat) => Lib.run_eql_slice_nil (P := Try.prog) w 22 29 (some x0) n c n' c' Try.underlying22
  have HE := Aside0.mk hE
  clear hE
  have HO0 := Aside0.mk (show Kd.V k29 29 w w.heap.size (fun k_ => (P0_ k_ ∨ w.heap.size ≤ k_)) (.slice (some x0) l0.length c0) l0 from Kd.V_mono hs0 (fun k_ hk => .inl hk))
  have HB := Aside0.mk (Below.refl w.heap.size w)
  have H : ((some (([] : List (S29)) : List (S29))).bind fun y157 => (if y157.length + l0.length < 4398046511104 then (some (y157 ++ l0)) else (none))) = some r := h
  clear h
  obtain ⟨y157, hy157⟩ : ∃ y_ : List (S29), y_ = (([] : List (S29))) := ⟨_, rfl⟩
  replace H : (if y157.length + l0.length < 4398046511104 then (some (y157 ++ l0)) else (none)) = some r := by first | (rw [hy157]; with_reducible exact H) | (have H2_ := (Option.bind_some _ _).symm.trans H; rw [hy157]; with_reducible exact H2_) | (have H2_ := (Option.bind_some _ _).symm.trans H; with_reducible exact H2_) | with_reducible exact H | (rw [hy157]; exact H) | exact H
  have Ny157 := Aside0.mk hy157
  clear hy157
  by_cases c2 : y157.length + l0.length < 4398046511104
  · rw [if_pos c2] at H
    have LMc2 := Aside0.mk c2
    clear c2
    obtain ⟨y160, hy160⟩ : ∃ y_ : List (S29), y_ = (y157 ++ l0) := ⟨_, rfl⟩
    replace H : (some y160) = some r := by first | (rw [hy160]; with_reducible exact H) | (have H2_ := (Option.bind_some _ _).symm.trans H; rw [hy160]; with_reducible exact H2_) | (have H2_ := (Option.bind_some _ _).symm.trans H; with_reducible exact H2_) | with_reducible exact H | (rw [hy160]; exact H) | exact H
    have Ny160 := Aside0.mk hy160
    clear hy160
    obtain rfl := Option.some.inj H
    go_enter Try.func26, Try.ntmps26
    go_wp2_with (first | ((with_reducible refine gate_dst (N := 5) rfl ?_); refine Kd.N_lit k29 _ 29 ?hg (N' := 5) ?hd (xs := ([] : List (S29))) (inner := []) (ok := (fun k_ => (Q0_ k_ ∨ w.heap.size ≤ k_))) (okp := (fun k_ => (Q0_ k_ ∨ w.heap.size ≤ k_))) ?hr ?hp (fun _ hk => hk) ((show ∀ k_, w.heap.size ≤ k_ → (fun k_ => (Q0_ k_ ∨ w.heap.size ≤ k_)) k_ from fun k_ hk => (.inr (Nat.le_trans (below_size (by repeat (first | (with_reducible first | exact HB.out | apply below_alloc | apply pw_below_drewN | apply below_drew1) | exact HB.out))) hk))) _ (Nat.le_refl _)) (Below.refl _ _) (Nat.le_refl _) (by simp) ?_; (case hd => rfl); (case hg => rfl); (case hr => first | (go_simp; done) | (go_simp; rfl)); (case hp => exact (Reps.none _ _)); intro v158 w3 ho4 hb hg_ hnew_; clear hg_ hnew_; (first | rw [← Ny157.out] at ho4 | (simp only [Int.reduceToNat] at ho4; rw [← Ny157.out] at ho4)); have n0_ := Aside0.mk (Kd.V_elder' (by (with_reducible repeat (first | apply Kd.V_alloc | apply Kd.V_drewN | apply Kd.V_drew)); exact HO0.out) (Kd.N_base ho4) hb); have n1_ := Aside0.mk (Kd.N_lower ho4 (below_size (by repeat (first | (with_reducible first | exact HB.out | apply below_alloc | apply pw_below_drewN | apply below_drew1) | exact HB.out)))); have n2_ := Aside0.mk (below_step (by repeat (first | (with_reducible first | exact HB.out | apply below_alloc | apply pw_below_drewN | apply below_drew1) | exact HB.out)) hb); clear HO0; clear HB; have HO0 := n0_; have HO159 := n1_; have HB := n2_; clear n0_ n1_ n2_; clear hb ho4) | ((with_reducible refine gate_builtin (b := .append) (xs := #[.tmp 5, .tmp 6]) rfl ?_); at_builtin; refine kk.N_append_rows k29 (w0 := w) w.heap.size rfl (.tmp 5) (.tmp 6) 22 29 (.agg #[(.int .u32 0), (.slice none 0 0)]) 32 rfl Try.underlying22 info29 rfl (by decide) (by omega) v158 y157 l0 _ _ _ (fun k_ => (Q0_ k_ ∨ w.heap.size ≤ k_)) (fun k_ => Q0_ k_ ∧ k_ < w.heap.size) rfl rfl ?aO ?aR (fun k_ hk => ⟨.inl hk.1, fun e_ => absurd (Kd.N_base HO159.out k_ e_.symm) (Nat.not_le.2 hk.2)⟩) ?aF ?aB ?aS ?aL ?_; (case aR => exact kk.E.old HE.out (by repeat (first | (with_reducible first | exact HB.out | apply below_alloc | apply pw_below_drewN | apply below_drew1) | exact HB.out))); (case aB => exact (by repeat (first | (with_reducible first | exact HB.out | apply below_alloc | apply pw_below_drewN | apply below_drew1) | exact HB.out))); (case aF => exact (fun k_ hk => (.inr (Nat.le_trans (below_size (by repeat (first | (with_reducible first | exact HB.out | apply below_alloc | apply pw_below_drewN | apply below_drew1) | exact HB.out))) hk)))); (case aO => exact (by (with_reducible repeat (first | apply Kd.N_alloc | apply Kd.N_drewN | apply Kd.N_drew)); exact HO159.out)); (case aS => exact (below_size (by repeat (first | (with_reducible first | exact HB.out | apply below_alloc | apply pw_below_drewN | apply below_drew1) | exact HB.out)))); (case aL => have := LMc2.out; omega); intro v161 w5 ho hb hg hat; rw [← Ny160.out] at ho; have n0_ := Aside0.mk (Kd.V_afterv (ok := (fun k_ => (P0_ k_ ∨ w.heap.size ≤ k_))) (by (with_reducible repeat (first | apply Kd.V_alloc | apply Kd.V_drewN | apply Kd.V_drew)); exact HO0.out) hg hat); have n1_ := Aside0.mk (hb); have n2_ := Aside0.mk (ho); clear HO0; clear HB; clear HO159; have HO0 := n0_; have HB := n1_; have HO162 := n2_; clear n0_ n1_ n2_; clear ho hb hg hat))
    go_ret
    exact ⟨_, by first | rfl | (simp [errW_none, errW_some] <;> rfl) | (simp [*, errW_none, errW_some] <;> rfl), by (with_reducible repeat (first | apply Kd.N_alloc | apply Kd.N_drewN | apply Kd.N_drew)); exact HO162.out, by repeat (first | (with_reducible first | exact HB.out | apply below_alloc | apply pw_below_drewN | apply below_drew1) | exact HB.out)⟩
  · rw [if_neg c2] at H
    exact absurd H (by simp)
set_option maxHeartbeats 8000000 in
set_option maxRecDepth 100000 in
theorem net_Take.new (a0_0 : Int) (P0_1_ Q0_ : Nat → Prop) (A0_1 : Option Addr) (c0_1 : Nat) (l0_1 : List (S29)) (P0_2_ : Nat → Prop) (A0_2 : Option Addr) (c0_2 : Nat) (l0_2 : List (List Int)) (a1 : Int) (r1 : Int) (r2 : List (S29)) (r3 : List (List Int)) (r4 : Int) (r5 : List Int) (r6 : Int) (w : World) (hs0_1 : Kd.V k29 29 w w.heap.size (fun k_ => P0_1_ k_) (.slice A0_1 l0_1.length c0_1) l0_1) (hs0_2 : Kd.V (Kd.slice 26 (Kd.int .u32)) 27 w w.heap.size (fun k_ => P0_2_ k_) (.slice A0_2 l0_2.length c0_2) l0_2) (hE : kk.E k29 w (fun k_ => Q0_ k_) A0_1 l0_1.length l0_1) (h : net_Take.f a0_0 l0_1 l0_2 a1 = some (r1, r2, r3, r4, r5, r6)) :
    Calls Try.prog 14 #[.agg #[.int .i64 a0_0, .slice A0_1 l0_1.length c0_1, .slice A0_2 l0_2.length c0_2], .int .i64 a1] w fun e w' => ∃ v1_ v2_ v4_ : Value, e = .returned (.tuple #[.agg #[.int .i64 r1, v1_, v2_], .agg #[.int .u32 r4, v4_], .int .i64 r6]) ∧ (∃ A_ c_, v1_ = .slice A_ r2.length c_) ∧ (∃ A_ c_, v2_ = .slice A_ r3.length c_) ∧ (∃ A_ c_, v4_ = .slice A_ r5.length c_) ∧ (r6 = 0 → Kd.V k29 29 w' w.heap.size (fun k_ => ((Q0_ k_ ∨ P0_2_ k_) ∨ w.heap.size ≤ k_)) v1_ r2 ∧ Kd.V (Kd.slice 26 (Kd.int .u32)) 27 w' w.heap.size (fun k_ => ((Q0_ k_ ∨ P0_2_ k_) ∨ w.heap.size ≤ k_)) v2_ r3) ∧ Below w.heap.size w w' := by
  unfold net_Take.f at h
  obtain ⟨W0, hW0⟩ : ∃ W0 : World, W0 = ((w.alloc (.cells #[.int .i64 a0_0, .slice A0_1 l0_1.length c0_1, .slice A0_2 l0_2.length c0_2] 25)).alloc (.cells #[.int .i64 0, .slice none 0 0, .slice none 0 0] 25)).alloc (.cells #[.int .u32 0, .slice none 0 0] 29) := ⟨_, rfl⟩
  have B0 : W0.heap[w.heap.size]? = some (.cells #[.int .i64 a0_0, .slice A0_1 l0_1.length c0_1, .slice A0_2 l0_2.length c0_2] 25 (0, 0)) := by rw [hW0]; refine blk_alloc ?_ _; refine blk_alloc ?_ _; have := (MapKept.heap_alloc (w) (.cells #[.int .i64 a0_0, .slice A0_1 l0_1.length c0_1, .slice A0_2 l0_2.length c0_2] 25)).1; simpa using this
  have B1 : W0.heap[w.heap.size + 1]? = some (.cells #[.int .i64 0, .slice none 0 0, .slice none 0 0] 25 (0, 0)) := by rw [hW0]; refine blk_alloc ?_ _; have := (MapKept.heap_alloc ((w.alloc (.cells #[.int .i64 a0_0, .slice A0_1 l0_1.length c0_1, .slice A0_2 l0_2.length c0_2] 25))) (.cells #[.int .i64 0, .slice none 0 0, .slice none 0 0] 25)).1; simpa using this
  have B2 : W0.heap[w.heap.size + 1 + 1]? = some (.cells #[.int .u32 0, .slice none 0 0] 29 (0, 0)) := by rw [hW0]; have := (MapKept.heap_alloc (((w.alloc (.cells #[.int .i64 a0_0, .slice A0_1 l0_1.length c0_1, .slice A0_2 l0_2.length c0_2] 25)).alloc (.cells #[.int .i64 0, .slice none 0 0, .slice none 0 0] 25))) (.cells #[.int .u32 0, .slice none 0 0] 29)).1; simpa using this
  have hB0 : Below w.heap.size w W0 := by rw [hW0]; exact below_alloc (below_alloc (below_alloc (Below.refl _ _) _) _) _
  have hz0 : w.heap.size + 1 + 1 + 1 ≤ W0.heap.size := by rw [hW0]; simp
  have Hw0 := Aside0.mk hW0
  clear hW0
  have HE := Aside0.mk hE
  clear hE
  obtain ⟨_, hc1, F1⟩ := Kd.V_at hs0_1
  obtain ⟨_, hc2, F2⟩ := Kd.V_at hs0_2
  clear hs0_1 hs0_2
  by_cases c1 : a1 < 0
  · rw [if_pos c1] at h
    simp only [Option.some.injEq, Prod.mk.injEq] at h
    obtain ⟨rfl, rfl, rfl, rfl, rfl, rfl⟩ := h
    have HI := Aside0.mk (show net_in.f a0_0 l0_1 l0_2 a1 = some false by unfold net_in.f; rw [if_neg (by omega)])
    clear c1
    have c_0_0 : W0.cell? ⟨w.heap.size, 0, none⟩ = some (.int .i64 a0_0) := (blk_cell B0 0).trans rfl
    have c_0_1 : W0.cell? ⟨w.heap.size, 1, none⟩ = some (.slice A0_1 l0_1.length c0_1) := (blk_cell B0 1).trans rfl
    have c_0_2 : W0.cell? ⟨w.heap.size, 2, none⟩ = some (.slice A0_2 l0_2.length c0_2) := (blk_cell B0 2).trans rfl
    have z_0_0 := blk_frozen B0 0
    have z_0_1 := blk_frozen B0 1
    have z_0_2 := blk_frozen B0 2
    have c_1_0 : W0.cell? ⟨w.heap.size + 1, 0, none⟩ = some (.int .i64 0) := (blk_cell B1 0).trans rfl
    have c_1_1 : W0.cell? ⟨w.heap.size + 1, 1, none⟩ = some (.slice none 0 0) := (blk_cell B1 1).trans rfl
    have c_1_2 : W0.cell? ⟨w.heap.size + 1, 2, none⟩ = some (.slice none 0 0) := (blk_cell B1 2).trans rfl
    have z_1_0 := blk_frozen B1 0
    have z_1_1 := blk_frozen B1 1
    have z_1_2 := blk_frozen B1 2
    have c_2_0 : W0.cell? ⟨w.heap.size + 1 + 1, 0, none⟩ = some (.int .u32 0) := (blk_cell B2 0).trans rfl
    have c_2_1 : W0.cell? ⟨w.heap.size + 1 + 1, 1, none⟩ = some (.slice none 0 0) := (blk_cell B2 1).trans rfl
    have z_2_0 := blk_frozen B2 0
    have z_2_1 := blk_frozen B2 1
    have lt_ : w.heap.size + 1 + 1 < W0.heap.size := by have := hz0; omega
    go_enter Try.func14, Try.ntmps14
    go_wp2_with fail
    rw [← Hw0.out]
    clear Hw0
    clear c_0_0 c_0_1 c_0_2 z_0_0 z_0_1 z_0_2 c_1_0 c_1_1 c_1_2 z_1_0 z_1_1 z_1_2 c_2_0 c_2_1 z_2_0 z_2_1 lt_
    refine (net_in.calls a0_0 _ _ l0_1 _ _ l0_2 a1 false _ (Kd.F_now (Kd.F_below F1 hB0)) hc1 (Kd.F_now (Kd.F_below F2 hB0)) hc2 HI.out).mono ?_
    rintro e W1 ⟨rfl, hb1⟩
    have B102 := blk_below B0 hb1
    have B103 := blk_below B1 hb1
    have B104 := blk_below B2 hb1
    have hB101 := hB0.trans (hb1.mono hB0.size)
    have hz101 : w.heap.size + 1 + 1 + 1 ≤ W1.heap.size := Nat.le_trans hz0 hb1.size
    clear B0 B1 B2 hB0 hz0
    clear hb1
    have V1 := Kd.V_mk (e := 29) (base := 0) hc1 (nrow.mv (R := fun k => P0_1_ k ∨ P0_2_ k) (m := w.heap.size + 1 + 1 + 1) hB101 (fun k hk => .inl hk) F1)
    have V2 := Kd.V_mk (e := 27) (base := 0) hc2 (nrow.mv (R := fun k => P0_1_ k ∨ P0_2_ k) (m := w.heap.size + 1 + 1 + 1) hB101 (fun k hk => .inr hk) F2)
    have c_0_0 : W1.cell? ⟨w.heap.size, 0, none⟩ = some (.int .i64 a0_0) := (blk_cell B102 0).trans rfl
    have c_0_1 : W1.cell? ⟨w.heap.size, 1, none⟩ = some (.slice A0_1 l0_1.length c0_1) := (blk_cell B102 1).trans rfl
    have c_0_2 : W1.cell? ⟨w.heap.size, 2, none⟩ = some (.slice A0_2 l0_2.length c0_2) := (blk_cell B102 2).trans rfl
    have z_0_0 := blk_frozen B102 0
    have z_0_1 := blk_frozen B102 1
    have z_0_2 := blk_frozen B102 2
    have c_1_0 : W1.cell? ⟨w.heap.size + 1, 0, none⟩ = some (.int .i64 0) := (blk_cell B103 0).trans rfl
    have c_1_1 : W1.cell? ⟨w.heap.size + 1, 1, none⟩ = some (.slice none 0 0) := (blk_cell B103 1).trans rfl
    have c_1_2 : W1.cell? ⟨w.heap.size + 1, 2, none⟩ = some (.slice none 0 0) := (blk_cell B103 2).trans rfl
    have z_1_0 := blk_frozen B103 0
    have z_1_1 := blk_frozen B103 1
    have z_1_2 := blk_frozen B103 2
    have c_2_0 : W1.cell? ⟨w.heap.size + 1 + 1, 0, none⟩ = some (.int .u32 0) := (blk_cell B104 0).trans rfl
    have c_2_1 : W1.cell? ⟨w.heap.size + 1 + 1, 1, none⟩ = some (.slice none 0 0) := (blk_cell B104 1).trans rfl
    have z_2_0 := blk_frozen B104 0
    have z_2_1 := blk_frozen B104 1
    have lt_ : w.heap.size + 1 + 1 < W1.heap.size := by have := hz101; omega
    go_wp2
    clear c_0_0 c_0_1 c_0_2 z_0_0 z_0_1 z_0_2 c_1_0 c_1_1 c_1_2 z_1_0 z_1_1 z_1_2 c_2_0 c_2_1 z_2_0 z_2_1 lt_
    have n105 : w.heap.size ≠ w.heap.size + 1 := by omega
    have n106 : w.heap.size + 1 + 1 ≠ w.heap.size + 1 := by omega
    have n107 : ∀ k, ((P0_1_ k ∨ P0_2_ k) ∧ k < w.heap.size ∨ w.heap.size + 1 + 1 + 1 ≤ k) → k ≠ w.heap.size + 1 := fun k hk => by omega
    have n108 : w.heap.size ≤ w.heap.size + 1 := by omega
    have B110 := (blk_put (cs' := #[.int .i64 a0_0, .slice A0_1 l0_1.length c0_1, .slice A0_2 l0_2.length c0_2]) (blk_put (cs' := #[.int .i64 a0_0, .slice A0_1 l0_1.length c0_1, .slice none 0 0]) (blk_put (cs' := #[.int .i64 a0_0, .slice none 0 0, .slice none 0 0]) B103 0 (.int .i64 a0_0) rfl) 1 (.slice A0_1 l0_1.length c0_1) rfl) 2 (.slice A0_2 l0_2.length c0_2) rfl)
    have B111 := (blk_far (p := ⟨w.heap.size + 1, 2, none⟩) (blk_far (p := ⟨w.heap.size + 1, 1, none⟩) (blk_far (p := ⟨w.heap.size + 1, 0, none⟩) B102 n105 (.int .i64 a0_0)) n105 (.slice A0_1 l0_1.length c0_1)) n105 (.slice A0_2 l0_2.length c0_2))
    have B112 := (blk_far (p := ⟨w.heap.size + 1, 2, none⟩) (blk_far (p := ⟨w.heap.size + 1, 1, none⟩) (blk_far (p := ⟨w.heap.size + 1, 0, none⟩) B104 n106 (.int .i64 a0_0)) n106 (.slice A0_1 l0_1.length c0_1)) n106 (.slice A0_2 l0_2.length c0_2))
    have V113 := (Kd.V_far (p := ⟨w.heap.size + 1, 2, none⟩) (Kd.V_far (p := ⟨w.heap.size + 1, 1, none⟩) (Kd.V_far (p := ⟨w.heap.size + 1, 0, none⟩) V1 n107 (.int .i64 a0_0)) n107 (.slice A0_1 l0_1.length c0_1)) n107 (.slice A0_2 l0_2.length c0_2))
    have V114 := (Kd.V_far (p := ⟨w.heap.size + 1, 2, none⟩) (Kd.V_far (p := ⟨w.heap.size + 1, 1, none⟩) (Kd.V_far (p := ⟨w.heap.size + 1, 0, none⟩) V2 n107 (.int .i64 a0_0)) n107 (.slice A0_1 l0_1.length c0_1)) n107 (.slice A0_2 l0_2.length c0_2))
    have hB115 := (below_set (g := w.heap.size + 1) (j := 2) (v := .slice A0_2 l0_2.length c0_2) (below_set (g := w.heap.size + 1) (j := 1) (v := .slice A0_1 l0_1.length c0_1) (below_set (g := w.heap.size + 1) (j := 0) (v := .int .i64 a0_0) hB101 n108) n108) n108)
    have hz116 : w.heap.size + 1 + 1 + 1 ≤ (((W1.setCell ⟨w.heap.size + 1, 0, none⟩ (.int .i64 a0_0)).setCell ⟨w.heap.size + 1, 1, none⟩ (.slice A0_1 l0_1.length c0_1)).setCell ⟨w.heap.size + 1, 2, none⟩ (.slice A0_2 l0_2.length c0_2)).heap.size := by simpa [World.setCell] using hz101
    clear B102 B103 B104 V1 V2 hB101 hz101 n105 n106 n107 n108
    obtain ⟨W109, hW109⟩ : ∃ W_ : World, W_ = (((W1.setCell ⟨w.heap.size + 1, 0, none⟩ (.int .i64 a0_0)).setCell ⟨w.heap.size + 1, 1, none⟩ (.slice A0_1 l0_1.length c0_1)).setCell ⟨w.heap.size + 1, 2, none⟩ (.slice A0_2 l0_2.length c0_2)) := ⟨_, rfl⟩
    rw [← hW109] at B110 B111 B112 V113 V114 hB115 hz116 ⊢
    clear hW109
    have n117 : w.heap.size ≠ w.heap.size + 1 + 1 := by omega
    have n118 : w.heap.size + 1 ≠ w.heap.size + 1 + 1 := by omega
    have n119 : ∀ k, ((P0_1_ k ∨ P0_2_ k) ∧ k < w.heap.size ∨ w.heap.size + 1 + 1 + 1 ≤ k) → k ≠ w.heap.size + 1 + 1 := fun k hk => by omega
    have n120 : w.heap.size ≤ w.heap.size + 1 + 1 := by omega
    have B122 := (blk_put (cs' := #[.int .u32 0, .slice none 0 0]) (blk_put (cs' := #[.int .u32 0, .slice none 0 0]) B112 0 (.int .u32 0) rfl) 1 (.slice none 0 0) rfl)
    have B123 := (blk_far (p := ⟨w.heap.size + 1 + 1, 1, none⟩) (blk_far (p := ⟨w.heap.size + 1 + 1, 0, none⟩) B111 n117 (.int .u32 0)) n117 (.slice none 0 0))
    have B124 := (blk_far (p := ⟨w.heap.size + 1 + 1, 1, none⟩) (blk_far (p := ⟨w.heap.size + 1 + 1, 0, none⟩) B110 n118 (.int .u32 0)) n118 (.slice none 0 0))
    have V125 := (Kd.V_far (p := ⟨w.heap.size + 1 + 1, 1, none⟩) (Kd.V_far (p := ⟨w.heap.size + 1 + 1, 0, none⟩) V113 n119 (.int .u32 0)) n119 (.slice none 0 0))
    have V126 := (Kd.V_far (p := ⟨w.heap.size + 1 + 1, 1, none⟩) (Kd.V_far (p := ⟨w.heap.size + 1 + 1, 0, none⟩) V114 n119 (.int .u32 0)) n119 (.slice none 0 0))
    have hB127 := (below_set (g := w.heap.size + 1 + 1) (j := 1) (v := .slice none 0 0) (below_set (g := w.heap.size + 1 + 1) (j := 0) (v := .int .u32 0) hB115 n120) n120)
    have hz128 : w.heap.size + 1 + 1 + 1 ≤ ((W109.setCell ⟨w.heap.size + 1 + 1, 0, none⟩ (.int .u32 0)).setCell ⟨w.heap.size + 1 + 1, 1, none⟩ (.slice none 0 0)).heap.size := by simpa [World.setCell] using hz116
    clear B111 B110 B112 V113 V114 hB115 hz116 n117 n118 n119 n120
    obtain ⟨W121, hW121⟩ : ∃ W_ : World, W_ = ((W109.setCell ⟨w.heap.size + 1 + 1, 0, none⟩ (.int .u32 0)).setCell ⟨w.heap.size + 1 + 1, 1, none⟩ (.slice none 0 0)) := ⟨_, rfl⟩
    rw [← hW121] at B122 B123 B124 V125 V126 hB127 hz128 ⊢
    clear hW121
    have V4 := Kd.V_nil (Kd.int .u32) 26 W121 w.heap.size (fun k => (P0_1_ k ∨ P0_2_ k) ∧ k < w.heap.size ∨ w.heap.size + 1 + 1 + 1 ≤ k)
    refine bodyPost_ret (results_list (rs := [.cell 4 25, .cell 5 29, .tmp 6]) rfl (by simp) (.cell (w.heap.size + 1) 25 #[.int .i64 a0_0, .slice A0_1 l0_1.length c0_1, .slice A0_2 l0_2.length c0_2] (0, 0) _ rfl B124 Try.underlying25 rfl (by kernel_rfl) (.cell (w.heap.size + 1 + 1) 29 #[.int .u32 0, .slice none 0 0] (0, 0) _ rfl B122 Try.underlying29 rfl (by kernel_rfl) (.tmp .nil)))) rfl ?_
    exact ⟨_, _, _, rfl, (by obtain ⟨A_, c_, e_⟩ := Kd.V_slice V125; exact ⟨A_, c_, e_⟩), (by obtain ⟨A_, c_, e_⟩ := Kd.V_slice V126; exact ⟨A_, c_, e_⟩), (by obtain ⟨A_, c_, e_⟩ := Kd.V_slice V4; exact ⟨A_, c_, e_⟩), fun h0_ => absurd h0_ (by decide), hB127⟩
  rw [if_neg c1] at h
  have c1p : 0 ≤ a1 := by omega
  by_cases c2 : a1 ≥ (l0_1.length : Int)
  · rw [if_pos c2] at h
    simp only [Option.some.injEq, Prod.mk.injEq] at h
    obtain ⟨rfl, rfl, rfl, rfl, rfl, rfl⟩ := h
    have HI := Aside0.mk (show net_in.f a0_0 l0_1 l0_2 a1 = some false by unfold net_in.f; rw [if_pos (by omega), show decide (a1 < (l0_1.length : Int)) = false from decide_eq_false (by omega)])
    clear c1 c2 c1p
    have c_0_0 : W0.cell? ⟨w.heap.size, 0, none⟩ = some (.int .i64 a0_0) := (blk_cell B0 0).trans rfl
    have c_0_1 : W0.cell? ⟨w.heap.size, 1, none⟩ = some (.slice A0_1 l0_1.length c0_1) := (blk_cell B0 1).trans rfl
    have c_0_2 : W0.cell? ⟨w.heap.size, 2, none⟩ = some (.slice A0_2 l0_2.length c0_2) := (blk_cell B0 2).trans rfl
    have z_0_0 := blk_frozen B0 0
    have z_0_1 := blk_frozen B0 1
    have z_0_2 := blk_frozen B0 2
    have c_1_0 : W0.cell? ⟨w.heap.size + 1, 0, none⟩ = some (.int .i64 0) := (blk_cell B1 0).trans rfl
    have c_1_1 : W0.cell? ⟨w.heap.size + 1, 1, none⟩ = some (.slice none 0 0) := (blk_cell B1 1).trans rfl
    have c_1_2 : W0.cell? ⟨w.heap.size + 1, 2, none⟩ = some (.slice none 0 0) := (blk_cell B1 2).trans rfl
    have z_1_0 := blk_frozen B1 0
    have z_1_1 := blk_frozen B1 1
    have z_1_2 := blk_frozen B1 2
    have c_2_0 : W0.cell? ⟨w.heap.size + 1 + 1, 0, none⟩ = some (.int .u32 0) := (blk_cell B2 0).trans rfl
    have c_2_1 : W0.cell? ⟨w.heap.size + 1 + 1, 1, none⟩ = some (.slice none 0 0) := (blk_cell B2 1).trans rfl
    have z_2_0 := blk_frozen B2 0
    have z_2_1 := blk_frozen B2 1
    have lt_ : w.heap.size + 1 + 1 < W0.heap.size := by have := hz0; omega
    go_enter Try.func14, Try.ntmps14
    go_wp2_with fail
    rw [← Hw0.out]
    clear Hw0
    clear c_0_0 c_0_1 c_0_2 z_0_0 z_0_1 z_0_2 c_1_0 c_1_1 c_1_2 z_1_0 z_1_1 z_1_2 c_2_0 c_2_1 z_2_0 z_2_1 lt_
    refine (net_in.calls a0_0 _ _ l0_1 _ _ l0_2 a1 false _ (Kd.F_now (Kd.F_below F1 hB0)) hc1 (Kd.F_now (Kd.F_below F2 hB0)) hc2 HI.out).mono ?_
    rintro e W1 ⟨rfl, hb1⟩
    have B102 := blk_below B0 hb1
    have B103 := blk_below B1 hb1
    have B104 := blk_below B2 hb1
    have hB101 := hB0.trans (hb1.mono hB0.size)
    have hz101 : w.heap.size + 1 + 1 + 1 ≤ W1.heap.size := Nat.le_trans hz0 hb1.size
    clear B0 B1 B2 hB0 hz0
    clear hb1
    have V1 := Kd.V_mk (e := 29) (base := 0) hc1 (nrow.mv (R := fun k => P0_1_ k ∨ P0_2_ k) (m := w.heap.size + 1 + 1 + 1) hB101 (fun k hk => .inl hk) F1)
    have V2 := Kd.V_mk (e := 27) (base := 0) hc2 (nrow.mv (R := fun k => P0_1_ k ∨ P0_2_ k) (m := w.heap.size + 1 + 1 + 1) hB101 (fun k hk => .inr hk) F2)
    have c_0_0 : W1.cell? ⟨w.heap.size, 0, none⟩ = some (.int .i64 a0_0) := (blk_cell B102 0).trans rfl
    have c_0_1 : W1.cell? ⟨w.heap.size, 1, none⟩ = some (.slice A0_1 l0_1.length c0_1) := (blk_cell B102 1).trans rfl
    have c_0_2 : W1.cell? ⟨w.heap.size, 2, none⟩ = some (.slice A0_2 l0_2.length c0_2) := (blk_cell B102 2).trans rfl
    have z_0_0 := blk_frozen B102 0
    have z_0_1 := blk_frozen B102 1
    have z_0_2 := blk_frozen B102 2
    have c_1_0 : W1.cell? ⟨w.heap.size + 1, 0, none⟩ = some (.int .i64 0) := (blk_cell B103 0).trans rfl
    have c_1_1 : W1.cell? ⟨w.heap.size + 1, 1, none⟩ = some (.slice none 0 0) := (blk_cell B103 1).trans rfl
    have c_1_2 : W1.cell? ⟨w.heap.size + 1, 2, none⟩ = some (.slice none 0 0) := (blk_cell B103 2).trans rfl
    have z_1_0 := blk_frozen B103 0
    have z_1_1 := blk_frozen B103 1
    have z_1_2 := blk_frozen B103 2
    have c_2_0 : W1.cell? ⟨w.heap.size + 1 + 1, 0, none⟩ = some (.int .u32 0) := (blk_cell B104 0).trans rfl
    have c_2_1 : W1.cell? ⟨w.heap.size + 1 + 1, 1, none⟩ = some (.slice none 0 0) := (blk_cell B104 1).trans rfl
    have z_2_0 := blk_frozen B104 0
    have z_2_1 := blk_frozen B104 1
    have lt_ : w.heap.size + 1 + 1 < W1.heap.size := by have := hz101; omega
    go_wp2
    clear c_0_0 c_0_1 c_0_2 z_0_0 z_0_1 z_0_2 c_1_0 c_1_1 c_1_2 z_1_0 z_1_1 z_1_2 c_2_0 c_2_1 z_2_0 z_2_1 lt_
    have n105 : w.heap.size ≠ w.heap.size + 1 := by omega
    have n106 : w.heap.size + 1 + 1 ≠ w.heap.size + 1 := by omega
    have n107 : ∀ k, ((P0_1_ k ∨ P0_2_ k) ∧ k < w.heap.size ∨ w.heap.size + 1 + 1 + 1 ≤ k) → k ≠ w.heap.size + 1 := fun k hk => by omega
    have n108 : w.heap.size ≤ w.heap.size + 1 := by omega
    have B110 := (blk_put (cs' := #[.int .i64 a0_0, .slice A0_1 l0_1.length c0_1, .slice A0_2 l0_2.length c0_2]) (blk_put (cs' := #[.int .i64 a0_0, .slice A0_1 l0_1.length c0_1, .slice none 0 0]) (blk_put (cs' := #[.int .i64 a0_0, .slice none 0 0, .slice none 0 0]) B103 0 (.int .i64 a0_0) rfl) 1 (.slice A0_1 l0_1.length c0_1) rfl) 2 (.slice A0_2 l0_2.length c0_2) rfl)
    have B111 := (blk_far (p := ⟨w.heap.size + 1, 2, none⟩) (blk_far (p := ⟨w.heap.size + 1, 1, none⟩) (blk_far (p := ⟨w.heap.size + 1, 0, none⟩) B102 n105 (.int .i64 a0_0)) n105 (.slice A0_1 l0_1.length c0_1)) n105 (.slice A0_2 l0_2.length c0_2))
    have B112 := (blk_far (p := ⟨w.heap.size + 1, 2, none⟩) (blk_far (p := ⟨w.heap.size + 1, 1, none⟩) (blk_far (p := ⟨w.heap.size + 1, 0, none⟩) B104 n106 (.int .i64 a0_0)) n106 (.slice A0_1 l0_1.length c0_1)) n106 (.slice A0_2 l0_2.length c0_2))
    have V113 := (Kd.V_far (p := ⟨w.heap.size + 1, 2, none⟩) (Kd.V_far (p := ⟨w.heap.size + 1, 1, none⟩) (Kd.V_far (p := ⟨w.heap.size + 1, 0, none⟩) V1 n107 (.int .i64 a0_0)) n107 (.slice A0_1 l0_1.length c0_1)) n107 (.slice A0_2 l0_2.length c0_2))
    have V114 := (Kd.V_far (p := ⟨w.heap.size + 1, 2, none⟩) (Kd.V_far (p := ⟨w.heap.size + 1, 1, none⟩) (Kd.V_far (p := ⟨w.heap.size + 1, 0, none⟩) V2 n107 (.int .i64 a0_0)) n107 (.slice A0_1 l0_1.length c0_1)) n107 (.slice A0_2 l0_2.length c0_2))
    have hB115 := (below_set (g := w.heap.size + 1) (j := 2) (v := .slice A0_2 l0_2.length c0_2) (below_set (g := w.heap.size + 1) (j := 1) (v := .slice A0_1 l0_1.length c0_1) (below_set (g := w.heap.size + 1) (j := 0) (v := .int .i64 a0_0) hB101 n108) n108) n108)
    have hz116 : w.heap.size + 1 + 1 + 1 ≤ (((W1.setCell ⟨w.heap.size + 1, 0, none⟩ (.int .i64 a0_0)).setCell ⟨w.heap.size + 1, 1, none⟩ (.slice A0_1 l0_1.length c0_1)).setCell ⟨w.heap.size + 1, 2, none⟩ (.slice A0_2 l0_2.length c0_2)).heap.size := by simpa [World.setCell] using hz101
    clear B102 B103 B104 V1 V2 hB101 hz101 n105 n106 n107 n108
    obtain ⟨W109, hW109⟩ : ∃ W_ : World, W_ = (((W1.setCell ⟨w.heap.size + 1, 0, none⟩ (.int .i64 a0_0)).setCell ⟨w.heap.size + 1, 1, none⟩ (.slice A0_1 l0_1.length c0_1)).setCell ⟨w.heap.size + 1, 2, none⟩ (.slice A0_2 l0_2.length c0_2)) := ⟨_, rfl⟩
    rw [← hW109] at B110 B111 B112 V113 V114 hB115 hz116 ⊢
    clear hW109
    have n117 : w.heap.size ≠ w.heap.size + 1 + 1 := by omega
    have n118 : w.heap.size + 1 ≠ w.heap.size + 1 + 1 := by omega
    have n119 : ∀ k, ((P0_1_ k ∨ P0_2_ k) ∧ k < w.heap.size ∨ w.heap.size + 1 + 1 + 1 ≤ k) → k ≠ w.heap.size + 1 + 1 := fun k hk => by omega
    have n120 : w.heap.size ≤ w.heap.size + 1 + 1 := by omega
    have B122 := (blk_put (cs' := #[.int .u32 0, .slice none 0 0]) (blk_put (cs' := #[.int .u32 0, .slice none 0 0]) B112 0 (.int .u32 0) rfl) 1 (.slice none 0 0) rfl)
    have B123 := (blk_far (p := ⟨w.heap.size + 1 + 1, 1, none⟩) (blk_far (p := ⟨w.heap.size + 1 + 1, 0, none⟩) B111 n117 (.int .u32 0)) n117 (.slice none 0 0))
    have B124 := (blk_far (p := ⟨w.heap.size + 1 + 1, 1, none⟩) (blk_far (p := ⟨w.heap.size + 1 + 1, 0, none⟩) B110 n118 (.int .u32 0)) n118 (.slice none 0 0))
    have V125 := (Kd.V_far (p := ⟨w.heap.size + 1 + 1, 1, none⟩) (Kd.V_far (p := ⟨w.heap.size + 1 + 1, 0, none⟩) V113 n119 (.int .u32 0)) n119 (.slice none 0 0))
    have V126 := (Kd.V_far (p := ⟨w.heap.size + 1 + 1, 1, none⟩) (Kd.V_far (p := ⟨w.heap.size + 1 + 1, 0, none⟩) V114 n119 (.int .u32 0)) n119 (.slice none 0 0))
    have hB127 := (below_set (g := w.heap.size + 1 + 1) (j := 1) (v := .slice none 0 0) (below_set (g := w.heap.size + 1 + 1) (j := 0) (v := .int .u32 0) hB115 n120) n120)
    have hz128 : w.heap.size + 1 + 1 + 1 ≤ ((W109.setCell ⟨w.heap.size + 1 + 1, 0, none⟩ (.int .u32 0)).setCell ⟨w.heap.size + 1 + 1, 1, none⟩ (.slice none 0 0)).heap.size := by simpa [World.setCell] using hz116
    clear B111 B110 B112 V113 V114 hB115 hz116 n117 n118 n119 n120
    obtain ⟨W121, hW121⟩ : ∃ W_ : World, W_ = ((W109.setCell ⟨w.heap.size + 1 + 1, 0, none⟩ (.int .u32 0)).setCell ⟨w.heap.size + 1 + 1, 1, none⟩ (.slice none 0 0)) := ⟨_, rfl⟩
    rw [← hW121] at B122 B123 B124 V125 V126 hB127 hz128 ⊢
    clear hW121
    have V4 := Kd.V_nil (Kd.int .u32) 26 W121 w.heap.size (fun k => (P0_1_ k ∨ P0_2_ k) ∧ k < w.heap.size ∨ w.heap.size + 1 + 1 + 1 ≤ k)
    refine bodyPost_ret (results_list (rs := [.cell 4 25, .cell 5 29, .tmp 6]) rfl (by simp) (.cell (w.heap.size + 1) 25 #[.int .i64 a0_0, .slice A0_1 l0_1.length c0_1, .slice A0_2 l0_2.length c0_2] (0, 0) _ rfl B124 Try.underlying25 rfl (by kernel_rfl) (.cell (w.heap.size + 1 + 1) 29 #[.int .u32 0, .slice none 0 0] (0, 0) _ rfl B122 Try.underlying29 rfl (by kernel_rfl) (.tmp .nil)))) rfl ?_
    exact ⟨_, _, _, rfl, (by obtain ⟨A_, c_, e_⟩ := Kd.V_slice V125; exact ⟨A_, c_, e_⟩), (by obtain ⟨A_, c_, e_⟩ := Kd.V_slice V126; exact ⟨A_, c_, e_⟩), (by obtain ⟨A_, c_, e_⟩ := Kd.V_slice V4; exact ⟨A_, c_, e_⟩), fun h0_ => absurd h0_ (by decide), hB127⟩
  rw [if_neg c2] at h
  have c2p : a1 < (l0_1.length : Int) := by omega
  have HI := Aside0.mk (show net_in.f a0_0 l0_1 l0_2 a1 = some true by unfold net_in.f; rw [if_pos (by omega), show decide (a1 < (l0_1.length : Int)) = true from decide_eq_true c2p])
  clear c1 c2
  by_cases hm : l0_1.length < 1000000
  rotate_left
  · rw [if_neg hm] at h; cases h
  rw [if_pos hm] at h
  simp only [Option.some.injEq, Prod.mk.injEq] at h
  obtain ⟨rfl, rfl, rfl, rfl, rfl, rfl⟩ := h
  have HCL := Aside0.mk (show api_Gram_26.f l0_1 = some l0_1 by unfold api_Gram_26.f; rw [Option.bind_some, if_pos (by simp; omega)]; rfl)
  have HM := Aside0.mk hm
  clear hm
  obtain ⟨n, hn⟩ : ∃ n, n = a1.toNat := ⟨_, rfl⟩
  have Hna := Aside0.mk (show a1 = (n : Int) by omega)
  have hnl : n < l0_1.length := by omega
  have hn6 : a1 < 1000000 := by have := HM.out; omega
  rw [← hn]
  clear hn
  obtain ⟨ad, AE, cE, rfl, hx0, hx1, hlE, FE⟩ := ndbl.elem F1 a1 c1p c2p
  have Hx0 := Aside0.mk hx0
  have Hx1 := Aside0.mk hx1
  have p : (0 ≤ a1) = True := eq_true c1p
  have q : (a1 < (l0_1.length : Int)) = True := eq_true c2p
  clear hx0 hx1 c2p
  have c_0_0 : W0.cell? ⟨w.heap.size, 0, none⟩ = some (.int .i64 a0_0) := (blk_cell B0 0).trans rfl
  have c_0_1 : W0.cell? ⟨w.heap.size, 1, none⟩ = some (.slice (some ad) l0_1.length c0_1) := (blk_cell B0 1).trans rfl
  have c_0_2 : W0.cell? ⟨w.heap.size, 2, none⟩ = some (.slice A0_2 l0_2.length c0_2) := (blk_cell B0 2).trans rfl
  have z_0_0 := blk_frozen B0 0
  have z_0_1 := blk_frozen B0 1
  have z_0_2 := blk_frozen B0 2
  have c_1_0 : W0.cell? ⟨w.heap.size + 1, 0, none⟩ = some (.int .i64 0) := (blk_cell B1 0).trans rfl
  have c_1_1 : W0.cell? ⟨w.heap.size + 1, 1, none⟩ = some (.slice none 0 0) := (blk_cell B1 1).trans rfl
  have c_1_2 : W0.cell? ⟨w.heap.size + 1, 2, none⟩ = some (.slice none 0 0) := (blk_cell B1 2).trans rfl
  have z_1_0 := blk_frozen B1 0
  have z_1_1 := blk_frozen B1 1
  have z_1_2 := blk_frozen B1 2
  have c_2_0 : W0.cell? ⟨w.heap.size + 1 + 1, 0, none⟩ = some (.int .u32 0) := (blk_cell B2 0).trans rfl
  have c_2_1 : W0.cell? ⟨w.heap.size + 1 + 1, 1, none⟩ = some (.slice none 0 0) := (blk_cell B2 1).trans rfl
  have z_2_0 := blk_frozen B2 0
  have z_2_1 := blk_frozen B2 1
  have lt_ : w.heap.size + 1 + 1 < W0.heap.size := by have := hz0; omega
  go_enter Try.func14, Try.ntmps14
  go_wp2_with fail
  rw [← Hw0.out]
  clear Hw0
  clear c_0_0 c_0_1 c_0_2 z_0_0 z_0_1 z_0_2 c_1_0 c_1_1 c_1_2 z_1_0 z_1_1 z_1_2 c_2_0 c_2_1 z_2_0 z_2_1 lt_
  refine (net_in.calls a0_0 _ _ l0_1 _ _ l0_2 a1 true _ (Kd.F_now (Kd.F_below F1 hB0)) hc1 (Kd.F_now (Kd.F_below F2 hB0)) hc2 HI.out).mono ?_
  rintro e W1 ⟨rfl, hb1⟩
  have B102 := blk_below B0 hb1
  have B103 := blk_below B1 hb1
  have B104 := blk_below B2 hb1
  have hB101 := hB0.trans (hb1.mono hB0.size)
  have hz101 : w.heap.size + 1 + 1 + 1 ≤ W1.heap.size := Nat.le_trans hz0 hb1.size
  clear B0 B1 B2 hB0 hz0
  clear hb1
  have c_0_0 : W1.cell? ⟨w.heap.size, 0, none⟩ = some (.int .i64 a0_0) := (blk_cell B102 0).trans rfl
  have c_0_1 : W1.cell? ⟨w.heap.size, 1, none⟩ = some (.slice (some ad) l0_1.length c0_1) := (blk_cell B102 1).trans rfl
  have c_0_2 : W1.cell? ⟨w.heap.size, 2, none⟩ = some (.slice A0_2 l0_2.length c0_2) := (blk_cell B102 2).trans rfl
  have z_0_0 := blk_frozen B102 0
  have z_0_1 := blk_frozen B102 1
  have z_0_2 := blk_frozen B102 2
  have c_1_0 : W1.cell? ⟨w.heap.size + 1, 0, none⟩ = some (.int .i64 0) := (blk_cell B103 0).trans rfl
  have c_1_1 : W1.cell? ⟨w.heap.size + 1, 1, none⟩ = some (.slice none 0 0) := (blk_cell B103 1).trans rfl
  have c_1_2 : W1.cell? ⟨w.heap.size + 1, 2, none⟩ = some (.slice none 0 0) := (blk_cell B103 2).trans rfl
  have z_1_0 := blk_frozen B103 0
  have z_1_1 := blk_frozen B103 1
  have z_1_2 := blk_frozen B103 2
  have c_2_0 : W1.cell? ⟨w.heap.size + 1 + 1, 0, none⟩ = some (.int .u32 0) := (blk_cell B104 0).trans rfl
  have c_2_1 : W1.cell? ⟨w.heap.size + 1 + 1, 1, none⟩ = some (.slice none 0 0) := (blk_cell B104 1).trans rfl
  have z_2_0 := blk_frozen B104 0
  have z_2_1 := blk_frozen B104 1
  have lt_ : w.heap.size + 1 + 1 < W1.heap.size := by have := hz101; omega
  have ex0 := pw_cell_below hB101 Hx0.out
  have ex1 := pw_cell_below hB101 Hx1.out
  go_upto_region 4 with (fail)
  clear c_0_0 c_0_1 c_0_2 z_0_0 z_0_1 z_0_2 c_1_0 c_1_1 c_1_2 z_1_0 z_1_1 z_1_2 c_2_0 c_2_1 z_2_0 z_2_1 lt_
  clear ex0 ex1
  obtain ⟨g7, hg7⟩ : ∃ g_, g_ = W1.heap.size := ⟨_, rfl⟩
  have BN_ := (MapKept.heap_alloc W1 (.cells #[.int .u32 (rd_T29 l0_1 a1).f0, .slice AE (rd_T29 l0_1 a1).f1.length cE] 29)).1
  rw [← hg7] at BN_ ⊢
  have g7_lo : w.heap.size + 1 + 1 + 1 ≤ g7 := by rw [hg7]; exact hz101
  obtain ⟨W105, hW105⟩ : ∃ W_ : World, W_ = W1.alloc (.cells #[.int .u32 (rd_T29 l0_1 a1).f0, .slice AE (rd_T29 l0_1 a1).f1.length cE] 29) := ⟨_, rfl⟩
  rw [← hW105] at BN_ ⊢
  have hal_ : Below W1.heap.size W1 W105 := by rw [hW105]; exact below_alloc (Below.refl _ _) _
  have BM_ := BN_
  clear BN_ hW105 hg7
  have B107 := blk_below B102 hal_
  have B108 := blk_below B103 hal_
  have B109 := blk_below B104 hal_
  have hB106 := hB101.trans (hal_.mono hB101.size)
  have hz106 : w.heap.size + 1 + 1 + 1 ≤ W105.heap.size := Nat.le_trans hz101 hal_.size
  clear B102 B103 B104 hB101 hz101
  have B110 := BM_
  clear BM_ hal_
  have c_0_0 : W105.cell? ⟨w.heap.size, 0, none⟩ = some (.int .i64 a0_0) := (blk_cell B107 0).trans rfl
  have c_0_1 : W105.cell? ⟨w.heap.size, 1, none⟩ = some (.slice (some ad) l0_1.length c0_1) := (blk_cell B107 1).trans rfl
  have c_0_2 : W105.cell? ⟨w.heap.size, 2, none⟩ = some (.slice A0_2 l0_2.length c0_2) := (blk_cell B107 2).trans rfl
  have z_0_0 := blk_frozen B107 0
  have z_0_1 := blk_frozen B107 1
  have z_0_2 := blk_frozen B107 2
  have c_1_0 : W105.cell? ⟨w.heap.size + 1, 0, none⟩ = some (.int .i64 0) := (blk_cell B108 0).trans rfl
  have c_1_1 : W105.cell? ⟨w.heap.size + 1, 1, none⟩ = some (.slice none 0 0) := (blk_cell B108 1).trans rfl
  have c_1_2 : W105.cell? ⟨w.heap.size + 1, 2, none⟩ = some (.slice none 0 0) := (blk_cell B108 2).trans rfl
  have z_1_0 := blk_frozen B108 0
  have z_1_1 := blk_frozen B108 1
  have z_1_2 := blk_frozen B108 2
  have c_2_0 : W105.cell? ⟨w.heap.size + 1 + 1, 0, none⟩ = some (.int .u32 0) := (blk_cell B109 0).trans rfl
  have c_2_1 : W105.cell? ⟨w.heap.size + 1 + 1, 1, none⟩ = some (.slice none 0 0) := (blk_cell B109 1).trans rfl
  have z_2_0 := blk_frozen B109 0
  have z_2_1 := blk_frozen B109 1
  have c_3_0 : W105.cell? ⟨g7, 0, none⟩ = some (.int .u32 (rd_T29 l0_1 a1).f0) := (blk_cell B110 0).trans rfl
  have c_3_1 : W105.cell? ⟨g7, 1, none⟩ = some (.slice AE (rd_T29 l0_1 a1).f1.length cE) := (blk_cell B110 1).trans rfl
  have z_3_0 := blk_frozen B110 0
  have z_3_1 := blk_frozen B110 1
  have lt_ : w.heap.size + 1 + 1 < W105.heap.size := by have := hz106; omega
  go_wp2_with fail
  clear c_0_0 c_0_1 c_0_2 z_0_0 z_0_1 z_0_2 c_1_0 c_1_1 c_1_2 z_1_0 z_1_1 z_1_2 c_2_0 c_2_1 z_2_0 z_2_1 c_3_0 c_3_1 z_3_0 z_3_1 lt_
  have VA := Kd.V_mk (e := 29) (base := W105.heap.size) hc1 (Kd.F_below (Kd.F_bound F1) hB106)
  refine (api_Gram_26.new (fun k => P0_1_ k ∧ k < w.heap.size) (fun k => Q0_ k ∧ k < w.heap.size) _ _ l0_1 l0_1 _ VA (kk.E.old HE.out hB106) HCL.out).mono ?_
  rintro e W4 ⟨v4, rfl, hN4, hb4⟩
  clear VA
  obtain ⟨g8, c8, e8, hg8, _⟩ := Kd.N_form hN4 (by omega)
  subst e8
  have hb4z := hb4.size
  go_wp2_with fail
  refine (ndel.calls (w0 := W105) (base := W105.heap.size) hN4 hnl HM.out hb4 hb4z Hna.out).mono ?_
  rintro e W5 ⟨rfl, hN5, hb5⟩
  clear hN4 hb4 hb4z
  have U1 := Kd.V_mono (ok' := fun k => (Q0_ k ∨ P0_2_ k) ∧ k < w.heap.size ∨ w.heap.size + 1 + 1 + 1 ≤ k) (Kd.N_V (base' := 0) hN5) (fun k hk => hk.elim (fun h => .inl ⟨.inl h.1, h.2⟩) (fun h => .inr (by have := hz106; omega)))
  clear hN5
  have e9 : l0_1.length - 1 = (l0_1.eraseIdx n).length := by rw [List.length_eraseIdx, if_pos hnl]
  rw [e9] at U1 ⊢
  have B112 := blk_below B107 hb5
  have B113 := blk_below B108 hb5
  have B114 := blk_below B109 hb5
  have B115 := blk_below B110 hb5
  have hB111 := hB106.trans (hb5.mono hB106.size)
  have hz111 : w.heap.size + 1 + 1 + 1 ≤ W5.heap.size := Nat.le_trans hz106 hb5.size
  clear B107 B108 B109 B110 hB106 hz106
  clear hb5
  have c_0_0 : W5.cell? ⟨w.heap.size, 0, none⟩ = some (.int .i64 a0_0) := (blk_cell B112 0).trans rfl
  have c_0_1 : W5.cell? ⟨w.heap.size, 1, none⟩ = some (.slice (some ad) l0_1.length c0_1) := (blk_cell B112 1).trans rfl
  have c_0_2 : W5.cell? ⟨w.heap.size, 2, none⟩ = some (.slice A0_2 l0_2.length c0_2) := (blk_cell B112 2).trans rfl
  have z_0_0 := blk_frozen B112 0
  have z_0_1 := blk_frozen B112 1
  have z_0_2 := blk_frozen B112 2
  have c_1_0 : W5.cell? ⟨w.heap.size + 1, 0, none⟩ = some (.int .i64 0) := (blk_cell B113 0).trans rfl
  have c_1_1 : W5.cell? ⟨w.heap.size + 1, 1, none⟩ = some (.slice none 0 0) := (blk_cell B113 1).trans rfl
  have c_1_2 : W5.cell? ⟨w.heap.size + 1, 2, none⟩ = some (.slice none 0 0) := (blk_cell B113 2).trans rfl
  have z_1_0 := blk_frozen B113 0
  have z_1_1 := blk_frozen B113 1
  have z_1_2 := blk_frozen B113 2
  have c_2_0 : W5.cell? ⟨w.heap.size + 1 + 1, 0, none⟩ = some (.int .u32 0) := (blk_cell B114 0).trans rfl
  have c_2_1 : W5.cell? ⟨w.heap.size + 1 + 1, 1, none⟩ = some (.slice none 0 0) := (blk_cell B114 1).trans rfl
  have z_2_0 := blk_frozen B114 0
  have z_2_1 := blk_frozen B114 1
  have c_3_0 : W5.cell? ⟨g7, 0, none⟩ = some (.int .u32 (rd_T29 l0_1 a1).f0) := (blk_cell B115 0).trans rfl
  have c_3_1 : W5.cell? ⟨g7, 1, none⟩ = some (.slice AE (rd_T29 l0_1 a1).f1.length cE) := (blk_cell B115 1).trans rfl
  have z_3_0 := blk_frozen B115 0
  have z_3_1 := blk_frozen B115 1
  have lt_ : w.heap.size + 1 + 1 < W5.heap.size := by have := hz111; omega
  go_upto_region 5 with (fail)
  clear c_0_0 c_0_1 c_0_2 z_0_0 z_0_1 z_0_2 c_1_0 c_1_1 c_1_2 z_1_0 z_1_1 z_1_2 c_2_0 c_2_1 z_2_0 z_2_1 c_3_0 c_3_1 z_3_0 z_3_1 lt_
  have n116 : w.heap.size + 1 ≠ w.heap.size := by omega
  have n117 : w.heap.size + 1 + 1 ≠ w.heap.size := by omega
  have n118 : g7 ≠ w.heap.size := by omega
  have n119 : ∀ k, ((Q0_ k ∨ P0_2_ k) ∧ k < w.heap.size ∨ w.heap.size + 1 + 1 + 1 ≤ k) → k ≠ w.heap.size := fun k hk => by omega
  have n120 : w.heap.size ≤ w.heap.size := by omega
  have B122 := (blk_put (cs' := #[.int .i64 a0_0, .slice (some ⟨g8, 0, none⟩) (l0_1.eraseIdx n).length c8, .slice A0_2 l0_2.length c0_2]) B112 1 (.slice (some ⟨g8, 0, none⟩) (l0_1.eraseIdx n).length c8) rfl)
  have B123 := (blk_far (p := ⟨w.heap.size, 1, none⟩) B113 n116 (.slice (some ⟨g8, 0, none⟩) (l0_1.eraseIdx n).length c8))
  have B124 := (blk_far (p := ⟨w.heap.size, 1, none⟩) B114 n117 (.slice (some ⟨g8, 0, none⟩) (l0_1.eraseIdx n).length c8))
  have B125 := (blk_far (p := ⟨w.heap.size, 1, none⟩) B115 n118 (.slice (some ⟨g8, 0, none⟩) (l0_1.eraseIdx n).length c8))
  have V126 := (Kd.V_far (p := ⟨w.heap.size, 1, none⟩) U1 n119 (.slice (some ⟨g8, 0, none⟩) (l0_1.eraseIdx n).length c8))
  have hB127 := (below_set (g := w.heap.size) (j := 1) (v := .slice (some ⟨g8, 0, none⟩) (l0_1.eraseIdx n).length c8) hB111 n120)
  have hz128 : w.heap.size + 1 + 1 + 1 ≤ (W5.setCell ⟨w.heap.size, 1, none⟩ (.slice (some ⟨g8, 0, none⟩) (l0_1.eraseIdx n).length c8)).heap.size := by simpa [World.setCell] using hz111
  clear B112 B113 B114 B115 U1 hB111 hz111 n116 n117 n118 n119 n120
  obtain ⟨W121, hW121⟩ : ∃ W_ : World, W_ = (W5.setCell ⟨w.heap.size, 1, none⟩ (.slice (some ⟨g8, 0, none⟩) (l0_1.eraseIdx n).length c8)) := ⟨_, rfl⟩
  rw [← hW121] at B122 B123 B124 B125 V126 hB127 hz128 ⊢
  clear hW121
  refine start_ (n := 5) (S := fun w' => w'.cell? ⟨w.heap.size, 0, none⟩ = some (.int .i64 a0_0) ∧ w'.cell? ⟨w.heap.size, 1, none⟩ = some (.slice (some ⟨g8, 0, none⟩) (l0_1.eraseIdx n).length c8) ∧ w'.cell? ⟨w.heap.size, 2, none⟩ = some (.slice A0_2 l0_2.length c0_2) ∧ w'.cell? ⟨g7, 0, none⟩ = some (.int .u32 (rd_T29 l0_1 a1).f0) ∧ w'.cell? ⟨g7, 1, none⟩ = some (.slice AE (rd_T29 l0_1 a1).f1.length cE)) (ds := []) #[false, false, false, false, false] (by kernel_rfl) rfl rfl ⟨(blk_cell (blk_drew B122) 0).trans rfl, (blk_cell (blk_drew B122) 1).trans rfl, (blk_cell (blk_drew B122) 2).trans rfl, (blk_cell (blk_drew B125) 0).trans rfl, (blk_cell (blk_drew B125) 1).trans rfl⟩ (fun hHeld => ?_)
  obtain ⟨W129, hW129⟩ : ∃ W_ : World, W_ = W121.drew := ⟨_, rfl⟩
  rw [← hW129] at hHeld ⊢
  have hbd_ : Below W121.heap.size W121 W129 := by rw [hW129]; exact below_drew (Below.refl _ _)
  clear hW129
  have B131 := blk_below B122 hbd_
  have B132 := blk_below B123 hbd_
  have B133 := blk_below B124 hbd_
  have B134 := blk_below B125 hbd_
  have V135 := Kd.V_below V126 hbd_
  have hB130 := hB127.trans (hbd_.mono hB127.size)
  have hz130 : w.heap.size + 1 + 1 + 1 ≤ W129.heap.size := Nat.le_trans hz128 hbd_.size
  clear B122 B123 B124 B125 V126 hB127 hz128
  clear hbd_
  refine take_ (i := 0) (N := some 27) (v := ?_) (a' := ?_) #[true, false, false, false, false] rfl rfl (by kernel_rfl) (fun _ _ _ h => h) (Or.inl ⟨by rfl, ?_⟩) hHeld ?_ ?_
  rotate_left
  · rintro w' ⟨s0, s1, s2, s3, s4⟩
    go_simp
    with_reducible rfl
  rotate_left
  · simp only [Act.put, List.setIfInBounds_toArray, List.set_cons_zero, List.set_cons_succ, i64_w, i32_w]
    rfl
  refine take_ (i := 1) (N := some 28) (v := ?_) (a' := ?_) #[true, true, false, false, false] rfl rfl (by kernel_rfl) (fun _ _ _ h => h) (Or.inl ⟨by rfl, ?_⟩) hHeld ?_ ?_
  rotate_left
  · rintro w' ⟨s0, s1, s2, s3, s4⟩
    go_simp
    with_reducible rfl
  rotate_left
  · simp only [Act.put, List.setIfInBounds_toArray, List.set_cons_zero, List.set_cons_succ, i64_w, i32_w]
    rfl
  refine one_ (i := 2) (N := none) #[true, true, true, false, false] rfl rfl (by kernel_rfl) (by decide) (fun K hK => ?_)
  have c_1_0 : W129.cell? ⟨w.heap.size + 1, 0, none⟩ = some (.int .i64 0) := (blk_cell B132 0).trans rfl
  have c_1_1 : W129.cell? ⟨w.heap.size + 1, 1, none⟩ = some (.slice none 0 0) := (blk_cell B132 1).trans rfl
  have c_1_2 : W129.cell? ⟨w.heap.size + 1, 2, none⟩ = some (.slice none 0 0) := (blk_cell B132 2).trans rfl
  have z_1_0 := blk_frozen B132 0
  have z_1_1 := blk_frozen B132 1
  have z_1_2 := blk_frozen B132 2
  have lt_ : w.heap.size + 1 + 1 < W129.heap.size := by have := hz130; omega
  refine skip_ (w1 := ?_) (by rfl) rfl ?_ ?_
  rotate_left
  · go_simp
    rfl
  clear c_1_0 c_1_1 c_1_2 z_1_0 z_1_1 z_1_2 lt_
  have HKs := Aside0.mk hK
  clear hK
  have n136 : w.heap.size ≠ w.heap.size + 1 := by omega
  have n137 : w.heap.size + 1 + 1 ≠ w.heap.size + 1 := by omega
  have n138 : g7 ≠ w.heap.size + 1 := by omega
  have n139 : ∀ k, ((Q0_ k ∨ P0_2_ k) ∧ k < w.heap.size ∨ w.heap.size + 1 + 1 + 1 ≤ k) → k ≠ w.heap.size + 1 := fun k hk => by omega
  have n140 : w.heap.size ≤ w.heap.size + 1 := by omega
  have B142 := (blk_put (cs' := #[.int .i64 a0_0, .slice (some ⟨g8, 0, none⟩) (l0_1.eraseIdx n).length c8, .slice A0_2 l0_2.length c0_2]) (blk_put (cs' := #[.int .i64 a0_0, .slice (some ⟨g8, 0, none⟩) (l0_1.eraseIdx n).length c8, .slice none 0 0]) (blk_put (cs' := #[.int .i64 a0_0, .slice none 0 0, .slice none 0 0]) B132 0 (.int .i64 a0_0) rfl) 1 (.slice (some ⟨g8, 0, none⟩) (l0_1.eraseIdx n).length c8) rfl) 2 (.slice A0_2 l0_2.length c0_2) rfl)
  have B143 := (blk_far (p := ⟨w.heap.size + 1, 2, none⟩) (blk_far (p := ⟨w.heap.size + 1, 1, none⟩) (blk_far (p := ⟨w.heap.size + 1, 0, none⟩) B131 n136 (.int .i64 a0_0)) n136 (.slice (some ⟨g8, 0, none⟩) (l0_1.eraseIdx n).length c8)) n136 (.slice A0_2 l0_2.length c0_2))
  have B144 := (blk_far (p := ⟨w.heap.size + 1, 2, none⟩) (blk_far (p := ⟨w.heap.size + 1, 1, none⟩) (blk_far (p := ⟨w.heap.size + 1, 0, none⟩) B133 n137 (.int .i64 a0_0)) n137 (.slice (some ⟨g8, 0, none⟩) (l0_1.eraseIdx n).length c8)) n137 (.slice A0_2 l0_2.length c0_2))
  have B145 := (blk_far (p := ⟨w.heap.size + 1, 2, none⟩) (blk_far (p := ⟨w.heap.size + 1, 1, none⟩) (blk_far (p := ⟨w.heap.size + 1, 0, none⟩) B134 n138 (.int .i64 a0_0)) n138 (.slice (some ⟨g8, 0, none⟩) (l0_1.eraseIdx n).length c8)) n138 (.slice A0_2 l0_2.length c0_2))
  have V146 := (Kd.V_far (p := ⟨w.heap.size + 1, 2, none⟩) (Kd.V_far (p := ⟨w.heap.size + 1, 1, none⟩) (Kd.V_far (p := ⟨w.heap.size + 1, 0, none⟩) V135 n139 (.int .i64 a0_0)) n139 (.slice (some ⟨g8, 0, none⟩) (l0_1.eraseIdx n).length c8)) n139 (.slice A0_2 l0_2.length c0_2))
  have hB147 := (below_set (g := w.heap.size + 1) (j := 2) (v := .slice A0_2 l0_2.length c0_2) (below_set (g := w.heap.size + 1) (j := 1) (v := .slice (some ⟨g8, 0, none⟩) (l0_1.eraseIdx n).length c8) (below_set (g := w.heap.size + 1) (j := 0) (v := .int .i64 a0_0) hB130 n140) n140) n140)
  have hz148 : w.heap.size + 1 + 1 + 1 ≤ (((W129.setCell ⟨w.heap.size + 1, 0, none⟩ (.int .i64 a0_0)).setCell ⟨w.heap.size + 1, 1, none⟩ (.slice (some ⟨g8, 0, none⟩) (l0_1.eraseIdx n).length c8)).setCell ⟨w.heap.size + 1, 2, none⟩ (.slice A0_2 l0_2.length c0_2)).heap.size := by simpa [World.setCell] using hz130
  clear B131 B132 B133 B134 V135 hB130 hz130 n136 n137 n138 n139 n140
  obtain ⟨W141, hW141⟩ : ∃ W_ : World, W_ = (((W129.setCell ⟨w.heap.size + 1, 0, none⟩ (.int .i64 a0_0)).setCell ⟨w.heap.size + 1, 1, none⟩ (.slice (some ⟨g8, 0, none⟩) (l0_1.eraseIdx n).length c8)).setCell ⟨w.heap.size + 1, 2, none⟩ (.slice A0_2 l0_2.length c0_2)) := ⟨_, rfl⟩
  rw [← hW141] at B142 B143 B144 B145 V146 hB147 hz148 ⊢
  clear hW141
  refine HKs.out.out _ _ ⟨(blk_cell B143 0).trans rfl, (blk_cell B143 1).trans rfl, (blk_cell B143 2).trans rfl, (blk_cell B145 0).trans rfl, (blk_cell B145 1).trans rfl⟩ (fun hHeld => ?_)
  clear HKs K
  refine one_ (i := 3) (N := none) #[true, true, true, true, false] rfl rfl (by kernel_rfl) (by decide) (fun K hK => ?_)
  have c_2_0 : W141.cell? ⟨w.heap.size + 1 + 1, 0, none⟩ = some (.int .u32 0) := (blk_cell B144 0).trans rfl
  have c_2_1 : W141.cell? ⟨w.heap.size + 1 + 1, 1, none⟩ = some (.slice none 0 0) := (blk_cell B144 1).trans rfl
  have z_2_0 := blk_frozen B144 0
  have z_2_1 := blk_frozen B144 1
  have lt_ : w.heap.size + 1 + 1 < W141.heap.size := by have := hz148; omega
  refine skip_ (w1 := ?_) (by rfl) rfl ?_ ?_
  rotate_left
  · go_simp
    rfl
  clear c_2_0 c_2_1 z_2_0 z_2_1 lt_
  have HKs := Aside0.mk hK
  clear hK
  have n149 : w.heap.size ≠ w.heap.size + 1 + 1 := by omega
  have n150 : w.heap.size + 1 ≠ w.heap.size + 1 + 1 := by omega
  have n151 : g7 ≠ w.heap.size + 1 + 1 := by omega
  have n152 : ∀ k, ((Q0_ k ∨ P0_2_ k) ∧ k < w.heap.size ∨ w.heap.size + 1 + 1 + 1 ≤ k) → k ≠ w.heap.size + 1 + 1 := fun k hk => by omega
  have n153 : w.heap.size ≤ w.heap.size + 1 + 1 := by omega
  have B155 := (blk_put (cs' := #[.int .u32 (rd_T29 l0_1 a1).f0, .slice AE (rd_T29 l0_1 a1).f1.length cE]) (blk_put (cs' := #[.int .u32 (rd_T29 l0_1 a1).f0, .slice none 0 0]) B144 0 (.int .u32 (rd_T29 l0_1 a1).f0) rfl) 1 (.slice AE (rd_T29 l0_1 a1).f1.length cE) rfl)
  have B156 := (blk_far (p := ⟨w.heap.size + 1 + 1, 1, none⟩) (blk_far (p := ⟨w.heap.size + 1 + 1, 0, none⟩) B143 n149 (.int .u32 (rd_T29 l0_1 a1).f0)) n149 (.slice AE (rd_T29 l0_1 a1).f1.length cE))
  have B157 := (blk_far (p := ⟨w.heap.size + 1 + 1, 1, none⟩) (blk_far (p := ⟨w.heap.size + 1 + 1, 0, none⟩) B142 n150 (.int .u32 (rd_T29 l0_1 a1).f0)) n150 (.slice AE (rd_T29 l0_1 a1).f1.length cE))
  have B158 := (blk_far (p := ⟨w.heap.size + 1 + 1, 1, none⟩) (blk_far (p := ⟨w.heap.size + 1 + 1, 0, none⟩) B145 n151 (.int .u32 (rd_T29 l0_1 a1).f0)) n151 (.slice AE (rd_T29 l0_1 a1).f1.length cE))
  have V159 := (Kd.V_far (p := ⟨w.heap.size + 1 + 1, 1, none⟩) (Kd.V_far (p := ⟨w.heap.size + 1 + 1, 0, none⟩) V146 n152 (.int .u32 (rd_T29 l0_1 a1).f0)) n152 (.slice AE (rd_T29 l0_1 a1).f1.length cE))
  have hB160 := (below_set (g := w.heap.size + 1 + 1) (j := 1) (v := .slice AE (rd_T29 l0_1 a1).f1.length cE) (below_set (g := w.heap.size + 1 + 1) (j := 0) (v := .int .u32 (rd_T29 l0_1 a1).f0) hB147 n153) n153)
  have hz161 : w.heap.size + 1 + 1 + 1 ≤ ((W141.setCell ⟨w.heap.size + 1 + 1, 0, none⟩ (.int .u32 (rd_T29 l0_1 a1).f0)).setCell ⟨w.heap.size + 1 + 1, 1, none⟩ (.slice AE (rd_T29 l0_1 a1).f1.length cE)).heap.size := by simpa [World.setCell] using hz148
  clear B143 B142 B144 B145 V146 hB147 hz148 n149 n150 n151 n152 n153
  obtain ⟨W154, hW154⟩ : ∃ W_ : World, W_ = ((W141.setCell ⟨w.heap.size + 1 + 1, 0, none⟩ (.int .u32 (rd_T29 l0_1 a1).f0)).setCell ⟨w.heap.size + 1 + 1, 1, none⟩ (.slice AE (rd_T29 l0_1 a1).f1.length cE)) := ⟨_, rfl⟩
  rw [← hW154] at B155 B156 B157 B158 V159 hB160 hz161 ⊢
  clear hW154
  refine HKs.out.out _ _ ⟨(blk_cell B156 0).trans rfl, (blk_cell B156 1).trans rfl, (blk_cell B156 2).trans rfl, (blk_cell B158 0).trans rfl, (blk_cell B158 1).trans rfl⟩ (fun hHeld => ?_)
  clear HKs K
  refine pure_ (i := 4) (N := some 6) (v := ?_) (a' := ?_) #[true, true, true, true, true] rfl rfl (by kernel_rfl) (fun _ _ _ h => h) (Or.inl ⟨by rfl, ?_⟩) ?_ ?_
  rotate_left
  · intro w'
    go_simp
    with_reducible rfl
  rotate_left
  · simp only [Act.put, List.setIfInBounds_toArray, List.set_cons_zero, List.set_cons_succ, i64_w, i32_w]
    rfl
  refine done_ (by kernel_rfl) ?_
  go_wp2
  have V2 := Kd.V_mk (e := 27) (base := 0) hc2 (nrow.mv (R := fun k => Q0_ k ∨ P0_2_ k) (m := w.heap.size + 1 + 1 + 1) hB160 (fun k hk => .inr hk) F2)
  have V4 := Kd.V_mk (e := 26) (base := 0) hlE (nrow.mv (R := fun k => P0_1_ k ∨ P0_2_ k) (m := w.heap.size + 1 + 1 + 1) hB160 (fun k hk => .inl hk) FE)
  refine bodyPost_ret (results_list (rs := [.cell 4 25, .cell 5 29, .tmp 6]) rfl (by simp) (.cell (w.heap.size + 1) 25 #[.int .i64 a0_0, .slice (some ⟨g8, 0, none⟩) (l0_1.eraseIdx n).length c8, .slice A0_2 l0_2.length c0_2] (0, 0) _ rfl B157 Try.underlying25 rfl (by kernel_rfl) (.cell (w.heap.size + 1 + 1) 29 #[.int .u32 (rd_T29 l0_1 a1).f0, .slice AE (rd_T29 l0_1 a1).f1.length cE] (0, 0) _ rfl B155 Try.underlying29 rfl (by kernel_rfl) (.tmp .nil)))) rfl ?_
  exact ⟨_, _, _, rfl, (by obtain ⟨A_, c_, e_⟩ := Kd.V_slice V159; exact ⟨A_, c_, e_⟩), (by obtain ⟨A_, c_, e_⟩ := Kd.V_slice V2; exact ⟨A_, c_, e_⟩), (by obtain ⟨A_, c_, e_⟩ := Kd.V_slice V4; exact ⟨A_, c_, e_⟩), fun _ => ⟨Kd.V_mono V159 (fun k hk => hk.elim (fun h => .inl h.1) (fun h => .inr (by omega))), Kd.V_mono V2 (fun k hk => hk.elim (fun h => .inl h.1) (fun h => .inr (by omega)))⟩, hB160⟩
set_option maxHeartbeats 8000000 in
set_option maxRecDepth 100000 in
theorem net_Double.new (a0_0 : Int) (P0_1_ Q0_ : Nat → Prop) (A0_1 : Option Addr) (c0_1 : Nat) (l0_1 : List (S29)) (P0_2_ : Nat → Prop) (A0_2 : Option Addr) (c0_2 : Nat) (l0_2 : List (List Int)) (a1 : Int) (r1 : Int) (r2 : List (S29)) (r3 : List (List Int)) (r4 : Int) (w : World) (hs0_1 : Kd.V k29 29 w w.heap.size (fun k_ => P0_1_ k_) (.slice A0_1 l0_1.length c0_1) l0_1) (hs0_2 : Kd.V (Kd.slice 26 (Kd.int .u32)) 27 w w.heap.size (fun k_ => P0_2_ k_) (.slice A0_2 l0_2.length c0_2) l0_2) (hE : kk.E k29 w (fun k_ => Q0_ k_) A0_1 l0_1.length l0_1) (h : net_Double.f a0_0 l0_1 l0_2 a1 = some (r1, r2, r3, r4)) :
    Calls Try.prog 16 #[.agg #[.int .i64 a0_0, .slice A0_1 l0_1.length c0_1, .slice A0_2 l0_2.length c0_2], .int .i64 a1] w fun e w' => ∃ v1_ v2_ : Value, e = .returned (.tuple #[.agg #[.int .i64 r1, v1_, v2_], .int .i64 r4]) ∧ (∃ A_ c_, v1_ = .slice A_ r2.length c_) ∧ (∃ A_ c_, v2_ = .slice A_ r3.length c_) ∧ (r4 = 0 → Kd.V k29 29 w' w.heap.size (fun k_ => ((Q0_ k_ ∨ P0_2_ k_) ∨ w.heap.size ≤ k_)) v1_ r2 ∧ Kd.V (Kd.slice 26 (Kd.int .u32)) 27 w' w.heap.size (fun k_ => ((Q0_ k_ ∨ P0_2_ k_) ∨ w.heap.size ≤ k_)) v2_ r3) ∧ Below w.heap.size w w' := by
  unfold net_Double.f at h
  obtain ⟨W0, hW0⟩ : ∃ W0 : World, W0 = (w.alloc (.cells #[.int .i64 a0_0, .slice A0_1 l0_1.length c0_1, .slice A0_2 l0_2.length c0_2] 25)).alloc (.cells #[.int .i64 0, .slice none 0 0, .slice none 0 0] 25) := ⟨_, rfl⟩
  have B0 : W0.heap[w.heap.size]? = some (.cells #[.int .i64 a0_0, .slice A0_1 l0_1.length c0_1, .slice A0_2 l0_2.length c0_2] 25 (0, 0)) := by rw [hW0]; refine blk_alloc ?_ _; have := (MapKept.heap_alloc (w) (.cells #[.int .i64 a0_0, .slice A0_1 l0_1.length c0_1, .slice A0_2 l0_2.length c0_2] 25)).1; simpa using this
  have B1 : W0.heap[w.heap.size + 1]? = some (.cells #[.int .i64 0, .slice none 0 0, .slice none 0 0] 25 (0, 0)) := by rw [hW0]; have := (MapKept.heap_alloc ((w.alloc (.cells #[.int .i64 a0_0, .slice A0_1 l0_1.length c0_1, .slice A0_2 l0_2.length c0_2] 25))) (.cells #[.int .i64 0, .slice none 0 0, .slice none 0 0] 25)).1; simpa using this
  have hB0 : Below w.heap.size w W0 := by rw [hW0]; exact below_alloc (below_alloc (Below.refl _ _) _) _
  have hz0 : w.heap.size + 1 + 1 ≤ W0.heap.size := by rw [hW0]; simp
  have Hw0 := Aside0.mk hW0
  clear hW0
  have HE := Aside0.mk hE
  clear hE
  obtain ⟨_, hc1, F1⟩ := Kd.V_at hs0_1
  obtain ⟨_, hc2, F2⟩ := Kd.V_at hs0_2
  clear hs0_1 hs0_2
  obtain ⟨t, ht⟩ : ∃ t, t = wrap64 (a0_0 - (l0_1.length : Int)) := ⟨_, rfl⟩
  rw [← ht] at h
  have HT := Aside0.mk (show net_Free.f a0_0 l0_1 l0_2 = some t by rw [ht]; rfl)
  clear ht
  by_cases c1 : a1 < 0
  · rw [if_pos c1] at h
    simp only [Option.some.injEq, Prod.mk.injEq] at h
    obtain ⟨rfl, rfl, rfl, rfl⟩ := h
    have HI := Aside0.mk (show net_in.f a0_0 l0_1 l0_2 a1 = some false by unfold net_in.f; rw [if_neg (by omega)])
    clear c1
    have c_0_0 : W0.cell? ⟨w.heap.size, 0, none⟩ = some (.int .i64 a0_0) := (blk_cell B0 0).trans rfl
    have c_0_1 : W0.cell? ⟨w.heap.size, 1, none⟩ = some (.slice A0_1 l0_1.length c0_1) := (blk_cell B0 1).trans rfl
    have c_0_2 : W0.cell? ⟨w.heap.size, 2, none⟩ = some (.slice A0_2 l0_2.length c0_2) := (blk_cell B0 2).trans rfl
    have z_0_0 := blk_frozen B0 0
    have z_0_1 := blk_frozen B0 1
    have z_0_2 := blk_frozen B0 2
    have c_1_0 : W0.cell? ⟨w.heap.size + 1, 0, none⟩ = some (.int .i64 0) := (blk_cell B1 0).trans rfl
    have c_1_1 : W0.cell? ⟨w.heap.size + 1, 1, none⟩ = some (.slice none 0 0) := (blk_cell B1 1).trans rfl
    have c_1_2 : W0.cell? ⟨w.heap.size + 1, 2, none⟩ = some (.slice none 0 0) := (blk_cell B1 2).trans rfl
    have z_1_0 := blk_frozen B1 0
    have z_1_1 := blk_frozen B1 1
    have z_1_2 := blk_frozen B1 2
    have lt_ : w.heap.size + 1 < W0.heap.size := by have := hz0; omega
    go_enter Try.func16, Try.ntmps16
    go_wp2_with fail
    rw [← Hw0.out]
    clear Hw0
    clear c_0_0 c_0_1 c_0_2 z_0_0 z_0_1 z_0_2 c_1_0 c_1_1 c_1_2 z_1_0 z_1_1 z_1_2 lt_
    refine (net_in.calls a0_0 _ _ l0_1 _ _ l0_2 a1 false _ (Kd.F_now (Kd.F_below F1 hB0)) hc1 (Kd.F_now (Kd.F_below F2 hB0)) hc2 HI.out).mono ?_
    rintro e W1 ⟨rfl, hb1⟩
    have B102 := blk_below B0 hb1
    have B103 := blk_below B1 hb1
    have hB101 := hB0.trans (hb1.mono hB0.size)
    have hz101 : w.heap.size + 1 + 1 ≤ W1.heap.size := Nat.le_trans hz0 hb1.size
    clear B0 B1 hB0 hz0
    clear hb1
    have V1 := Kd.V_mk (e := 29) (base := 0) hc1 (nrow.mv (R := fun k => P0_1_ k ∨ P0_2_ k) (m := w.heap.size + 1 + 1) hB101 (fun k hk => .inl hk) F1)
    have V2 := Kd.V_mk (e := 27) (base := 0) hc2 (nrow.mv (R := fun k => P0_1_ k ∨ P0_2_ k) (m := w.heap.size + 1 + 1) hB101 (fun k hk => .inr hk) F2)
    have c_0_0 : W1.cell? ⟨w.heap.size, 0, none⟩ = some (.int .i64 a0_0) := (blk_cell B102 0).trans rfl
    have c_0_1 : W1.cell? ⟨w.heap.size, 1, none⟩ = some (.slice A0_1 l0_1.length c0_1) := (blk_cell B102 1).trans rfl
    have c_0_2 : W1.cell? ⟨w.heap.size, 2, none⟩ = some (.slice A0_2 l0_2.length c0_2) := (blk_cell B102 2).trans rfl
    have z_0_0 := blk_frozen B102 0
    have z_0_1 := blk_frozen B102 1
    have z_0_2 := blk_frozen B102 2
    have c_1_0 : W1.cell? ⟨w.heap.size + 1, 0, none⟩ = some (.int .i64 0) := (blk_cell B103 0).trans rfl
    have c_1_1 : W1.cell? ⟨w.heap.size + 1, 1, none⟩ = some (.slice none 0 0) := (blk_cell B103 1).trans rfl
    have c_1_2 : W1.cell? ⟨w.heap.size + 1, 2, none⟩ = some (.slice none 0 0) := (blk_cell B103 2).trans rfl
    have z_1_0 := blk_frozen B103 0
    have z_1_1 := blk_frozen B103 1
    have z_1_2 := blk_frozen B103 2
    have lt_ : w.heap.size + 1 < W1.heap.size := by have := hz101; omega
    go_wp2
    clear c_0_0 c_0_1 c_0_2 z_0_0 z_0_1 z_0_2 c_1_0 c_1_1 c_1_2 z_1_0 z_1_1 z_1_2 lt_
    have n104 : w.heap.size ≠ w.heap.size + 1 := by omega
    have n105 : ∀ k, ((P0_1_ k ∨ P0_2_ k) ∧ k < w.heap.size ∨ w.heap.size + 1 + 1 ≤ k) → k ≠ w.heap.size + 1 := fun k hk => by omega
    have n106 : w.heap.size ≤ w.heap.size + 1 := by omega
    have B108 := (blk_put (cs' := #[.int .i64 a0_0, .slice A0_1 l0_1.length c0_1, .slice A0_2 l0_2.length c0_2]) (blk_put (cs' := #[.int .i64 a0_0, .slice A0_1 l0_1.length c0_1, .slice none 0 0]) (blk_put (cs' := #[.int .i64 a0_0, .slice none 0 0, .slice none 0 0]) B103 0 (.int .i64 a0_0) rfl) 1 (.slice A0_1 l0_1.length c0_1) rfl) 2 (.slice A0_2 l0_2.length c0_2) rfl)
    have B109 := (blk_far (p := ⟨w.heap.size + 1, 2, none⟩) (blk_far (p := ⟨w.heap.size + 1, 1, none⟩) (blk_far (p := ⟨w.heap.size + 1, 0, none⟩) B102 n104 (.int .i64 a0_0)) n104 (.slice A0_1 l0_1.length c0_1)) n104 (.slice A0_2 l0_2.length c0_2))
    have V110 := (Kd.V_far (p := ⟨w.heap.size + 1, 2, none⟩) (Kd.V_far (p := ⟨w.heap.size + 1, 1, none⟩) (Kd.V_far (p := ⟨w.heap.size + 1, 0, none⟩) V1 n105 (.int .i64 a0_0)) n105 (.slice A0_1 l0_1.length c0_1)) n105 (.slice A0_2 l0_2.length c0_2))
    have V111 := (Kd.V_far (p := ⟨w.heap.size + 1, 2, none⟩) (Kd.V_far (p := ⟨w.heap.size + 1, 1, none⟩) (Kd.V_far (p := ⟨w.heap.size + 1, 0, none⟩) V2 n105 (.int .i64 a0_0)) n105 (.slice A0_1 l0_1.length c0_1)) n105 (.slice A0_2 l0_2.length c0_2))
    have hB112 := (below_set (g := w.heap.size + 1) (j := 2) (v := .slice A0_2 l0_2.length c0_2) (below_set (g := w.heap.size + 1) (j := 1) (v := .slice A0_1 l0_1.length c0_1) (below_set (g := w.heap.size + 1) (j := 0) (v := .int .i64 a0_0) hB101 n106) n106) n106)
    have hz113 : w.heap.size + 1 + 1 ≤ (((W1.setCell ⟨w.heap.size + 1, 0, none⟩ (.int .i64 a0_0)).setCell ⟨w.heap.size + 1, 1, none⟩ (.slice A0_1 l0_1.length c0_1)).setCell ⟨w.heap.size + 1, 2, none⟩ (.slice A0_2 l0_2.length c0_2)).heap.size := by simpa [World.setCell] using hz101
    clear B102 B103 V1 V2 hB101 hz101 n104 n105 n106
    obtain ⟨W107, hW107⟩ : ∃ W_ : World, W_ = (((W1.setCell ⟨w.heap.size + 1, 0, none⟩ (.int .i64 a0_0)).setCell ⟨w.heap.size + 1, 1, none⟩ (.slice A0_1 l0_1.length c0_1)).setCell ⟨w.heap.size + 1, 2, none⟩ (.slice A0_2 l0_2.length c0_2)) := ⟨_, rfl⟩
    rw [← hW107] at B108 B109 V110 V111 hB112 hz113 ⊢
    clear hW107
    refine bodyPost_ret (results_ct rfl _ _ (w.heap.size + 1) 25 #[.int .i64 a0_0, .slice A0_1 l0_1.length c0_1, .slice A0_2 l0_2.length c0_2] (0, 0) _ rfl B108 Try.underlying25 rfl (by kernel_rfl)) rfl ?_
    exact ⟨_, _, rfl, (by obtain ⟨A_, c_, e_⟩ := Kd.V_slice V110; exact ⟨A_, c_, e_⟩), (by obtain ⟨A_, c_, e_⟩ := Kd.V_slice V111; exact ⟨A_, c_, e_⟩), fun h0_ => absurd h0_ (by decide), hB112⟩
  rw [if_neg c1] at h
  have c1p : 0 ≤ a1 := by omega
  by_cases c2 : a1 ≥ (l0_1.length : Int)
  · rw [if_pos c2] at h
    simp only [Option.some.injEq, Prod.mk.injEq] at h
    obtain ⟨rfl, rfl, rfl, rfl⟩ := h
    have HI := Aside0.mk (show net_in.f a0_0 l0_1 l0_2 a1 = some false by unfold net_in.f; rw [if_pos (by omega), show decide (a1 < (l0_1.length : Int)) = false from decide_eq_false (by omega)])
    clear c1 c2 c1p
    have c_0_0 : W0.cell? ⟨w.heap.size, 0, none⟩ = some (.int .i64 a0_0) := (blk_cell B0 0).trans rfl
    have c_0_1 : W0.cell? ⟨w.heap.size, 1, none⟩ = some (.slice A0_1 l0_1.length c0_1) := (blk_cell B0 1).trans rfl
    have c_0_2 : W0.cell? ⟨w.heap.size, 2, none⟩ = some (.slice A0_2 l0_2.length c0_2) := (blk_cell B0 2).trans rfl
    have z_0_0 := blk_frozen B0 0
    have z_0_1 := blk_frozen B0 1
    have z_0_2 := blk_frozen B0 2
    have c_1_0 : W0.cell? ⟨w.heap.size + 1, 0, none⟩ = some (.int .i64 0) := (blk_cell B1 0).trans rfl
    have c_1_1 : W0.cell? ⟨w.heap.size + 1, 1, none⟩ = some (.slice none 0 0) := (blk_cell B1 1).trans rfl
    have c_1_2 : W0.cell? ⟨w.heap.size + 1, 2, none⟩ = some (.slice none 0 0) := (blk_cell B1 2).trans rfl
    have z_1_0 := blk_frozen B1 0
    have z_1_1 := blk_frozen B1 1
    have z_1_2 := blk_frozen B1 2
    have lt_ : w.heap.size + 1 < W0.heap.size := by have := hz0; omega
    go_enter Try.func16, Try.ntmps16
    go_wp2_with fail
    rw [← Hw0.out]
    clear Hw0
    clear c_0_0 c_0_1 c_0_2 z_0_0 z_0_1 z_0_2 c_1_0 c_1_1 c_1_2 z_1_0 z_1_1 z_1_2 lt_
    refine (net_in.calls a0_0 _ _ l0_1 _ _ l0_2 a1 false _ (Kd.F_now (Kd.F_below F1 hB0)) hc1 (Kd.F_now (Kd.F_below F2 hB0)) hc2 HI.out).mono ?_
    rintro e W1 ⟨rfl, hb1⟩
    have B102 := blk_below B0 hb1
    have B103 := blk_below B1 hb1
    have hB101 := hB0.trans (hb1.mono hB0.size)
    have hz101 : w.heap.size + 1 + 1 ≤ W1.heap.size := Nat.le_trans hz0 hb1.size
    clear B0 B1 hB0 hz0
    clear hb1
    have V1 := Kd.V_mk (e := 29) (base := 0) hc1 (nrow.mv (R := fun k => P0_1_ k ∨ P0_2_ k) (m := w.heap.size + 1 + 1) hB101 (fun k hk => .inl hk) F1)
    have V2 := Kd.V_mk (e := 27) (base := 0) hc2 (nrow.mv (R := fun k => P0_1_ k ∨ P0_2_ k) (m := w.heap.size + 1 + 1) hB101 (fun k hk => .inr hk) F2)
    have c_0_0 : W1.cell? ⟨w.heap.size, 0, none⟩ = some (.int .i64 a0_0) := (blk_cell B102 0).trans rfl
    have c_0_1 : W1.cell? ⟨w.heap.size, 1, none⟩ = some (.slice A0_1 l0_1.length c0_1) := (blk_cell B102 1).trans rfl
    have c_0_2 : W1.cell? ⟨w.heap.size, 2, none⟩ = some (.slice A0_2 l0_2.length c0_2) := (blk_cell B102 2).trans rfl
    have z_0_0 := blk_frozen B102 0
    have z_0_1 := blk_frozen B102 1
    have z_0_2 := blk_frozen B102 2
    have c_1_0 : W1.cell? ⟨w.heap.size + 1, 0, none⟩ = some (.int .i64 0) := (blk_cell B103 0).trans rfl
    have c_1_1 : W1.cell? ⟨w.heap.size + 1, 1, none⟩ = some (.slice none 0 0) := (blk_cell B103 1).trans rfl
    have c_1_2 : W1.cell? ⟨w.heap.size + 1, 2, none⟩ = some (.slice none 0 0) := (blk_cell B103 2).trans rfl
    have z_1_0 := blk_frozen B103 0
    have z_1_1 := blk_frozen B103 1
    have z_1_2 := blk_frozen B103 2
    have lt_ : w.heap.size + 1 < W1.heap.size := by have := hz101; omega
    go_wp2
    clear c_0_0 c_0_1 c_0_2 z_0_0 z_0_1 z_0_2 c_1_0 c_1_1 c_1_2 z_1_0 z_1_1 z_1_2 lt_
    have n104 : w.heap.size ≠ w.heap.size + 1 := by omega
    have n105 : ∀ k, ((P0_1_ k ∨ P0_2_ k) ∧ k < w.heap.size ∨ w.heap.size + 1 + 1 ≤ k) → k ≠ w.heap.size + 1 := fun k hk => by omega
    have n106 : w.heap.size ≤ w.heap.size + 1 := by omega
    have B108 := (blk_put (cs' := #[.int .i64 a0_0, .slice A0_1 l0_1.length c0_1, .slice A0_2 l0_2.length c0_2]) (blk_put (cs' := #[.int .i64 a0_0, .slice A0_1 l0_1.length c0_1, .slice none 0 0]) (blk_put (cs' := #[.int .i64 a0_0, .slice none 0 0, .slice none 0 0]) B103 0 (.int .i64 a0_0) rfl) 1 (.slice A0_1 l0_1.length c0_1) rfl) 2 (.slice A0_2 l0_2.length c0_2) rfl)
    have B109 := (blk_far (p := ⟨w.heap.size + 1, 2, none⟩) (blk_far (p := ⟨w.heap.size + 1, 1, none⟩) (blk_far (p := ⟨w.heap.size + 1, 0, none⟩) B102 n104 (.int .i64 a0_0)) n104 (.slice A0_1 l0_1.length c0_1)) n104 (.slice A0_2 l0_2.length c0_2))
    have V110 := (Kd.V_far (p := ⟨w.heap.size + 1, 2, none⟩) (Kd.V_far (p := ⟨w.heap.size + 1, 1, none⟩) (Kd.V_far (p := ⟨w.heap.size + 1, 0, none⟩) V1 n105 (.int .i64 a0_0)) n105 (.slice A0_1 l0_1.length c0_1)) n105 (.slice A0_2 l0_2.length c0_2))
    have V111 := (Kd.V_far (p := ⟨w.heap.size + 1, 2, none⟩) (Kd.V_far (p := ⟨w.heap.size + 1, 1, none⟩) (Kd.V_far (p := ⟨w.heap.size + 1, 0, none⟩) V2 n105 (.int .i64 a0_0)) n105 (.slice A0_1 l0_1.length c0_1)) n105 (.slice A0_2 l0_2.length c0_2))
    have hB112 := (below_set (g := w.heap.size + 1) (j := 2) (v := .slice A0_2 l0_2.length c0_2) (below_set (g := w.heap.size + 1) (j := 1) (v := .slice A0_1 l0_1.length c0_1) (below_set (g := w.heap.size + 1) (j := 0) (v := .int .i64 a0_0) hB101 n106) n106) n106)
    have hz113 : w.heap.size + 1 + 1 ≤ (((W1.setCell ⟨w.heap.size + 1, 0, none⟩ (.int .i64 a0_0)).setCell ⟨w.heap.size + 1, 1, none⟩ (.slice A0_1 l0_1.length c0_1)).setCell ⟨w.heap.size + 1, 2, none⟩ (.slice A0_2 l0_2.length c0_2)).heap.size := by simpa [World.setCell] using hz101
    clear B102 B103 V1 V2 hB101 hz101 n104 n105 n106
    obtain ⟨W107, hW107⟩ : ∃ W_ : World, W_ = (((W1.setCell ⟨w.heap.size + 1, 0, none⟩ (.int .i64 a0_0)).setCell ⟨w.heap.size + 1, 1, none⟩ (.slice A0_1 l0_1.length c0_1)).setCell ⟨w.heap.size + 1, 2, none⟩ (.slice A0_2 l0_2.length c0_2)) := ⟨_, rfl⟩
    rw [← hW107] at B108 B109 V110 V111 hB112 hz113 ⊢
    clear hW107
    refine bodyPost_ret (results_ct rfl _ _ (w.heap.size + 1) 25 #[.int .i64 a0_0, .slice A0_1 l0_1.length c0_1, .slice A0_2 l0_2.length c0_2] (0, 0) _ rfl B108 Try.underlying25 rfl (by kernel_rfl)) rfl ?_
    exact ⟨_, _, rfl, (by obtain ⟨A_, c_, e_⟩ := Kd.V_slice V110; exact ⟨A_, c_, e_⟩), (by obtain ⟨A_, c_, e_⟩ := Kd.V_slice V111; exact ⟨A_, c_, e_⟩), fun h0_ => absurd h0_ (by decide), hB112⟩
  rw [if_neg c2] at h
  have c2p : a1 < (l0_1.length : Int) := by omega
  have HI := Aside0.mk (show net_in.f a0_0 l0_1 l0_2 a1 = some true by unfold net_in.f; rw [if_pos (by omega), show decide (a1 < (l0_1.length : Int)) = true from decide_eq_true c2p])
  clear c1 c2
  by_cases c3 : t < 1
  · rw [if_pos c3] at h
    simp only [Option.some.injEq, Prod.mk.injEq] at h
    obtain ⟨rfl, rfl, rfl, rfl⟩ := h
    have c3b : decide (t < 1) = true := decide_eq_true c3
    clear c3 c1p c2p
    have c_0_0 : W0.cell? ⟨w.heap.size, 0, none⟩ = some (.int .i64 a0_0) := (blk_cell B0 0).trans rfl
    have c_0_1 : W0.cell? ⟨w.heap.size, 1, none⟩ = some (.slice A0_1 l0_1.length c0_1) := (blk_cell B0 1).trans rfl
    have c_0_2 : W0.cell? ⟨w.heap.size, 2, none⟩ = some (.slice A0_2 l0_2.length c0_2) := (blk_cell B0 2).trans rfl
    have z_0_0 := blk_frozen B0 0
    have z_0_1 := blk_frozen B0 1
    have z_0_2 := blk_frozen B0 2
    have c_1_0 : W0.cell? ⟨w.heap.size + 1, 0, none⟩ = some (.int .i64 0) := (blk_cell B1 0).trans rfl
    have c_1_1 : W0.cell? ⟨w.heap.size + 1, 1, none⟩ = some (.slice none 0 0) := (blk_cell B1 1).trans rfl
    have c_1_2 : W0.cell? ⟨w.heap.size + 1, 2, none⟩ = some (.slice none 0 0) := (blk_cell B1 2).trans rfl
    have z_1_0 := blk_frozen B1 0
    have z_1_1 := blk_frozen B1 1
    have z_1_2 := blk_frozen B1 2
    have lt_ : w.heap.size + 1 < W0.heap.size := by have := hz0; omega
    go_enter Try.func16, Try.ntmps16
    go_wp2_with fail
    rw [← Hw0.out]
    clear Hw0
    clear c_0_0 c_0_1 c_0_2 z_0_0 z_0_1 z_0_2 c_1_0 c_1_1 c_1_2 z_1_0 z_1_1 z_1_2 lt_
    refine (net_in.calls a0_0 _ _ l0_1 _ _ l0_2 a1 true _ (Kd.F_now (Kd.F_below F1 hB0)) hc1 (Kd.F_now (Kd.F_below F2 hB0)) hc2 HI.out).mono ?_
    rintro e W1 ⟨rfl, hb1⟩
    have B102 := blk_below B0 hb1
    have B103 := blk_below B1 hb1
    have hB101 := hB0.trans (hb1.mono hB0.size)
    have hz101 : w.heap.size + 1 + 1 ≤ W1.heap.size := Nat.le_trans hz0 hb1.size
    clear B0 B1 hB0 hz0
    clear hb1
    have c_0_0 : W1.cell? ⟨w.heap.size, 0, none⟩ = some (.int .i64 a0_0) := (blk_cell B102 0).trans rfl
    have c_0_1 : W1.cell? ⟨w.heap.size, 1, none⟩ = some (.slice A0_1 l0_1.length c0_1) := (blk_cell B102 1).trans rfl
    have c_0_2 : W1.cell? ⟨w.heap.size, 2, none⟩ = some (.slice A0_2 l0_2.length c0_2) := (blk_cell B102 2).trans rfl
    have z_0_0 := blk_frozen B102 0
    have z_0_1 := blk_frozen B102 1
    have z_0_2 := blk_frozen B102 2
    have c_1_0 : W1.cell? ⟨w.heap.size + 1, 0, none⟩ = some (.int .i64 0) := (blk_cell B103 0).trans rfl
    have c_1_1 : W1.cell? ⟨w.heap.size + 1, 1, none⟩ = some (.slice none 0 0) := (blk_cell B103 1).trans rfl
    have c_1_2 : W1.cell? ⟨w.heap.size + 1, 2, none⟩ = some (.slice none 0 0) := (blk_cell B103 2).trans rfl
    have z_1_0 := blk_frozen B103 0
    have z_1_1 := blk_frozen B103 1
    have z_1_2 := blk_frozen B103 2
    have lt_ : w.heap.size + 1 < W1.heap.size := by have := hz101; omega
    go_wp2_with fail
    clear c_0_0 c_0_1 c_0_2 z_0_0 z_0_1 z_0_2 c_1_0 c_1_1 c_1_2 z_1_0 z_1_1 z_1_2 lt_
    refine (net_Free.calls a0_0 _ _ l0_1 _ _ l0_2 t _ (Kd.F_now (Kd.F_below F1 hB101)) hc1 (Kd.F_now (Kd.F_below F2 hB101)) hc2 HT.out).mono ?_
    rintro e W2 ⟨rfl, hb2⟩
    have B105 := blk_below B102 hb2
    have B106 := blk_below B103 hb2
    have hB104 := hB101.trans (hb2.mono hB101.size)
    have hz104 : w.heap.size + 1 + 1 ≤ W2.heap.size := Nat.le_trans hz101 hb2.size
    clear B102 B103 hB101 hz101
    clear hb2
    have V1 := Kd.V_mk (e := 29) (base := 0) hc1 (nrow.mv (R := fun k => P0_1_ k ∨ P0_2_ k) (m := w.heap.size + 1 + 1) hB104 (fun k hk => .inl hk) F1)
    have V2 := Kd.V_mk (e := 27) (base := 0) hc2 (nrow.mv (R := fun k => P0_1_ k ∨ P0_2_ k) (m := w.heap.size + 1 + 1) hB104 (fun k hk => .inr hk) F2)
    have c_0_0 : W2.cell? ⟨w.heap.size, 0, none⟩ = some (.int .i64 a0_0) := (blk_cell B105 0).trans rfl
    have c_0_1 : W2.cell? ⟨w.heap.size, 1, none⟩ = some (.slice A0_1 l0_1.length c0_1) := (blk_cell B105 1).trans rfl
    have c_0_2 : W2.cell? ⟨w.heap.size, 2, none⟩ = some (.slice A0_2 l0_2.length c0_2) := (blk_cell B105 2).trans rfl
    have z_0_0 := blk_frozen B105 0
    have z_0_1 := blk_frozen B105 1
    have z_0_2 := blk_frozen B105 2
    have c_1_0 : W2.cell? ⟨w.heap.size + 1, 0, none⟩ = some (.int .i64 0) := (blk_cell B106 0).trans rfl
    have c_1_1 : W2.cell? ⟨w.heap.size + 1, 1, none⟩ = some (.slice none 0 0) := (blk_cell B106 1).trans rfl
    have c_1_2 : W2.cell? ⟨w.heap.size + 1, 2, none⟩ = some (.slice none 0 0) := (blk_cell B106 2).trans rfl
    have z_1_0 := blk_frozen B106 0
    have z_1_1 := blk_frozen B106 1
    have z_1_2 := blk_frozen B106 2
    have lt_ : w.heap.size + 1 < W2.heap.size := by have := hz104; omega
    go_wp2
    clear c_0_0 c_0_1 c_0_2 z_0_0 z_0_1 z_0_2 c_1_0 c_1_1 c_1_2 z_1_0 z_1_1 z_1_2 lt_
    have n107 : w.heap.size ≠ w.heap.size + 1 := by omega
    have n108 : ∀ k, ((P0_1_ k ∨ P0_2_ k) ∧ k < w.heap.size ∨ w.heap.size + 1 + 1 ≤ k) → k ≠ w.heap.size + 1 := fun k hk => by omega
    have n109 : w.heap.size ≤ w.heap.size + 1 := by omega
    have B111 := (blk_put (cs' := #[.int .i64 a0_0, .slice A0_1 l0_1.length c0_1, .slice A0_2 l0_2.length c0_2]) (blk_put (cs' := #[.int .i64 a0_0, .slice A0_1 l0_1.length c0_1, .slice none 0 0]) (blk_put (cs' := #[.int .i64 a0_0, .slice none 0 0, .slice none 0 0]) B106 0 (.int .i64 a0_0) rfl) 1 (.slice A0_1 l0_1.length c0_1) rfl) 2 (.slice A0_2 l0_2.length c0_2) rfl)
    have B112 := (blk_far (p := ⟨w.heap.size + 1, 2, none⟩) (blk_far (p := ⟨w.heap.size + 1, 1, none⟩) (blk_far (p := ⟨w.heap.size + 1, 0, none⟩) B105 n107 (.int .i64 a0_0)) n107 (.slice A0_1 l0_1.length c0_1)) n107 (.slice A0_2 l0_2.length c0_2))
    have V113 := (Kd.V_far (p := ⟨w.heap.size + 1, 2, none⟩) (Kd.V_far (p := ⟨w.heap.size + 1, 1, none⟩) (Kd.V_far (p := ⟨w.heap.size + 1, 0, none⟩) V1 n108 (.int .i64 a0_0)) n108 (.slice A0_1 l0_1.length c0_1)) n108 (.slice A0_2 l0_2.length c0_2))
    have V114 := (Kd.V_far (p := ⟨w.heap.size + 1, 2, none⟩) (Kd.V_far (p := ⟨w.heap.size + 1, 1, none⟩) (Kd.V_far (p := ⟨w.heap.size + 1, 0, none⟩) V2 n108 (.int .i64 a0_0)) n108 (.slice A0_1 l0_1.length c0_1)) n108 (.slice A0_2 l0_2.length c0_2))
    have hB115 := (below_set (g := w.heap.size + 1) (j := 2) (v := .slice A0_2 l0_2.length c0_2) (below_set (g := w.heap.size + 1) (j := 1) (v := .slice A0_1 l0_1.length c0_1) (below_set (g := w.heap.size + 1) (j := 0) (v := .int .i64 a0_0) hB104 n109) n109) n109)
    have hz116 : w.heap.size + 1 + 1 ≤ (((W2.setCell ⟨w.heap.size + 1, 0, none⟩ (.int .i64 a0_0)).setCell ⟨w.heap.size + 1, 1, none⟩ (.slice A0_1 l0_1.length c0_1)).setCell ⟨w.heap.size + 1, 2, none⟩ (.slice A0_2 l0_2.length c0_2)).heap.size := by simpa [World.setCell] using hz104
    clear B105 B106 V1 V2 hB104 hz104 n107 n108 n109
    obtain ⟨W110, hW110⟩ : ∃ W_ : World, W_ = (((W2.setCell ⟨w.heap.size + 1, 0, none⟩ (.int .i64 a0_0)).setCell ⟨w.heap.size + 1, 1, none⟩ (.slice A0_1 l0_1.length c0_1)).setCell ⟨w.heap.size + 1, 2, none⟩ (.slice A0_2 l0_2.length c0_2)) := ⟨_, rfl⟩
    rw [← hW110] at B111 B112 V113 V114 hB115 hz116 ⊢
    clear hW110
    refine bodyPost_ret (results_ct rfl _ _ (w.heap.size + 1) 25 #[.int .i64 a0_0, .slice A0_1 l0_1.length c0_1, .slice A0_2 l0_2.length c0_2] (0, 0) _ rfl B111 Try.underlying25 rfl (by kernel_rfl)) rfl ?_
    exact ⟨_, _, rfl, (by obtain ⟨A_, c_, e_⟩ := Kd.V_slice V113; exact ⟨A_, c_, e_⟩), (by obtain ⟨A_, c_, e_⟩ := Kd.V_slice V114; exact ⟨A_, c_, e_⟩), fun h0_ => absurd h0_ (by decide), hB115⟩
  rw [if_neg c3] at h
  have c3b : decide (t < 1) = false := decide_eq_false c3
  clear c3
  by_cases hm : l0_1.length < 1000000
  rotate_left
  · rw [if_neg hm] at h; cases h
  rw [if_pos hm] at h
  simp only [Option.some.injEq, Prod.mk.injEq] at h
  obtain ⟨rfl, rfl, rfl, rfl⟩ := h
  have HW := Aside0.mk (show net_with.f a0_0 l0_1 l0_2 (rd_T29 l0_1 a1).f0 (rd_T29 l0_1 a1).f1 = some (a0_0, l0_1 ++ [rd_T29 l0_1 a1], l0_2) by unfold net_with.f; rw [if_pos hm])
  clear hm
  obtain ⟨ad, AE, cE, rfl, hx0, hx1, hlE, FE⟩ := kk.elem29 HE.out a1 c1p c2p
  have Hx0 := Aside0.mk hx0
  have Hx1 := Aside0.mk hx1
  have p : (0 ≤ a1) = True := eq_true c1p
  have q : (a1 < (l0_1.length : Int)) = True := eq_true c2p
  clear hx0 hx1 c1p c2p
  have c_0_0 : W0.cell? ⟨w.heap.size, 0, none⟩ = some (.int .i64 a0_0) := (blk_cell B0 0).trans rfl
  have c_0_1 : W0.cell? ⟨w.heap.size, 1, none⟩ = some (.slice (some ad) l0_1.length c0_1) := (blk_cell B0 1).trans rfl
  have c_0_2 : W0.cell? ⟨w.heap.size, 2, none⟩ = some (.slice A0_2 l0_2.length c0_2) := (blk_cell B0 2).trans rfl
  have z_0_0 := blk_frozen B0 0
  have z_0_1 := blk_frozen B0 1
  have z_0_2 := blk_frozen B0 2
  have c_1_0 : W0.cell? ⟨w.heap.size + 1, 0, none⟩ = some (.int .i64 0) := (blk_cell B1 0).trans rfl
  have c_1_1 : W0.cell? ⟨w.heap.size + 1, 1, none⟩ = some (.slice none 0 0) := (blk_cell B1 1).trans rfl
  have c_1_2 : W0.cell? ⟨w.heap.size + 1, 2, none⟩ = some (.slice none 0 0) := (blk_cell B1 2).trans rfl
  have z_1_0 := blk_frozen B1 0
  have z_1_1 := blk_frozen B1 1
  have z_1_2 := blk_frozen B1 2
  have lt_ : w.heap.size + 1 < W0.heap.size := by have := hz0; omega
  go_enter Try.func16, Try.ntmps16
  go_wp2_with fail
  rw [← Hw0.out]
  clear Hw0
  clear c_0_0 c_0_1 c_0_2 z_0_0 z_0_1 z_0_2 c_1_0 c_1_1 c_1_2 z_1_0 z_1_1 z_1_2 lt_
  refine (net_in.calls a0_0 _ _ l0_1 _ _ l0_2 a1 true _ (Kd.F_now (Kd.F_below F1 hB0)) hc1 (Kd.F_now (Kd.F_below F2 hB0)) hc2 HI.out).mono ?_
  rintro e W1 ⟨rfl, hb1⟩
  have B102 := blk_below B0 hb1
  have B103 := blk_below B1 hb1
  have hB101 := hB0.trans (hb1.mono hB0.size)
  have hz101 : w.heap.size + 1 + 1 ≤ W1.heap.size := Nat.le_trans hz0 hb1.size
  clear B0 B1 hB0 hz0
  clear hb1
  have c_0_0 : W1.cell? ⟨w.heap.size, 0, none⟩ = some (.int .i64 a0_0) := (blk_cell B102 0).trans rfl
  have c_0_1 : W1.cell? ⟨w.heap.size, 1, none⟩ = some (.slice (some ad) l0_1.length c0_1) := (blk_cell B102 1).trans rfl
  have c_0_2 : W1.cell? ⟨w.heap.size, 2, none⟩ = some (.slice A0_2 l0_2.length c0_2) := (blk_cell B102 2).trans rfl
  have z_0_0 := blk_frozen B102 0
  have z_0_1 := blk_frozen B102 1
  have z_0_2 := blk_frozen B102 2
  have c_1_0 : W1.cell? ⟨w.heap.size + 1, 0, none⟩ = some (.int .i64 0) := (blk_cell B103 0).trans rfl
  have c_1_1 : W1.cell? ⟨w.heap.size + 1, 1, none⟩ = some (.slice none 0 0) := (blk_cell B103 1).trans rfl
  have c_1_2 : W1.cell? ⟨w.heap.size + 1, 2, none⟩ = some (.slice none 0 0) := (blk_cell B103 2).trans rfl
  have z_1_0 := blk_frozen B103 0
  have z_1_1 := blk_frozen B103 1
  have z_1_2 := blk_frozen B103 2
  have lt_ : w.heap.size + 1 < W1.heap.size := by have := hz101; omega
  go_wp2_with fail
  clear c_0_0 c_0_1 c_0_2 z_0_0 z_0_1 z_0_2 c_1_0 c_1_1 c_1_2 z_1_0 z_1_1 z_1_2 lt_
  refine (net_Free.calls a0_0 _ _ l0_1 _ _ l0_2 t _ (Kd.F_now (Kd.F_below F1 hB101)) hc1 (Kd.F_now (Kd.F_below F2 hB101)) hc2 HT.out).mono ?_
  rintro e W2 ⟨rfl, hb2⟩
  have B105 := blk_below B102 hb2
  have B106 := blk_below B103 hb2
  have hB104 := hB101.trans (hb2.mono hB101.size)
  have hz104 : w.heap.size + 1 + 1 ≤ W2.heap.size := Nat.le_trans hz101 hb2.size
  clear B102 B103 hB101 hz101
  clear hb2
  have c_0_0 : W2.cell? ⟨w.heap.size, 0, none⟩ = some (.int .i64 a0_0) := (blk_cell B105 0).trans rfl
  have c_0_1 : W2.cell? ⟨w.heap.size, 1, none⟩ = some (.slice (some ad) l0_1.length c0_1) := (blk_cell B105 1).trans rfl
  have c_0_2 : W2.cell? ⟨w.heap.size, 2, none⟩ = some (.slice A0_2 l0_2.length c0_2) := (blk_cell B105 2).trans rfl
  have z_0_0 := blk_frozen B105 0
  have z_0_1 := blk_frozen B105 1
  have z_0_2 := blk_frozen B105 2
  have c_1_0 : W2.cell? ⟨w.heap.size + 1, 0, none⟩ = some (.int .i64 0) := (blk_cell B106 0).trans rfl
  have c_1_1 : W2.cell? ⟨w.heap.size + 1, 1, none⟩ = some (.slice none 0 0) := (blk_cell B106 1).trans rfl
  have c_1_2 : W2.cell? ⟨w.heap.size + 1, 2, none⟩ = some (.slice none 0 0) := (blk_cell B106 2).trans rfl
  have z_1_0 := blk_frozen B106 0
  have z_1_1 := blk_frozen B106 1
  have z_1_2 := blk_frozen B106 2
  have lt_ : w.heap.size + 1 < W2.heap.size := by have := hz104; omega
  go_upto_region 5 with (fail)
  clear c_0_0 c_0_1 c_0_2 z_0_0 z_0_1 z_0_2 c_1_0 c_1_1 c_1_2 z_1_0 z_1_1 z_1_2 lt_
  refine start_ (n := 9) (S := fun w' => w'.cell? ⟨w.heap.size, 0, none⟩ = some (.int .i64 a0_0) ∧ w'.cell? ⟨w.heap.size, 1, none⟩ = some (.slice (some ad) l0_1.length c0_1) ∧ w'.cell? ⟨w.heap.size, 2, none⟩ = some (.slice A0_2 l0_2.length c0_2) ∧ w'.cell? (ad.add (a1.toNat * 2)) = some (.int .u32 (rd_T29 l0_1 a1).f0) ∧ w'.cell? ⟨(ad.add (a1.toNat * 2)).block, (ad.add (a1.toNat * 2)).off + 1, none⟩ = some (.slice AE (rd_T29 l0_1 a1).f1.length cE)) (ds := [7]) #[false, false, false, false, false, false, false, false, false] (by kernel_rfl) rfl rfl ⟨(blk_cell (blk_drew B105) 0).trans rfl, (blk_cell (blk_drew B105) 1).trans rfl, (blk_cell (blk_drew B105) 2).trans rfl, pw_cell_below (below_drew hB104) Hx0.out, pw_cell_below (below_drew hB104) Hx1.out⟩ (fun hHeld => ?_)
  obtain ⟨W107, hW107⟩ : ∃ W_ : World, W_ = W2.drew := ⟨_, rfl⟩
  rw [← hW107] at hHeld ⊢
  have hbd_ : Below W2.heap.size W2 W107 := by rw [hW107]; exact below_drew (Below.refl _ _)
  clear hW107
  have B109 := blk_below B105 hbd_
  have B110 := blk_below B106 hbd_
  have hB108 := hB104.trans (hbd_.mono hB104.size)
  have hz108 : w.heap.size + 1 + 1 ≤ W107.heap.size := Nat.le_trans hz104 hbd_.size
  clear B105 B106 hB104 hz104
  clear hbd_
  refine take_ (i := 0) (N := some 17) (v := ?_) (a' := ?_) #[true, false, false, false, false, false, false, false, false] rfl rfl (by kernel_rfl) (fun _ _ _ h => h) (Or.inl ⟨by rfl, ?_⟩) hHeld ?_ ?_
  rotate_left
  · rintro w' ⟨s0, s1, s2, s3, s4⟩
    go_simp
    with_reducible rfl
  rotate_left
  · simp only [Act.put, List.setIfInBounds_toArray, List.set_cons_zero, List.set_cons_succ, i64_w, i32_w]
    rfl
  refine pure_ (i := 1) (N := some 18) (v := ?_) (a' := ?_) #[true, true, false, false, false, false, false, false, false] rfl rfl (by kernel_rfl) (fun _ _ _ h => h) (Or.inl ⟨by rfl, ?_⟩) ?_ ?_
  rotate_left
  · intro w'
    go_simp
    with_reducible rfl
  rotate_left
  · simp only [Act.put, List.setIfInBounds_toArray, List.set_cons_zero, List.set_cons_succ, i64_w, i32_w]
    rfl
  refine take_ (i := 2) (N := some 19) (v := ?_) (a' := ?_) #[true, true, true, false, false, false, false, false, false] rfl rfl (by kernel_rfl) (fun _ _ _ h => h) (Or.inl ⟨by rfl, ?_⟩) hHeld ?_ ?_
  rotate_left
  · rintro w' ⟨s0, s1, s2, s3, s4⟩
    go_simp
    with_reducible rfl
  rotate_left
  · simp only [Act.put, List.setIfInBounds_toArray, List.set_cons_zero, List.set_cons_succ, i64_w, i32_w]
    rfl
  refine pure_ (i := 3) (N := some 20) (v := ?_) (a' := ?_) #[true, true, true, true, false, false, false, false, false] rfl rfl (by kernel_rfl) (fun _ _ _ h => h) (Or.inl ⟨by rfl, ?_⟩) ?_ ?_
  rotate_left
  · intro w'
    go_simp
    with_reducible rfl
  rotate_left
  · simp only [Act.put, List.setIfInBounds_toArray, List.set_cons_zero, List.set_cons_succ, i64_w, i32_w]
    rfl
  refine pure_ (i := 4) (N := some 21) (v := ?_) (a' := ?_) #[true, true, true, true, true, false, false, false, false] rfl rfl (by kernel_rfl) (fun _ _ _ h => h) (Or.inl ⟨by rfl, ?_⟩) ?_ ?_
  rotate_left
  · intro w'
    go_simp
    with_reducible rfl
  rotate_left
  · simp only [Act.put, List.setIfInBounds_toArray, List.set_cons_zero, List.set_cons_succ, i64_w, i32_w]
    rfl
  refine take_ (i := 5) (N := some 22) (v := ?_) (a' := ?_) #[true, true, true, true, true, true, false, false, false] rfl rfl (by kernel_rfl) (fun _ _ _ h => h) (Or.inl ⟨by rfl, ?_⟩) hHeld ?_ ?_
  rotate_left
  · rintro w' ⟨s0, s1, s2, s3, s4⟩
    go_simp
    with_reducible rfl
  rotate_left
  · simp only [Act.put, List.setIfInBounds_toArray, List.set_cons_zero, List.set_cons_succ, i64_w, i32_w]
    rfl
  refine one_ (i := 6) (N := some 23) #[true, true, true, true, true, true, true, false, false] rfl rfl (by kernel_rfl) (by decide) (fun K hK => ?_)
  refine goes_ Try.func22 (by kernel_rfl) rfl #[.agg #[.int .i64 a0_0, .slice (some ad) l0_1.length c0_1, .slice A0_2 l0_2.length c0_2], .agg #[.int .u32 (rd_T29 l0_1 a1).f0, .slice AE (rd_T29 l0_1 a1).f1.length cE]] (by rfl) rfl rfl (by (try simp only [List.map_toArray, List.map_cons, List.map_nil]); first | done | rfl) ?_
  have VA := Kd.V_mk (e := 29) (base := W107.heap.size) hc1 (Kd.F_below (Kd.F_bound F1) hB108)
  have VB := Kd.V_mk (e := 27) (base := W107.heap.size) hc2 (Kd.F_below (Kd.F_bound F2) hB108)
  have VC := Kd.V_mk (e := 26) (base := W107.heap.size) hlE (Kd.F_below (Kd.F_bound FE) hB108)
  refine (net_with.new a0_0 (fun k => P0_1_ k ∧ k < w.heap.size) (fun k => Q0_ k ∧ k < w.heap.size) _ _ l0_1 (fun k => P0_2_ k ∧ k < w.heap.size) _ _ l0_2 (rd_T29 l0_1 a1).f0 (fun k => Q0_ k ∧ k < w.heap.size) _ _ (rd_T29 l0_1 a1).f1 a0_0 (l0_1 ++ [rd_T29 l0_1 a1]) l0_2 _ VA VB VC (kk.E.old HE.out hB108) HW.out).mono ?_
  rintro e W5 ⟨v1, v2, rfl, hv1, hv2, hb2⟩
  clear VA VB VC
  refine ⟨_, rfl, ?_⟩
  have U1 := Kd.V_mono (ok' := fun k => (Q0_ k ∨ P0_2_ k) ∧ k < w.heap.size ∨ w.heap.size + 1 + 1 ≤ k) hv1 (fun k hk => hk.elim (fun h => .inl (h.elim (fun h => ⟨.inl h.1, h.2⟩) (fun h => h.elim (fun h => ⟨.inr h.1, h.2⟩) (fun h => ⟨.inl h.1, h.2⟩)))) (fun h => .inr (by have := hz108; omega)))
  have U2 := Kd.V_mono (ok' := fun k => (Q0_ k ∨ P0_2_ k) ∧ k < w.heap.size ∨ w.heap.size + 1 + 1 ≤ k) hv2 (fun k hk => hk.elim (fun h => .inl (h.elim (fun h => ⟨.inl h.1, h.2⟩) (fun h => h.elim (fun h => ⟨.inr h.1, h.2⟩) (fun h => ⟨.inl h.1, h.2⟩)))) (fun h => .inr (by have := hz108; omega)))
  clear hv1 hv2
  obtain ⟨A5, c5, e5⟩ := Kd.V_slice U1
  rw [show (l0_1 ++ [rd_T29 l0_1 a1]).length = l0_1.length + 1 by simp] at e5
  subst e5
  obtain ⟨A6, c6, e6⟩ := Kd.V_slice U2
  subst e6
  have B112 := blk_below B109 hb2
  have B113 := blk_below B110 hb2
  have hB111 := hB108.trans (hb2.mono hB108.size)
  have hz111 : w.heap.size + 1 + 1 ≤ W5.heap.size := Nat.le_trans hz108 hb2.size
  clear B109 B110 hB108 hz108
  clear hb2
  refine hK.out _ _ ⟨(blk_cell B112 0).trans rfl, (blk_cell B112 1).trans rfl, (blk_cell B112 2).trans rfl, pw_cell_below hB111 Hx0.out, pw_cell_below hB111 Hx1.out⟩ (fun hHeld => ?_)
  clear hK K
  refine norm_ (a' := ?_) ?_ ?_
  rotate_left
  · show Act.put _ (some 23) _ = _
    simp only [Act.put, List.setIfInBounds_toArray, List.set_cons_zero, List.set_cons_succ, i64_w, i32_w]
    rfl
  refine last_ (i := 7) (N := none) #[true, true, true, true, true, true, true, true, false] rfl rfl (by kernel_rfl) (by decide) (fun K hK => ?_)
  have c_1_0 : W5.cell? ⟨w.heap.size + 1, 0, none⟩ = some (.int .i64 0) := (blk_cell B113 0).trans rfl
  have c_1_1 : W5.cell? ⟨w.heap.size + 1, 1, none⟩ = some (.slice none 0 0) := (blk_cell B113 1).trans rfl
  have c_1_2 : W5.cell? ⟨w.heap.size + 1, 2, none⟩ = some (.slice none 0 0) := (blk_cell B113 2).trans rfl
  have z_1_0 := blk_frozen B113 0
  have z_1_1 := blk_frozen B113 1
  have z_1_2 := blk_frozen B113 2
  have lt_ : w.heap.size + 1 < W5.heap.size := by have := hz111; omega
  refine skip_ (w1 := ?_) (by rfl) rfl ?_ ?_
  rotate_left
  · go_simp
    rfl
  clear c_1_0 c_1_1 c_1_2 z_1_0 z_1_1 z_1_2 lt_
  have HKs := Aside0.mk hK
  clear hK
  have n114 : w.heap.size ≠ w.heap.size + 1 := by omega
  have n115 : ∀ k, ((Q0_ k ∨ P0_2_ k) ∧ k < w.heap.size ∨ w.heap.size + 1 + 1 ≤ k) → k ≠ w.heap.size + 1 := fun k hk => by omega
  have n116 : w.heap.size ≤ w.heap.size + 1 := by omega
  have B118 := (blk_put (cs' := #[.int .i64 a0_0, .slice A5 (l0_1.length + 1) c5, .slice A6 l0_2.length c6]) (blk_put (cs' := #[.int .i64 a0_0, .slice A5 (l0_1.length + 1) c5, .slice none 0 0]) (blk_put (cs' := #[.int .i64 a0_0, .slice none 0 0, .slice none 0 0]) B113 0 (.int .i64 a0_0) rfl) 1 (.slice A5 (l0_1.length + 1) c5) rfl) 2 (.slice A6 l0_2.length c6) rfl)
  have B119 := (blk_far (p := ⟨w.heap.size + 1, 2, none⟩) (blk_far (p := ⟨w.heap.size + 1, 1, none⟩) (blk_far (p := ⟨w.heap.size + 1, 0, none⟩) B112 n114 (.int .i64 a0_0)) n114 (.slice A5 (l0_1.length + 1) c5)) n114 (.slice A6 l0_2.length c6))
  have V120 := (Kd.V_far (p := ⟨w.heap.size + 1, 2, none⟩) (Kd.V_far (p := ⟨w.heap.size + 1, 1, none⟩) (Kd.V_far (p := ⟨w.heap.size + 1, 0, none⟩) U1 n115 (.int .i64 a0_0)) n115 (.slice A5 (l0_1.length + 1) c5)) n115 (.slice A6 l0_2.length c6))
  have V121 := (Kd.V_far (p := ⟨w.heap.size + 1, 2, none⟩) (Kd.V_far (p := ⟨w.heap.size + 1, 1, none⟩) (Kd.V_far (p := ⟨w.heap.size + 1, 0, none⟩) U2 n115 (.int .i64 a0_0)) n115 (.slice A5 (l0_1.length + 1) c5)) n115 (.slice A6 l0_2.length c6))
  have hB122 := (below_set (g := w.heap.size + 1) (j := 2) (v := .slice A6 l0_2.length c6) (below_set (g := w.heap.size + 1) (j := 1) (v := .slice A5 (l0_1.length + 1) c5) (below_set (g := w.heap.size + 1) (j := 0) (v := .int .i64 a0_0) hB111 n116) n116) n116)
  have hz123 : w.heap.size + 1 + 1 ≤ (((W5.setCell ⟨w.heap.size + 1, 0, none⟩ (.int .i64 a0_0)).setCell ⟨w.heap.size + 1, 1, none⟩ (.slice A5 (l0_1.length + 1) c5)).setCell ⟨w.heap.size + 1, 2, none⟩ (.slice A6 l0_2.length c6)).heap.size := by simpa [World.setCell] using hz111
  clear B112 B113 U1 U2 hB111 hz111 n114 n115 n116
  obtain ⟨W117, hW117⟩ : ∃ W_ : World, W_ = (((W5.setCell ⟨w.heap.size + 1, 0, none⟩ (.int .i64 a0_0)).setCell ⟨w.heap.size + 1, 1, none⟩ (.slice A5 (l0_1.length + 1) c5)).setCell ⟨w.heap.size + 1, 2, none⟩ (.slice A6 l0_2.length c6)) := ⟨_, rfl⟩
  rw [← hW117] at B118 B119 V120 V121 hB122 hz123 ⊢
  clear hW117
  refine HKs.out.out _ _ ?_
  clear HKs K
  refine pure_ (i := 8) (N := some 5) (v := ?_) (a' := ?_) #[true, true, true, true, true, true, true, true, true] rfl rfl (by kernel_rfl) (fun _ _ _ h => h) (Or.inl ⟨by rfl, ?_⟩) ?_ ?_
  rotate_left
  · intro w'
    go_simp
    with_reducible rfl
  rotate_left
  · simp only [Act.put, List.setIfInBounds_toArray, List.set_cons_zero, List.set_cons_succ, i64_w, i32_w]
    rfl
  refine done_ (by kernel_rfl) ?_
  go_wp2
  refine bodyPost_ret (results_ct rfl _ _ (w.heap.size + 1) 25 #[.int .i64 a0_0, .slice A5 (l0_1.length + 1) c5, .slice A6 l0_2.length c6] (0, 0) _ rfl B118 Try.underlying25 rfl (by kernel_rfl)) rfl ?_
  exact ⟨_, _, rfl, (by obtain ⟨A_, c_, e_⟩ := Kd.V_slice V120; exact ⟨A_, c_, e_⟩), (by obtain ⟨A_, c_, e_⟩ := Kd.V_slice V121; exact ⟨A_, c_, e_⟩), fun _ => ⟨Kd.V_mono V120 (fun k hk => hk.elim (fun h => .inl h.1) (fun h => .inr (by omega))), Kd.V_mono V121 (fun k hk => hk.elim (fun h => .inl h.1) (fun h => .inr (by omega)))⟩, hB122⟩

end Go.Proofs.Ytlbfdmoocgjiaaa.PNetKeeps
