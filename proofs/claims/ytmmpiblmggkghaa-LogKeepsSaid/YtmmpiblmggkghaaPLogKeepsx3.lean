-- Written for this claim by wip/tools/myprint.py (print.py's forms; proofs of the faked functions by hand).
import Derived.Test.YtmmpiblmggkghaaPLogKeepsx1
import Derived.Test.YtmmpiblmggkghaaPLogKeepsx2
import Derived.Test.YtmmpiblmggkghaaPLogKeepsx0
namespace Go.Proofs.Ytmmpiblmggkghaa.PLogKeeps
open Go.RowKit Go.Proofs.YtmmpiblmggkghaaW.PrintWords Go.Proofs.YtmmpiblmggkghaaW.PrintLast Go.Proofs.YtmmpiblmggkghaaW.PrintMore
attribute [local go_sem] max2_int min2_int max_two min_two max_three min_three max_four min_four   -- for this text's walks alone
set_option linter.unusedVariables false
set_option linter.unusedSimpArgs false

/-! ### log_Match: function 15 -/
/-- An event's value. -/
def lev (e : S25) : Value := .agg #[.int .i64 e.f0, .int .i64 e.f1, .int .i64 e.f2, .int .u32 e.f3, .int .u32 e.f4, .int .u32 e.f5, .int .u32 e.f6, .int .u32 e.f7, .int .u32 e.f8, .int .u32 e.f9]
def lwf (e : S25) : Bool := (Lit.int .i64 e.f0).wf && (Lit.int .i64 e.f1).wf && (Lit.int .i64 e.f2).wf && (Lit.int .u32 e.f3).wf && (Lit.int .u32 e.f4).wf && (Lit.int .u32 e.f5).wf && (Lit.int .u32 e.f6).wf && (Lit.int .u32 e.f7).wf && (Lit.int .u32 e.f8).wf && (Lit.int .u32 e.f9).wf
theorem lkey.law : WideMaps.KeyLaw Try.prog 25 := deep_law_laid (by kernel_rfl) (m := Try.prog.types.size + 1) (of_decide_eq_true (by kernel_rfl)) (of_decide_eq_true (by kernel_rfl)) (by kernel_rfl) (by rw [Try.underlying25])
theorem lkey.i64 (d : Nat) (x : Int) (h : (Lit.int .i64 x).wf = true) : Try.prog.keyLits (d + 1) 3 [.int .i64 x] = some [.int .i64 x] := by
  unfold Program.keyLits
  rw [Try.underlying3]
  simp [h]
theorem lkey.u32 (d : Nat) (x : Int) (h : (Lit.int .u32 x).wf = true) : Try.prog.keyLits (d + 1) 23 [.int .u32 x] = some [.int .u32 x] := by
  unfold Program.keyLits
  rw [Try.underlying23]
  simp [h]
theorem lkey.has (e : S25) (h : lwf e = true) : ∃ l, keyOf Try.prog 25 (lev e) = some l := by
  unfold lwf at h
  simp only [Bool.and_eq_true] at h
  obtain ⟨⟨⟨⟨⟨⟨⟨⟨⟨h0, h1⟩, h2⟩, h3⟩, h4⟩, h5⟩, h6⟩, h7⟩, h8⟩, h9⟩ := h
  have hk : Try.prog.keyType 25 = true := by kernel_rfl
  have hf : (lev e).formed Try.prog 25 = true := by unfold lev Value.formed; rw [Try.underlying25]; kernel_rfl
  have hl : Try.prog.keyLits (Try.prog.types.size + 1) 25 (lev e).cells.toList = some [.int .i64 e.f0, .int .i64 e.f1, .int .i64 e.f2, .int .u32 e.f3, .int .u32 e.f4, .int .u32 e.f5, .int .u32 e.f6, .int .u32 e.f7, .int .u32 e.f8, .int .u32 e.f9] := by
    obtain ⟨d, hd⟩ : ∃ d, Try.prog.types.size = d + 1 := ⟨Try.prog.types.size - 1, by kernel_rfl⟩
    rw [hd]
    unfold Program.keyLits
    rw [Try.underlying25]
    have hc : Try.prog.cellsOf 25 = 10 := by kernel_rfl
    have c3 : Try.prog.cellsOf 3 = 1 := by kernel_rfl
    have c23 : Try.prog.cellsOf 23 = 1 := by kernel_rfl
    simp [lev, Value.cells, hc, c3, c23, lkey.i64 d _ h0, lkey.i64 d _ h1, lkey.i64 d _ h2, lkey.u32 d _ h3, lkey.u32 d _ h4, lkey.u32 d _ h5, lkey.u32 d _ h6, lkey.u32 d _ h7, lkey.u32 d _ h8, lkey.u32 d _ h9]
  unfold keyOf
  rw [Try.underlying25]
  simp only [hk, hf, hl, Bool.and_self, if_true, Option.map_some]
  exact ⟨_, rfl⟩
theorem lkey.K : Maps.Keyed Try.prog 25 := Maps.Keyed.of_law lkey.law
theorem lkey.zero (w : World) : (zeroValue 3).run Try.prog w = .ok (.int .i64 0) w := by kernel_rfl
/-- 'm[k]' as a place to be written: what it holds, and what a store into it makes of the map. -/
theorem lmap.entry {w : World} {b n : Nat} {D : DataW Unit} (hown : w.ownsMap Try.prog 25 (plainElem Try.prog 3) b n D) (hn : n < maxLen) {key : Value} {kl : Lit} (hkey : keyOf Try.prog 25 key = some kl) :
    ∃ (v : Value) (st : Nat) (w1 : World), (Instr.mapEntry 38 (.map (some b)) key).run Try.prog w = .ok (.tuple #[v, goInt st]) w1 ∧ w.grownBy w1 (some b) ∧
      (∃ n1 D1, w1.ownsMap Try.prog 25 (plainElem Try.prog 3) b n1 D1 ∧ D1.atKey kl (.lit (.int .i64 0)) = D.atKey kl (.lit (.int .i64 0))) ∧
      ∀ (w2 : World) (x : Int), (Lit.int .i64 x).wf = true → w2.heap[b]? = w1.heap[b]? → ∃ w3, (Instr.entryStore 38 (.map (some b)) (goInt st) (.int .i64 x)).run Try.prog w2 = .ok () w3 ∧ w3.ownsMap Try.prog 25 (plainElem Try.prog 3) b (n + 1) (D.put kl (.lit (.int .i64 x))) ∧ w2.grownBy w3 (some b) := by
  have hup := fun (x : Int) (hx : (Lit.int .i64 x).wf = true) => hown.update lkey.K Try.underlying38 hn hkey (plainElem_int (H := Unit) Try.underlying3 hx)
  obtain ⟨es, clock, hb, F, hs, rfl⟩ := hown
  obtain ⟨v0, st, es1, clock1, hrun, _, hst⟩ := WideElems.entry_then_store lkey.law Try.underlying38 lkey.zero hb F hkey
  have hb1 : (ChangeMaps.setBlock w b (.map es1 clock1)).heap[b]? = some (.map es1 clock1) := ChangeMaps.heap_setBlock_same hb _
  refine ⟨v0, st, _, hrun, ⟨rfl, rfl, rfl, by simp [ChangeMaps.setBlock], fun i _ hi => ChangeMaps.heap_setBlock_other hb _ (fun e => hi (by rw [e]))⟩, ?_, ?_⟩
  · have hD : Maps.IsMap (DataW.map ((es.toList.map (WideElems.rg Try.prog 25 (plainElem (H := Unit) Try.prog 3))).foldr DataW.insert [])) := ⟨_, rfl⟩
    rcases lkey.K.find w hkey es.toList F.keys with ⟨h1, h2⟩ | ⟨j, e0, h1, h2, h3⟩
    · have hrun2 : (Instr.mapEntry 38 (.map (some b)) key).run Try.prog w = .ok (.tuple #[.int .i64 0, goInt clock]) (ChangeMaps.setBlock w b (.map (es.push ⟨key, .int .i64 0, clock⟩) (clock + 1))) := by
        simp [Instr.mapEntry, run_underlying Try.underlying38, MapKept.run_getObj_map hb, lkey.K.check w false hkey, h1, lkey.zero, MapKept.run_setObj_map _ hb, Result.andThen, ChangeMaps.setBlock]
      have hup2 : (Instr.mapUpdate 38 (.map (some b)) key (.int .i64 0)).run Try.prog w = .ok () (ChangeMaps.setBlock w b (.map (es.push ⟨key, .int .i64 0, clock⟩) (clock + 1))) := by
        simp [Instr.mapUpdate, run_underlying Try.underlying38, MapKept.run_getObj_map hb, lkey.K.check w false hkey, h1, MapKept.run_setObj_map _ hb, Result.andThen, ChangeMaps.setBlock]
      rw [hrun2] at hrun
      injection hrun with _ e2
      obtain ⟨w', hr3, hown3, _⟩ := hup 0 (by decide)
      rw [hup2] at hr3
      injection hr3 with _ e3
      rw [← e2, e3]
      refine ⟨_, _, hown3, ?_⟩
      rw [Maps.atKey_put_same hD (lkey.K.key hkey)]
      rcases Maps.fit_look false lkey.K Try.underlying38 (lkey.zero w) hb F hkey with ⟨_, _, hat⟩ | ⟨e0, y, hm, hk, _⟩
      · exact (hat _).symm
      · exact absurd hk (h2 e0 hm)
    · have hj : es[j]? = some e0 := by simpa using h2
      have hsame : es.modify j (fun e => { e with key := key }) = es := by
        apply Array.ext'
        rw [Array.toList_modify, ChangeMaps.modify_eq_set _ _ _ _ h2]
        have : ({ e0 with key := key } : MapEntry) = e0 := by rw [← h3]
        rw [this]
        exact WideElems.set_self _ _ _ h2
      have hrun2 : (Instr.mapEntry 38 (.map (some b)) key).run Try.prog w = .ok (.tuple #[e0.val, goInt e0.born]) (ChangeMaps.setBlock w b (.map es clock)) := by
        simp [Instr.mapEntry, run_underlying Try.underlying38, MapKept.run_getObj_map hb, lkey.K.check w false hkey, h1, hj, h3, lkey.K.stays w hkey, hsame, MapKept.run_setObj_map _ hb, Result.andThen, ChangeMaps.setBlock]
      rw [hrun2] at hrun
      injection hrun with _ e2
      rw [← e2]
      exact ⟨n, _, ⟨es, clock, ChangeMaps.heap_setBlock_same hb _, F, hs, rfl⟩, rfl⟩
  · intro w2 x hx h2
    rw [hb1] at h2
    obtain ⟨es', clock', hr1, hr2⟩ := hst w2 (.int .i64 x) h2
    obtain ⟨w', hr3, ⟨es2, clock2, hb3, F3, hs3, hD3⟩, _⟩ := hup x hx
    rw [hr2] at hr3
    cases hr3
    rw [ChangeMaps.heap_setBlock_same hb] at hb3
    cases hb3
    exact ⟨_, hr1, ⟨es', clock', ChangeMaps.heap_setBlock_same h2 _, F3, hs3, hD3⟩, ⟨rfl, rfl, rfl, by simp [ChangeMaps.setBlock], fun i _ hi => ChangeMaps.heap_setBlock_other h2 _ (fun e => hi (by rw [e]))⟩⟩
/-- What a mask leaves of an event. -/
def lbareE (m : Int) (e : S25) : S25 := ⟨lval m 0 e.f0, lval m 1 e.f1, lval m 2 e.f2, lval m 3 e.f3, lval m 4 e.f4, lval m 5 e.f5, lval m 6 e.f6, lval m 7 e.f7, lval m 8 e.f8, 0⟩
def leq (m : Int) (e e' : S25) : Bool := lval m 0 e.f0 == lval m 0 e'.f0 && lval m 1 e.f1 == lval m 1 e'.f1 && lval m 2 e.f2 == lval m 2 e'.f2 && lval m 3 e.f3 == lval m 3 e'.f3 && lval m 4 e.f4 == lval m 4 e'.f4 && lval m 5 e.f5 == lval m 5 e'.f5 && lval m 6 e.f6 == lval m 6 e'.f6 && lval m 7 e.f7 == lval m 7 e'.f7 && lval m 8 e.f8 == lval m 8 e'.f8
def lcnt (m : Int) (l : List S25) (e : S25) : Nat := (l.filter (fun x => leq m x e)).length
/-- Whether of each event of the first row no more like it are ahead of it than there are in the second one. -/
def lmatch (m : Int) (a b : List S25) : Bool := (List.range a.length).all (fun i => decide (lcnt m (a.take i) (rd_T25 a i) < lcnt m b (rd_T25 a i)))
def log_Match.f (l0 : List (S25)) (l1 : List (S25)) (a2 : Int) : Option (Bool) := if 0 ≤ a2 ∧ a2 < 512 then (if (l0.all lwf && l1.all lwf && decide (l0.length ≤ 1000000) && decide (l1.length ≤ 1000000)) = true then some (lmatch a2 l0 l1) else none) else none
theorem lmatch.leq_iff (m : Int) (e e' : S25) : leq m e e' = true ↔ lbareE m e = lbareE m e' := by
  unfold leq lbareE
  simp only [Bool.and_eq_true, beq_iff_eq, S25.mk.injEq, and_true, and_assoc]
theorem lmatch.wf (m : Int) (e : S25) (h : lwf e = true) : lwf (lbareE m e) = true := by
  have z : ∀ (j : Nat) (k : IntKind) (x : Int), (Lit.int k 0).wf = true → (Lit.int k x).wf = true → (Lit.int k (lval m j x)).wf = true := by
    intro j k x h0 h1
    unfold lval
    split <;> assumption
  unfold lwf at h ⊢
  simp only [Bool.and_eq_true] at h ⊢
  obtain ⟨⟨⟨⟨⟨⟨⟨⟨⟨h0, h1⟩, h2⟩, h3⟩, h4⟩, h5⟩, h6⟩, h7⟩, h8⟩, h9⟩ := h
  exact ⟨⟨⟨⟨⟨⟨⟨⟨⟨z _ _ _ (by decide) h0, z _ _ _ (by decide) h1⟩, z _ _ _ (by decide) h2⟩, z _ _ _ (by decide) h3⟩, z _ _ _ (by decide) h4⟩, z _ _ _ (by decide) h5⟩, z _ _ _ (by decide) h6⟩, z _ _ _ (by decide) h7⟩, z _ _ _ (by decide) h8⟩, (by show (Lit.int .u32 0).wf = true; decide)⟩
theorem lmatch.lev_inj {e e' : S25} (h : lev e = lev e') : e = e' := by
  unfold lev at h
  simp only [Value.agg.injEq, Array.mk.injEq, List.cons.injEq, Value.int.injEq, true_and, and_true] at h
  cases e
  cases e'
  simpa using h
/-- The map holds at each key so many. -/
def lreads (m : Int) (D : DataW Unit) (f : S25 → Nat) : Prop := Maps.IsMap D ∧ ∀ e, lwf e = true → ∀ kl, keyOf Try.prog 25 (lev (lbareE m e)) = some kl → D.atKey kl (.lit (.int .i64 0)) = .lit (.int .i64 (f e))
theorem lreads.start (m : Int) : lreads m (.map []) (fun _ => 0) := ⟨Maps.isMap_empty, fun _ _ _ _ => rfl⟩
theorem lreads.put {m : Int} {D : DataW Unit} {f g : S25 → Nat} (h : lreads m D f) {e0 : S25} {kl0 : Lit} (hk : keyOf Try.prog 25 (lev (lbareE m e0)) = some kl0) (c : Nat) (hs : ∀ e, leq m e0 e = true → g e = c) (ho : ∀ e, leq m e0 e = false → g e = f e) :
    lreads m (D.put kl0 (.lit (.int .i64 c))) g := by
  refine ⟨h.1.put _ _, fun e he kl hkl => ?_⟩
  cases q : leq m e0 e with
  | true =>
    have e1 := (lmatch.leq_iff m e0 e).1 q
    rw [← e1, hk] at hkl
    cases hkl
    rw [hs e q]
    exact Maps.atKey_put_same h.1 (lkey.K.key hk) _ _
  | false =>
    have ne : kl ≠ kl0 := fun e1 => by
      subst e1
      have := lmatch.lev_inj (lkey.K.inj hk hkl)
      rw [(lmatch.leq_iff m e0 e).2 this] at q
      cases q
    rw [Maps.atKey_put_other ne, ho e q]
    exact h.2 e he kl hkl
theorem lcnt.snoc (m : Int) (l : List S25) (n : Nat) (hn : n < l.length) (e : S25) : lcnt m (l.take (n + 1)) e = lcnt m (l.take n) e + (if leq m (rd_T25 l n) e then 1 else 0) := by
  have hr : rd_T25 l (n : Int) = l[n] := by
    unfold rd_T25
    rw [Int.toNat_natCast, List.getD_eq_getElem?_getD, List.getElem?_eq_getElem hn]
    rfl
  unfold lcnt
  rw [List.take_succ_eq_append_getElem hn, List.filter_append, List.length_append, hr]
  congr 1
  cases q : leq m l[n] e <;> simp [q]
theorem lcnt.le (m : Int) (l : List S25) (e : S25) : lcnt m l e ≤ l.length := List.length_filter_le _ _
theorem lcnt.congr (m : Int) (l : List S25) {e e' : S25} (h : leq m e e' = true) : lcnt m l e = lcnt m l e' := by
  have := (lmatch.leq_iff m e e').1 h
  unfold lcnt
  congr 1
  refine List.filter_congr (fun x _ => ?_)
  rw [Bool.eq_iff_iff, lmatch.leq_iff, lmatch.leq_iff, this]
set_option linter.unusedSimpArgs false
theorem lmatch.wf64 {x : Int} (h0 : 0 ≤ x) (h1 : x ≤ 9223372036854775807) : (Lit.int .i64 x).wf = true := by
  simp only [Lit.wf, IntKind.min, IntKind.max, IntKind.signed, IntKind.bits, Bool.and_eq_true]
  simp
  omega
theorem log_Match.ret {a b : Bool} (h : a = b) : Ending.returned (.bool a) = .returned (.bool b) := by rw [h]
/-- An event's cells. -/
def lcells (e : S25) : Array Value := #[.int .i64 e.f0, .int .i64 e.f1, .int .i64 e.f2, .int .u32 e.f3, .int .u32 e.f4, .int .u32 e.f5, .int .u32 e.f6, .int .u32 e.f7, .int .u32 e.f8, .int .u32 e.f9]
theorem lmatch.load (w' : World) (g : Nat) (cs : Array Value) (hg : w'.heap[g]? = some (.cells cs 25 (0, 0))) (hs : cs.size = 10) : (Instr.loadAt 25 (.pointer (some ⟨g, 0, none⟩))).run Try.prog w' = .ok (.agg cs) w' := by
  have hi : (Try.prog.info? 25).map (·.size) = some cs.size := by rw [hs]; kernel_rfl
  simp [Instr.loadAt, Instr.sureAddr, run_loadVar_row w' g 25 25 cs (0, 0) _ hg Try.underlying25 rfl hi]
theorem lmatch.exload {o : Oper} {a : Act} {p : Operand} {w' : World} {g : Nat} {cs : Array Value} (ho : o.op = .load 25 p) (hp : a.eval p = .pointer (some ⟨g, 0, none⟩)) (hg : w'.heap[g]? = some (.cells cs 25 (0, 0))) (hs : cs.size = 10) : (execOp a.eval o).run Try.prog w' = .ok (.value (.agg cs)) w' := by
  simp [execOp, ho, hp, lmatch.load w' g cs hg hs, Result.andThen]
theorem lmatch.exlook {o : Oper} {a : Act} {m x : Operand} {w' : World} {B : Nat} {key : Value} {c : Int} (ho : o.op = .lookup 38 m x false) (hm : a.eval m = .map (some B)) (hx : a.eval x = key) (hr : (Instr.lookup 38 (.map (some B)) key false).run Try.prog w' = .ok (.int .i64 c) w') : (execOp a.eval o).run Try.prog w' = .ok (.value (.int .i64 c)) w' := by
  simp [execOp, ho, hm, hx, hr, Result.andThen]
theorem lmatch.exadd {o : Oper} {a : Act} {t : Operand} {w' : World} {x : Int} (ho : o.op = .binOp .add 3 t (.const (.int .i64 1)) 3) (ht : a.eval t = .int .i64 x) (h0 : 0 ≤ x) (h1 : x < 9223372036854775807) : (execOp a.eval o).run Try.prog w' = .ok (.value (.int .i64 (x + 1))) w' := by
  have e : wrap64 (x + 1) = x + 1 := by unfold wrap64; omega
  have hc : a.eval (.const (.int .i64 1)) = .int .i64 1 := rfl
  simp only [execOp, ho, ht, hc]
  simp [go_sem, Try.underlying3, Result.andThen, i64_w, e]
theorem lmatch.exsub {o : Oper} {a : Act} {t : Operand} {w' : World} {x y : Int} (ho : o.op = .binOp .sub 3 t (.const (.int .i64 1)) 3) (ht : a.eval t = .int .i64 x) (h0 : 0 ≤ x) (h1 : x < 9223372036854775807) (hy : x - 1 = y) : (execOp a.eval o).run Try.prog w' = .ok (.value (.int .i64 y)) w' := by
  have e : wrap64 (x - 1) = y := by rw [← hy]; unfold wrap64; omega
  have hc : a.eval (.const (.int .i64 1)) = .int .i64 1 := rfl
  simp only [execOp, ho, ht, hc]
  simp [go_sem, Try.underlying3, Result.andThen, i64_w, e]
theorem lmatch.wlook {ops : Array Oper} {rest : List Oper} {o : Oper} {a : Act} {Q : Exit → Act → World → Prop} {W : World} (hg : o.guard = none) (m x : Operand) (hop : o.op = .lookup 38 m x false) (B : Nat) (hm : a.eval m = .map (some B)) (key : Value) (hx : a.eval x = key) (c : Int)
    (hr : (Instr.lookup 38 (.map (some B)) key false).run Try.prog W = .ok (.int .i64 c) W) (hK : wpList Try.prog ops Q rest (a.put o.dst (.int .i64 c)) W) : wpList Try.prog ops Q (o :: rest) a W := by
  refine wpList_plain hg fun K' hK' => ?_
  unfold Oper.wp
  simp [execOp, hop, hm, hx, hr, Result.andThen]
  exact hK' _ _ hK
theorem lmatch.no (m : Int) (a b : List S25) (n : Nat) (hn : n < a.length) (h : lcnt m b (rd_T25 a n) ≤ lcnt m (a.take n) (rd_T25 a n)) : lmatch m a b = false := by
  unfold lmatch
  rw [List.all_eq_false]
  exact ⟨n, List.mem_range.2 hn, by simpa using h⟩
theorem lmatch.yes (m : Int) (a b : List S25) (h : ∀ j, j < a.length → lcnt m (a.take j) (rd_T25 a j) < lcnt m b (rd_T25 a j)) : lmatch m a b = true := by
  unfold lmatch
  rw [List.all_eq_true]
  exact fun j hj => decide_eq_true (h j (List.mem_range.1 hj))
theorem lmatch.exentry {o : Oper} {a : Act} {m x : Operand} {w' w2 : World} {B : Nat} {key v : Value} (ho : o.op = .mapEntry 38 m x) (hm : a.eval m = .map (some B)) (hx : a.eval x = key) (hr : (Instr.mapEntry 38 (.map (some B)) key).run Try.prog w' = .ok v w2) : (execOp a.eval o).run Try.prog w' = .ok (.value v) w2 := by
  simp [execOp, ho, hm, hx, hr, Result.andThen]
theorem lmatch.exstore {o : Oper} {a : Act} {m x y : Operand} {w' w2 : World} {B : Nat} {st v : Value} (ho : o.op = .entryStore 38 m x y) (hm : a.eval m = .map (some B)) (hx : a.eval x = st) (hy : a.eval y = v) (hr : (Instr.entryStore 38 (.map (some B)) st v).run Try.prog w' = .ok () w2) : (execOp a.eval o).run Try.prog w' = .ok .skip w2 := by
  simp [execOp, ho, hm, hx, hy, hr, Result.andThen]
/-- In such a world the event lies in its block, and the map holds so many at the key. -/
def lheld (B g : Nat) (cs : Array Value) (kl : Lit) (c : Nat) (w' : World) : Prop := w'.heap[g]? = some (.cells cs 25 (0, 0)) ∧ ∃ n' D', w'.ownsMap Try.prog 25 (plainElem Try.prog 3) B n' D' ∧ D'.atKey kl (.lit (.int .i64 0)) = (.lit (.int .i64 c) : DataW Unit)
theorem lmatch.lookc {w : World} {B n : Nat} {D : DataW Unit} (ho : w.ownsMap Try.prog 25 (plainElem Try.prog 3) B n D) {key : Value} {kl : Lit} (hk : keyOf Try.prog 25 key = some kl) {c : Int} (hat : D.atKey kl (.lit (.int .i64 0)) = .lit (.int .i64 c)) : (Instr.lookup 38 (.map (some B)) key false).run Try.prog w = .ok (.int .i64 c) w := by
  obtain ⟨c', hrun, hat', _⟩ := ho.lookup_int lkey.K Try.underlying38 Try.underlying3 (lkey.zero w) hk
  rw [hat] at hat'
  injection hat' with e1
  injection e1 with _ e2
  rw [hrun, ← e2]
theorem lheld.look {B g : Nat} {cs : Array Value} {key : Value} {kl : Lit} (hk : keyOf Try.prog 25 key = some kl) {c : Nat} {w' : World} (h : lheld B g cs kl c w') : (Instr.lookup 38 (.map (some B)) key false).run Try.prog w' = .ok (.int .i64 c) w' := by
  obtain ⟨_, n', D', ho, hat⟩ := h
  obtain ⟨c', hrun, hat', _⟩ := ho.lookup_int lkey.K Try.underlying38 Try.underlying3 (lkey.zero w') hk
  rw [hat] at hat'
  injection hat' with e1
  injection e1 with _ e2
  rw [hrun, ← e2]
theorem lheld.below {B g : Nat} {cs : Array Value} {kl : Lit} {c : Nat} {w1 w2 : World} (h : lheld B g cs kl c w1) (hb : Below w1.heap.size w1 w2) : lheld B g cs kl c w2 := by
  obtain ⟨h1, n', D', ho, hat⟩ := h
  exact ⟨blk_below h1 hb, n', D', ho.kept (row := none) ⟨hb.os, hb.tape, hb.output, hb.size, fun i hi _ => hb.block i hi⟩ (by simp), hat⟩
set_option maxHeartbeats 8000000 in
set_option maxRecDepth 100000 in
theorem log_Match.calls (A0 : Option Addr) (c0 : Nat) (l0 : List (S25)) (A1 : Option Addr) (c1 : Nat) (l1 : List (S25)) (a2 : Int) (r : Bool) (w : World) (hr0 : Kd.C k25 w A0 l0.length l0) (hc0 : l0.length ≤ c0) (hr1 : Kd.C k25 w A1 l1.length l1) (hc1 : l1.length ≤ c1) (h : log_Match.f l0 l1 a2 = some r) :
    Calls Try.prog 15 #[.slice A0 l0.length c0, .slice A1 l1.length c1, .int .i64 a2] w fun e w' => e = .returned (.bool r) ∧ Below w.heap.size w w' := by
  unfold log_Match.f at h
  by_cases hm : ¬ (0 ≤ a2 ∧ a2 < 512)
  · rw [if_neg hm] at h; cases h
  replace hm := Decidable.not_not.mp hm
  rw [if_pos hm] at h
  by_cases hw : ¬ (l0.all lwf && l1.all lwf && decide (l0.length ≤ 1000000) && decide (l1.length ≤ 1000000)) = true
  · rw [if_neg hw] at h; cases h
  replace hw := Decidable.not_not.mp hw
  rw [if_pos hw] at h
  have HM := Aside0.mk hm
  have HR := Aside0.mk (Option.some.inj h)
  simp only [Bool.and_eq_true, List.all_eq_true, decide_eq_true_eq] at hw
  obtain ⟨⟨hw, hl0⟩, hl1⟩ := hw
  have HW := Aside0.mk hw
  clear h hm hw
  have hmm := @run_makeMap Try.prog
  go_enter Try.func15, Try.ntmps15
  go_wp2
  go_loopw [16] (fun i wr => ∃ n : Nat, n ≤ l1.length ∧ i = .int .i64 n ∧ Aside0 (∃ D, wr.ownsMap Try.prog 25 (plainElem Try.prog 3) w.heap.size n D ∧ lreads a2 D (fun e => lcnt a2 (l1.take n) e)) ∧ Aside0 (Below w.heap.size w wr) ∧ Aside0 (w.heap.size < wr.heap.size))
    (fun i _ => l1.length - (intOf i).toNat)
  case atStart => exact ⟨0, Nat.zero_le _, rfl, ⟨.map [], World.ownsMap_made _ _ _ _, by simpa [lcnt] using lreads.start a2⟩, ⟨below_alloc (Below.refl _ _) _⟩, ⟨by simp⟩⟩
  case round =>
    obtain ⟨n, hn, rfl, HO, HB, HS⟩ := hrel
    by_cases hlt : n < l1.length
    · obtain ⟨ad, e, x0, x1, x2, x3, x4, x5, x6, x7, x8, x9⟩ := at_T25 (Kd.C_below hr1 HB.out) (n : Int) (by omega) (by omega)
      subst e
      rw [Int.toNat_natCast] at x0 x1 x2 x3 x4 x5 x6 x7 x8 x9
      have hwe : lwf (rd_T25 l1 (n : Int)) = true := by
        have := HW.out.2 (rd_T25 l1 (n : Int)) (by unfold rd_T25; rw [Int.toNat_natCast, List.getD_eq_getElem?_getD, List.getElem?_eq_getElem hlt]; exact List.getElem_mem hlt)
        exact this
      obtain ⟨kl, hkl⟩ := lkey.has _ (lmatch.wf a2 _ hwe)
      obtain ⟨D, hown, hreads⟩ := HO.out
      have hat := hreads.2 _ hwe kl hkl
      go_wp2
      have hS : lheld w.heap.size wr.heap.size (lcells (rd_T25 l1 (n : Int))) kl (lcnt a2 (l1.take n) (rd_T25 l1 (n : Int))) ((wr.alloc (.cells (lcells (rd_T25 l1 (n : Int))) 25)).drew) := ⟨(MapKept.heap_alloc _ _).1, n, D, (hown.alloc _).drew, hat⟩
      have HB1 := Aside0.mk (below_alloc (Below.refl wr.heap.size wr) (.cells (lcells (rd_T25 l1 (n : Int))) 25))
      have HOWN := Aside0.mk hown
      have HRD := Aside0.mk hreads
      have HKL := Aside0.mk hkl
      have HWE := Aside0.mk hwe
      have hmb := HM.out
      clear hown hreads hkl hwe hat x0 x1 x2 x3 x4 x5 x6 x7 x8 x9
      refine start_ (n := 9) (S := lheld w.heap.size wr.heap.size (lcells (rd_T25 l1 (n : Int))) kl (lcnt a2 (l1.take n) (rd_T25 l1 (n : Int)))) (ds := [8]) #[false, false, false, false, false, false, false, false, false] (by kernel_rfl) rfl rfl hS (fun hHeld => ?_)
      refine pure_ (i := 0) (N := some 20) (v := ?v1) (a' := ?a1) #[true, false, false, false, false, false, false, false, false] rfl rfl (by kernel_rfl) (fun _ _ _ h => h) (Or.inl ⟨by rfl, ?hy1⟩) ?ha1 ?hh1
      case hy1 => (intro w'; go_simp; with_reducible rfl)
      case ha1 => (simp only [Act.put, List.setIfInBounds_toArray, List.set_cons_zero, List.set_cons_succ, i64_w, i32_w]); rfl
      refine pure_ (i := 2) (N := some 22) (v := ?v2) (a' := ?a2) #[true, false, true, false, false, false, false, false, false] rfl rfl (by kernel_rfl) (fun _ _ _ h => h) (Or.inl ⟨by rfl, ?hy2⟩) ?ha2 ?hh2
      case hy2 => (intro w'; go_simp; with_reducible rfl)
      case ha2 => (simp only [Act.put, List.setIfInBounds_toArray, List.set_cons_zero, List.set_cons_succ, i64_w, i32_w]); rfl
      refine take_ (i := 1) (N := some 21) (v := .agg (lcells (rd_T25 l1 (n : Int)))) (a' := ?a3) #[true, true, true, false, false, false, false, false, false] rfl rfl (by kernel_rfl) (fun _ _ _ h => h) (Or.inl ⟨by rfl, ?hy3⟩) hHeld ?ha3 ?hh3
      case hy3 => exact fun w' s0 => lmatch.exload rfl rfl s0.1 rfl
      case ha3 => (simp only [Act.put, List.setIfInBounds_toArray, List.set_cons_zero, List.set_cons_succ, i64_w, i32_w]); rfl
      refine one_ (i := 3) (N := some 23) #[true, true, true, true, false, false, false, false, false] rfl rfl (by kernel_rfl) (by decide) (fun K hK => ?_)
      refine goes_ Try.func17 (by kernel_rfl) rfl #[.agg (lcells (rd_T25 l1 (n : Int))), .int .i64 a2] (by rfl) rfl rfl (by (try simp only [List.map_toArray, List.map_cons, List.map_nil]); first | done | rfl) ?_
      have hbf := log_bare.calls (rd_T25 l1 (n : Int)).f0 (rd_T25 l1 (n : Int)).f1 (rd_T25 l1 (n : Int)).f2 (rd_T25 l1 (n : Int)).f3 (rd_T25 l1 (n : Int)).f4 (rd_T25 l1 (n : Int)).f5 (rd_T25 l1 (n : Int)).f6 (rd_T25 l1 (n : Int)).f7 (rd_T25 l1 (n : Int)).f8 (rd_T25 l1 (n : Int)).f9 a2 _ _ _ _ _ _ _ _ _ _ ((wr.alloc (.cells (lcells (rd_T25 l1 (n : Int))) 25)).drew) (by unfold log_bare.f; rw [if_pos hmb])
      refine Calls.mono hbf ?_
      clear hbf
      rintro e w1 ⟨rfl, hb1⟩
      refine ⟨_, rfl, ?_⟩
      have hS1 := hHeld.below hb1
      have HB2 := Aside0.mk ((below_drew HB1.out).trans (hb1.mono HB1.out.size))
      have HO1 := Aside0.mk (((HOWN.out.alloc _).drew).kept (row := none) ⟨hb1.os, hb1.tape, hb1.output, hb1.size, fun i hi _ => hb1.block i hi⟩ (by simp))
      clear hb1
      refine hK.out _ _ hS1 (fun hHeld => ?_)
      clear hK K hS1 hS
      refine take_ (i := 4) (N := some 24) (v := .int .i64 (lcnt a2 (l1.take n) (rd_T25 l1 (n : Int)) : Nat)) (a' := ?a4) #[true, true, true, true, true, false, false, false, false] rfl rfl (by kernel_rfl) (fun _ _ _ h => h) (Or.inl ⟨by rfl, ?hy4⟩) hHeld ?ha4 ?hh4
      case hy4 => exact fun w' s0 => lmatch.exlook rfl rfl rfl (s0.look HKL.out)
      case ha4 => (simp only [Act.put, List.setIfInBounds_toArray, List.set_cons_zero, List.set_cons_succ, i64_w, i32_w]); rfl
      refine pure_ (i := 5) (N := some 25) (v := .int .i64 ((lcnt a2 (l1.take n) (rd_T25 l1 (n : Int)) : Nat) + 1)) (a' := ?a5) #[true, true, true, true, true, true, false, false, false] rfl rfl (by kernel_rfl) (fun _ _ _ h => h) (Or.inl ⟨by rfl, ?hy5⟩) ?ha5 ?hh5
      case hy5 => exact fun w' => lmatch.exadd rfl rfl (by omega) (by have := lcnt.le a2 (l1.take n) (rd_T25 l1 (n : Int)); rw [List.length_take] at this; omega)
      case ha5 => (simp only [Act.put, List.setIfInBounds_toArray, List.set_cons_zero, List.set_cons_succ, i64_w, i32_w]); rfl
      obtain ⟨v6, st6, w6, hr6, hg6, ho6, hst6⟩ := lmap.entry (HO1.out) (by unfold maxLen; omega) HKL.out
      refine one_ (i := 6) (N := some 26) #[true, true, true, true, true, true, true, false, false] rfl rfl (by kernel_rfl) (by decide) (fun K hK => ?_)
      refine value_ (by rfl) rfl (lmatch.exentry rfl rfl rfl hr6) ?_
      have hS6 : lheld w.heap.size wr.heap.size (lcells (rd_T25 l1 (n : Int))) kl (lcnt a2 (l1.take n) (rd_T25 l1 (n : Int))) w6 := by
        obtain ⟨n1, D1, q1, q2⟩ := ho6
        exact ⟨(hg6.block _ (blk_lt hHeld.1) (fun e => by have := HS.out; have := Option.some.inj e; omega)).trans hHeld.1, n1, D1, q1, q2.trans (HRD.out.2 _ HWE.out kl HKL.out)⟩
      refine hK.out _ _ hS6 (fun hHeld => ?_)
      clear hK K ho6
      refine pure_ (i := 7) (N := some 27) (v := goInt st6) (a' := ?a6) #[true, true, true, true, true, true, true, true, false] rfl rfl (by kernel_rfl) (fun _ _ _ h => h) (Or.inl ⟨by rfl, ?hy6⟩) ?ha6 ?hh6
      case hy6 => exact fun w' => by simp [execOp, go_sem, Result.andThen]
      case ha6 => (simp only [Act.put, List.setIfInBounds_toArray, List.set_cons_zero, List.set_cons_succ, i64_w, i32_w]); rfl
      obtain ⟨w8, hr8, ho8, hg8⟩ := hst6 w6 ((lcnt a2 (l1.take n) (rd_T25 l1 (n : Int)) : Nat) + 1) (lmatch.wf64 (by omega) (by have := lcnt.le a2 (l1.take n) (rd_T25 l1 (n : Int)); rw [List.length_take] at this; omega)) rfl
      refine last_ (i := 8) (N := none) #[true, true, true, true, true, true, true, true, true] rfl rfl (by kernel_rfl) (by decide) (fun K hK => ?_)
      refine skip_ (by rfl) rfl (lmatch.exstore rfl rfl rfl rfl hr8) ?_
      refine hK.out _ _ ?_
      clear hK K
      refine done_ (by kernel_rfl) ?_
      go_wp2
      go_roundw
      case rel =>
        refine ⟨n + 1, by omega, by go_num, ⟨_, ho8, lreads.put HRD.out HKL.out (c := lcnt a2 (l1.take n) (rd_T25 l1 (n : Int)) + 1) (fun e he => ?_) (fun e he => ?_)⟩, ⟨?_⟩, ⟨?_⟩⟩
        · show lcnt a2 (l1.take (n + 1)) e = _
          rw [lcnt.snoc a2 l1 n hlt e, he, lcnt.congr a2 (l1.take n) he]; rfl
        · show lcnt a2 (l1.take (n + 1)) e = _
          rw [lcnt.snoc a2 l1 n hlt e, he]; rfl
        · exact ((HB.out.trans (HB2.out.mono HB.out.size)).grown hg6 (by have := HB2.out.size; have := HS.out; omega) (fun k hk => by cases hk; exact Nat.le_refl _)).grown hg8 (by have := HB2.out.size; have := HS.out; have := hg6.size; omega) (fun k hk => by cases hk; exact Nat.le_refl _)
        · have := HB2.out.size; have := HS.out; have := hg6.size; have := hg8.size; omega
      case measure => simp [intOf]; omega
    · obtain rfl : n = l1.length := by omega
      clear hlt hn
      obtain ⟨D, hown, hreads⟩ := HO.out
      rw [List.take_length] at hreads
      have HO2 := Aside0.mk (show ∃ mm D, mm ≤ 1000000 + 0 ∧ wr.ownsMap Try.prog 25 (plainElem Try.prog 3) w.heap.size mm D ∧ lreads a2 D (fun e => lcnt a2 l1 e - lcnt a2 (l0.take 0) e) from ⟨_, D, by omega, hown, by simpa [lcnt] using hreads⟩)
      clear hown hreads HO
      obtain ⟨wo, hwo⟩ : ∃ wo : World, wo = wr := ⟨_, rfl⟩
      rw [← hwo]
      rw [← hwo] at HO2 HB HS
      clear hwo
      go_wp2
      go_loopw [31] (fun i wr => ∃ n : Nat, n ≤ l0.length ∧ i = .int .i64 n ∧ Aside0 (∃ mm D, mm ≤ 1000000 + n ∧ wr.ownsMap Try.prog 25 (plainElem Try.prog 3) w.heap.size mm D ∧ lreads a2 D (fun e => lcnt a2 l1 e - lcnt a2 (l0.take n) e)) ∧ Aside0 (∀ e, lcnt a2 (l0.take n) e ≤ lcnt a2 l1 e) ∧ Aside0 (∀ j : Nat, j < n → lcnt a2 (l0.take j) (rd_T25 l0 j) < lcnt a2 l1 (rd_T25 l0 j)) ∧ Aside0 (Below w.heap.size w wr) ∧ Aside0 (w.heap.size < wr.heap.size))
        (fun i _ => l0.length - (intOf i).toNat)
      case atStart => exact ⟨0, Nat.zero_le _, rfl, HO2, ⟨fun e => by simp [lcnt]⟩, ⟨fun j hj => by omega⟩, HB, HS⟩
      case round =>
        clear HO2 HB HS
        obtain ⟨n, hn, rfl, HO, HLE, HLT, HB, HS⟩ := hrel
        by_cases hlt : n < l0.length
        · obtain ⟨ad, e, x0, x1, x2, x3, x4, x5, x6, x7, x8, x9⟩ := at_T25 (Kd.C_below hr0 HB.out) (n : Int) (by omega) (by omega)
          subst e
          rw [Int.toNat_natCast] at x0 x1 x2 x3 x4 x5 x6 x7 x8 x9
          have hwe : lwf (rd_T25 l0 (n : Int)) = true := by
            have := HW.out.1 (rd_T25 l0 (n : Int)) (by unfold rd_T25; rw [Int.toNat_natCast, List.getD_eq_getElem?_getD, List.getElem?_eq_getElem hlt]; exact List.getElem_mem hlt)
            exact this
          obtain ⟨kl, hkl⟩ := lkey.has _ (lmatch.wf a2 _ hwe)
          obtain ⟨mm, D, hmm2, hown, hreads⟩ := HO.out
          have hat := hreads.2 _ hwe kl hkl
          have HOWN := Aside0.mk hown
          have HRD := Aside0.mk hreads
          have HKL := Aside0.mk hkl
          have HWE := Aside0.mk hwe
          have HAT := Aside0.mk hat
          have HMM := Aside0.mk hmm2
          have hmb := HM.out
          have HBF := Aside0.mk (fun W => log_bare.calls (rd_T25 l0 (n : Int)).f0 (rd_T25 l0 (n : Int)).f1 (rd_T25 l0 (n : Int)).f2 (rd_T25 l0 (n : Int)).f3 (rd_T25 l0 (n : Int)).f4 (rd_T25 l0 (n : Int)).f5 (rd_T25 l0 (n : Int)).f6 (rd_T25 l0 (n : Int)).f7 (rd_T25 l0 (n : Int)).f8 (rd_T25 l0 (n : Int)).f9 a2 _ _ _ _ _ _ _ _ _ _ W (by unfold log_bare.f; rw [if_pos hmb]))
          clear hown hreads hkl hwe hat hmm2 hmb
          obtain ⟨c, hc⟩ : ∃ c, c = (lcnt a2 l1 (rd_T25 l0 (n : Int)) - lcnt a2 (l0.take n) (rd_T25 l0 (n : Int))) := ⟨_, rfl⟩
          have HC := Aside0.mk hc
          clear hc
          have hcb : c ≤ 1000000 := by have := HC.out; have := lcnt.le a2 l1 (rd_T25 l0 (n : Int)); omega
          by_cases hz : c = 0
          · have hzb : ((c : Int) == 0) = true := by rw [hz]; rfl
            go_wp2_with (first | (go_at_call 17; refine (HBF.out _).mono ?_; rintro e w1 ⟨rfl, hb1⟩; have HB2 := Aside0.mk ((below_alloc (Below.refl wr.heap.size wr) _).trans (hb1.mono (below_alloc (Below.refl wr.heap.size wr) _).size)); have HO1 := Aside0.mk ((HOWN.out.alloc _).kept (row := none) ⟨hb1.os, hb1.tape, hb1.output, hb1.size, fun i hi _ => hb1.block i hi⟩ (by simp)); clear hb1) | (at_lookup; refine lmatch.wlook rfl _ _ rfl w.heap.size rfl (lev (lbareE a2 (rd_T25 l0 (n : Int)))) rfl c (lmatch.lookc (HO1.out.alloc _) HKL.out (by rw [HAT.out, HC.out])) ?_))
            go_ret
            exact ⟨log_Match.ret ((lmatch.no a2 l0 l1 n hlt (by have := HC.out; omega)).symm.trans HR.out), below_alloc (HB.out.trans (HB2.out.mono HB.out.size)) _⟩
          · have hzb : ((c : Int) == 0) = false := beq_eq_false_iff_ne.2 (by omega)
            go_wp2_with (first | (go_at_call 17; refine (HBF.out _).mono ?_; rintro e w1 ⟨rfl, hb1⟩; have HB2 := Aside0.mk ((below_alloc (Below.refl wr.heap.size wr) _).trans (hb1.mono (below_alloc (Below.refl wr.heap.size wr) _).size)); have HO1 := Aside0.mk ((HOWN.out.alloc _).kept (row := none) ⟨hb1.os, hb1.tape, hb1.output, hb1.size, fun i hi _ => hb1.block i hi⟩ (by simp)); clear hb1) | (at_lookup; refine lmatch.wlook rfl _ _ rfl w.heap.size rfl (lev (lbareE a2 (rd_T25 l0 (n : Int)))) rfl c (lmatch.lookc (HO1.out.alloc _) HKL.out (by rw [HAT.out, HC.out])) ?_))
            have HB3 := Aside0.mk (below_drew (below_alloc HB2.out (.cells (lcells (lbareE a2 (rd_T25 l0 (n : Int)))) 25)))
            have hS : lheld w.heap.size w1.heap.size (lcells (lbareE a2 (rd_T25 l0 (n : Int)))) kl c ((w1.alloc (.cells (lcells (lbareE a2 (rd_T25 l0 (n : Int)))) 25)).drew) := ⟨(MapKept.heap_alloc _ _).1, mm, D, (HO1.out.alloc _).drew, by rw [HAT.out, HC.out]⟩
            refine start_ (n := 7) (S := lheld w.heap.size w1.heap.size (lcells (lbareE a2 (rd_T25 l0 (n : Int)))) kl c) (ds := [6]) #[false, false, false, false, false, false, false] (by kernel_rfl) rfl rfl hS (fun hHeld => ?_)
            refine pure_ (i := 0) (N := some 42) (v := ?v7) (a' := ?a7) #[true, false, false, false, false, false, false] rfl rfl (by kernel_rfl) (fun _ _ _ h => h) (Or.inl ⟨by rfl, ?hy7⟩) ?ha7 ?hh7
            case hy7 => (intro w'; go_simp; with_reducible rfl)
            case ha7 => (simp only [Act.put, List.setIfInBounds_toArray, List.set_cons_zero, List.set_cons_succ, i64_w, i32_w]); rfl
            refine take_ (i := 1) (N := some 43) (v := .agg (lcells (lbareE a2 (rd_T25 l0 (n : Int))))) (a' := ?a8) #[true, true, false, false, false, false, false] rfl rfl (by kernel_rfl) (fun _ _ _ h => h) (Or.inl ⟨by rfl, ?hy8⟩) hHeld ?ha8 ?hh8
            case hy8 => exact fun w' s0 => lmatch.exload rfl rfl s0.1 rfl
            case ha8 => (simp only [Act.put, List.setIfInBounds_toArray, List.set_cons_zero, List.set_cons_succ, i64_w, i32_w]); rfl
            refine take_ (i := 2) (N := some 44) (v := .int .i64 (c : Nat)) (a' := ?a9) #[true, true, true, false, false, false, false] rfl rfl (by kernel_rfl) (fun _ _ _ h => h) (Or.inl ⟨by rfl, ?hy9⟩) hHeld ?ha9 ?hh9
            case hy9 => exact fun w' s0 => lmatch.exlook rfl rfl rfl (s0.look HKL.out)
            case ha9 => (simp only [Act.put, List.setIfInBounds_toArray, List.set_cons_zero, List.set_cons_succ, i64_w, i32_w]); rfl
            refine pure_ (i := 3) (N := some 45) (v := .int .i64 ((c - 1 : Nat) : Int)) (a' := ?a10) #[true, true, true, true, false, false, false] rfl rfl (by kernel_rfl) (fun _ _ _ h => h) (Or.inl ⟨by rfl, ?hy10⟩) ?ha10 ?hh10
            case hy10 => exact fun w' => lmatch.exsub rfl rfl (by omega) (by omega) (by omega)
            case ha10 => (simp only [Act.put, List.setIfInBounds_toArray, List.set_cons_zero, List.set_cons_succ, i64_w, i32_w]); rfl
            obtain ⟨v6, st6, w6, hr6, hg6, ho6, hst6⟩ := lmap.entry ((HO1.out.alloc (.cells (lcells (lbareE a2 (rd_T25 l0 (n : Int)))) 25)).drew) (by have := HMM.out; unfold maxLen; omega) HKL.out
            refine one_ (i := 4) (N := some 46) #[true, true, true, true, true, false, false] rfl rfl (by kernel_rfl) (by decide) (fun K hK => ?_)
            refine value_ (by rfl) rfl (lmatch.exentry rfl rfl rfl hr6) ?_
            have hS6 : lheld w.heap.size w1.heap.size (lcells (lbareE a2 (rd_T25 l0 (n : Int)))) kl c w6 := by
              obtain ⟨n1, D1, q1, q2⟩ := ho6
              exact ⟨(hg6.block _ (blk_lt hHeld.1) (fun e => by have := HS.out; have := HB2.out.size; have := Option.some.inj e; omega)).trans hHeld.1, n1, D1, q1, q2.trans (by rw [HAT.out, HC.out])⟩
            refine hK.out _ _ hS6 (fun hHeld => ?_)
            clear hK K ho6
            refine pure_ (i := 5) (N := some 47) (v := goInt st6) (a' := ?a11) #[true, true, true, true, true, true, false] rfl rfl (by kernel_rfl) (fun _ _ _ h => h) (Or.inl ⟨by rfl, ?hy11⟩) ?ha11 ?hh11
            case hy11 => exact fun w' => by simp [execOp, go_sem, Result.andThen]
            case ha11 => (simp only [Act.put, List.setIfInBounds_toArray, List.set_cons_zero, List.set_cons_succ, i64_w, i32_w]); rfl
            obtain ⟨w8, hr8, ho8, hg8⟩ := hst6 w6 ((c - 1 : Nat) : Int) (lmatch.wf64 (by omega) (by omega)) rfl
            refine last_ (i := 6) (N := none) #[true, true, true, true, true, true, true] rfl rfl (by kernel_rfl) (by decide) (fun K hK => ?_)
            refine skip_ (by rfl) rfl (lmatch.exstore rfl rfl rfl rfl hr8) ?_
            refine hK.out _ _ ?_
            clear hK K
            refine done_ (by kernel_rfl) ?_
            go_wp2
            go_roundw
            case rel =>
              refine ⟨n + 1, by omega, by go_num, ⟨mm + 1, _, by have := HMM.out; omega, ho8, lreads.put HRD.out HKL.out (c := c - 1) (fun e he => ?_) (fun e he => ?_)⟩, ⟨fun e => ?_⟩, ⟨fun j hj => ?_⟩, ⟨?_⟩, ⟨?_⟩⟩
              · show lcnt a2 l1 e - lcnt a2 (l0.take (n + 1)) e = _
                have h1 := lcnt.congr a2 l1 he
                have h2 := lcnt.congr a2 (l0.take n) he
                have h3 := HC.out
                rw [lcnt.snoc a2 l0 n hlt e, he, if_pos rfl]
                omega
              · show lcnt a2 l1 e - lcnt a2 (l0.take (n + 1)) e = _
                rw [lcnt.snoc a2 l0 n hlt e, he]; rfl
              · rw [lcnt.snoc a2 l0 n hlt e]
                have h4 := HLE.out e
                cases he : leq a2 (rd_T25 l0 (n : Int)) e with
                | true =>
                  have h1 := lcnt.congr a2 l1 he
                  have h2 := lcnt.congr a2 (l0.take n) he
                  have h3 := HC.out
                  rw [if_pos rfl]; omega
                | false => rw [if_neg (by decide)]; omega
              · rcases Nat.lt_or_ge j n with q | q
                · exact HLT.out j q
                · obtain rfl : j = n := by omega
                  have h3 := HC.out; omega
              · exact ((HB.out.trans (HB3.out.mono HB.out.size)).grown hg6 (by have := HB3.out.size; have := HS.out; omega) (fun k hk => by cases hk; exact Nat.le_refl _)).grown hg8 (by have := HB3.out.size; have := HS.out; have := hg6.size; simp at *; omega) (fun k hk => by cases hk; exact Nat.le_refl _)
              · have := HB3.out.size; have := HS.out; have := hg6.size; have := hg8.size; simp at *; omega
            case measure => simp [intOf]; omega
        · obtain rfl : n = l0.length := by omega
          go_wp2
          go_ret
          exact ⟨log_Match.ret ((lmatch.yes a2 l0 l1 HLT.out).symm.trans HR.out), HB.out⟩

end Go.Proofs.Ytmmpiblmggkghaa.PLogKeeps
