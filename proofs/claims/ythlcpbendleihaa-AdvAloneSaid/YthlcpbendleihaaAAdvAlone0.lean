/- The law AdvAlone of the adversary's layer, walked by hand: text 0. -/
import Derived.Test.YthlcpbendleihaaPAdvAlonex0
import Derived.Test.YthlcpbendleihaaPAdvAlonex1
import Derived.Test.YthlcpbendleihaaPAdvAlonex2
import Derived.Test.YthlcpbendleihaaPAdvAlonex3
import Derived.Test.YthlcpbendleihaaPAdvAlonex4
import Derived.Test.YthlcpbendleihaaPAdvAlonex5
import Derived.Test.YthlcpbendleihaaPAdvAlonex6
import Derived.Test.YthlcpbendleihaaPAdvAlonex7
namespace Go.Proofs.Ythlcpbendleihaa.PAdvAlone
open Go Go.RowKit Go.Proofs.YthlcpbendleihaaW.PrintWords Go.Proofs.YthlcpbendleihaaW.PrintLast Go.Proofs.YthlcpbendleihaaW.PrintMore
set_option linter.unusedVariables false
set_option linter.unusedSimpArgs false
/-! ### A world as a whole: what it is, how it lies in memory -/
/-- A world. -/
structure wk.X where
 c0 : Int
 c1 : Int
 c2 : Int
 c3 : Int
 c4 : Int
 c5 : Int
 c6 : Int
 dl : List Int
 dn : Int
 br : Int
 bs : List S92
 nr : Int
 ng : List S94
 ns : List (List Int)
 pe : List S55
 lo : List S83
 re : List (List Int)
 le : List S85
/-- Where its rows lie, and their room. -/
structure wk.S where
 a7 : Option Addr
 c7 : Nat
 a10 : Option Addr
 c10 : Nat
 a12 : Option Addr
 c12 : Nat
 a13 : Option Addr
 c13 : Nat
 a14 : Option Addr
 c14 : Nat
 a15 : Option Addr
 c15 : Nat
 a16 : Option Addr
 c16 : Nat
 a17 : Option Addr
 c17 : Nat
/-- Its cells. -/
def wk.cs (x : wk.X) (s : wk.S) : Array Value := #[.int .u32 x.c0, .int .i64 x.c1, .int .i64 x.c2, .int .i64 x.c3, .int .i64 x.c4, .int .i64 x.c5, .int .i64 x.c6, .slice s.a7 x.dl.length s.c7, .int .i64 x.dn, .int .i64 x.br, .slice s.a10 x.bs.length s.c10, .int .i64 x.nr, .slice s.a12 x.ng.length s.c12, .slice s.a13 x.ns.length s.c13, .slice s.a14 x.pe.length s.c14, .slice s.a15 x.lo.length s.c15, .slice s.a16 x.re.length s.c16, .slice s.a17 x.le.length s.c17]
/-- All its rows can be read, in blocks of which P holds. -/
structure wk.Rd (W : World) (P : Nat → Prop) (x : wk.X) (s : wk.S) : Prop where
 r7 : Kd.V (Kd.int .u32) 22 W 0 P (.slice s.a7 x.dl.length s.c7) x.dl
 r10 : Kd.V k92 92 W 0 P (.slice s.a10 x.bs.length s.c10) x.bs
 r12 : Kd.V k94 94 W 0 P (.slice s.a12 x.ng.length s.c12) x.ng
 r13 : Kd.V (Kd.slice 22 (Kd.int .u32)) 25 W 0 P (.slice s.a13 x.ns.length s.c13) x.ns
 r14 : Kd.V k55 55 W 0 P (.slice s.a14 x.pe.length s.c14) x.pe
 r15 : Kd.V k83 83 W 0 P (.slice s.a15 x.lo.length s.c15) x.lo
 r16 : Kd.V (Kd.slice 22 (Kd.int .u32)) 25 W 0 P (.slice s.a16 x.re.length s.c16) x.re
 r17 : Kd.V k85 85 W 0 P (.slice s.a17 x.le.length s.c17) x.le
theorem wk.Rd.step {W W' : World} {P : Nat → Prop} {x : wk.X} {s : wk.S} (h : wk.Rd W P x s) (hm : ∀ k, P k → k < W.heap.size → W'.heap[k]? = W.heap[k]?) : wk.Rd W' P x s :=
 ⟨Kd.V_step h.r7 hm, Kd.V_step h.r10 hm, Kd.V_step h.r12 hm, Kd.V_step h.r13 hm, Kd.V_step h.r14 hm, Kd.V_step h.r15 hm, Kd.V_step h.r16 hm, Kd.V_step h.r17 hm⟩
theorem wk.Rd.below {W W' : World} {P : Nat → Prop} {x : wk.X} {s : wk.S} (h : wk.Rd W P x s) (hb : Below W.heap.size W W') : wk.Rd W' P x s := h.step (fun k _ hk => hb.block k hk)
theorem wk.Rd.mono {W : World} {P Q : Nat → Prop} {x : wk.X} {s : wk.S} (h : wk.Rd W P x s) (hq : ∀ k, P k → Q k) : wk.Rd W Q x s :=
 ⟨Kd.V_mono h.r7 hq, Kd.V_mono h.r10 hq, Kd.V_mono h.r12 hq, Kd.V_mono h.r13 hq, Kd.V_mono h.r14 hq, Kd.V_mono h.r15 hq, Kd.V_mono h.r16 hq, Kd.V_mono h.r17 hq⟩
theorem wk.Rd.bound {W : World} {P : Nat → Prop} {x : wk.X} {s : wk.S} (h : wk.Rd W P x s) : wk.Rd W (fun k => P k ∧ k < W.heap.size) x s :=
 ⟨Kd.V_bound h.r7, Kd.V_bound h.r10, Kd.V_bound h.r12, Kd.V_bound h.r13, Kd.V_bound h.r14, Kd.V_bound h.r15, Kd.V_bound h.r16, Kd.V_bound h.r17⟩
/-- Another world was stored into a block: all other blocks are as they were. -/
structure wk.St (g : Nat) (w w' : World) : Prop where
 other : ∀ k, k ≠ g → w'.heap[k]? = w.heap[k]?
 bel : ∀ b : Nat, b ≤ g → Below b w w'
theorem wk.St.below {g b : Nat} {w0 w w' : World} (h : wk.St g w w') (hb : b ≤ g) (hB : Below b w0 w) : Below b w0 w' := hB.trans (h.bel b hb)
theorem wk.St.trans {g : Nat} {w w1 w2 : World} (h : wk.St g w w1) (h2 : wk.St g w1 w2) : wk.St g w w2 :=
 ⟨fun k hk => (h2.other k hk).trans (h.other k hk), fun b hb => (h.bel b hb).trans (h2.bel b hb)⟩
theorem wk.St.cell (w : World) (g j : Nat) (v : Value) : wk.St g w (w.setCell ⟨g, j, none⟩ v) :=
 ⟨fun k hk => Below.heap_setCell w ⟨g, j, none⟩ v k hk, fun b hb => (Below.refl b w).setCell hb v⟩
theorem wk.St.blk {g k : Nat} {w w' : World} {o : Obj} (h : wk.St g w w') (hb : w.heap[k]? = some o) (hne : k ≠ g) : w'.heap[k]? = some o := (h.other k hne).trans hb
theorem wk.Rd.st {g : Nat} {W W' : World} {P : Nat → Prop} {x : wk.X} {s : wk.S} (h : wk.Rd W P x s) (hs : wk.St g W W') (hne : ∀ k, P k → k ≠ g) : wk.Rd W' P x s := h.step (fun k hk _ => hs.other k (hne k hk))
theorem wk.V_st {α : Type} {d : Kd α} {e base g : Nat} {W W' : World} {P : Nat → Prop} {v : Value} {xs : List α} (h : Kd.V d e W base P v xs) (hs : wk.St g W W') (hne : ∀ k, P k → k ≠ g) : Kd.V d e W' base P v xs := Kd.V_step h (fun k hk _ => hs.other k (hne k hk))
section
variable {P : Program} {ops : Array Oper} {rest : List Oper} {o : Oper} {a : Act} {Q : Exit → Act → World → Prop}
/-- A whole variable is stored. -/
theorem wk.put_event {W : World} (hgd : o.guard = none) {t : TypeId} {p : Tmp} {v : Operand} (ho : o.op = .store t (.tmp p) v) (hN : o.dst = none) {g : Nat} {tb : TypeId} {old cells : Array Value}
  (hx : a.eval (.tmp p) = .pointer (some ⟨g, 0, none⟩)) (hy : a.eval v = .agg cells) (hg : W.heap[g]? = some (.cells old tb (0, 0))) (hi : (P.info? t).map (·.size) = some cells.size)
  (hs : old.size = cells.size) (h1 : cells.all (·.oneCell') = true) (h : ∀ w', w'.heap[g]? = some (.cells cells tb (0, 0)) → wk.St g W w' → wpList P ops Q rest a w') : wpList P ops Q (o :: rest) a W := by
 refine wpList_plain hgd fun K hK => ?_
 refine wp_store_row t (.tmp p) v ho g cells hx hy tb old hg hi hs h1 ?_
 rw [hN]
 have hb : (W.setRow g cells).heap[g]? = some (.cells cells tb (0, 0)) := setRow_heap W g old cells tb (0, 0) hg
 exact hK _ _ (h _ hb ⟨fun k hk => setRow_other W g k cells hk, fun b hb => ⟨rfl, rfl, rfl, by simp [World.setRow], fun k hk => setRow_other W g k cells (by omega)⟩⟩)
/-- A whole variable is read. -/
theorem wk.get_event {W : World} (hgd : o.guard = none) {t : TypeId} {p N : Tmp} (ho : o.op = .load t (.tmp p)) (_hN : o.dst = some N) {g : Nat} {tb : TypeId} {cs : Array Value} {fr : Nat × Nat} {d : TypeDesc}
  (hx : a.eval (.tmp p) = .pointer (some ⟨g, 0, none⟩)) (hg : W.heap[g]? = some (.cells cs tb fr)) (hu : P.underlying t = some d) (hd : (match d with | .struct _ | .array _ _ => true | _ => false) = true)
  (hi : (P.info? t).map (·.size) = some cs.size) (h : wpList P ops Q rest (a.put o.dst (.agg cs)) W) : wpList P ops Q (o :: rest) a W := by
 refine Kd.event_run hgd ?_ h
 unfold execOp
 simp only [ho, hx, Instr.loadAt, Instr.sureAddr, Sem.run_bind, Sem.run_pure, Result.andThen_ok, run_loadVar_row W g tb t cs fr d hg hu hd hi]
 try rfl
end

theorem wk.Rd.draw {W : World} {P : Nat → Prop} {x : wk.X} {s : wk.S} (h : wk.Rd W P x s) {A : Option Addr} {l : List Int} {c : Nat} (n : Int) (hv : Kd.V (Kd.int .u32) 22 W 0 P (.slice A l.length c) l) : wk.Rd W P { x with dl := l, dn := n } { s with a7 := A, c7 := c } :=
 ⟨hv, h.r10, h.r12, h.r13, h.r14, h.r15, h.r16, h.r17⟩
/-- Whatever P holds of, and all that is new, but the walk's own variables. -/
def wk.Q (P : Nat → Prop) (b : Nat) (N : List Nat) (k : Nat) : Prop := (P k ∨ b ≤ k) ∧ k ∉ N
theorem wk.Q.ne {P : Nat → Prop} {b k g : Nat} {N : List Nat} (hk : wk.Q P b N k) (h : g ∈ N) : k ≠ g := fun e => hk.2 (e ▸ h)
theorem wk.Q.new {P : Nat → Prop} {b k : Nat} {N : List Nat} {W : World} (HN : ∀ g ∈ N, g < W.heap.size) (hb : b ≤ W.heap.size) (h : wk.Q P b N k ∨ W.heap.size ≤ k) : wk.Q P b N k := by
 rcases h with h | h
 ·
  exact h
 ·
  exact ⟨.inr (Nat.le_trans hb h), fun hm => Nat.lt_irrefl _ (Nat.lt_of_lt_of_le (HN k hm) h)⟩
theorem wk.Q.fresh {P : Nat → Prop} {b k g : Nat} {N : List Nat} {W : World} (hg : g = W.heap.size) (h : wk.Q P b N k ∧ k < W.heap.size) : wk.Q P b (g :: N) k :=
 ⟨h.1.1, fun hm => by rcases List.mem_cons.1 hm with e | e; (have := h.2; omega); exact h.1.2 e⟩
theorem wk.V_fresh {α : Type} {d : Kd α} {e base b g : Nat} {W : World} {P : Nat → Prop} {N : List Nat} {v : Value} {xs : List α} (h : Kd.V d e W base (wk.Q P b N) v xs) (hg : g = W.heap.size) : Kd.V d e W base (wk.Q P b (g :: N)) v xs := Kd.V_mono (Kd.V_bound h) (fun _ hk => wk.Q.fresh hg hk)
theorem wk.Rd.fresh {b g : Nat} {W : World} {P : Nat → Prop} {N : List Nat} {x : wk.X} {s : wk.S} (h : wk.Rd W (wk.Q P b N) x s) (hg : g = W.heap.size) : wk.Rd W (wk.Q P b (g :: N)) x s := h.bound.mono (fun _ hk => wk.Q.fresh hg hk)
theorem wk.V_start {α : Type} {d : Kd α} {e base : Nat} {W : World} {P : Nat → Prop} {v : Value} {xs : List α} (b : Nat) (h : Kd.V d e W base P v xs) : Kd.V d e W base (wk.Q P b []) v xs := Kd.V_mono h (fun _ hk => ⟨.inl hk, by simp⟩)
theorem wk.Rd.start {W : World} {P : Nat → Prop} {x : wk.X} {s : wk.S} (b : Nat) (h : wk.Rd W P x s) : wk.Rd W (wk.Q P b []) x s := h.mono (fun _ hk => ⟨.inl hk, by simp⟩)
theorem wk.N_new {N : List Nat} {g : Nat} {W W' : World} (HN : ∀ g ∈ N, g < W.heap.size) (h : W.heap.size ≤ W'.heap.size) (hg : g < W'.heap.size) : ∀ q ∈ g :: N, q < W'.heap.size := fun q hq => by
 rcases List.mem_cons.1 hq with e | e
 ·
  rw [e]; exact hg
 ·
  exact Nat.lt_of_lt_of_le (HN q e) h
theorem wk.V_b {α : Type} {d : Kd α} {e base base' : Nat} {W : World} {P : Nat → Prop} {v : Value} {xs : List α} (h : Kd.V d e W base P v xs) : Kd.V d e W base' P v xs := h
theorem wk.V_new {α : Type} {d : Kd α} {e base b : Nat} {W W' : World} {P : Nat → Prop} {N : List Nat} {v : Value} {xs : List α} (HN : ∀ g ∈ N, g < W.heap.size) (hb : b ≤ W.heap.size) (h : Kd.V d e W' base (fun k => wk.Q P b N k ∨ W.heap.size ≤ k) v xs) : Kd.V d e W' 0 (wk.Q P b N) v xs :=
 wk.V_b (Kd.V_mono h (fun _ hk => wk.Q.new HN hb hk))
theorem wk.R_new {α : Type} {d : Kd α} {e b : Nat} {W W' : World} {P ok : Nat → Prop} {N : List Nat} {v : Value} {xs : List α} (HN : ∀ g ∈ N, g < W.heap.size) (hb : b ≤ W.heap.size) (h : Kd.R d e W' W.heap.size ok v xs) : Kd.V d e W' 0 (wk.Q P b N) v xs :=
 wk.V_b (Kd.V_mono (Kd.R_V (base' := 0) (Kd.R_bound h)) (fun _ hk => wk.Q.new HN hb (.inr hk.2.1)))
theorem wk.row_get {W : World} {base n c : Nat} {P : Nat → Prop} {A : Option Addr} {l : List (List Int)} (h : Kd.V (Kd.slice 22 (Kd.int .u32)) 25 W base P (.slice A n c) l) (i : Int) (h0 : 0 ≤ i) (h1 : i < n) :
  ∃ ad Ae ce, A = some ad ∧ W.cell? (ad.add i.toNat) = some (.slice Ae (rd_L1 l i).length ce) ∧ Kd.V (Kd.int .u32) 22 W 0 P (.slice Ae (rd_L1 l i).length ce) (rd_L1 l i) := by
 obtain ⟨rfl, _, hC⟩ := Kd.V_reads' h
 obtain ⟨ad, A0, c0, e, x0, l0, _⟩ := at_L1 hC i h0 h1
 subst e
 obtain ⟨ce, _, hM, hcc⟩ := Kd.V_get h ([] : List Int) i h0 h1
 obtain ⟨A1, c1, rfl, hl, hf⟩ := Kd.FK_slice_open hM
 have hv := hcc 0 _ rfl
 have e1 : i.toNat * (Kd.slice 22 (Kd.int .u32)).sz + 0 = i.toNat := by show i.toNat * 1 + 0 = i.toNat; omega
 rw [e1] at hv
 exact ⟨ad, A1, c1, rfl, hv, Kd.V_mk hl hf⟩
/-- One struct as the one result. -/
theorem wk.res {P : Program} {fn : Func} {p : Tmp} {ty : TypeId} (h : fn.results = #[.cell p ty]) (tmps : Array Value) (w : World) (g : Nat) (t : TypeId) (cs : Array Value) (fr : Nat × Nat) (d : TypeDesc)
  (hp : tmps.getD p undef = .pointer (some ⟨g, 0, none⟩)) (hg : w.heap[g]? = some (.cells cs t fr))
  (hu : P.underlying ty = some d) (hd : (match d with | .struct _ | .array _ _ => true | _ => false) = true) (hi : (P.info? ty).map (·.size) = some cs.size) :
  (results fn tmps).run P w = .ok (.agg cs) w := by
 have hp' : tmps[p]?.getD undef = .pointer (some ⟨g, 0, none⟩) := by simpa using hp
 simp [results, h, hp', asAddr, run_loadVar_row w g t ty cs fr d hg hu hd hi]
theorem wk.Rd.peo {W : World} {P : Nat → Prop} {x : wk.X} {s : wk.S} (h : wk.Rd W P x s) {A : Option Addr} {l : List S55} {c : Nat} (hv : Kd.V k55 55 W 0 P (.slice A l.length c) l) : wk.Rd W P { x with pe := l } { s with a14 := A, c14 := c } :=
 ⟨h.r7, h.r10, h.r12, h.r13, hv, h.r15, h.r16, h.r17⟩
/-- An operation. -/
structure wk.O where
 kd : Int
 a : Int
 b : Int
 c : Int
 d : Int
 ws : List Int
/-- The cells of a hand: the world, the operation, the world behind it. -/
def wk.hc (x : wk.X) (s : wk.S) (o : wk.O) (aq : Option Addr) (cq : Nat) (y : wk.X) (t : wk.S) : Array Value := #[.int .u32 x.c0, .int .i64 x.c1, .int .i64 x.c2, .int .i64 x.c3, .int .i64 x.c4, .int .i64 x.c5, .int .i64 x.c6, .slice s.a7 x.dl.length s.c7, .int .i64 x.dn, .int .i64 x.br, .slice s.a10 x.bs.length s.c10, .int .i64 x.nr, .slice s.a12 x.ng.length s.c12, .slice s.a13 x.ns.length s.c13, .slice s.a14 x.pe.length s.c14, .slice s.a15 x.lo.length s.c15, .slice s.a16 x.re.length s.c16, .slice s.a17 x.le.length s.c17, .int .i64 o.kd, .int .i64 o.a, .int .i64 o.b, .int .i64 o.c, .int .i64 o.d, .slice aq o.ws.length cq, .int .u32 y.c0, .int .i64 y.c1, .int .i64 y.c2, .int .i64 y.c3, .int .i64 y.c4, .int .i64 y.c5, .int .i64 y.c6, .slice t.a7 y.dl.length t.c7, .int .i64 y.dn, .int .i64 y.br, .slice t.a10 y.bs.length t.c10, .int .i64 y.nr, .slice t.a12 y.ng.length t.c12, .slice t.a13 y.ns.length t.c13, .slice t.a14 y.pe.length t.c14, .slice t.a15 y.lo.length t.c15, .slice t.a16 y.re.length t.c16, .slice t.a17 y.le.length t.c17]
/-- All but one block of those that were there is as it was. -/
structure wk.Kb (g : Nat) (w w' : World) : Prop where
 os : w'.os = w.os
 tape : w'.tape = w.tape
 output : w'.output = w.output
 size : w.heap.size ≤ w'.heap.size
 block : ∀ k, k < w.heap.size → k ≠ g → w'.heap[k]? = w.heap[k]?
theorem wk.Kb.of {g : Nat} {w w' : World} (hb : Below w.heap.size w w') : wk.Kb g w w' := ⟨hb.os, hb.tape, hb.output, hb.size, fun k hk _ => hb.block k hk⟩
theorem wk.Kb.trans {g : Nat} {w w1 w2 : World} (h : wk.Kb g w w1) (hb : Below w.heap.size w1 w2) : wk.Kb g w w2 :=
 ⟨hb.os.trans h.os, hb.tape.trans h.tape, hb.output.trans h.output, Nat.le_trans h.size hb.size, fun k hk hne => (hb.block k hk).trans (h.block k hk hne)⟩
theorem wk.Kb.st {g : Nat} {w w1 w2 : World} (h : wk.Kb g w w1) (hs : wk.St g w1 w2) : wk.Kb g w w2 := by
 have hb := hs.bel 0 (Nat.zero_le _)
 exact ⟨hb.os.trans h.os, hb.tape.trans h.tape, hb.output.trans h.output, Nat.le_trans h.size hb.size, fun k hk hne => (hs.other k hne).trans (h.block k hk hne)⟩
theorem wk.Kb.stn {g g' : Nat} {w w1 w2 : World} (h : wk.Kb g w w1) (hs : wk.St g' w1 w2) (hg : w.heap.size ≤ g') : wk.Kb g w w2 := h.trans (hs.bel _ hg)
theorem wk.Kb.below {g B : Nat} {w0 w w' : World} (h : wk.Kb g w w') (hB : Below B w0 w) (hg : B ≤ g) (hs : B ≤ w.heap.size) : Below B w0 w' :=
 hB.trans ⟨h.os, h.tape, h.output, h.size, fun k hk => h.block k (Nat.lt_of_lt_of_le hk hs) (Nat.ne_of_lt (Nat.lt_of_lt_of_le hk hg))⟩
theorem wk.Rd.kb {g : Nat} {w w' : World} {P : Nat → Prop} {x : wk.X} {s : wk.S} (h : wk.Rd w P x s) (hk : wk.Kb g w w') (hne : ∀ k, P k → k ≠ g) : wk.Rd w' P x s := h.step (fun k hp hlt => hk.block k hlt (hne k hp))
/-- How a deed ends. -/
def wk.Out (gh : Nat) (x : wk.X) (s : wk.S) (o : wk.O) (aq : Option Addr) (cq : Nat) (P : Nat → Prop) (w : World) (l : List Int) (e : Int) (y : wk.X) (e' : Ending) (w' : World) : Prop :=
 ∃ A c t, e' = .returned (.tuple #[.slice A l.length c, .int .i64 e]) ∧ w'.heap[gh]? = some (.cells (wk.hc x s o aq cq y t) 68 (0, 0)) ∧ Kd.V (Kd.int .u32) 22 w' 0 (fun k => P k ∨ w.heap.size ≤ k) (.slice A l.length c) l ∧ wk.Rd w' (fun k => P k ∨ w.heap.size ≤ k) y t ∧ wk.Kb gh w w'
theorem wk.out {gh : Nat} {x : wk.X} {s : wk.S} {o : wk.O} {aq : Option Addr} {cq : Nat} {P : Nat → Prop} {w : World} {l : List Int} {e : Int} {y : wk.X} {w' : World} {N : List Nat} (A : Option Addr) (c : Nat) (t : wk.S) (hb : w'.heap[gh]? = some (.cells (wk.hc x s o aq cq y t) 68 (0, 0))) (V : Kd.V (Kd.int .u32) 22 w' 0 (wk.Q P w.heap.size N) (.slice A l.length c) l) (R : wk.Rd w' (wk.Q P w.heap.size N) y t) (hk : wk.Kb gh w w') :
  wk.Out gh x s o aq cq P w l e y (.returned (.tuple #[.slice A l.length c, .int .i64 e])) w' := ⟨A, c, t, rfl, hb, Kd.V_mono V (fun _ hk => hk.1), R.mono (fun _ hk => hk.1), hk⟩
/-- What one of the hand's deeds does. -/
def wk.Deed (n : FuncId) (F : wk.X → wk.O → Option (List Int × Int × wk.X)) : Prop :=
 ∀ (x : wk.X) (s : wk.S) (o : wk.O) (aq : Option Addr) (cq gh : Nat) (P : Nat → Prop) (w : World) (l : List Int) (e : Int) (y : wk.X), w.heap[gh]? = some (.cells (wk.hc x s o aq cq x s) 68 (0, 0)) → wk.Rd w P x s → Kd.V (Kd.int .u32) 22 w 0 P (.slice aq o.ws.length cq) o.ws → (∀ k, P k → k ≠ gh) → F x o = some (l, e, y) →
 Calls Try.prog n #[.pointer (some ⟨gh, 0, none⟩)] w (wk.Out gh x s o aq cq P w l e y)
theorem wk.at_drawnC {P : Program} {c : Code} {a : Act} {Q : Exit → Act → World → Prop} {W Wd : World} (hb : Below W.heap.size W Wd) (h : ∀ W', Below W.heap.size W W' → c.wp P Q a W') : c.wp P Q a Wd := h Wd hb
theorem wk.outd {gh : Nat} {x : wk.X} {s : wk.S} {o : wk.O} {aq : Option Addr} {cq : Nat} {P : Nat → Prop} {w : World} {l : List Int} {e : Int} {y : wk.X} {W w' : World} {N : List Nat} (A : Option Addr) (c : Nat) (t : wk.S) (hb : W.heap[gh]? = some (.cells (wk.hc x s o aq cq y t) 68 (0, 0))) (V : Kd.V (Kd.int .u32) 22 W 0 (wk.Q P w.heap.size N) (.slice A l.length c) l) (R : wk.Rd W (wk.Q P w.heap.size N) y t) (hk : wk.Kb gh w W) (hq : Below W.heap.size W w') :
  wk.Out gh x s o aq cq P w l e y (.returned (.tuple #[.slice A l.length c, .int .i64 e])) w' := wk.out A c t (blk_below hb hq) (Kd.V_below V hq) (R.below hq) (hk.trans (hq.mono hk.size))
theorem wk.cellb {W W' : World} {a : Addr} {v : Value} (h : W.cell? a = some v) (hb : Below W.heap.size W W') : W'.cell? a = some v := by rw [hb.cell (World.block_lt_of_cell? W a h)]; exact h
theorem wk.Rd.new {b : Nat} {W W' : World} {P : Nat → Prop} {N : List Nat} {x : wk.X} {s : wk.S} (HN : ∀ g ∈ N, g < W.heap.size) (hb : b ≤ W.heap.size) (h : wk.Rd W' (fun k => wk.Q P b N k ∨ W.heap.size ≤ k) x s) : wk.Rd W' (wk.Q P b N) x s := h.mono (fun _ hk => wk.Q.new HN hb hk)
theorem wk.Rd.box {W : World} {P : Nat → Prop} {x : wk.X} {s : wk.S} (h : wk.Rd W P x s) (r : Int) {A : Option Addr} {l : List S92} {c : Nat} (hv : Kd.V k92 92 W 0 P (.slice A l.length c) l) : wk.Rd W P { x with br := r, bs := l } { s with a10 := A, c10 := c } :=
 ⟨h.r7, hv, h.r12, h.r13, h.r14, h.r15, h.r16, h.r17⟩
theorem wk.Rd.lea {W : World} {P : Nat → Prop} {x : wk.X} {s : wk.S} (h : wk.Rd W P x s) {A : Option Addr} {l : List S85} {c : Nat} (hv : Kd.V k85 85 W 0 P (.slice A l.length c) l) : wk.Rd W P { x with le := l } { s with a17 := A, c17 := c } :=
 ⟨h.r7, h.r10, h.r12, h.r13, h.r14, h.r15, h.r16, hv⟩
theorem wk.Rd.reg {W : World} {P : Nat → Prop} {x : wk.X} {s : wk.S} (h : wk.Rd W P x s) {A : Option Addr} {l : List (List Int)} {c : Nat} (hv : Kd.V (Kd.slice 22 (Kd.int .u32)) 25 W 0 P (.slice A l.length c) l) : wk.Rd W P { x with re := l } { s with a16 := A, c16 := c } :=
 ⟨h.r7, h.r10, h.r12, h.r13, h.r14, h.r15, hv, h.r17⟩
/-! ### A part of a variable, stored or read as a whole -/
def wk.splice : Array Value → Nat → List Value → Array Value
 | cs, _, [] => cs
 | cs, j, v :: vs => wk.splice (cs.setIfInBounds j v) (j + 1) vs
theorem wk.storeCells_at {P : Program} (g off : Nat) (t : TypeId) : ∀ (vs : List Value) (i : Nat) (cur : Array Value) (w : World), w.heap[g]? = some (.cells cur t (0, 0)) → off + i + vs.length ≤ cur.size → (∀ v ∈ vs, v.oneCell' = true) →
  ∃ w', (storeCells ⟨g, off, none⟩ vs i).run P w = .ok () w' ∧ w'.heap[g]? = some (.cells (wk.splice cur (off + i) vs) t (0, 0)) ∧ wk.St g w w'
 | [], i, cur, w, hg, _, _ => ⟨w, rfl, hg, ⟨fun _ _ => rfl, fun b _ => Below.refl b w⟩⟩
 | v :: vs, i, cur, w, hg, hl, h1 => by
  simp only [List.length_cons] at hl
  have hadd : (⟨g, off, none⟩ : Addr).add i = ⟨g, off + i, none⟩ := by unfold Addr.add; split <;> simp_all
  have hlt : off + i < cur.size := by omega
  have hcell : w.cell? ⟨g, off + i, none⟩ = some cur[off + i] := by rw [cell_of_row w g (off + i) cur t (0, 0) hg]; exact Array.getElem?_eq_getElem hlt
  have hfro : w.frozen? ⟨g, off + i, none⟩ = false := by simp [World.frozen?, hg]
  have hst : (store ((⟨g, off, none⟩ : Addr).add i) v).run P w = .ok () (w.setCell ⟨g, off + i, none⟩ v) := by
   rw [hadd, run_store P w _ v _ (h1 v (by simp)), hcell]
   simp [hfro]
  obtain ⟨w', e1, e2, e3⟩ := wk.storeCells_at (P := P) g off t vs (i + 1) (cur.setIfInBounds (off + i) v) (w.setCell ⟨g, off + i, none⟩ v) (blk_put hg (off + i) v rfl) (by rw [Array.size_setIfInBounds]; omega) (fun x hx => h1 x (by simp [hx]))
  refine ⟨w', ?_, e2, (wk.St.cell w g (off + i) v).trans e3⟩
  simp only [storeCells, Sem.run_bind, hst, Result.andThen_ok, e1]
section
variable {P : Program} {ops : Array Oper} {rest : List Oper} {o : Oper} {a : Act} {Q : Exit → Act → World → Prop}
theorem wk.run_part {g off : Nat} {t tb : TypeId} {old cells new : Array Value} {W : World} (hg : W.heap[g]? = some (.cells old tb (0, 0))) (hi : (P.info? t).map (·.size) = some cells.size)
  (hs : off + cells.size ≤ old.size) (h1 : cells.all (·.oneCell') = true) (hn : wk.splice old off cells.toList = new) : ∃ w', (storeVar t ⟨g, off, none⟩ (.agg cells)).run P W = .ok () w' ∧ w'.heap[g]? = some (.cells new tb (0, 0)) ∧ wk.St g W w' := by
 obtain ⟨w', e1, e2, e3⟩ := wk.storeCells_at (P := P) g off tb cells.toList 0 old W hg (by simpa using hs) (fun v hv => (Array.all_eq_true_iff_forall_mem.1 h1) v (by simpa using hv))
 subst hn
 refine ⟨w', ?_, e2, e3⟩
 cases hq : P.info? t with
 | none => simp [hq] at hi
 | some i =>
  have hs : cells.size = i.size := by simp [hq] at hi; omega
  simp [storeVar, sizeOf, typeInfo, hq, Value.cells, hs, e1]
theorem wk.part_event {W : World} (hgd : o.guard = none) {t : TypeId} {p : Tmp} {v : Operand} (ho : o.op = .store t (.tmp p) v) (hN : o.dst = none) {g off : Nat} {tb : TypeId} {old cells new : Array Value}
  (hx : a.eval (.tmp p) = .pointer (some ⟨g, off, none⟩)) (hy : a.eval v = .agg cells) (hg : W.heap[g]? = some (.cells old tb (0, 0))) (hi : (P.info? t).map (·.size) = some cells.size)
  (hs : off + cells.size ≤ old.size) (h1 : cells.all (·.oneCell') = true) (hn : wk.splice old off cells.toList = new) (h : ∀ w', w'.heap[g]? = some (.cells new tb (0, 0)) → wk.St g W w' → wpList P ops Q rest a w') : wpList P ops Q (o :: rest) a W := by
 obtain ⟨w', e1, e2, e3⟩ := wk.run_part hg hi hs h1 hn
 refine wpList_plain hgd fun K hK => ?_
 unfold Oper.wp execOp
 simp only [ho, hx, hy, Instr.storeAt, Instr.sureAddr, Sem.run_bind, Sem.run_pure, Result.andThen_ok, e1]
 show K (a.put o.dst undef) w'
 rw [hN]
 exact hK _ _ (h w' e2 e3)
theorem wk.run_partget {g off n : Nat} {t tb : TypeId} {cs cells : Array Value} {fr : Nat × Nat} {d : TypeDesc} {W : World} (hg : W.heap[g]? = some (.cells cs tb fr)) (hu : P.underlying t = some d) (hd : (match d with | .struct _ | .array _ _ => true | _ => false) = true)
  (hi : (P.info? t).map (·.size) = some cells.size) (hn : (cs.toList.drop off).take cells.size = cells.toList) : (loadVar t ⟨g, off, none⟩).run P W = .ok (.agg cells) W := by
 have hl : (loadCells ⟨g, off, none⟩ cells.toList.length).run P W = .ok cells.toList.toArray W :=
  run_loadCells_list (P := P) W ⟨g, off, none⟩ cells.toList (fun j v hv => by
   have hadd : (⟨g, off, none⟩ : Addr).add j = ⟨g, off + j, none⟩ := by unfold Addr.add; split <;> simp_all
   rw [hadd, cell_of_row W g (off + j) cs tb fr hg]
   rw [← hn, List.getElem?_take] at hv
   split at hv
   ·
    rw [List.getElem?_drop] at hv; simpa using hv
   ·
    cases hv)
 cases hq : P.info? t with
 | none => simp [hq] at hi
 | some i =>
  have hs : i.size = cells.size := by simpa [hq] using hi
  have hagg : (isAgg t).run P W = .ok true W := by
   unfold isAgg
   rw [Sem.run_bind, run_underlying hu W]
   cases d <;> simp_all
  simp only [Array.length_toList, Array.toArray_toList] at hl
  simp [loadVar, Sem.run_bind, hagg, sizeOf, typeInfo, hq, hs, hl]
theorem wk.partget_event {W : World} (hgd : o.guard = none) {t : TypeId} {p N : Tmp} (ho : o.op = .load t (.tmp p)) (_hN : o.dst = some N) {g off : Nat} {tb : TypeId} {cs cells : Array Value} {fr : Nat × Nat} {d : TypeDesc}
  (hx : a.eval (.tmp p) = .pointer (some ⟨g, off, none⟩)) (hg : W.heap[g]? = some (.cells cs tb fr)) (hu : P.underlying t = some d) (hd : (match d with | .struct _ | .array _ _ => true | _ => false) = true)
  (hi : (P.info? t).map (·.size) = some cells.size) (hn : (cs.toList.drop off).take cells.size = cells.toList) (h : wpList P ops Q rest (a.put o.dst (.agg cells)) W) : wpList P ops Q (o :: rest) a W := by
 refine Kd.event_run hgd ?_ h
 unfold execOp
 simp only [ho, hx, Instr.loadAt, Instr.sureAddr, Sem.run_bind, Sem.run_pure, Result.andThen_ok, wk.run_partget (n := 0) hg hu hd hi hn]
end
section
variable {P : Program} {ops : Array Oper} {oi : Oper} {a : Act} {Q : Exit → Act → World → Prop} {K : Act → World → Prop}
theorem wk.put_step {W : World} (hw : Region.wanted oi (yielded ops a.tmps) = true) {t : TypeId} {x v : Operand} (ho : oi.op = .store t x v) (hN : oi.dst = none) {g : Nat} {tb : TypeId} {old cells : Array Value}
  (hx : a.eval x = .pointer (some ⟨g, 0, none⟩)) (hy : a.eval v = .agg cells) (hg : W.heap[g]? = some (.cells old tb (0, 0))) (hi : (P.info? t).map (·.size) = some cells.size)
  (hs : old.size = cells.size) (h1 : cells.all (·.oneCell') = true) (h : ∀ w', w'.heap[g]? = some (.cells cells tb (0, 0)) → wk.St g W w' → K a w') : if Region.wanted oi (yielded ops a.tmps) = true then Oper.wp P oi a W K Q else K (a.put none undef) W := by
 rw [if_pos hw]
 refine wp_store_row t x v ho g cells hx hy tb old hg hi hs h1 ?_
 rw [hN]
 exact h _ (setRow_heap W g old cells tb (0, 0) hg) ⟨fun k hk => setRow_other W g k cells hk, fun b hb => ⟨rfl, rfl, rfl, by simp [World.setRow], fun k hk => setRow_other W g k cells (by omega)⟩⟩
theorem wk.part_step {W : World} (hw : Region.wanted oi (yielded ops a.tmps) = true) {t : TypeId} {x v : Operand} (ho : oi.op = .store t x v) (hN : oi.dst = none) {g off : Nat} {tb : TypeId} {old cells new : Array Value}
  (hx : a.eval x = .pointer (some ⟨g, off, none⟩)) (hy : a.eval v = .agg cells) (hg : W.heap[g]? = some (.cells old tb (0, 0))) (hi : (P.info? t).map (·.size) = some cells.size)
  (hs : off + cells.size ≤ old.size) (h1 : cells.all (·.oneCell') = true) (hn : wk.splice old off cells.toList = new) (h : ∀ w', w'.heap[g]? = some (.cells new tb (0, 0)) → wk.St g W w' → K a w') : if Region.wanted oi (yielded ops a.tmps) = true then Oper.wp P oi a W K Q else K (a.put none undef) W := by
 obtain ⟨w', e1, e2, e3⟩ := wk.run_part hg hi hs h1 hn
 rw [if_pos hw]
 unfold Oper.wp execOp
 simp only [ho, hx, hy, Instr.storeAt, Instr.sureAddr, Sem.run_bind, Sem.run_pure, Result.andThen_ok, e1]
 show K (a.put oi.dst undef) w'
 rw [hN]
 exact h w' e2 e3
end
theorem wk.load_at {P : Program} {oi : Oper} {a : Act} {t : TypeId} {x : Operand} (ho : oi.op = .load t x) {g off : Nat} {tb : TypeId} {cs cells : Array Value} {fr : Nat × Nat} {d : TypeDesc} {W : World} (hx : a.eval x = .pointer (some ⟨g, off, none⟩)) (hg : W.heap[g]? = some (.cells cs tb fr)) (hu : P.underlying t = some d)
  (hd : (match d with | .struct _ | .array _ _ => true | _ => false) = true) (hi : (P.info? t).map (·.size) = some cells.size) (hn : (cs.toList.drop off).take cells.size = cells.toList) : (execOp a.eval oi).run P W = .ok (.value (.agg cells)) W := by
 unfold execOp
 simp only [ho, hx, Instr.loadAt, Instr.sureAddr, Sem.run_bind, Sem.run_pure, Result.andThen_ok, wk.run_partget (n := 0) hg hu hd hi hn]
theorem wk.add_add (a : Addr) (i j : Nat) : (a.add i).add j = a.add (i + j) := by
 simp only [Addr.add]
 by_cases q1 : i = 0 <;> by_cases q2 : j = 0 <;> simp [q1, q2, Nat.add_assoc]
/-- An event's cells. -/
def wk.ec (e : S83) : Array Value := #[.int .i64 e.f0, .int .i64 e.f1, .int .i64 e.f2, .int .u32 e.f3, .int .u32 e.f4, .int .u32 e.f5, .int .u32 e.f6, .int .u32 e.f7, .int .u32 e.f8, .int .u32 e.f9]
theorem wk.ev_get {W : World} {base n c : Nat} {P : Nat → Prop} {A : Option Addr} {l : List S83} (h : Kd.V k83 83 W base P (.slice A n c) l) (i : Int) (h0 : 0 ≤ i) (h1 : i < n) :
  ∃ ad, A = some ad ∧ W.cell? (ad.add (i.toNat * 10)) = some (.int .i64 (rd_T83 l i).f0) ∧ ∀ j u, (wk.ec (rd_T83 l i)).toList[j]? = some u → W.cell? ((ad.add (i.toNat * 10)).add j) = some u := by
 obtain ⟨rfl, _, hC⟩ := Kd.V_reads' h
 obtain ⟨ad, e, x0, _⟩ := at_T83 hC i h0 h1
 subst e
 obtain ⟨ce, _, hM, hcc⟩ := Kd.V_get h z83 i h0 h1
 obtain rfl := k83_open (Kd.FK_now hM)
 exact ⟨ad, rfl, x0, fun j u hu => by rw [wk.add_add]; exact hcc j u hu⟩
theorem wk.load_cells {P : Program} {oi : Oper} {a : Act} {t : TypeId} {x : Operand} (ho : oi.op = .load t x) {A : Addr} {cells : Array Value} {d : TypeDesc} {W : World} (hx : a.eval x = .pointer (some A)) (hc : ∀ j u, cells.toList[j]? = some u → W.cell? (A.add j) = some u) (hu : P.underlying t = some d)
  (hd : (match d with | .struct _ | .array _ _ => true | _ => false) = true) (hi : (P.info? t).map (·.size) = some cells.size) : (execOp a.eval oi).run P W = .ok (.value (.agg cells)) W := by
 have hl : (loadCells A cells.toList.length).run P W = .ok cells.toList.toArray W := run_loadCells_list (P := P) W A cells.toList hc
 have hr : (loadVar t A).run P W = .ok (.agg cells) W := by
  cases hq : P.info? t with
  | none => simp [hq] at hi
  | some i =>
   have hs : i.size = cells.size := by simpa [hq] using hi
   have hagg : (isAgg t).run P W = .ok true W := by
    unfold isAgg
    rw [Sem.run_bind, run_underlying hu W]
    cases d <;> simp_all
   simp only [Array.length_toList, Array.toArray_toList] at hl
   simp [loadVar, Sem.run_bind, hagg, sizeOf, typeInfo, hq, hs, hl]
 unfold execOp
 simp only [ho, hx, Instr.loadAt, Instr.sureAddr, Sem.run_bind, Sem.run_pure, Result.andThen_ok, hr]
theorem wk.field2 (p : S55) (A3 : Option Addr) (c3 : Nat) (A4 : Option Addr) (c4 : Nat) (W : World) : (Instr.field 55 (.agg #[.int .u32 p.f0, .int .u32 p.f1, .int .u32 p.f2, .slice A3 p.f3.length c3, .slice A4 p.f4.length c4, .bool p.f5]) 2).run Try.prog W = .ok (.int .u32 p.f2) W := by kernel_rfl

/-- A block's cells, and that none is frozen. -/
theorem wk.ca {W : World} {g : Nat} {cs : Array Value} {t : TypeId} (h : W.heap[g]? = some (.cells cs t (0, 0))) : ∀ i, W.cell? ⟨g, i, none⟩ = cs[i]? := fun i => blk_cell h i
theorem wk.za {W : World} {g : Nat} {cs : Array Value} {t : TypeId} (h : W.heap[g]? = some (.cells cs t (0, 0))) : ∀ i, W.frozen? ⟨g, i, none⟩ = false := fun i => blk_frozen h i
theorem wk.Kb.tr_ {g : Nat} {w w1 w2 : World} (h : wk.Kb g w w1) (hb : Below w1.heap.size w1 w2) : wk.Kb g w w2 := h.trans (hb.mono h.size)

end Go.Proofs.Ythlcpbendleihaa.PAdvAlone
