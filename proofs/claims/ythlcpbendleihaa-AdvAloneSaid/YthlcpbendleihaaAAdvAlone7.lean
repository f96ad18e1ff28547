/- The law AdvAlone of the adversary's layer, walked by hand: text 7. -/
import Derived.Test.YthlcpbendleihaaAAdvAlone6
namespace Go.Proofs.Ythlcpbendleihaa.PAdvAlone
open Go Go.RowKit Go.Proofs.YthlcpbendleihaaW.PrintWords Go.Proofs.YthlcpbendleihaaW.PrintLast Go.Proofs.YthlcpbendleihaaW.PrintMore
set_option linter.unusedVariables false
set_option linter.unusedSimpArgs false
section
variable {P : Program} {ops : Array Oper} {rest : List Oper} {o : Oper} {a : Act} {Q : Exit → Act → World → Prop}
/-- An empty map is made. -/
theorem wk.map_event {W : World} (hgd : o.guard = none) {N : Tmp} {t : TypeId} (ho : o.op = .makeMap t none) (_hN : o.dst = some N)
  (h : ∀ g, g = W.heap.size → ∀ w', w'.heap[g]? = some (.map #[] 0) → Below W.heap.size W w' → wpList P ops Q rest (a.put o.dst (.map (some g))) w') : wpList P ops Q (o :: rest) a W := by
 refine Kd.event_run (v := .map (some W.heap.size)) (w1 := W.alloc (.map #[] 0)) hgd ?_ (h _ rfl _ (blk_new W _) (below_alloc (Below.refl _ _) _))
 unfold execOp
 simp [ho, Instr.makeMap, newObj, Sem.run, Result.andThen]
/-- A new key is put in. -/
theorem wk.ins_event {W : World} (hgd : o.guard = none) {t kt et : TypeId} {d : TypeDesc} {m k x : Operand} (ho : o.op = .insert t m k x) (hN : o.dst = none) {g : Nat} {es : Array MapEntry} {n : Nat} {key val : Value}
  (hx : a.eval m = .map (some g)) (hk : a.eval k = key) (hv : a.eval x = val) (hg : W.heap[g]? = some (.map es n)) (hu : P.underlying t = some (.map kt et)) (hd : P.underlying kt = some d) (hK : MapKept.IsKey d key)
  (hf : Instr.findNow d key es.toList 0 = some none) (h : ∀ w', w'.heap[g]? = some (.map (es.push { key, val, born := n }) (n + 1)) → wk.St g W w' → wpList P ops Q rest a w') : wpList P ops Q (o :: rest) a W := by
 have hs := MapKept.heap_set (o' := .map (es.push { key, val, born := n }) (n + 1)) hg
 have hrun : (Instr.mapUpdate t (.map (some g)) key val).run P W = .ok () { W with heap := W.heap.setIfInBounds g (.map (es.push { key, val, born := n }) (n + 1)) } := by
  simp [Instr.mapUpdate, run_underlying hu, MapKept.run_getObj_map hg, MapKept.run_checkKey hd hK, MapKept.run_findKey hd hf, MapKept.run_setObj_map _ hg, Result.andThen]
 refine wpList_plain hgd fun K hKK => ?_
 unfold Oper.wp execOp
 simp only [ho, hx, hk, hv, Sem.run_bind, Sem.run_pure, Result.andThen_ok, hrun]
 show K (a.put o.dst undef) _
 rw [hN]
 exact hKK _ _ (h _ hs.1 ⟨fun q hq => hs.2 q hq, fun b hb => ⟨rfl, rfl, rfl, by simp, fun q hq => hs.2 q (by omega)⟩⟩)
end
def wk.ents : Array MapEntry := #[{ key := .int .i64 0, val := .func (.func 47) #[] #[], born := 0 }, { key := .int .i64 1, val := .func (.func 48) #[] #[], born := 1 }, { key := .int .i64 2, val := .func (.func 49) #[] #[], born := 2 }, { key := .int .i64 3, val := .func (.func 50) #[] #[], born := 3 }, { key := .int .i64 4, val := .func (.func 51) #[] #[], born := 4 }, { key := .int .i64 5, val := .func (.func 52) #[] #[], born := 5 }, { key := .int .i64 6, val := .func (.func 53) #[] #[], born := 6 }, { key := .int .i64 7, val := .func (.func 54) #[] #[], born := 7 }]
set_option maxHeartbeats 8000000 in
set_option maxRecDepth 100000 in
theorem adv_deeds.calls (w : World) : Calls Try.prog 21 #[] w fun e w' => ∃ g, e = .returned (.map (some g)) ∧ w.heap.size ≤ g ∧ w'.heap[g]? = some (.map wk.ents 8) ∧ Below w.heap.size w w' := by
 go_enter Try.func21, Try.ntmps21
 go_wp2_with (first | ((with_reducible refine gate_dst (N := 1) rfl ?_); refine wk.map_event (N := 1) (t := 64) rfl rfl rfl ?_; intro g hg_ W0_ Bm hb_; have geg : w.heap.size ≤ g := Nat.le_of_eq hg_.symm; have HB := hb_; clear hg_ hb_)  | (refine wk.ins_event (t := 64) (kt := 3) (et := 62) (d := .int .i64) (m := .tmp 1) (k := .const (.int .i64 0)) (x := .func 47) (es := #[]) (n := 0) rfl rfl rfl (by first | rfl | (go_simp; done)) rfl rfl Bm Try.underlying64 Try.underlying3 rfl (by rfl) ?_; intro W1_ b_ hs_; replace HB := hs_.below geg HB; replace Bm := b_; clear b_ hs_) | (refine wk.ins_event (t := 64) (kt := 3) (et := 62) (d := .int .i64) (m := .tmp 1) (k := .const (.int .i64 1)) (x := .func 48) (es := #[{ key := .int .i64 0, val := .func (.func 47) #[] #[], born := 0 }]) (n := 1) rfl rfl rfl (by first | rfl | (go_simp; done)) rfl rfl Bm Try.underlying64 Try.underlying3 rfl (by rfl) ?_; intro W2_ b_ hs_; replace HB := hs_.below geg HB; replace Bm := b_; clear b_ hs_) | (refine wk.ins_event (t := 64) (kt := 3) (et := 62) (d := .int .i64) (m := .tmp 1) (k := .const (.int .i64 2)) (x := .func 49) (es := #[{ key := .int .i64 0, val := .func (.func 47) #[] #[], born := 0 }, { key := .int .i64 1, val := .func (.func 48) #[] #[], born := 1 }]) (n := 2) rfl rfl rfl (by first | rfl | (go_simp; done)) rfl rfl Bm Try.underlying64 Try.underlying3 rfl (by rfl) ?_; intro W3_ b_ hs_; replace HB := hs_.below geg HB; replace Bm := b_; clear b_ hs_) | (refine wk.ins_event (t := 64) (kt := 3) (et := 62) (d := .int .i64) (m := .tmp 1) (k := .const (.int .i64 3)) (x := .func 50) (es := #[{ key := .int .i64 0, val := .func (.func 47) #[] #[], born := 0 }, { key := .int .i64 1, val := .func (.func 48) #[] #[], born := 1 }, { key := .int .i64 2, val := .func (.func 49) #[] #[], born := 2 }]) (n := 3) rfl rfl rfl (by first | rfl | (go_simp; done)) rfl rfl Bm Try.underlying64 Try.underlying3 rfl (by rfl) ?_; intro W4_ b_ hs_; replace HB := hs_.below geg HB; replace Bm := b_; clear b_ hs_) | (refine wk.ins_event (t := 64) (kt := 3) (et := 62) (d := .int .i64) (m := .tmp 1) (k := .const (.int .i64 4)) (x := .func 51) (es := #[{ key := .int .i64 0, val := .func (.func 47) #[] #[], born := 0 }, { key := .int .i64 1, val := .func (.func 48) #[] #[], born := 1 }, { key := .int .i64 2, val := .func (.func 49) #[] #[], born := 2 }, { key := .int .i64 3, val := .func (.func 50) #[] #[], born := 3 }]) (n := 4) rfl rfl rfl (by first | rfl | (go_simp; done)) rfl rfl Bm Try.underlying64 Try.underlying3 rfl (by rfl) ?_; intro W5_ b_ hs_; replace HB := hs_.below geg HB; replace Bm := b_; clear b_ hs_) | (refine wk.ins_event (t := 64) (kt := 3) (et := 62) (d := .int .i64) (m := .tmp 1) (k := .const (.int .i64 5)) (x := .func 52) (es := #[{ key := .int .i64 0, val := .func (.func 47) #[] #[], born := 0 }, { key := .int .i64 1, val := .func (.func 48) #[] #[], born := 1 }, { key := .int .i64 2, val := .func (.func 49) #[] #[], born := 2 }, { key := .int .i64 3, val := .func (.func 50) #[] #[], born := 3 }, { key := .int .i64 4, val := .func (.func 51) #[] #[], born := 4 }]) (n := 5) rfl rfl rfl (by first | rfl | (go_simp; done)) rfl rfl Bm Try.underlying64 Try.underlying3 rfl (by rfl) ?_; intro W6_ b_ hs_; replace HB := hs_.below geg HB; replace Bm := b_; clear b_ hs_) | (refine wk.ins_event (t := 64) (kt := 3) (et := 62) (d := .int .i64) (m := .tmp 1) (k := .const (.int .i64 6)) (x := .func 53) (es := #[{ key := .int .i64 0, val := .func (.func 47) #[] #[], born := 0 }, { key := .int .i64 1, val := .func (.func 48) #[] #[], born := 1 }, { key := .int .i64 2, val := .func (.func 49) #[] #[], born := 2 }, { key := .int .i64 3, val := .func (.func 50) #[] #[], born := 3 }, { key := .int .i64 4, val := .func (.func 51) #[] #[], born := 4 }, { key := .int .i64 5, val := .func (.func 52) #[] #[], born := 5 }]) (n := 6) rfl rfl rfl (by first | rfl | (go_simp; done)) rfl rfl Bm Try.underlying64 Try.underlying3 rfl (by rfl) ?_; intro W7_ b_ hs_; replace HB := hs_.below geg HB; replace Bm := b_; clear b_ hs_) | (refine wk.ins_event (t := 64) (kt := 3) (et := 62) (d := .int .i64) (m := .tmp 1) (k := .const (.int .i64 7)) (x := .func 54) (es := #[{ key := .int .i64 0, val := .func (.func 47) #[] #[], born := 0 }, { key := .int .i64 1, val := .func (.func 48) #[] #[], born := 1 }, { key := .int .i64 2, val := .func (.func 49) #[] #[], born := 2 }, { key := .int .i64 3, val := .func (.func 50) #[] #[], born := 3 }, { key := .int .i64 4, val := .func (.func 51) #[] #[], born := 4 }, { key := .int .i64 5, val := .func (.func 52) #[] #[], born := 5 }, { key := .int .i64 6, val := .func (.func 53) #[] #[], born := 6 }]) (n := 7) rfl rfl rfl (by first | rfl | (go_simp; done)) rfl rfl Bm Try.underlying64 Try.underlying3 rfl (by rfl) ?_; intro W8_ b_ hs_; replace HB := hs_.below geg HB; replace Bm := b_; clear b_ hs_))
 go_ret
 exact ⟨g, rfl, geg, Bm, HB⟩

/-! ### adv.Do -/
def adv_deed (k : Nat) (kd : Int) : Option (wk.X → wk.O → Option (List Int × Int × wk.X)) :=
 if kd = 0 then some (adv_lit.f k) else if kd = 1 then some (adv_seen.f k) else if kd = 2 then some (adv_part.f k) else if kd = 3 then some (adv_cat.f k) else if kd = 4 then some (adv_seal.f k) else if kd = 5 then some (adv_open.f k) else if kd = 6 then some (adv_corrupt.f k) else if kd = 7 then some (adv_leak.f k) else none
def adv_Do.f (k : Nat) (x : wk.X) (o : wk.O) : Option (wk.X × Int) := match adv_deed k o.kd with
 | none => some (x, 1)
 | some F => if (adv_reg.f x.re o.a).2 = true then (F x o).bind fun t => if t.2.1 = 0 then (slices_Clone_uint32_uint32_23.f x.re).bind fun c => some ({ t.2.2 with re := c.set o.a.toNat t.1 }, 0) else some (x, t.2.1) else some (x, 1)
/-- A function that the map holds. -/
structure wk.Fn (n : FuncId) (fn : Func) : Prop where
 at_ : Try.prog.funcs[n]? = some fn
 name : (fn.name == "runtime.NumGoroutine") = false
 body : fn.body.isSome = true
theorem adv_find (k : Nat) (kd : Int) : (∃ i n fn F, adv_deed k kd = some F ∧ wk.Deed n F ∧ wk.Fn n fn ∧ Instr.findNow (.int .i64) (.int .i64 kd) wk.ents.toList 0 = some (some (i, .func (.func n) #[] #[]))) ∨ (adv_deed k kd = none ∧ Instr.findNow (.int .i64) (.int .i64 kd) wk.ents.toList 0 = some none) := by
 by_cases h0 : kd = 0
 ·
  subst h0; exact .inl ⟨0, 47, _, _, rfl, adv_lit.calls k, ⟨Try.func47, by kernel_rfl, by kernel_rfl⟩, by kernel_rfl⟩
 by_cases h1 : kd = 1
 ·
  subst h1; exact .inl ⟨1, 48, _, _, rfl, adv_seen.calls k, ⟨Try.func48, by kernel_rfl, by kernel_rfl⟩, by kernel_rfl⟩
 by_cases h2 : kd = 2
 ·
  subst h2; exact .inl ⟨2, 49, _, _, rfl, adv_part.calls k, ⟨Try.func49, by kernel_rfl, by kernel_rfl⟩, by kernel_rfl⟩
 by_cases h3 : kd = 3
 ·
  subst h3; exact .inl ⟨3, 50, _, _, rfl, adv_cat.calls k, ⟨Try.func50, by kernel_rfl, by kernel_rfl⟩, by kernel_rfl⟩
 by_cases h4 : kd = 4
 ·
  subst h4; exact .inl ⟨4, 51, _, _, rfl, adv_seal.calls k, ⟨Try.func51, by kernel_rfl, by kernel_rfl⟩, by kernel_rfl⟩
 by_cases h5 : kd = 5
 ·
  subst h5; exact .inl ⟨5, 52, _, _, rfl, adv_open.calls k, ⟨Try.func52, by kernel_rfl, by kernel_rfl⟩, by kernel_rfl⟩
 by_cases h6 : kd = 6
 ·
  subst h6; exact .inl ⟨6, 53, _, _, rfl, adv_corrupt.calls k, ⟨Try.func53, by kernel_rfl, by kernel_rfl⟩, by kernel_rfl⟩
 by_cases h7 : kd = 7
 ·
  subst h7; exact .inl ⟨7, 54, _, _, rfl, adv_leak.calls k, ⟨Try.func54, by kernel_rfl, by kernel_rfl⟩, by kernel_rfl⟩
 refine .inr ⟨by unfold adv_deed; rw [if_neg h0, if_neg h1, if_neg h2, if_neg h3, if_neg h4, if_neg h5, if_neg h6, if_neg h7], ?_⟩
 simp only [wk.ents, Instr.findNow, Instr.sameNow, if_pos]
 rw [beq_eq_false_iff_ne.mpr h0, beq_eq_false_iff_ne.mpr h1, beq_eq_false_iff_ne.mpr h2, beq_eq_false_iff_ne.mpr h3, beq_eq_false_iff_ne.mpr h4, beq_eq_false_iff_ne.mpr h5, beq_eq_false_iff_ne.mpr h6, beq_eq_false_iff_ne.mpr h7]
theorem wk.look_run {oi : Oper} {a : Act} {m x : Operand} {W : World} {g : Nat} {kd : Int} {r : Option (Nat × Value)} (ho : oi.op = .lookup 64 m x true) (hm : a.eval m = .map (some g)) (hx : a.eval x = .int .i64 kd) (hg : W.heap[g]? = some (.map wk.ents 8))
  (hf : Instr.findNow (.int .i64) (.int .i64 kd) wk.ents.toList 0 = some r) : (execOp a.eval oi).run Try.prog W = .ok (.value (.tuple (match r with | some (_, v) => #[v, .bool true] | none => #[.nilFunc, .bool false]))) W := by
 have hz : (zeroValue 62).run Try.prog W = .ok .nilFunc W := by kernel_rfl
 unfold execOp
 cases r with
 | none => simp [ho, hm, hx, Instr.lookup, run_underlying Try.underlying64, MapKept.run_getObj_map hg, MapKept.run_checkKey Try.underlying3 (show MapKept.IsKey (.int .i64) (.int .i64 kd) from rfl), MapKept.run_findKey Try.underlying3 hf, hz, Result.andThen]
 | some q => simp [ho, hm, hx, Instr.lookup, run_underlying Try.underlying64, MapKept.run_getObj_map hg, MapKept.run_checkKey Try.underlying3 (show MapKept.IsKey (.int .i64) (.int .i64 kd) from rfl), MapKept.run_findKey Try.underlying3 hf, Result.andThen]
section
variable {P : Program} {ops : Array Oper} {rest : List Oper} {o : Oper} {a : Act} {Q : Exit → Act → World → Prop}
/-- A call of a function that a variable holds. -/
theorem wk.call_event {W : World} (hgd : o.guard = none) {N q : Tmp} {qs : Array Operand} {ts : Array TypeId} (ho : o.op = .call { callee := .value (.tmp q), args := qs, argTypes := ts }) (hN : o.dst = some N) {n : FuncId} {fn : Func} (hf : P.funcs[n]? = some fn) (hname : (fn.name == "runtime.NumGoroutine") = false) (hb : fn.body.isSome = true)
  (args : Array Value) (hq : a.eval (.tmp q) = .func (.func n) #[] #[]) (hargs : qs.map a.eval = args) (h : Calls P n args W fun e w' => ∃ v, e = .returned v ∧ wpList P ops Q rest (a.put (some N) v) w') : wpList P ops Q (o :: rest) a W := by
 refine wpList_plain hgd fun K hK => ?_
 have he := enters_ hf hname hb args W
 have hrun : (execOp a.eval o).run P W = .ok (.enter n args) W := by
  unfold execOp
  simp [ho, resolve, Deferred.ofValue, invoke, hq, hargs, he]
 unfold Oper.wp
 rw [hrun, Oper.upon_enter]
 refine h.mono fun e w'' hh => ?_
 obtain ⟨v, rfl, hk⟩ := hh
 rw [hN]
 exact hK _ _ hk
end
theorem wk.row_put {W : World} {base n cap g : Nat} {ok okp : Nat → Prop} {xs : List (List Int)} {A : Option Addr} {c : Nat} {l : List Int} (h : Kd.N (Kd.slice 22 (Kd.int .u32)) 25 W base ok (.slice (some ⟨g, 0, none⟩) n cap) xs) (i : Int) (h0 : 0 ≤ i) (h1 : i < n) (V : Kd.V (Kd.int .u32) 22 W 0 okp (.slice A l.length c) l) (hokp : ∀ k, okp k → ok k ∧ k ≠ g) :
  Kd.N (Kd.slice 22 (Kd.int .u32)) 25 (W.setCell ⟨g, i.toNat, none⟩ (.slice A l.length c)) base ok (.slice (some ⟨g, 0, none⟩) n cap) (xs.set i.toNat l) := by
 obtain ⟨c0, hcl, _, hcc, _⟩ := Kd.N_elem h ([] : List Int) i h0 h1
 have h2 := (Kd.N_seg h i h0 h1 (c := c0) (seg := [.slice A l.length c]) (j := 0) (okp := okp) (x' := l) hcl hcc (Nat.le_refl 1) (by
  have e : c0.take 0 ++ [.slice A l.length c] ++ c0.drop (0 + [(.slice A l.length c : Value)].length) = [.slice A l.length c] := by
   have hc1 : c0.length = 1 := hcl
   show [] ++ [.slice A l.length c] ++ c0.drop 1 = [.slice A l.length c]
   rw [List.drop_eq_nil_of_le (by omega)]; rfl
  rw [e]
  exact Kd.FK_slice_mk (Kd.V_reads' V).2.1 (Kd.V_F V)) hokp).1
 have e2 : W.setCells g (i.toNat * (Kd.slice 22 (Kd.int .u32)).sz + 0) [.slice A l.length c] = W.setCell ⟨g, i.toNat, none⟩ (.slice A l.length c) := by
  show W.setCell ⟨g, i.toNat * 1 + 0, none⟩ _ = _
  rw [Nat.mul_one, Nat.add_zero]
 rw [e2] at h2
 exact h2
theorem wk.row_cell {W : World} {base n cap g : Nat} {ok : Nat → Prop} {xs : List (List Int)} (h : Kd.N (Kd.slice 22 (Kd.int .u32)) 25 W base ok (.slice (some ⟨g, 0, none⟩) n cap) xs) (i : Int) (h0 : 0 ≤ i) (h1 : i < n) : ∃ v, W.cell? ⟨g, i.toNat, none⟩ = some v ∧ W.frozen? ⟨g, i.toNat, none⟩ = false := by
 obtain ⟨c0, hcl, _, hcc, hfr⟩ := Kd.N_elem h ([] : List Int) i h0 h1
 have hc1 : c0.length = 1 := hcl
 have e : i.toNat * (Kd.slice 22 (Kd.int .u32)).sz + 0 = i.toNat := by show i.toNat * 1 + 0 = i.toNat; omega
 have h2 := hcc 0 (c0[0]'(by omega)) (by simp)
 have h3 := hfr 0
 rw [e] at h2 h3
 exact ⟨_, h2, h3⟩
theorem wk.N_st {α : Type} {d : Kd α} {e base g : Nat} {W W' : World} {P : Nat → Prop} {v : Value} {xs : List α} (h : Kd.N d e W base P v xs) (hs : wk.St g W W') (hne : ∀ k, P k → k ≠ g) : Kd.N d e W' base P v xs := Kd.N_step h (fun k hk _ => hs.other k (hne k hk))
theorem adv_reg.in_ {l : List (List Int)} {i : Int} {r : List Int} (h : adv_reg.f l i = (r, true)) : 0 ≤ i ∧ i < (l.length : Int) := by
 unfold adv_reg.f at h
 by_cases c1 : i < 0
 ·
  rw [if_pos c1] at h; cases h
 by_cases c2 : i < (l.length : Int)
 ·
  exact ⟨by omega, c2⟩
 ·
  rw [if_neg c1, if_neg c2] at h; cases h
theorem adv_clone {l c : List (List Int)} (h : slices_Clone_uint32_uint32_23.f l = some c) : c = l := by
 unfold slices_Clone_uint32_uint32_23.f at h
 rw [Option.bind_some] at h
 split at h
 ·
  rw [List.nil_append] at h; exact (Option.some.inj h).symm
 ·
  cases h

end Go.Proofs.Ythlcpbendleihaa.PAdvAlone
