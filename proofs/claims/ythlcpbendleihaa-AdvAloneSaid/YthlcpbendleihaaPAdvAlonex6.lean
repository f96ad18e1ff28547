-- Written for this claim by wip/tools/myprint.py (print.py's forms; proofs of the faked functions by hand).
import Derived.Test.YthlcpbendleihaaPAdvAlonex1
import Derived.Test.YthlcpbendleihaaPAdvAlonex2
import Derived.Test.YthlcpbendleihaaPAdvAlonex3
import Derived.Test.YthlcpbendleihaaPAdvAlonex4
import Derived.Test.YthlcpbendleihaaPAdvAlonex5
import Derived.Test.YthlcpbendleihaaPAdvAlonex0
namespace Go.Proofs.Ythlcpbendleihaa.PAdvAlone
open Go.RowKit Go.Proofs.YthlcpbendleihaaW.PrintWords Go.Proofs.YthlcpbendleihaaW.PrintLast Go.Proofs.YthlcpbendleihaaW.PrintMore
attribute [local go_sem] max2_int min2_int max_two min_two max_three min_three max_four min_four   -- for this text's walks alone
set_option linter.unusedVariables false
set_option linter.unusedSimpArgs false

/-! ### box_find: function 75 -/
/-- The closure asks the handle. -/
theorem bfind.clos (h x0 x1 x2 : Int) (v3 : Value) (hb : Addr) (w : World) (hc : w.cell? hb = some (.int .u32 h)) :
  Calls Try.prog 83 #[.agg #[.int .u32 x0, .int .u32 x1, .int .u32 x2, v3], .pointer (some hb)] w fun e w' => e = .returned (.bool (x0 == h)) ∧ Below w.heap.size w w' := by
 have hlt := World.block_lt_of_cell? w _ hc
 have hc2 : ∀ o : Obj, (w.alloc o).cell? hb = some (.int .u32 h) := fun o => by rw [World.cell?_alloc_lt _ _ _ hlt]; exact hc
 go_enter Try.func83, Try.ntmps83
 go_wp2
 go_ret
 exact ⟨rfl, (Below.refl _ _).alloc (Nat.le_refl _) _⟩
/-- Where a handle's entry is, or -1. -/
def bfind.pos (h : Int) (l : List S92) : Int := if l.findIdx (fun s => s.f0 == h) < l.length then (l.findIdx (fun s => s.f0 == h) : Int) else -1
theorem bfind.rd_get (l : List S92) (n : Nat) (hn : n < l.length) : rd_T92 l (n : Int) = l[n] := by
 unfold rd_T92
 rw [Int.toNat_natCast, List.getD_eq_getElem?_getD, List.getElem?_eq_getElem hn]
 rfl
theorem bfind.pos_here (h : Int) (l : List S92) (n : Nat) (hn : n < l.length) (h1 : ((rd_T92 l n).f0 == h) = true) (h2 : ∀ j : Nat, j < n → ((rd_T92 l j).f0 == h) = false) : bfind.pos h l = n := by
 have e : l.findIdx (fun s => s.f0 == h) = n := by
  rw [List.findIdx_eq hn]
  rw [bfind.rd_get l n hn] at h1
  refine ⟨h1, fun j hj => ?_⟩
  have := h2 j hj
  rwa [bfind.rd_get l j (by omega)] at this
 unfold bfind.pos
 rw [e, if_pos hn]
theorem bfind.pos_none (h : Int) (l : List S92) (h2 : ∀ j : Nat, j < l.length → ((rd_T92 l j).f0 == h) = false) : bfind.pos h l = -1 := by
 have e : l.findIdx (fun s => s.f0 == h) = l.length := by
  refine List.findIdx_eq_length.2 (fun x hx => ?_)
  obtain ⟨j, hj, rfl⟩ := List.getElem_of_mem hx
  have := h2 j hj
  rwa [bfind.rd_get l j hj] at this
 unfold bfind.pos
 rw [e, if_neg (by omega)]
theorem bfind.ret_int {a b : Int} (h : a = b) : Ending.returned (.int .i64 a) = .returned (.int .i64 b) := by rw [h]
theorem bfind.idx (h : Int) (A : Option Addr) (c : Nat) (l : List S92) (hb : Addr) (w : World) (hr : Kd.C k92 w A l.length l) (hc : w.cell? hb = some (.int .u32 h)) :
  Calls Try.prog 82 #[.slice A l.length c, .func (.func 83) #[] #[.pointer (some hb)]] w fun e w' => e = .returned (.int .i64 (bfind.pos h l)) ∧ Below w.heap.size w w' := by
 have hlt := World.block_lt_of_cell? w _ hc
 have hmax : l.length ≤ 9223372036854775807 := hr.2.1
 go_enter Try.func82, Try.ntmps82
 go_wp2
 go_loopw [8] (fun i wr => ∃ n : Nat, n ≤ l.length ∧ i = .int .i64 n ∧ (∀ j : Nat, j < n → ((rd_T92 l j).f0 == h) = false) ∧ Below w.heap.size w wr) (fun i _ => l.length - (intOf i).toNat)
 case atStart => exact ⟨0, Nat.zero_le _, rfl, fun j hj => by omega, Below.refl _ _⟩
 case round =>
  obtain ⟨n, hn, rfl, hno, hnx⟩ := hrel
  have hw : ∀ w1 : World, Below wr.heap.size wr w1 → Below w.heap.size w w1 := fun w1 h1 => hnx.trans (h1.mono hnx.size)
  have hcr : wr.cell? hb = some (.int .u32 h) := by rw [hnx.cell hlt]; exact hc
  have HNO := Aside0.mk hno
  have HW := Aside0.mk hw
  clear hno hw
  by_cases hltn : n < l.length
  ·
   obtain ⟨ad, A3, c3, e, x0, x1, x2, x3, _, _⟩ := at_T92 (Kd.C_below hr hnx) (n : Int) (by omega) (by omega)
   subst e
   rw [Int.toNat_natCast] at x0 x1 x2 x3
   have hcell : ∀ o : Obj, (wr.alloc o).cell? hb = some (.int .u32 h) := fun o => by rw [World.cell?_alloc_lt _ _ _ (World.block_lt_of_cell? wr _ hcr)]; exact hcr
   by_cases hq : ((rd_T92 l n).f0 == h) = true
   ·
    go_wp2_with (go_at_call 83; refine (bfind.clos h _ _ _ _ hb _ hcr).mono ?_; rintro e w1 ⟨rfl, hb1⟩)
    go_ret
    exact ⟨bfind.ret_int (bfind.pos_here h l n hltn hq HNO.out).symm, HW.out _ hb1⟩
   ·
    replace hq : ((rd_T92 l n).f0 == h) = false := by simpa using hq
    go_wp2_with (go_at_call 83; refine (bfind.clos h _ _ _ _ hb _ hcr).mono ?_; rintro e w1 ⟨rfl, hb1⟩)
    go_roundw
    case rel => exact ⟨n + 1, by omega, by go_num, fun j hj => by rcases Nat.lt_or_ge j n with q | q; (exact HNO.out j q); (obtain rfl : j = n := by omega); exact hq, HW.out _ hb1⟩
    case measure => simp [intOf]; omega
  ·
   obtain rfl : n = l.length := by omega
   go_wp2
   go_ret
   exact ⟨bfind.ret_int (bfind.pos_none h l HNO.out).symm, hnx⟩
/-- An entry, read: its cells, and its words with their footprint. -/
theorem bfind.elem {w : World} {base : Nat} {ok : Nat → Prop} {A : Option Addr} {n c : Nat} {l : List S92} (h : Kd.V k92 92 w base ok (.slice A n c) l) (i : Int) (h0 : 0 ≤ i) (h1 : i < n) :
  ∃ ad A3 c3, A = some ad ∧ w.cell? (ad.add (i.toNat * 4)) = some (.int .u32 (rd_T92 l i).f0) ∧ w.cell? ⟨(ad.add (i.toNat * 4)).block, (ad.add (i.toNat * 4)).off + 1, none⟩ = some (.int .u32 (rd_T92 l i).f1) ∧ w.cell? ⟨(ad.add (i.toNat * 4)).block, (ad.add (i.toNat * 4)).off + 2, none⟩ = some (.int .u32 (rd_T92 l i).f2) ∧
   w.cell? ⟨(ad.add (i.toNat * 4)).block, (ad.add (i.toNat * 4)).off + 3, none⟩ = some (.slice A3 (rd_T92 l i).f3.length c3) ∧ Kd.V (Kd.int .u32) 22 w base ok (.slice A3 (rd_T92 l i).f3.length c3) (rd_T92 l i).f3 := by
 obtain ⟨rfl, _, hC⟩ := Kd.V_reads' h
 obtain ⟨ad, A3, c3, e, x0, x1, x2, x3, _, _⟩ := at_T92 hC i h0 h1
 subst e
 obtain ⟨ce, hce, hM, hcc⟩ := Kd.V_get h z92 i h0 h1
 obtain ⟨ua, uc, rfl, ul, ge⟩ := k92_openF hM
 have hv := hcc 3 _ rfl
 rw [add_field _ _ 3 (by omega)] at hv
 replace hv := Option.some.inj (hv.symm.trans x3)
 injection hv with hva hvn hvc
 rw [hva] at ge
 rw [hvc] at ul
 exact ⟨ad, A3, c3, rfl, x0, x1, x2, x3, Kd.V_mk ul ge⟩
def box_find.f (a0_0 : Int) (l0_1 : List (S92)) (a1 : Int) : Option (Int × Int × Int × List Int × Bool) := if bfind.pos a1 l0_1 < 0 then some (0, 0, 0, ([] : List Int), false) else some ((rd_T92 l0_1 (bfind.pos a1 l0_1)).f0, (rd_T92 l0_1 (bfind.pos a1 l0_1)).f1, (rd_T92 l0_1 (bfind.pos a1 l0_1)).f2, (rd_T92 l0_1 (bfind.pos a1 l0_1)).f3, true)
set_option maxHeartbeats 8000000 in
set_option maxRecDepth 100000 in
theorem box_find.calls (a0_0 : Int) (P0_1_ : Nat → Prop) (A0_1 : Option Addr) (c0_1 : Nat) (l0_1 : List (S92)) (a1 : Int) (r1 : Int) (r2 : Int) (r3 : Int) (r4 : List Int) (r5 : Bool) (w : World) (hs0_1 : Kd.V k92 92 w w.heap.size (fun k_ => P0_1_ k_) (.slice A0_1 l0_1.length c0_1) l0_1) (h : box_find.f a0_0 l0_1 a1 = some (r1, r2, r3, r4, r5)) :
  Calls Try.prog 75 #[.agg #[.int .i64 a0_0, .slice A0_1 l0_1.length c0_1], .int .u32 a1] w fun e w' => ∃ v3_ : Value, e = .returned (.tuple #[.agg #[.int .u32 r1, .int .u32 r2, .int .u32 r3, v3_], .bool r5]) ∧ Kd.V (Kd.int .u32) 22 w' w.heap.size (fun k_ => (P0_1_ k_ ∨ w.heap.size ≤ k_)) v3_ r4 ∧ Below w.heap.size w w' := by
 have hr := (Kd.V_reads' hs0_1).2.2
 obtain ⟨p, hp⟩ : ∃ p, p = bfind.pos a1 l0_1 := ⟨_, rfl⟩
 have HP := Aside0.mk hp
 have hb : p < 0 ∨ 0 ≤ p ∧ p < l0_1.length := by
  rw [hp]; unfold bfind.pos; split <;> omega
 unfold box_find.f at h
 rw [← hp] at h
 clear hp
 have HS := Aside0.mk hs0_1
 clear hs0_1
 obtain ⟨W1, hW1⟩ : ∃ W1 : World, W1 = w.alloc (.cells #[.int .i64 a0_0, .slice A0_1 l0_1.length c0_1] 30) := ⟨_, rfl⟩
 obtain ⟨W2, hW2⟩ : ∃ W2 : World, W2 = W1.alloc (.cells #[.int .u32 a1] 22) := ⟨_, rfl⟩
 obtain ⟨W3, hW3⟩ : ∃ W3 : World, W3 = W2.alloc (.cells #[.int .u32 0, .int .u32 0, .int .u32 0, .slice none 0 0] 92) := ⟨_, rfl⟩
 have s1 : W1.heap.size = w.heap.size + 1 := by rw [hW1]; simp
 have s2 : W2.heap.size = w.heap.size + 1 + 1 := by rw [hW2]; simp [s1]
 have s3 : W3.heap.size = w.heap.size + 1 + 1 + 1 := by rw [hW3]; simp [s2]
 have b1 : W1.heap[w.heap.size]? = some (.cells #[.int .i64 a0_0, .slice A0_1 l0_1.length c0_1] 30 (0, 0)) := by rw [hW1]; exact (MapKept.heap_alloc _ _).1
 have b2 : W2.heap[w.heap.size + 1]? = some (.cells #[.int .u32 a1] 22 (0, 0)) := by rw [hW2, ← s1]; exact (MapKept.heap_alloc _ _).1
 have b3 : W3.heap[w.heap.size + 1 + 1]? = some (.cells #[.int .u32 0, .int .u32 0, .int .u32 0, .slice none 0 0] 92 (0, 0)) := by rw [hW3, ← s2]; exact (MapKept.heap_alloc _ _).1
 have b1' : W3.heap[w.heap.size]? = some (.cells #[.int .i64 a0_0, .slice A0_1 l0_1.length c0_1] 30 (0, 0)) := by rw [hW3, hW2]; exact blk_alloc (blk_alloc b1 _) _
 have b2' : W3.heap[w.heap.size + 1]? = some (.cells #[.int .u32 a1] 22 (0, 0)) := by rw [hW3]; exact blk_alloc b2 _
 have hB3 : Below w.heap.size w W3 := by rw [hW3, hW2, hW1]; exact (((Below.refl _ w).alloc (Nat.le_refl _) _).alloc (by simp) _).alloc (by simp; omega) _
 have hc2 : W3.cell? ⟨w.heap.size + 1, 0, none⟩ = some (.int .u32 a1) := (blk_cell b2' 0).trans rfl
 have HV3 := Aside0.mk (Kd.V_below (Kd.V_bound HS.out) hB3)
 have Hr3 := Aside0.mk (Kd.C_below hr hB3)
 have Hb1 := Aside0.mk b1'
 have Hb3 := Aside0.mk b3
 have HB3 := Aside0.mk hB3
 have Hs3 := Aside0.mk s3
 have Hc2 := Aside0.mk hc2
 have Hw := Aside0.mk (hW3.trans (by rw [hW2, hW1]))
 clear hr b1 b2 b3 b1' b2' hB3 s1 s2 s3 hc2 hW1 hW2 hW3
 go_enter Try.func75, Try.ntmps75
 rcases hb with hb | ⟨hb1, hb2⟩
 ·
  rw [if_pos hb] at h
  simp only [Option.some.injEq, Prod.mk.injEq] at h
  obtain ⟨rfl, rfl, rfl, rfl, rfl⟩ := h
  go_wp2_with (rw [← Hw.out]; go_at_call 82; refine (bfind.idx a1 _ _ _ _ _ Hr3.out Hc2.out).mono ?_; rintro e w1 ⟨rfl, hb1⟩; rw [← HP.out]; have B3 := Aside0.mk (blk_below Hb3.out hb1); have HB1 := Aside0.mk hb1; clear hb1; have k0 : w1.cell? ⟨w.heap.size + 1 + 1, 0, none⟩ = some (.int .u32 0) := (blk_cell B3.out 0).trans rfl; have k1 : w1.cell? ⟨w.heap.size + 1 + 1, 1, none⟩ = some (.int .u32 0) := (blk_cell B3.out 1).trans rfl; have k2 : w1.cell? ⟨w.heap.size + 1 + 1, 2, none⟩ = some (.int .u32 0) := (blk_cell B3.out 2).trans rfl; have k3 : w1.cell? ⟨w.heap.size + 1 + 1, 3, none⟩ = some (.slice none 0 0) := (blk_cell B3.out 3).trans rfl; have f0 := blk_frozen B3.out 0; have f1 := blk_frozen B3.out 1; have f2 := blk_frozen B3.out 2; have f3 := blk_frozen B3.out 3)
  refine bodyPost_ret (results_ct rfl _ _ (w.heap.size + 1 + 1) 92 #[.int .u32 0, .int .u32 0, .int .u32 0, .slice none 0 0] (0, 0) _ rfl (by refine blk_put (cs := #[.int .u32 0, .int .u32 0, .int .u32 0, .slice none 0 0]) ?_ 3 _ rfl; refine blk_put (cs := #[.int .u32 0, .int .u32 0, .int .u32 0, .slice none 0 0]) ?_ 2 _ rfl; refine blk_put (cs := #[.int .u32 0, .int .u32 0, .int .u32 0, .slice none 0 0]) ?_ 1 _ rfl; refine blk_put (cs := #[.int .u32 0, .int .u32 0, .int .u32 0, .slice none 0 0]) B3.out 0 _ rfl) Try.underlying92 rfl (by kernel_rfl)) rfl ?_
  have hg : w.heap.size ≤ w.heap.size + 1 + 1 := by omega
  exact ⟨_, rfl, Kd.V_nil _ _ _ _ _, below_set (below_set (below_set (below_set (HB3.out.trans (HB1.out.mono (by have := Hs3.out; omega))) hg) hg) hg) hg⟩
 ·
  rw [if_neg (by omega)] at h
  simp only [Option.some.injEq, Prod.mk.injEq] at h
  obtain ⟨rfl, rfl, rfl, rfl, rfl⟩ := h
  have hp1 : ¬ p < 0 := by omega
  have hb1_ := hb1
  have hb2_ := hb2
  have hb3_ : p.toNat < l0_1.length := by omega
  clear hb1 hb2
  go_wp2_with (rw [← Hw.out]; go_at_call 82; refine (bfind.idx a1 _ _ _ _ _ Hr3.out Hc2.out).mono ?_; rintro e w1 ⟨rfl, hb1⟩; rw [← HP.out]; obtain ⟨ad, A3, c3, ee, x0, x1, x2, x3, hv⟩ := bfind.elem (Kd.V_below HV3.out hb1) p hb1_ hb2_; cases ee; have q1 : w1.cell? ⟨w.heap.size, 1, none⟩ = some (.slice (some ad) l0_1.length c0_1) := (blk_cell (blk_below Hb1.out hb1) 1).trans rfl; have HV := Aside0.mk hv; clear hv; have B3 := Aside0.mk (blk_below Hb3.out hb1); have HB1 := Aside0.mk hb1; clear hb1; have k0 : w1.cell? ⟨w.heap.size + 1 + 1, 0, none⟩ = some (.int .u32 0) := (blk_cell B3.out 0).trans rfl; have k1 : w1.cell? ⟨w.heap.size + 1 + 1, 1, none⟩ = some (.int .u32 0) := (blk_cell B3.out 1).trans rfl; have k2 : w1.cell? ⟨w.heap.size + 1 + 1, 2, none⟩ = some (.int .u32 0) := (blk_cell B3.out 2).trans rfl; have k3 : w1.cell? ⟨w.heap.size + 1 + 1, 3, none⟩ = some (.slice none 0 0) := (blk_cell B3.out 3).trans rfl; have f0 := blk_frozen B3.out 0; have f1 := blk_frozen B3.out 1; have f2 := blk_frozen B3.out 2; have f3 := blk_frozen B3.out 3)
  refine bodyPost_ret (results_ct rfl _ _ (w.heap.size + 1 + 1) 92 #[.int .u32 (rd_T92 l0_1 p).f0, .int .u32 (rd_T92 l0_1 p).f1, .int .u32 (rd_T92 l0_1 p).f2, .slice A3 (rd_T92 l0_1 p).f3.length c3] (0, 0) _ rfl (by refine blk_put (cs := #[.int .u32 (rd_T92 l0_1 p).f0, .int .u32 (rd_T92 l0_1 p).f1, .int .u32 (rd_T92 l0_1 p).f2, .slice none 0 0]) ?_ 3 _ rfl; refine blk_put (cs := #[.int .u32 (rd_T92 l0_1 p).f0, .int .u32 (rd_T92 l0_1 p).f1, .int .u32 0, .slice none 0 0]) ?_ 2 _ rfl; refine blk_put (cs := #[.int .u32 (rd_T92 l0_1 p).f0, .int .u32 0, .int .u32 0, .slice none 0 0]) ?_ 1 _ rfl; refine blk_put (cs := #[.int .u32 0, .int .u32 0, .int .u32 0, .slice none 0 0]) B3.out 0 _ rfl) Try.underlying92 rfl (by kernel_rfl)) rfl ?_
  have hg : w.heap.size ≤ w.heap.size + 1 + 1 := by omega
  have hne : ∀ k, P0_1_ k ∧ k < w.heap.size → k ≠ w.heap.size + 1 + 1 := fun k hk => by have := hk.2; omega
  exact ⟨_, rfl, Kd.V_mono (Kd.V_far (Kd.V_far (Kd.V_far (Kd.V_far HV.out hne _) hne _) hne _) hne _) (fun k hk => .inl hk.1), below_set (below_set (below_set (below_set (HB3.out.trans (HB1.out.mono (by have := Hs3.out; omega))) hg) hg) hg) hg⟩

/-! ### box_Free: function 76 -/
def box_Free.f (a0_0 : Int) (l0_1 : List (S92)) : Option (Int) := some (wrap64 (a0_0 - (l0_1.length : Int)))
set_option maxHeartbeats 8000000 in
set_option maxRecDepth 100000 in
theorem box_Free.calls (a0_0 : Int) (A0_1 : Option Addr) (c0_1 : Nat) (l0_1 : List (S92)) (r : Int) (w : World) (hr0_1 : Kd.C k92 w A0_1 l0_1.length l0_1) (hc0_1 : l0_1.length ≤ c0_1) (h : box_Free.f a0_0 l0_1 = some r) :
  Calls Try.prog 76 #[.agg #[.int .i64 a0_0, .slice A0_1 l0_1.length c0_1]] w fun e w' => e = .returned (.int .i64 r) ∧ Below w.heap.size w w' := by
 have hu30 := Try.underlying30
 have HR0_1 := Aside0.mk hr0_1
 have HC0_1 := Aside0.mk hc0_1
 clear hr0_1 hc0_1
 have HB := Aside0.mk (Below.refl w.heap.size w)
 have H : (some (wrap64 (a0_0 - (l0_1.length : Int)))) = some r := h
 clear h
 obtain rfl := Option.some.inj H
 go_enter Try.func76, Try.ntmps76
 go_wp2_with (first | ((with_reducible refine gate_dst (N := 1) rfl ?_); refine box_event ?hg (N := 1) ?hd (cs := #[.int .i64 a0_0, .slice A0_1 l0_1.length c0_1]) (t := 30) ?hr ?_; (case hd => rfl); (case hg => rfl); (case hr => first | (go_simp; done) | (go_simp; rfl)); intro gb181 hg w2 hbox hb; have n0_ := Aside0.mk (below_step hB_ hb); have n1_ := Aside0.mk (hbox); have n2_ := Aside0.mk ((by rw [hg]; exact (below_size hB_) : w.heap.size ≤ gb181)); have n3_ := Aside0.mk ((by rw [hg]; exact (below_size hB_) : w.heap.size ≤ gb181)); clear HB; have HB := n0_; have BK181 := n1_; have GW181 := n2_; have GE181 := n3_; clear n0_ n1_ n2_ n3_; clear hb hbox hg; have hcz3_0 : w2.cell? ⟨gb181, 0, none⟩ = some (.int .i64 a0_0) := (blk_cell BK181.out 0).trans rfl; have hcz3_1 : w2.cell? ⟨gb181, 1, none⟩ = some (.slice A0_1 l0_1.length c0_1) := (blk_cell BK181.out 1).trans rfl; have hfz3_0 := blk_frozen BK181.out 0; have hfz3_1 := blk_frozen BK181.out 1))
 go_ret
 exact ⟨eW_, by repeat (first | (with_reducible first | exact HB.out | apply below_alloc | apply pw_below_drewN | apply below_drew1 | refine below_set ?_ GE181.out) | exact HB.out)⟩
/-! ### api_Sealed_84: function 84 -/
def api_Sealed_84.f (l0 : List (S92)) (a1 : Int) : Option ((List (S92))) := if a1 < 0 then (none) else (if (l0.length : Int) > 0 then (none) else (if a1 > 0 then (if 0 ≤ a1 then (if ([] : List (S92)).length + (a1 : Int).toNat < 3518437208883 then ((some (([] : List (S92)) ++ List.replicate (a1 : Int).toNat z92 : List (S92))).bind fun y182 => (if 0 ≤ (y182.length : Int) then (some (y182.take (0 : Int).toNat)) else (none))) else (none)) else (none)) else (some ([] : List (S92)))))
set_option maxHeartbeats 8000000 in
set_option maxRecDepth 100000 in
theorem api_Sealed_84.calls (A0 : Option Addr) (c0 : Nat) (l0 : List (S92)) (a1 : Int) (r : List (S92)) (w : World) (hr0 : Kd.C k92 w A0 l0.length l0) (hc0 : l0.length ≤ c0) (h : api_Sealed_84.f l0 a1 = some r) (hA : A0 = none := by rfl) (hcap : c0 = 0 := by rfl) :
  Calls Try.prog 84 #[.slice A0 l0.length c0, .int .i64 a1] w fun e w' => ∃ v0_ : Value, e = .returned (v0_) ∧ Kd.S k92 92 w' w.heap.size (fun _ => True) v0_ r ∧ Below w.heap.size w w' := by
 subst hA hcap
 have hl0 : l0 = [] := by
  rcases l0 with _ | ⟨y, ys⟩
  ·
   rfl
  ·
   obtain ⟨ad, had, _⟩ := hr0.2.2 (by simp)
   cases had
 subst hl0
 have HR0 := Aside0.mk hr0
 have HC0 := Aside0.mk hc0
 clear hr0 hc0
 have HB := Aside0.mk (Below.refl w.heap.size w)
 have H : (if a1 < 0 then (none) else (if (([] : List (S92)).length : Int) > 0 then (none) else (if a1 > 0 then (if 0 ≤ a1 then (if ([] : List (S92)).length + (a1 : Int).toNat < 3518437208883 then ((some (([] : List (S92)) ++ List.replicate (a1 : Int).toNat z92 : List (S92))).bind fun y182 => (if 0 ≤ (y182.length : Int) then (some (y182.take (0 : Int).toNat)) else (none))) else (none)) else (none)) else (some ([] : List (S92)))))) = some r := h
 clear h
 by_cases c3 : a1 < 0
 ·
  rw [if_pos c3] at H
  exact absurd H (by simp)
 ·
  rw [if_neg c3] at H
  have c3b0 : decide (a1 < 0) = false := decide_eq_false c3
  clear c3
  by_cases c4 : (([] : List (S92)).length : Int) > 0
  ·
   rw [if_pos c4] at H
   exact absurd H (by simp)
  ·
   rw [if_neg c4] at H
   have c4b0 : decide (0 < (([] : List (S92)).length : Int)) = false := decide_eq_false c4
   have c4b1 : decide (0 < ([] : List (S92)).length) = false := decide_eq_false (by omega)
   clear c4
   by_cases c5 : a1 > 0
   ·
    rw [if_pos c5] at H
    have c5b0 : decide (0 < a1) = true := decide_eq_true c5
    clear c5
    by_cases c6 : 0 ≤ a1
    ·
     rw [if_pos c6] at H
     have c6b0 := eq_true c6
     have c6b1 : decide (0 ≤ a1) = true := decide_eq_true c6
     clear c6
     by_cases c7 : ([] : List (S92)).length + (a1 : Int).toNat < 3518437208883
     ·
      rw [if_pos c7] at H
      have LMc7 := Aside0.mk c7
      clear c7
      obtain ⟨y182, hy182⟩ : ∃ y_ : List (S92), y_ = (([] : List (S92)) ++ List.replicate (a1 : Int).toNat z92) := ⟨_, rfl⟩
      replace H : (if 0 ≤ (y182.length : Int) then (some (y182.take (0 : Int).toNat)) else (none)) = some r := by first | (rw [hy182]; with_reducible exact H) | (have H2_ := (Option.bind_some _ _).symm.trans H; rw [hy182]; with_reducible exact H2_) | (have H2_ := (Option.bind_some _ _).symm.trans H; with_reducible exact H2_) | with_reducible exact H | (rw [hy182]; exact H) | exact H
      have Ny182 := Aside0.mk hy182
      clear hy182
      by_cases c8 : 0 ≤ (y182.length : Int)
      ·
       rw [if_pos c8] at H
       have c8b0 := eq_true c8
       have c8b1 : decide (0 ≤ (y182.length : Int)) = true := decide_eq_true c8
       clear c8
       obtain ⟨y185, hy185⟩ : ∃ y_ : List (S92), y_ = (y182.take (0 : Int).toNat) := ⟨_, rfl⟩
       replace H : (some y185) = some r := by first | (rw [hy185]; with_reducible exact H) | (have H2_ := (Option.bind_some _ _).symm.trans H; rw [hy185]; with_reducible exact H2_) | (have H2_ := (Option.bind_some _ _).symm.trans H; with_reducible exact H2_) | with_reducible exact H | (rw [hy185]; exact H) | exact H
       have Ny185 := Aside0.mk hy185
       clear hy185
       obtain rfl := Option.some.inj H
       have hhi : a1 ≤ 35184372088832 := by have := LMc7.out; simp only [List.length_nil] at this; omega
       have hlo : 0 ≤ a1 := of_decide_eq_true c6b1
       show Calls Try.prog 84 #[.slice none 0 0, .int .i64 a1] w _
       go_enter Try.func84, Try.ntmps84
       go_wp2_with (first | (at_builtin; refine Kd.S_append_zeros k92 (w0 := w) w.heap.size rfl (.tmp 20) (.tmp 21) 28 3 92 (.agg #[(.int .u32 0), (.int .u32 0), (.int .u32 0), (.slice none 0 0)]) 40 rfl Try.underlying28 Try.underlying3 info92 rfl (by decide) (by omega) (.slice none 0 0) ([] : List (S92)) z92 (a1 : Int) (fun _ => True) rfl rfl (k92_mkM _ _ _ z92 (Kd.R_nil _ _ _ _ _)) ?aF ?aO (of_decide_eq_true aS_) ?aB ?aS ?aL ?_; (case aB => exact hB_); (case aF => exact (fun _ _ => trivial)); (case aO => exact ((Kd.S_nil _ _ _ _ _))); (case aS => exact (below_size hB_)); (case aL => have := LMc7.out; omega); intro v183 w9 ho hb hg hat; rw [← Ny182.out] at ho; have n0_ := Aside0.mk (hb); have n1_ := Aside0.mk (ho); clear HB; have HB := n0_; have HO184 := n1_; clear n0_ n1_; clear ho hb hg hat; obtain ⟨Ao10, co10, eo10⟩ := Kd.S_slice HO184.out; subst eo10; have q11 : (0 : Int) ≤ ((y182.length : Int) : Int) := of_decide_eq_true aS_; obtain ⟨i011, hi011, _, hsz11, _⟩ := info_parts info92; have hcut11 := cut_to (P := Try.prog) 28 92 .i64 Try.underlying28 hi011 Ao10 y182.length co10 0 (by omega) q11 (Kd.S_reads' HO184.out).2.1; have hr11 := Kd.S_take (m := (0 : Int).toNat) HO184.out (by omega); have hy11 : y185.length = (0 : Int).toNat := (by rw [Ny185.out, List.length_take]; omega); rw [← Ny185.out] at hr11; rw [← hy11] at hr11 hcut11; clear hy11 hi011 hsz11 HO184; have HO187 := Aside0.mk hr11; clear hr11; replace q11 := eq_true q11))
       go_ret
       exact ⟨_, eW_, by (with_reducible repeat (first | apply Kd.S_alloc | apply Kd.S_drewN | apply Kd.S_drew)); exact HO187.out, hB_⟩
      ·
       rw [if_neg c8] at H
       exact absurd H (by simp)
     ·
      rw [if_neg c7] at H
      exact absurd H (by simp)
    ·
     rw [if_neg c6] at H
     exact absurd H (by simp)
   ·
    rw [if_neg c5] at H
    have c5b0 : decide (0 < a1) = false := decide_eq_false c5
    clear c5
    obtain rfl := Option.some.inj H
    have ha1 : a1 = 0 := by have q1 := of_decide_eq_false c3b0; have q2 := of_decide_eq_false c5b0; omega
    clear c3b0 c5b0 c4b0 c4b1
    subst ha1
    show Calls Try.prog 84 #[.slice none 0 0, .int .i64 0] w _
    go_enter Try.func84, Try.ntmps84
    go_wp2
    go_ret
    exact ⟨_, eW_, by first | exact Kd.S_nil _ _ _ _ _ | exact Kd.N_nil _ _ _ _ _ | exact Kd.V_nil _ _ _ _ _ | exact Kd.Q_nil _ _ _ _ _ | exact Kd.R_nil _ _ _ _ _, hB_⟩

/-! ### api_Sealed_77: function 77 -/
mutual
def api_Sealed_77.l0 : Nat → List (List (S92)) → Int → List (List (S92)) → Int → Int → Option ((List (S92)))
 | 0, _, _, _, _, _ => none
 | k + 1, x0, x3, x9, x10, x11 => if x11 < x10 then (if 0 ≤ x11 then (if x11 < (x9.length : Int) then (if (wrap64 (x3 + ((rd_L10 x9 x11).length : Int))) < 0 then (none) else (api_Sealed_77.l0 k x0 (wrap64 (x3 + ((rd_L10 x9 x11).length : Int))) x9 x10 (wrap64 (x11 + 1)))) else (none)) else (none)) else ((api_Sealed_84.f ([] : List (S92)) x3).bind fun t189 => (api_Sealed_77.l1 k t189 x0 (x0.length : Int) 0))
def api_Sealed_77.l1 : Nat → List (S92) → List (List (S92)) → Int → Int → Option ((List (S92)))
 | 0, _, _, _, _ => none
 | k + 1, x6, x25, x26, x27 => if x27 < x26 then (if 0 ≤ x27 then (if x27 < (x25.length : Int) then (if x6.length + (rd_L10 x25 x27).length < 3518437208883 then (api_Sealed_77.l1 k (x6 ++ (rd_L10 x25 x27)) x25 x26 (wrap64 (x27 + 1))) else (none)) else (none)) else (none)) else (some x6)
end
def api_Sealed_77.f (k : Nat) (l0 : List (List (S92))) : Option ((List (S92))) := api_Sealed_77.l0 k l0 0 l0 (l0.length : Int) 0
set_option maxHeartbeats 8000000 in
set_option maxRecDepth 100000 in
theorem api_Sealed_77.calls (k : Nat) (P0_ : Nat → Prop) (A0 : Option Addr) (c0 : Nat) (l0 : List (List (S92))) (r : List (S92)) (w : World) (hs0 : Kd.V (Kd.slice 92 k92) 28 w w.heap.size (fun k_ => P0_ k_) (.slice A0 l0.length c0) l0) (h : api_Sealed_77.f k l0 = some r) :
  Calls Try.prog 77 #[.slice A0 l0.length c0] w fun e w' => ∃ v0_ : Value, e = .returned (v0_) ∧ Kd.N k92 92 w' w.heap.size (fun k_ => (P0_ k_ ∨ w.heap.size ≤ k_)) v0_ r ∧ Below w.heap.size w w' := by
 have HO0 := Aside0.mk (show Kd.V (Kd.slice 92 k92) 28 w w.heap.size (fun k_ => (P0_ k_ ∨ w.heap.size ≤ k_)) (.slice A0 l0.length c0) l0 from Kd.V_mono hs0 (fun k_ hk => .inl hk))
 have HB := Aside0.mk (Below.refl w.heap.size w)
 have H : (api_Sealed_77.l0 k l0 0 l0 (l0.length : Int) 0) = some r := h
 clear h
 have H' := Aside0.mk H
 clear H
 go_enter Try.func77, Try.ntmps77
 go_wp2
 go_loopg [3, 11] k (fun kq v3 v11 w' => ∃ (x3_1 : Int) (x11_1 : Int), v3 = .int .i64 x3_1 ∧ v11 = .int .i64 x11_1 ∧ Aside0 (api_Sealed_77.l0 kq l0 x3_1 l0 (l0.length : Int) x11_1 = some r) ∧ Aside0 (kq ≤ k) ∧ Aside0 (Kd.V (Kd.slice 92 k92) 28 w' w.heap.size (fun k_ => (P0_ k_ ∨ w.heap.size ≤ k_)) (.slice A0 l0.length c0) l0) ∧ Aside0 (Kd.V (Kd.slice 92 k92) 28 w' w.heap.size (fun k_ => (P0_ k_ ∨ w.heap.size ≤ k_)) (.slice A0 l0.length c0) l0) ∧ Aside0 (Below w.heap.size w w'))
 case atStart => exact ⟨(0), (0), sD_, sD_, H', ⟨Nat.le_refl _⟩, ⟨by (with_reducible repeat (first | apply Kd.V_alloc | apply Kd.V_drewN | apply Kd.V_drew)); exact HO0.out⟩, ⟨by (with_reducible repeat (first | apply Kd.V_alloc | apply Kd.V_drewN | apply Kd.V_drew)); exact HO0.out⟩, ⟨hB_⟩⟩
 case round =>
  clear H'
  obtain ⟨x3_1, x11_1, rfl, rfl, HA, HK1, HO_0, HO_9, HB⟩ := hrel
  cases gk with
  | zero => exact absurd HA.out (by simp [api_Sealed_77.l0])
  | succ k1 =>
   have H := HA.out
   clear HA
   simp only [api_Sealed_77.l0] at H
   by_cases c2 : x11_1 < (l0.length : Int)
   ·
    rw [if_pos c2] at H
    have c2b0 : decide (x11_1 < (l0.length : Int)) = true := decide_eq_true c2
    clear c2
    by_cases c3 : 0 ≤ x11_1
    ·
     rw [if_pos c3] at H
     have c3b0 : decide (0 ≤ x11_1) = true := decide_eq_true c3
     clear c3
     by_cases c4 : x11_1 < (l0.length : Int)
     ·
      rw [if_pos c4] at H
      have c4b0 : decide (x11_1 < (l0.length : Int)) = true := decide_eq_true c4
      clear c4
      by_cases c5 : (wrap64 (x3_1 + ((rd_L10 l0 x11_1).length : Int))) < 0
      ·
       rw [if_pos c5] at H
       exact absurd H (by simp)
      ·
       rw [if_neg c5] at H
       have c5b0 : decide ((wrap64 (x3_1 + ((rd_L10 l0 x11_1).length : Int))) < 0) = false := decide_eq_false c5
       clear c5
       have H' := Aside0.mk H
       clear H
       have p188 : 0 ≤ (x11_1 : Int) := of_decide_eq_true aS_
       have q188 : x11_1 < (l0.length : Int) := of_decide_eq_true aS_
       obtain ⟨ad188, A188_0, c188_0, e188, hx188_0, hl188_0, hi188_0⟩ := at_L10 (Kd.V_reads' HO_9.out).2.2 x11_1 p188 q188
       cases e188
       obtain ⟨ce188, hce188, hMe188, hcc188⟩ := Kd.V_get HO_9.out [] x11_1 p188 (by first | exact q188 | exact of_decide_eq_true aS_ | (have e_ := (Kd.V_reads' HO_9.out).1; omega))
       obtain ⟨ua188_0, uc188_0, rfl, ul188_0, ge188_0⟩ := Kd.FK_slice_open hMe188
       have hv188_0 := hcc188 0 _ rfl
       rw [Nat.add_zero, show ((Kd.slice 92 k92)).sz = 1 from rfl, Nat.mul_one] at hv188_0
       replace hv188_0 := Option.some.inj (hv188_0.symm.trans hx188_0)
       injection hv188_0 with hva_ hvn_ hvc_
       rw [hva_] at ge188_0
       rw [hvc_] at ul188_0
       have HL188_0 := Aside0.mk (show Kd.V k92 92 _ w.heap.size _ _ (rd_L10 l0 x11_1) from Kd.V_mk ul188_0 ge188_0)
       clear hva_ hvn_ hvc_ ge188_0 ul188_0
       clear hcc188 hce188
       have HR188_0 := Aside0.mk hi188_0
       have HC188_0 := Aside0.mk hl188_0
       clear hi188_0 hl188_0
       replace p188 := eq_true p188
       replace q188 := eq_true q188
       go_wp2
       go_roundg k1
       case measure => have := HK1.out; omega
       case rel => exact ⟨(wrap64 (x3_1 + ((rd_L10 l0 x11_1).length : Int))), (wrap64 (x11_1 + 1)), sD_, sD_, H', ⟨by have := HK1.out; omega⟩, ⟨by (with_reducible repeat (first | apply Kd.V_alloc | apply Kd.V_drewN | apply Kd.V_drew)); exact HO_0.out⟩, ⟨by (with_reducible repeat (first | apply Kd.V_alloc | apply Kd.V_drewN | apply Kd.V_drew)); exact HO_9.out⟩, ⟨hB_⟩⟩
     ·
      rw [if_neg c4] at H
      exact absurd H (by simp)
    ·
     rw [if_neg c3] at H
     exact absurd H (by simp)
   ·
    rw [if_neg c2] at H
    have c2b0 : decide (x11_1 < (l0.length : Int)) = false := decide_eq_false c2
    clear c2
    replace H := Option.bind_eq_some_iff.mp H
    obtain ⟨t189, A60, H⟩ := H
    replace H : (api_Sealed_77.l1 k1 t189 l0 (l0.length : Int) 0) = some r := H
    have A6 := Aside0.mk A60
    clear A60
    have H' := Aside0.mk H
    clear H
    go_wp2_with (first | ((with_reducible refine gate_callee (f := 84) rfl ?_); refine goesL_ (some 24) rfl rfl Try.func84 (by kernel_rfl) rfl #[.slice none 0 0, .int .i64 x3_1] rfl mD_ ?_; (refine (api_Sealed_84.calls _ _ ([] : List (S92)) x3_1 t189 _ ?side1 ?side2 A6.out).mono ?_); (case side1 => exact Kd.C_nil _ _); (case side2 => exact Nat.le_refl _); rintro e w7 ⟨v190, rfl, ho0, hb⟩; refine ⟨_, rfl, ?_⟩; have n0_ := Aside0.mk (Kd.V_elder' (by (with_reducible repeat (first | apply Kd.V_alloc | apply Kd.V_drewN | apply Kd.V_drew)); exact HO_0.out) (Kd.S_base ho0) hb); have n1_ := Aside0.mk (Kd.V_elder' (by (with_reducible repeat (first | apply Kd.V_alloc | apply Kd.V_drewN | apply Kd.V_drew)); exact HO_9.out) (Kd.S_base ho0) hb); have n2_ := Aside0.mk (Kd.N_lower (Kd.N_mono (ok' := fun k_ => (P0_ k_ ∨ w.heap.size ≤ k_)) (Kd.S_N (Kd.S_bound ho0)) (fun k_ hk_ => (.inr (Nat.le_trans (below_size hB_) hk_.2.1)))) (below_size hB_)); have n3_ := Aside0.mk (below_step hB_ hb); clear HO_0; clear HO_9; clear HB; have HO_0 := n0_; have HO_9 := n1_; have HO191 := n2_; have HB := n3_; clear n0_ n1_ n2_ n3_; (try clear hb); (try clear hb2); (try clear hk); (try clear hi); (try clear ho0)))
    go_loopg [6, 27] k1 (fun kq v6 v27 w' => ∃ (x6_2 : List (S92)) (x27_2 : Int), v27 = .int .i64 x27_2 ∧ Aside0 (api_Sealed_77.l1 kq x6_2 l0 (l0.length : Int) x27_2 = some r) ∧ Aside0 (kq ≤ k1) ∧ Aside0 (Kd.N k92 92 w' w.heap.size (fun k_ => (P0_ k_ ∨ w.heap.size ≤ k_)) v6 x6_2) ∧ Aside0 (Kd.V (Kd.slice 92 k92) 28 w' w.heap.size (fun k_ => (P0_ k_ ∨ w.heap.size ≤ k_) ∧ some k_ ≠ (v6 : Value).ownBlock) (.slice A0 l0.length c0) l0) ∧ Aside0 (Below w.heap.size w w'))
    case atStart => exact ⟨(t189), (0), sD_, H', ⟨Nat.le_refl _⟩, ⟨by (with_reducible repeat (first | apply Kd.N_alloc | apply Kd.N_drewN | apply Kd.N_drew)); exact HO191.out⟩, ⟨by (with_reducible repeat (first | apply Kd.V_alloc | apply Kd.V_drewN | apply Kd.V_drew)); exact HO_0.out⟩, ⟨hB_⟩⟩
    case round =>
     clear H'
     try clear c1
     try clear p1
     try clear q1
     try clear hx1
     try clear c2
     try clear c2b0
     try clear p2
     try clear c3
     try clear c3b0
     try clear c4
     try clear c4b0
     try clear c5
     try clear c5b0
     try clear p6
     try clear c7
     try clear hx188_0
     try clear p188
     try clear q188
     obtain ⟨x6_2, x27_2, rfl, HA, HK2, HO_6, HO_25, HB⟩ := hrel
     cases gk with
     | zero => exact absurd HA.out (by simp [api_Sealed_77.l1])
     | succ k2 =>
      have H := HA.out
      clear HA
      simp only [api_Sealed_77.l1] at H
      by_cases c8 : x27_2 < (l0.length : Int)
      ·
       rw [if_pos c8] at H
       have c8b0 : decide (x27_2 < (l0.length : Int)) = true := decide_eq_true c8
       clear c8
       by_cases c9 : 0 ≤ x27_2
       ·
        rw [if_pos c9] at H
        have c9b0 : decide (0 ≤ x27_2) = true := decide_eq_true c9
        clear c9
        by_cases c10 : x27_2 < (l0.length : Int)
        ·
         rw [if_pos c10] at H
         have c10b0 : decide (x27_2 < (l0.length : Int)) = true := decide_eq_true c10
         clear c10
         by_cases c11 : x6_2.length + (rd_L10 l0 x27_2).length < 3518437208883
         ·
          rw [if_pos c11] at H
          have LMc11 := Aside0.mk c11
          clear c11
          obtain ⟨y193, hy193⟩ : ∃ y_ : List (S92), y_ = (x6_2 ++ (rd_L10 l0 x27_2)) := ⟨_, rfl⟩
          replace H : (api_Sealed_77.l1 k2 y193 l0 (l0.length : Int) (wrap64 (x27_2 + 1))) = some r := by first | (rw [hy193]; with_reducible exact H) | (have H2_ := (Option.bind_some _ _).symm.trans H; rw [hy193]; with_reducible exact H2_) | (have H2_ := (Option.bind_some _ _).symm.trans H; with_reducible exact H2_) | with_reducible exact H | (rw [hy193]; exact H) | exact H
          have Ny193 := Aside0.mk hy193
          clear hy193
          have H' := Aside0.mk H
          clear H
          have p192 : 0 ≤ (x27_2 : Int) := of_decide_eq_true aS_
          have q192 : x27_2 < (l0.length : Int) := of_decide_eq_true aS_
          obtain ⟨ad192, A192_0, c192_0, e192, hx192_0, hl192_0, hi192_0⟩ := at_L10 (Kd.V_reads' HO_25.out).2.2 x27_2 p192 q192
          cases e192
          obtain ⟨ce192, hce192, hMe192, hcc192⟩ := Kd.V_get HO_25.out [] x27_2 p192 (by first | exact q192 | exact of_decide_eq_true aS_ | (have e_ := (Kd.V_reads' HO_25.out).1; omega))
          obtain ⟨ua192_0, uc192_0, rfl, ul192_0, ge192_0⟩ := Kd.FK_slice_open hMe192
          have hv192_0 := hcc192 0 _ rfl
          rw [Nat.add_zero, show ((Kd.slice 92 k92)).sz = 1 from rfl, Nat.mul_one] at hv192_0
          replace hv192_0 := Option.some.inj (hv192_0.symm.trans hx192_0)
          injection hv192_0 with hva_ hvn_ hvc_
          rw [hva_] at ge192_0
          rw [hvc_] at ul192_0
          have HL192_0 := Aside0.mk (show Kd.V k92 92 _ w.heap.size _ _ (rd_L10 l0 x27_2) from Kd.V_mk ul192_0 ge192_0)
          clear hva_ hvn_ hvc_ ge192_0 ul192_0
          clear hcc192 hce192
          have HR192_0 := Aside0.mk hi192_0
          have HC192_0 := Aside0.mk hl192_0
          clear hi192_0 hl192_0
          replace p192 := eq_true p192
          replace q192 := eq_true q192
          go_wp2_with (first | ((with_reducible refine gate_builtin (b := .append) (xs := #[.tmp 31, .tmp 32]) rfl ?_); at_builtin; refine Kd.N_append_rows k92 (w0 := w) w.heap.size rfl (.tmp 31) (.tmp 32) 28 92 (.agg #[(.int .u32 0), (.int .u32 0), (.int .u32 0), (.slice none 0 0)]) 40 rfl Try.underlying28 info92 rfl (by decide) (by omega) u6 x6_2 (rd_L10 l0 x27_2) _ _ _ (fun k_ => (P0_ k_ ∨ w.heap.size ≤ k_)) (fun k_ => ((fun k_ => (P0_ k_ ∨ w.heap.size ≤ k_))) k_ ∧ some k_ ≠ (u6 : Value).ownBlock) rfl rfl ?aO ?aR (fun _ hk => hk) ?aF ?aB ?aS ?aL ?_; (case aR => exact (by skip; exact Kd.V_F (Kd.V_mono (ok' := (fun k_ => ((fun k_ => (P0_ k_ ∨ w.heap.size ≤ k_))) k_ ∧ some k_ ≠ (u6 : Value).ownBlock)) (HL192_0.out) (fun k_ hk => ⟨hk.1, hk.2⟩)))); (case aB => exact hB_); (case aF => exact (fun k_ hk => (.inr (Nat.le_trans (below_size hB_) hk)))); (case aO => exact (by (with_reducible repeat (first | apply Kd.N_alloc | apply Kd.N_drewN | apply Kd.N_drew)); exact HO_6.out)); (case aS => exact (below_size hB_)); (case aL => have := LMc11.out; omega); intro v194 w12 ho hb hg hat; rw [← Ny193.out] at ho; have n0_ := Aside0.mk (Kd.V_afterv (ok := (fun k_ => (P0_ k_ ∨ w.heap.size ≤ k_))) (by (with_reducible repeat (first | apply Kd.V_alloc | apply Kd.V_drewN | apply Kd.V_drew)); exact HO_25.out) hg hat); have n1_ := Aside0.mk (Kd.V_afterv (ok := (fun k_ => (P0_ k_ ∨ w.heap.size ≤ k_))) (by (with_reducible repeat (first | apply Kd.V_alloc | apply Kd.V_drewN | apply Kd.V_drew)); exact HL192_0.out) hg hat); have n2_ := Aside0.mk (hb); have n3_ := Aside0.mk (ho); clear HO_25; clear HL192_0; clear HB; clear HO_6; have HO_25 := n0_; have HL192_0 := n1_; have HB := n2_; have HO195 := n3_; clear n0_ n1_ n2_ n3_; clear ho hb hg hat))
          go_roundg k2
          case measure => have := HK1.out; have := HK2.out; omega
          case rel => exact ⟨(y193), (wrap64 (x27_2 + 1)), sD_, H', ⟨by have := HK1.out; have := HK2.out; omega⟩, ⟨by (with_reducible repeat (first | apply Kd.N_alloc | apply Kd.N_drewN | apply Kd.N_drew)); exact HO195.out⟩, ⟨by (with_reducible repeat (first | apply Kd.V_alloc | apply Kd.V_drewN | apply Kd.V_drew)); exact HO_25.out⟩, ⟨hB_⟩⟩
         ·
          rw [if_neg c11] at H
          exact absurd H (by simp)
        ·
         rw [if_neg c10] at H
         exact absurd H (by simp)
       ·
        rw [if_neg c9] at H
        exact absurd H (by simp)
      ·
       rw [if_neg c8] at H
       have c8b0 : decide (x27_2 < (l0.length : Int)) = false := decide_eq_false c8
       clear c8
       obtain rfl := Option.some.inj H
       go_wp2
       go_ret
       exact ⟨_, eW_, by (with_reducible repeat (first | apply Kd.N_alloc | apply Kd.N_drewN | apply Kd.N_drew)); exact HO_6.out, hB_⟩

/-! ### box_Seal: function 66 -/
theorem bseal.w64 {x : Int} (h1 : -9223372036854775808 ≤ x) (h2 : x ≤ 9223372036854775807) : wrap64 x = x := by unfold wrap64; omega
theorem bseal.rdL_nat (xs : List (List S92)) (i : Nat) (h : i < xs.length) : rd_L10 xs (i : Int) = xs[i] := by
 unfold rd_L10
 simp [List.getD_eq_getElem?_getD, h]
theorem bseal.grow_eq (n : Nat) (h : n < 3518437208883) : api_Sealed_84.f [] (n : Int) = some [] := by
 unfold api_Sealed_84.f
 rw [if_neg (by omega), if_neg (by simp)]
 by_cases c : (n : Int) > 0
 ·
  rw [if_pos c, if_pos (by omega), if_pos (by simp; omega)]
  simp
 ·
  rw [if_neg c]
theorem bseal.concat_l1 (ll : List (List S92)) (hll : ll.length ≤ 1000000) : ∀ (d k i : Nat) (acc : List S92), ll.length - i = d → i ≤ ll.length → acc.length + ((ll.drop i).map List.length).sum < 3518437208883 → d < k →
  api_Sealed_77.l1 k acc ll (ll.length : Int) (i : Int) = some (acc ++ (ll.drop i).flatten) := by
 intro d
 induction d with
 | zero =>
  intro k i acc h1 h2 h3 h4
  obtain ⟨k, rfl⟩ : ∃ m, k = m + 1 := ⟨k - 1, by omega⟩
  rw [api_Sealed_77.l1, if_neg (by omega), List.drop_eq_nil_of_le (by omega)]
  simp
 | succ d ih =>
  intro k i acc h1 h2 h3 h4
  obtain ⟨k, rfl⟩ : ∃ m, k = m + 1 := ⟨k - 1, by omega⟩
  have hi : i < ll.length := by omega
  rw [List.drop_eq_getElem_cons hi] at h3 ⊢
  simp only [List.map_cons, List.sum_cons] at h3
  rw [api_Sealed_77.l1, if_pos (by omega), if_pos (by omega), if_pos (by omega), bseal.rdL_nat ll i hi, if_pos (by omega), bseal.w64 (by omega) (by omega)]
  have ei : (i : Int) + 1 = ((i + 1 : Nat) : Int) := by omega
  rw [ei, ih k (i + 1) _ (by omega) (by omega) (by rw [List.length_append]; omega) (by omega), List.flatten_cons, List.append_assoc]
theorem bseal.concat_l0 (ll : List (List S92)) (hll : ll.length ≤ 1000000) (hs : (ll.map List.length).sum < 3518437208883) : ∀ (d k i s : Nat), ll.length - i = d → i ≤ ll.length → s + ((ll.drop i).map List.length).sum = (ll.map List.length).sum → d + ll.length + 1 < k →
  api_Sealed_77.l0 k ll (s : Int) ll (ll.length : Int) (i : Int) = some ll.flatten := by
 intro d
 induction d with
 | zero =>
  intro k i s h1 h2 h3 h4
  obtain ⟨k, rfl⟩ : ∃ m, k = m + 1 := ⟨k - 1, by omega⟩
  rw [List.drop_eq_nil_of_le (by omega)] at h3
  simp only [List.map_nil, List.sum_nil, Nat.add_zero] at h3
  rw [api_Sealed_77.l0, if_neg (by omega), bseal.grow_eq s (by omega), Option.bind_some]
  have h := bseal.concat_l1 ll hll ll.length k 0 [] (by omega) (by omega) (by simpa using hs) (by omega)
  simp only [Int.natCast_zero, List.drop_zero, List.nil_append] at h
  exact h
 | succ d ih =>
  intro k i s h1 h2 h3 h4
  obtain ⟨k, rfl⟩ : ∃ m, k = m + 1 := ⟨k - 1, by omega⟩
  have hi : i < ll.length := by omega
  rw [List.drop_eq_getElem_cons hi] at h3
  simp only [List.map_cons, List.sum_cons] at h3
  rw [api_Sealed_77.l0, if_pos (by omega), if_pos (by omega), if_pos (by omega), bseal.rdL_nat ll i hi, bseal.w64 (x := (s : Int) + (ll[i].length : Int)) (by omega) (by omega), if_neg (by omega), bseal.w64 (by omega) (by omega)]
  have ei : (i : Int) + 1 = ((i + 1 : Nat) : Int) := by omega
  have es : (s : Int) + (ll[i].length : Int) = ((s + ll[i].length : Nat) : Int) := by omega
  rw [ei, es]
  exact ih k (i + 1) _ (by omega) (by omega) (by omega) (by omega)
theorem bseal.concat_eq (ll : List (List S92)) (k : Nat) (hll : ll.length ≤ 1000000) (hs : (ll.map List.length).sum < 3518437208883) (hk : ll.length + ll.length + 1 < k) : api_Sealed_77.f k ll = some ll.flatten := by
 unfold api_Sealed_77.f
 have h := bseal.concat_l0 ll hll hs ll.length k 0 0 (by omega) (by omega) (by simp) (by omega)
 simp only [Int.natCast_zero] at h
 exact h

def box_Seal.f (a0_0 : Int) (l0_1 : List (S92)) (a1 : Int) (a2 : Int) (a3 : Int) (l4 : List Int) : Option (Int × (List (S92)) × Int) := if (l4.length : Int) > 64 then some (a0_0, l0_1, 3) else if 0 ≤ bfind.pos a1 l0_1 then some (a0_0, l0_1, 8) else if wrap64 (a0_0 - (l0_1.length : Int)) < 1 then some (a0_0, l0_1, 10) else if l0_1.length < 1000000 then some (a0_0, l0_1 ++ [⟨a1, a2, a3, l4⟩], 0) else none
/-- What find answers, in the walk's form. -/
theorem bseal.found (a0 a1 : Int) (l : List S92) : ∃ r1 r2 r3 r4, box_find.f a0 l a1 = some (r1, r2, r3, r4, decide (0 ≤ bfind.pos a1 l)) := by
 unfold box_find.f
 by_cases h : bfind.pos a1 l < 0
 ·
  exact ⟨_, _, _, _, by rw [if_pos h, show decide (0 ≤ bfind.pos a1 l) = false from decide_eq_false (by omega)]⟩
 ·
  exact ⟨_, _, _, _, by rw [if_neg h, show decide (0 ≤ bfind.pos a1 l) = true from decide_eq_true (by omega)]⟩
theorem bseal.add0 (g n : Nat) : (⟨g, 0, none⟩ : Addr).add n = ⟨g, n, none⟩ := by
 unfold Addr.add
 by_cases h : n = 0
 ·
  subst h; rfl
 ·
  simp [h]
/-- A row whose cells a block holds, its elements with their footprints. -/
theorem bseal.F_block {α : Type} {d : Kd α} {W : World} {ok : Nat → Prop} {g : Nat} {cs : Array Value} {t : TypeId} (xs : List α) (rows : List (List Value)) (hb : W.heap[g]? = some (.cells cs t (0, 0))) (hok : ok g) (hl : rows.length = xs.length)
  (hr : ∀ (j : Nat) (x : α) (c : List Value), xs[j]? = some x → rows[j]? = some c → Kd.FK d W ok x c ∧ c.length = d.sz) (hc : ∀ (j : Nat) (c : List Value), rows[j]? = some c → ∀ (i : Nat) (u : Value), c[i]? = some u → cs[j * d.sz + i]? = some u) (hn : xs.length ≤ 9223372036854775807) :
  Kd.F d W ok (some ⟨g, 0, none⟩) xs.length xs := by
 intro W' hW
 have hb' : W'.heap[g]? = some (.cells cs t (0, 0)) := (hW g hok (blk_lt hb)).trans hb
 refine ⟨rfl, hn, fun _ => ⟨⟨g, 0, none⟩, rfl, fun j p hp => ?_⟩⟩
 have hj : j < xs.length := (List.getElem?_eq_some_iff.1 hp).1
 obtain ⟨c, hcj⟩ : ∃ c, rows[j]? = some c := ⟨rows[j]'(by omega), List.getElem?_eq_getElem (by omega)⟩
 obtain ⟨h1, h2⟩ := hr j p c hp hcj
 refine ⟨c, h2, h1 W' hW, fun i u hu => ?_⟩
 have := blk_cell hb' (j * d.sz + i)
 rw [hc j c hcj i u hu] at this
 rw [show (⟨g, 0, none⟩ : Addr).add (j * d.sz + i) = ⟨g, j * d.sz + i, none⟩ from bseal.add0 _ _]
 exact this
theorem bseal.rows (w w3 : World) (P : Nat → Prop) (base base2 : Nat) (A0 : Option Addr) (c0 : Nat) (l : List S92) (a1 a2 a3 : Int) (A5 : Option Addr) (c5 : Nat) (l4 : List Int)
  (hV : Kd.V k92 92 w3 base (fun k => P k ∧ k < w.heap.size) (.slice A0 l.length c0) l) (hR : Kd.R (Kd.int .u32) 22 w3 base2 (fun k => (P k ∧ k < w.heap.size) ∨ w.heap.size + 1 < k) (.slice A5 l4.length c5) l4) (hlt : w.heap.size + 1 < w3.heap.size) (n : Nat) :
  Kd.V (Kd.slice 92 k92) 28 (((w3.alloc (.cells #[.int .u32 a1, .int .u32 a2, .int .u32 a3, .slice A5 l4.length c5] 92)).alloc (.cells #[.int .u32 a1, .int .u32 a2, .int .u32 a3, .slice A5 l4.length c5] 92)).alloc (.cells #[.slice A0 l.length c0, .slice (some ⟨w3.heap.size + 1, 0, none⟩) 1 1] 28)) n
   (fun k => (P k ∧ k < w.heap.size) ∨ w.heap.size + 1 < k) (.slice (some ⟨w3.heap.size + 1 + 1, 0, none⟩) 2 2) [l, [(⟨a1, a2, a3, l4⟩ : S92)]] := by
 obtain ⟨Wa, hWa⟩ : ∃ Wa : World, Wa = w3.alloc (.cells #[.int .u32 a1, .int .u32 a2, .int .u32 a3, .slice A5 l4.length c5] 92) := ⟨_, rfl⟩
 obtain ⟨Wb, hWb⟩ : ∃ Wb : World, Wb = Wa.alloc (.cells #[.int .u32 a1, .int .u32 a2, .int .u32 a3, .slice A5 l4.length c5] 92) := ⟨_, rfl⟩
 obtain ⟨Wc, hWc⟩ : ∃ Wc : World, Wc = Wb.alloc (.cells #[.slice A0 l.length c0, .slice (some ⟨w3.heap.size + 1, 0, none⟩) 1 1] 28) := ⟨_, rfl⟩
 rw [← hWa, ← hWb, ← hWc]
 have sa : Wa.heap.size = w3.heap.size + 1 := by rw [hWa]; simp
 have sb : Wb.heap.size = w3.heap.size + 1 + 1 := by rw [hWb]; simp [sa]
 have bb : Wb.heap[w3.heap.size + 1]? = some (.cells #[.int .u32 a1, .int .u32 a2, .int .u32 a3, .slice A5 l4.length c5] 92 (0, 0)) := by rw [hWb, ← sa]; exact (MapKept.heap_alloc _ _).1
 have bc : Wc.heap[w3.heap.size + 1 + 1]? = some (.cells #[.slice A0 l.length c0, .slice (some ⟨w3.heap.size + 1, 0, none⟩) 1 1] 28 (0, 0)) := by rw [hWc, ← sb]; exact (MapKept.heap_alloc _ _).1
 have bb' : Wc.heap[w3.heap.size + 1]? = some (.cells #[.int .u32 a1, .int .u32 a2, .int .u32 a3, .slice A5 l4.length c5] 92 (0, 0)) := by rw [hWc]; exact blk_alloc bb _
 have hB : Below w3.heap.size w3 Wc := by rw [hWc, hWb, hWa]; exact below_alloc (below_alloc (below_alloc (Below.refl _ _) _) _) _
 have V1 := Kd.V_mono (ok' := fun k => (P k ∧ k < w.heap.size) ∨ w.heap.size + 1 < k) (Kd.V_below hV hB) (fun k hk => .inl hk)
 have V2 := Kd.V_below (Kd.R_V (base' := 0) hR) hB
 obtain ⟨_, hc0, F1⟩ := Kd.V_at V1
 obtain ⟨_, hc5, F2⟩ := Kd.V_at V2
 have F3 : Kd.F k92 Wc (fun k => (P k ∧ k < w.heap.size) ∨ w.heap.size + 1 < k) (some ⟨w3.heap.size + 1, 0, none⟩) 1 [(⟨a1, a2, a3, l4⟩ : S92)] :=
  bseal.F_block [(⟨a1, a2, a3, l4⟩ : S92)] [[.int .u32 a1, .int .u32 a2, .int .u32 a3, .slice A5 l4.length c5]] bb' (.inr (by omega)) rfl
   (fun j x c hx hc => by
    have : j = 0 := by have := (List.getElem?_eq_some_iff.1 hx).1; simpa using this
    subst this
    cases hx
    cases hc
    exact ⟨k92_mkF Wc _ _ hc5 F2, rfl⟩)
   (fun j c hc i u hu => by
    have : j = 0 := by have := (List.getElem?_eq_some_iff.1 hc).1; simpa using this
    subst this
    cases hc
    simpa using hu) (by simp)
 refine ⟨some ⟨w3.heap.size + 1 + 1, 0, none⟩, 2, rfl, Nat.le_refl _, ?_⟩
 refine bseal.F_block [l, [(⟨a1, a2, a3, l4⟩ : S92)]] [[.slice A0 l.length c0], [.slice (some ⟨w3.heap.size + 1, 0, none⟩) 1 1]] bc (.inr (by omega)) rfl ?_ ?_ (by simp)
 ·
  intro j x c hx hc
  have hj := (List.getElem?_eq_some_iff.1 hx).1
  simp only [List.length_cons, List.length_nil] at hj
  rcases Nat.lt_or_ge j 1 with q | q
  ·
   obtain rfl : j = 0 := by omega
   cases hx
   cases hc
   exact ⟨fun W' hW => ⟨A0, c0, rfl, hc0, F1 W' hW⟩, rfl⟩
  ·
   obtain rfl : j = 1 := by omega
   cases hx
   cases hc
   exact ⟨fun W' hW => ⟨_, 1, rfl, Nat.le_refl _, F3 W' hW⟩, rfl⟩
 ·
  intro j c hc i u hu
  have hj := (List.getElem?_eq_some_iff.1 hc).1
  simp only [List.length_cons, List.length_nil] at hj
  rcases Nat.lt_or_ge j 1 with q | q
  ·
   obtain rfl : j = 0 := by omega
   cases hc
   have hi := (List.getElem?_eq_some_iff.1 hu).1
   simp only [List.length_cons, List.length_nil] at hi
   obtain rfl : i = 0 := by omega
   exact hu
  ·
   obtain rfl : j = 1 := by omega
   cases hc
   have hi := (List.getElem?_eq_some_iff.1 hu).1
   simp only [List.length_cons, List.length_nil] at hi
   obtain rfl : i = 0 := by omega
   exact hu
set_option maxHeartbeats 8000000 in
set_option maxRecDepth 100000 in
theorem box_Seal.calls (a0_0 : Int) (P0_1_ : Nat → Prop) (A0_1 : Option Addr) (c0_1 : Nat) (l0_1 : List (S92)) (a1 : Int) (a2 : Int) (a3 : Int) (A4 : Option Addr) (c4 : Nat) (l4 : List Int) (r1 : Int) (r2 : List (S92)) (r3 : Int) (w : World) (hs0_1 : Kd.V k92 92 w w.heap.size (fun k_ => P0_1_ k_) (.slice A0_1 l0_1.length c0_1) l0_1) (hr4 : Kd.C (Kd.int .u32) w A4 l4.length l4) (hc4 : l4.length ≤ c4) (h : box_Seal.f a0_0 l0_1 a1 a2 a3 l4 = some (r1, r2, r3)) :
  Calls Try.prog 66 #[.agg #[.int .i64 a0_0, .slice A0_1 l0_1.length c0_1], .int .u32 a1, .int .u32 a2, .int .u32 a3, .slice A4 l4.length c4] w fun e w' => ∃ v1_ : Value, e = .returned (.tuple #[.agg #[.int .i64 r1, v1_], .int .i64 r3]) ∧ Kd.V k92 92 w' w.heap.size (fun k_ => (P0_1_ k_ ∨ w.heap.size ≤ k_)) v1_ r2 ∧ Below w.heap.size w w' := by
 obtain ⟨f1, f2, f3, f4, hf⟩ := bseal.found a0_0 a1 l0_1
 have HF := Aside0.mk hf
 clear hf
 have HS := Aside0.mk (Kd.V_bound hs0_1)
 have HR4 := Aside0.mk hr4
 have HC4 := Aside0.mk hc4
 clear hs0_1 hr4 hc4
 unfold box_Seal.f at h
 have Hh := Aside0.mk h
 clear h
 obtain ⟨W1, hW1⟩ : ∃ W1 : World, W1 = w.alloc (.cells #[.int .i64 a0_0, .slice A0_1 l0_1.length c0_1] 30) := ⟨_, rfl⟩
 obtain ⟨W2, hW2⟩ : ∃ W2 : World, W2 = W1.alloc (.cells #[.int .i64 0, .slice none 0 0] 30) := ⟨_, rfl⟩
 have s1 : W1.heap.size = w.heap.size + 1 := by rw [hW1]; simp
 have s2 : W2.heap.size = w.heap.size + 1 + 1 := by rw [hW2]; simp [s1]
 have b1 : W1.heap[w.heap.size]? = some (.cells #[.int .i64 a0_0, .slice A0_1 l0_1.length c0_1] 30 (0, 0)) := by rw [hW1]; exact (MapKept.heap_alloc _ _).1
 have b2 : W2.heap[w.heap.size + 1]? = some (.cells #[.int .i64 0, .slice none 0 0] 30 (0, 0)) := by rw [hW2, ← s1]; exact (MapKept.heap_alloc _ _).1
 have b1' : W2.heap[w.heap.size]? = some (.cells #[.int .i64 a0_0, .slice A0_1 l0_1.length c0_1] 30 (0, 0)) := by rw [hW2]; exact blk_alloc b1 _
 have hB2 : Below w.heap.size w W2 := by rw [hW2, hW1]; exact ((Below.refl _ w).alloc (Nat.le_refl _) _).alloc (by simp) _
 have HV2 := Aside0.mk (Kd.V_below HS.out hB2)
 have HB2 := Aside0.mk hB2
 have Hs2 := Aside0.mk s2
 have Hb1 := Aside0.mk b1'
 have Hb2 := Aside0.mk b2
 have Hw := Aside0.mk (hW2.trans (by rw [hW1]))
 have hk0 : W2.cell? ⟨w.heap.size, 0, none⟩ = some (.int .i64 a0_0) := (blk_cell b1' 0).trans rfl
 have hk1 : W2.cell? ⟨w.heap.size, 1, none⟩ = some (.slice A0_1 l0_1.length c0_1) := (blk_cell b1' 1).trans rfl
 clear b1 b2 b1' hB2 s1 s2 hW1 hW2 HS
 by_cases c1 : (l4.length : Int) > 64
 ·
  have c1b0 : decide (64 < (l4.length : Int)) = true := decide_eq_true c1
  have c1b1 : decide (64 < l4.length) = true := decide_eq_true (by omega)
  have h := Hh.out
  rw [if_pos c1] at h
  simp only [Option.some.injEq, Prod.mk.injEq] at h
  obtain ⟨rfl, rfl, rfl⟩ := h
  clear Hh c1
  go_enter Try.func66, Try.ntmps66
  go_wp2_with (rw [← Hw.out]; go_at_call 75; refine (box_find.calls a0_0 _ _ _ l0_1 a1 f1 f2 f3 f4 _ _ HV2.out HF.out).mono ?_; rintro e w1 ⟨v3, rfl, hv3, hb1⟩; obtain ⟨A3, c3, rfl⟩ := Kd.V_slice hv3; clear hv3; have hlt5 : w.heap.size < w1.heap.size := (by have := hb1.size; have := Hs2.out; omega); have hlt10 : w.heap.size + 1 < w1.heap.size := (by have := hb1.size; have := Hs2.out; omega); have B5 := Aside0.mk (blk_below Hb1.out hb1); have B10 := Aside0.mk (blk_below Hb2.out hb1); have HV3 := Aside0.mk (Kd.V_below HV2.out hb1); have HB3 := Aside0.mk (HB2.out.trans (hb1.mono (by have := Hs2.out; omega))); clear hb1; have q0 : w1.cell? ⟨w.heap.size, 0, none⟩ = some (.int .i64 a0_0) := (blk_cell B5.out 0).trans rfl; have q1 : w1.cell? ⟨w.heap.size, 1, none⟩ = some (.slice A0_1 l0_1.length c0_1) := (blk_cell B5.out 1).trans rfl; have p0 : w1.cell? ⟨w.heap.size + 1, 0, none⟩ = some (.int .i64 0) := (blk_cell B10.out 0).trans rfl; have p1 : w1.cell? ⟨w.heap.size + 1, 1, none⟩ = some (.slice none 0 0) := (blk_cell B10.out 1).trans rfl; have g0 := blk_frozen B10.out 0; have g1 := blk_frozen B10.out 1)
  refine bodyPost_ret (results_ct rfl _ _ (w.heap.size + 1) 30 #[.int .i64 a0_0, .slice A0_1 l0_1.length c0_1] (0, 0) _ rfl (by refine blk_alloc ?_ _; refine blk_put (cs := #[.int .i64 a0_0, .slice none 0 0]) ?_ 1 _ rfl; exact blk_put (cs := #[.int .i64 0, .slice none 0 0]) B10.out 0 _ rfl) Try.underlying30 rfl (by kernel_rfl)) rfl ?_
  have hg : w.heap.size ≤ w.heap.size + 1 := by omega
  have hne : ∀ k, P0_1_ k ∧ k < w.heap.size → k ≠ w.heap.size + 1 := fun k hk => by have := hk.2; omega
  exact ⟨_, rfl, Kd.V_alloc (Kd.V_mono (Kd.V_far (p := ⟨w.heap.size + 1, 1, none⟩) (Kd.V_far (p := ⟨w.heap.size + 1, 0, none⟩) HV3.out hne _) hne _) (fun k hk => .inl hk.1)) _, below_alloc (below_set (below_set HB3.out hg) hg) _⟩

 have c1b0 : decide (64 < (l4.length : Int)) = false := decide_eq_false c1
 have c1b1 : decide (64 < l4.length) = false := decide_eq_false (by omega)
 have hl4 : l4.length ≤ 64 := by omega
 have h := Hh.out
 clear Hh
 rw [if_neg c1] at h
 by_cases c2 : 0 ≤ bfind.pos a1 l0_1
 ·
  rw [if_pos c2] at h
  simp only [Option.some.injEq, Prod.mk.injEq] at h
  obtain ⟨rfl, rfl, rfl⟩ := h
  have c2b : decide (0 ≤ bfind.pos a1 l0_1) = true := decide_eq_true c2
  rw [c2b] at HF
  clear c1 c2 c2b
  go_enter Try.func66, Try.ntmps66
  go_wp2_with (rw [← Hw.out]; go_at_call 75; refine (box_find.calls a0_0 _ _ _ l0_1 a1 f1 f2 f3 f4 _ _ HV2.out HF.out).mono ?_; rintro e w1 ⟨v3, rfl, hv3, hb1⟩; obtain ⟨A3, c3, rfl⟩ := Kd.V_slice hv3; clear hv3; have hlt5 : w.heap.size < w1.heap.size := (by have := hb1.size; have := Hs2.out; omega); have hlt10 : w.heap.size + 1 < w1.heap.size := (by have := hb1.size; have := Hs2.out; omega); have B5 := Aside0.mk (blk_below Hb1.out hb1); have B10 := Aside0.mk (blk_below Hb2.out hb1); have HV3 := Aside0.mk (Kd.V_below HV2.out hb1); have HB3 := Aside0.mk (HB2.out.trans (hb1.mono (by have := Hs2.out; omega))); clear hb1; have q0 : w1.cell? ⟨w.heap.size, 0, none⟩ = some (.int .i64 a0_0) := (blk_cell B5.out 0).trans rfl; have q1 : w1.cell? ⟨w.heap.size, 1, none⟩ = some (.slice A0_1 l0_1.length c0_1) := (blk_cell B5.out 1).trans rfl; have p0 : w1.cell? ⟨w.heap.size + 1, 0, none⟩ = some (.int .i64 0) := (blk_cell B10.out 0).trans rfl; have p1 : w1.cell? ⟨w.heap.size + 1, 1, none⟩ = some (.slice none 0 0) := (blk_cell B10.out 1).trans rfl; have g0 := blk_frozen B10.out 0; have g1 := blk_frozen B10.out 1)
  refine bodyPost_ret (results_ct rfl _ _ (w.heap.size + 1) 30 #[.int .i64 a0_0, .slice A0_1 l0_1.length c0_1] (0, 0) _ rfl (by refine blk_alloc ?_ _; refine blk_put (cs := #[.int .i64 a0_0, .slice none 0 0]) ?_ 1 _ rfl; exact blk_put (cs := #[.int .i64 0, .slice none 0 0]) B10.out 0 _ rfl) Try.underlying30 rfl (by kernel_rfl)) rfl ?_
  have hg : w.heap.size ≤ w.heap.size + 1 := by omega
  have hne : ∀ k, P0_1_ k ∧ k < w.heap.size → k ≠ w.heap.size + 1 := fun k hk => by have := hk.2; omega
  exact ⟨_, rfl, Kd.V_alloc (Kd.V_mono (Kd.V_far (p := ⟨w.heap.size + 1, 1, none⟩) (Kd.V_far (p := ⟨w.heap.size + 1, 0, none⟩) HV3.out hne _) hne _) (fun k hk => .inl hk.1)) _, below_alloc (below_set (below_set HB3.out hg) hg) _⟩

 rw [if_neg c2] at h
 have c2b : decide (0 ≤ bfind.pos a1 l0_1) = false := decide_eq_false c2
 rw [c2b] at HF
 clear c1 c2 c2b
 have HL := Aside0.mk hl4
 clear hl4
 obtain ⟨t, ht⟩ : ∃ t, t = wrap64 (a0_0 - (l0_1.length : Int)) := ⟨_, rfl⟩
 rw [← ht] at h
 have HT := Aside0.mk (show box_Free.f a0_0 l0_1 = some t by rw [ht]; rfl)
 clear ht
 by_cases c3 : t < 1
 ·
  rw [if_pos c3] at h
  simp only [Option.some.injEq, Prod.mk.injEq] at h
  obtain ⟨rfl, rfl, rfl⟩ := h
  have c3b : decide (t < 1) = true := decide_eq_true c3
  clear c3
  go_enter Try.func66, Try.ntmps66
  go_wp2_with (first | (rw [← Hw.out]; go_at_call 75; refine (box_find.calls a0_0 _ _ _ l0_1 a1 f1 f2 f3 f4 _ _ HV2.out HF.out).mono ?_; rintro e w1 ⟨v3, rfl, hv3, hb1⟩; obtain ⟨A3, c3, rfl⟩ := Kd.V_slice hv3; clear hv3; have hlt5 : w.heap.size < w1.heap.size := (by have := hb1.size; have := Hs2.out; omega); have hlt10 : w.heap.size + 1 < w1.heap.size := (by have := hb1.size; have := Hs2.out; omega); have B5 := Aside0.mk (blk_below Hb1.out hb1); have B10 := Aside0.mk (blk_below Hb2.out hb1); have HV3 := Aside0.mk (Kd.V_below HV2.out hb1); have HB3 := Aside0.mk (HB2.out.trans (hb1.mono (by have := Hs2.out; omega))); clear hb1; have q0 : w1.cell? ⟨w.heap.size, 0, none⟩ = some (.int .i64 a0_0) := (blk_cell B5.out 0).trans rfl; have q1 : w1.cell? ⟨w.heap.size, 1, none⟩ = some (.slice A0_1 l0_1.length c0_1) := (blk_cell B5.out 1).trans rfl; have p0 : w1.cell? ⟨w.heap.size + 1, 0, none⟩ = some (.int .i64 0) := (blk_cell B10.out 0).trans rfl; have p1 : w1.cell? ⟨w.heap.size + 1, 1, none⟩ = some (.slice none 0 0) := (blk_cell B10.out 1).trans rfl; have g0 := blk_frozen B10.out 0; have g1 := blk_frozen B10.out 1) | (go_at_call 76; refine (box_Free.calls a0_0 _ _ l0_1 t _ (Kd.C_alloc (Kd.V_reads' HV3.out).2.2 _) (Kd.V_reads' HV3.out).2.1 HT.out).mono ?_; rintro e w2 ⟨rfl, hb2⟩; have hB12 := Aside0.mk (below_alloc (Below.refl w1.heap.size w1) _ |>.trans (hb2.mono (by simp))); have hB2w := Aside0.mk (hb2); have hlt5' : w.heap.size < w2.heap.size := (by have := hB12.out.size; omega); have hlt10' : w.heap.size + 1 < w2.heap.size := (by have := hB12.out.size; omega); clear hlt5 hlt10 q0 q1 p0 p1 g0 g1 hb2; have B5' := Aside0.mk (blk_below B5.out hB12.out); have B10' := Aside0.mk (blk_below B10.out hB12.out); have HV4 := Aside0.mk (Kd.V_below HV3.out hB12.out); have HB4 := Aside0.mk (HB3.out.trans (hB12.out.mono HB3.out.size)); have q0 : w2.cell? ⟨w.heap.size, 0, none⟩ = some (.int .i64 a0_0) := (blk_cell B5'.out 0).trans rfl; have q1 : w2.cell? ⟨w.heap.size, 1, none⟩ = some (.slice A0_1 l0_1.length c0_1) := (blk_cell B5'.out 1).trans rfl; have p0 : w2.cell? ⟨w.heap.size + 1, 0, none⟩ = some (.int .i64 0) := (blk_cell B10'.out 0).trans rfl; have p1 : w2.cell? ⟨w.heap.size + 1, 1, none⟩ = some (.slice none 0 0) := (blk_cell B10'.out 1).trans rfl; have g0 := blk_frozen B10'.out 0; have g1 := blk_frozen B10'.out 1))
  refine bodyPost_ret (results_ct rfl _ _ (w.heap.size + 1) 30 #[.int .i64 a0_0, .slice A0_1 l0_1.length c0_1] (0, 0) _ rfl (by refine blk_put (cs := #[.int .i64 a0_0, .slice none 0 0]) ?_ 1 _ rfl; exact blk_put (cs := #[.int .i64 0, .slice none 0 0]) B10'.out 0 _ rfl) Try.underlying30 rfl (by kernel_rfl)) rfl ?_
  have hg : w.heap.size ≤ w.heap.size + 1 := by omega
  have hne : ∀ k, P0_1_ k ∧ k < w.heap.size → k ≠ w.heap.size + 1 := fun k hk => by have := hk.2; omega
  exact ⟨_, rfl, (Kd.V_mono (Kd.V_far (p := ⟨w.heap.size + 1, 1, none⟩) (Kd.V_far (p := ⟨w.heap.size + 1, 0, none⟩) HV4.out hne _) hne _) (fun k hk => .inl hk.1)), (below_set (below_set HB4.out hg) hg)⟩

 rw [if_neg c3] at h
 have c3b : decide (t < 1) = false := decide_eq_false c3
 clear c3
 by_cases c4 : ¬ l0_1.length < 1000000
 ·
  rw [if_neg c4] at h; cases h
 replace c4 := Decidable.not_not.mp c4
 rw [if_pos c4] at h
 have HM := Aside0.mk c4
 have HCAT := Aside0.mk (show api_Sealed_77.f 100 [l0_1, [(⟨a1, a2, a3, l4⟩ : S92)]] = some (l0_1 ++ [(⟨a1, a2, a3, l4⟩ : S92)]) by rw [bseal.concat_eq _ 100 (by simp) (by simp; omega) (by simp)]; simp)
 have HCL := Aside0.mk (show slices_Clone_uint32_uint32_61.f l4 = some l4 by unfold slices_Clone_uint32_uint32_61.f; rw [Option.bind_some, if_pos (by have := HL.out; simp; omega)]; rfl)
 simp only [Option.some.injEq, Prod.mk.injEq] at h
 obtain ⟨rfl, rfl, rfl⟩ := h
 clear c4
 go_enter Try.func66, Try.ntmps66
 go_wp2_with (first | (rw [← Hw.out]; go_at_call 75; refine (box_find.calls a0_0 _ _ _ l0_1 a1 f1 f2 f3 f4 _ _ HV2.out HF.out).mono ?_; rintro e w1 ⟨v3, rfl, hv3, hb1⟩; obtain ⟨A3, c3, rfl⟩ := Kd.V_slice hv3; clear hv3; have hlt5 : w.heap.size < w1.heap.size := (by have := hb1.size; have := Hs2.out; omega); have hlt10 : w.heap.size + 1 < w1.heap.size := (by have := hb1.size; have := Hs2.out; omega); have B5 := Aside0.mk (blk_below Hb1.out hb1); have B10 := Aside0.mk (blk_below Hb2.out hb1); have HV3 := Aside0.mk (Kd.V_below HV2.out hb1); have HB3 := Aside0.mk (HB2.out.trans (hb1.mono (by have := Hs2.out; omega))); clear hb1; have q0 : w1.cell? ⟨w.heap.size, 0, none⟩ = some (.int .i64 a0_0) := (blk_cell B5.out 0).trans rfl; have q1 : w1.cell? ⟨w.heap.size, 1, none⟩ = some (.slice A0_1 l0_1.length c0_1) := (blk_cell B5.out 1).trans rfl; have p0 : w1.cell? ⟨w.heap.size + 1, 0, none⟩ = some (.int .i64 0) := (blk_cell B10.out 0).trans rfl; have p1 : w1.cell? ⟨w.heap.size + 1, 1, none⟩ = some (.slice none 0 0) := (blk_cell B10.out 1).trans rfl; have g0 := blk_frozen B10.out 0; have g1 := blk_frozen B10.out 1) | (go_at_call 76; refine (box_Free.calls a0_0 _ _ l0_1 t _ (Kd.C_alloc (Kd.V_reads' HV3.out).2.2 _) (Kd.V_reads' HV3.out).2.1 HT.out).mono ?_; rintro e w2 ⟨rfl, hb2⟩; have hB12 := Aside0.mk (below_alloc (Below.refl w1.heap.size w1) _ |>.trans (hb2.mono (by simp))); have hB2w := Aside0.mk (hb2); have hlt5' : w.heap.size < w2.heap.size := (by have := hB12.out.size; omega); have hlt10' : w.heap.size + 1 < w2.heap.size := (by have := hB12.out.size; omega); clear hlt5 hlt10 q0 q1 p0 p1 g0 g1 hb2; have B5' := Aside0.mk (blk_below B5.out hB12.out); have B10' := Aside0.mk (blk_below B10.out hB12.out); have HV4 := Aside0.mk (Kd.V_below HV3.out hB12.out); have HB4 := Aside0.mk (HB3.out.trans (hB12.out.mono HB3.out.size)); have q0 : w2.cell? ⟨w.heap.size, 0, none⟩ = some (.int .i64 a0_0) := (blk_cell B5'.out 0).trans rfl; have q1 : w2.cell? ⟨w.heap.size, 1, none⟩ = some (.slice A0_1 l0_1.length c0_1) := (blk_cell B5'.out 1).trans rfl; have p0 : w2.cell? ⟨w.heap.size + 1, 0, none⟩ = some (.int .i64 0) := (blk_cell B10'.out 0).trans rfl; have p1 : w2.cell? ⟨w.heap.size + 1, 1, none⟩ = some (.slice none 0 0) := (blk_cell B10'.out 1).trans rfl; have g0 := blk_frozen B10'.out 0; have g1 := blk_frozen B10'.out 1) | (go_at_call 61; refine (slices_Clone_uint32_uint32_61.calls A4 c4 l4 l4 _ (Kd.C_below HR4.out HB4.out) HC4.out HCL.out).mono ?_; rintro e w3 ⟨v5, rfl, ho5, hb3⟩; have HO5 := Aside0.mk (Kd.R_mono (ok' := fun k => (P0_1_ k ∧ k < w.heap.size) ∨ w.heap.size + 1 < k) (Kd.R_bound ho5) (fun k hk => .inr (by have := hk.2.1; omega))); obtain ⟨A5, c5, rfl⟩ := Kd.R_slice ho5; clear ho5; have HLT := Aside0.mk (show w.heap.size + 1 < w3.heap.size by have := hb3.size; omega); clear hlt5' hlt10' q0 q1 p0 p1 g0 g1; have B5'' := Aside0.mk (blk_below B5'.out hb3); have B10'' := Aside0.mk (blk_below B10'.out hb3); have HV5 := Aside0.mk (Kd.V_below HV4.out hb3); have HB5 := Aside0.mk (HB4.out.trans (hb3.mono HB4.out.size)); clear hb3; have hlt5'' : w.heap.size < w3.heap.size := (by have := HLT.out; omega); have hlt10'' : w.heap.size + 1 < w3.heap.size := HLT.out; have q0 : w3.cell? ⟨w.heap.size, 0, none⟩ = some (.int .i64 a0_0) := (blk_cell B5''.out 0).trans rfl; have q1 : w3.cell? ⟨w.heap.size, 1, none⟩ = some (.slice A0_1 l0_1.length c0_1) := (blk_cell B5''.out 1).trans rfl) | (go_at_call 77; refine (api_Sealed_77.calls 100 _ _ _ [l0_1, [(⟨a1, a2, a3, l4⟩ : S92)]] (l0_1 ++ [(⟨a1, a2, a3, l4⟩ : S92)]) _ (bseal.rows w w3 P0_1_ _ _ A0_1 c0_1 l0_1 a1 a2 a3 A5 c5 l4 HV5.out HO5.out HLT.out _) HCAT.out).mono ?_; rintro e w7 ⟨v7, rfl, ho7, hb7⟩; obtain ⟨A7, c7, e7⟩ := Kd.N_slice ho7; subst e7; rw [show (l0_1 ++ [(⟨a1, a2, a3, l4⟩ : S92)]).length = l0_1.length + 1 from by simp] at ho7; have HB7 := Aside0.mk (show Below w3.heap.size w3 w7 from (below_alloc (below_alloc (below_alloc (Below.refl _ _) _) _) _).trans (hb7.mono (by simp; omega))); have HO7 := Aside0.mk (Kd.V_mono (ok' := fun k => (P0_1_ k ∧ k < w.heap.size) ∨ w.heap.size + 1 < k) (Kd.N_V (base' := w.heap.size) ho7) (fun k hk => by rcases hk with hk | hk; (exact hk); (refine .inr ?_; have := HLT.out; simp at hk; omega))); clear ho7 hb7 hlt5'' hlt10'' q0 q1; have B5c := Aside0.mk (blk_below B5''.out HB7.out); have B10c := Aside0.mk (blk_below B10''.out HB7.out); have q0 : w7.cell? ⟨w.heap.size, 0, none⟩ = some (.int .i64 a0_0) := (blk_cell B5c.out 0).trans rfl; have q1 : w7.cell? ⟨w.heap.size, 1, none⟩ = some (.slice A0_1 l0_1.length c0_1) := (blk_cell B5c.out 1).trans rfl; have z0 := blk_frozen B5c.out 0; have z1 := blk_frozen B5c.out 1; have p0 : w7.cell? ⟨w.heap.size + 1, 0, none⟩ = some (.int .i64 0) := (blk_cell B10c.out 0).trans rfl; have p1 : w7.cell? ⟨w.heap.size + 1, 1, none⟩ = some (.slice none 0 0) := (blk_cell B10c.out 1).trans rfl; have g0 := blk_frozen B10c.out 0; have g1 := blk_frozen B10c.out 1))
 refine bodyPost_ret (results_ct rfl _ _ (w.heap.size + 1) 30 #[.int .i64 a0_0, .slice A7 (l0_1.length + 1) c7] (0, 0) _ rfl (by refine blk_put (cs := #[.int .i64 a0_0, .slice none 0 0]) ?_ 1 _ rfl; refine blk_put (cs := #[.int .i64 0, .slice none 0 0]) ?_ 0 _ rfl; exact blk_far B10c.out (by simp) _) Try.underlying30 rfl (by kernel_rfl)) rfl ?_
 have hg : w.heap.size ≤ w.heap.size + 1 := by omega
 have hne5 : ∀ k, ((P0_1_ k ∧ k < w.heap.size) ∨ w.heap.size + 1 < k) → k ≠ w.heap.size := fun k hk => by omega
 have hne : ∀ k, ((P0_1_ k ∧ k < w.heap.size) ∨ w.heap.size + 1 < k) → k ≠ w.heap.size + 1 := fun k hk => by omega
 exact ⟨_, rfl, Kd.V_mono (Kd.V_far (p := ⟨w.heap.size + 1, 1, none⟩) (Kd.V_far (p := ⟨w.heap.size + 1, 0, none⟩) (Kd.V_far (p := ⟨w.heap.size, 1, none⟩) HO7.out hne5 _) hne _) hne _) (fun k hk => by rcases hk with hk | hk; (exact .inl hk.1); (exact .inr (by omega))), below_set (below_set (below_set (HB5.out.trans (HB7.out.mono (by have := HLT.out; omega))) (Nat.le_refl _)) hg) hg⟩

end Go.Proofs.Ythlcpbendleihaa.PAdvAlone
