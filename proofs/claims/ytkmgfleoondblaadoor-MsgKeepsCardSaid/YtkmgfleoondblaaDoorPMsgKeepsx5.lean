-- Written for this claim by wip/tools/myprint.py (print.py's forms; proofs of the faked functions by hand).
import Derived.Test.YtkmgfleoondblaaDoorPMsgKeepsx1
import Derived.Test.YtkmgfleoondblaaDoorPMsgKeepsx3
import Derived.Test.YtkmgfleoondblaaDoorPMsgKeepsx0
import Derived.Test.YtkmgfleoondblaaDoorPMsgKeepsx2
import Derived.Test.YtkmgfleoondblaaDoorPMsgKeepsx4
namespace Go.Proofs.YtkmgfleoondblaaDoor.PMsgKeeps
open Go.RowKit Go.Proofs.YtkmgfleoondblaaDoorW.PrintWords Go.Proofs.YtkmgfleoondblaaDoorW.PrintLast Go.Proofs.YtkmgfleoondblaaDoorW.PrintMore
attribute [local go_sem] max2_int min2_int max_two min_two max_three min_three max_four min_four   -- for this text's walks alone
set_option linter.unusedVariables false
set_option linter.unusedSimpArgs false

/-! ### chamberlainref03_Get: function 15 -/
/-- The reference's round: the fields from a place on, and, behind the last one, the message put again. -/
def rget.l : Nat → List Int → List S45 → Int → Int → Int → Int → Int → Int → Int → Int → Option (Int × Int × Int × Int × Int × Int × Int × Int)
  | 0, _, _, _, _, _, _, _, _, _, _ => none
  | K + 1, l, fs, x, v, r, a, b, n, y, m => if x < (fs.length : Int) then (if 0 ≤ x then (if (rd_T45 fs x).f1.length = 1 then ((chamberlainref03_Has.f K v (rd_T45 fs x).f0).bind fun s => if s = true then rget.l K l fs (wrap64 (x + 1)) v (if (rd_T45 fs x).f0 = 2 then rd (rd_T45 fs x).f1 0 else r) (if (rd_T45 fs x).f0 = 3 then rd (rd_T45 fs x).f1 0 else a) (if (rd_T45 fs x).f0 = 4 then rd (rd_T45 fs x).f1 0 else b) (if (rd_T45 fs x).f0 = 5 then rd (rd_T45 fs x).f1 0 else n) (if (rd_T45 fs x).f0 = 6 then rd (rd_T45 fs x).f1 0 else y) (if (rd_T45 fs x).f0 = 7 then rd (rd_T45 fs x).f1 0 else m) else some (0, 0, 0, 0, 0, 0, 0, 2)) else some (0, 0, 0, 0, 0, 0, 0, 2)) else none) else ((chamberlainref03_Put.f K v r a b n y m).bind fun z => (chamberlainref01_Same.f K z.1 l).bind fun s => if s = true then some (v, r, a, b, n, y, m, 0) else some (0, 0, 0, 0, 0, 0, 0, 2))
def rget.top (K : Nat) (l : List Int) (fs : List S45) : Option (Int × Int × Int × Int × Int × Int × Int × Int) := match fs with
  | [] => some (0, 0, 0, 0, 0, 0, 0, 4)
  | f :: ft => if f.f0 = 1 ∧ f.f1.length = 1 ∧ 1 ≤ rd f.f1 0 ∧ rd f.f1 0 ≤ 9 then rget.l K l (f :: ft) 1 (rd f.f1 0) 0 0 0 0 0 0 else some (0, 0, 0, 0, 0, 0, 0, 4)
def chamberlainref03_Get.f (k : Nat) (l0 : List Int) : Option (Int × Int × Int × Int × Int × Int × Int × Int) := (chamberlainref02_Get.f k l0).bind fun y => if y.2 = 0 then rget.top k l0 y.1 else some (0, 0, 0, 0, 0, 0, 0, y.2)
theorem rget.mono : ∀ k l fs x v r a b n y m, LeO (rget.l k l fs x v r a b n y m) (rget.l (k + 1) l fs x v r a b n y m)
  | 0 => fun _ _ _ _ _ _ _ _ _ _ _ h => by simp [rget.l] at h
  | k + 1 => fun l fs x v r a b n y m => by
    have ih := rget.mono k
    unfold rget.l
    refine LeO.ite (LeO.ite (LeO.ite (LeO.bind (chamberlainref03_Has.mono _ _ k) (fun s => LeO.ite (ih _ _ _ _ _ _ _ _ _ _) (LeO.refl _))) (LeO.refl _)) (LeO.refl _)) (LeO.bind (chamberlainref03_Put.mono _ _ _ _ _ _ _ k) (fun z => LeO.bind (chamberlainref01_Same.mono _ _ k) (fun s => LeO.refl _)))
theorem chamberlainref03_Get.mono : ∀ a0 k, LeO (chamberlainref03_Get.f k a0) (chamberlainref03_Get.f (k + 1) a0) := by
  intro a0 k
  unfold chamberlainref03_Get.f
  refine LeO.bind (chamberlainref02_Get.mono a0 k) (fun y => LeO.ite ?_ (LeO.refl _))
  unfold rget.top
  cases y.1 with
  | nil => exact LeO.refl _
  | cons f ft => exact LeO.ite (rget.mono k _ _ _ _ _ _ _ _ _ _) (LeO.refl _)
/-- An element of a row of fields, read. -/
theorem rget.at {W : World} {base : Nat} {ok : Nat → Prop} {A : Option Addr} {c : Nat} {fs : List S45} (h : Kd.V k45 45 W base ok (.slice A fs.length c) fs) (x : Int) (h0 : 0 ≤ x) (h1 : x < (fs.length : Int)) :
    ∃ ad A1 c1, A = some ad ∧ W.cell? (ad.add (x.toNat * 2)) = some (.int .u32 (rd_T45 fs x).f0) ∧ W.cell? ⟨(ad.add (x.toNat * 2)).block, (ad.add (x.toNat * 2)).off + 1, none⟩ = some (.slice A1 (rd_T45 fs x).f1.length c1) ∧ (Kd.int .u32).C W A1 (rd_T45 fs x).f1.length (rd_T45 fs x).f1 := by
  obtain ⟨_, hc, hC⟩ := Kd.V_reads' h
  obtain ⟨ad, A1, c1, e, q0, q1, _, hi⟩ := at_T45 hC x h0 h1
  exact ⟨ad, A1, c1, e, q0, q1, hi⟩
set_option maxHeartbeats 8000000 in
set_option maxRecDepth 100000 in
theorem chamberlainref03_Get.calls (k : Nat) (A0 : Option Addr) (c0 : Nat) (l0 : List Int) (r1 : Int) (r2 : Int) (r3 : Int) (r4 : Int) (r5 : Int) (r6 : Int) (r7 : Int) (r8 : Int) (w : World) (hr0 : Kd.C (Kd.int .u32) w A0 l0.length l0) (hc0 : l0.length ≤ c0) (h : chamberlainref03_Get.f k l0 = some (r1, r2, r3, r4, r5, r6, r7, r8)) :
    Calls Tryd.prog 15 #[.slice A0 l0.length c0] w fun e w' => e = .returned (.tuple #[.agg #[.int .u32 r1, .int .u32 r2, .int .u32 r3, .int .u32 r4, .int .u32 r5, .int .u32 r6, .int .u32 r7], .int .i64 r8]) ∧ Below w.heap.size w w' := by
  unfold chamberlainref03_Get.f at h
  obtain ⟨⟨fs, er⟩, hg, h⟩ := Option.bind_eq_some_iff.mp h
  simp only at h
  have AG := Aside0.mk hg
  clear hg
  have AR0 := Aside0.mk hr0
  clear hr0
  go_enter Tryd.func15, Tryd.ntmps15
  go_wp2_with (first | ((with_reducible refine gate_dst (N := 2) rfl ?_); refine box_event ?hg (N := 2) ?hd (cs := #[.int .u32 0, .int .u32 0, .int .u32 0, .int .u32 0, .int .u32 0, .int .u32 0, .int .u32 0]) (t := 24) ?hr ?_; (case hd => rfl); (case hg => rfl); (case hr => first | (go_simp; done) | (go_simp; rfl)); intro gr hgr W0 BR HB; have HBgr : w.heap.size ≤ gr := Nat.le_of_eq hgr.symm; clear hgr; have kr0_ : W0.cell? ⟨gr, 0, none⟩ = some (.int .u32 0) := (blk_cell BR 0).trans rfl; have zkr0_ := blk_frozen BR 0; have kr1_ : W0.cell? ⟨gr, 1, none⟩ = some (.int .u32 0) := (blk_cell BR 1).trans rfl; have zkr1_ := blk_frozen BR 1; have kr2_ : W0.cell? ⟨gr, 2, none⟩ = some (.int .u32 0) := (blk_cell BR 2).trans rfl; have zkr2_ := blk_frozen BR 2; have kr3_ : W0.cell? ⟨gr, 3, none⟩ = some (.int .u32 0) := (blk_cell BR 3).trans rfl; have zkr3_ := blk_frozen BR 3; have kr4_ : W0.cell? ⟨gr, 4, none⟩ = some (.int .u32 0) := (blk_cell BR 4).trans rfl; have zkr4_ := blk_frozen BR 4; have kr5_ : W0.cell? ⟨gr, 5, none⟩ = some (.int .u32 0) := (blk_cell BR 5).trans rfl; have zkr5_ := blk_frozen BR 5; have kr6_ : W0.cell? ⟨gr, 6, none⟩ = some (.int .u32 0) := (blk_cell BR 6).trans rfl; have zkr6_ := blk_frozen BR 6))
  refine (chamberlainref02_Get.calls k A0 c0 l0 fs er _ (Kd.C_below AR0.out HB) hc0 AG.out).mono ?_
  rintro e W1 ⟨vf, rfl, hS, hb_⟩
  have hV : Kd.V k45 45 W1 0 (fun k => k ≠ gr ∧ k < W1.heap.size) vf fs := Kd.V_mono (Kd.V_bound (Kd.S_V (base' := 0) (Kd.S_types hS (blk_below BR hb_) (by decide)))) (fun k hk => ⟨hk.1.2, hk.2⟩)
  obtain ⟨Af, cf, ev⟩ := Kd.V_slice hV
  subst ev
  clear hS
  have wgr : w.heap.size ≤ gr := HBgr
  replace BR := blk_below BR hb_
  replace HB := HB.trans (hb_.mono HB.size)
  clear hb_
  (try clear kr0_); (try clear zkr0_); (try clear kr1_); (try clear zkr1_); (try clear kr2_); (try clear zkr2_); (try clear kr3_); (try clear zkr3_); (try clear kr4_); (try clear zkr4_); (try clear kr5_); (try clear zkr5_); (try clear kr6_); (try clear zkr6_)
  have kr0_ : W1.cell? ⟨gr, 0, none⟩ = some (.int .u32 0) := (blk_cell BR 0).trans rfl; have zkr0_ := blk_frozen BR 0; have kr1_ : W1.cell? ⟨gr, 1, none⟩ = some (.int .u32 0) := (blk_cell BR 1).trans rfl; have zkr1_ := blk_frozen BR 1; have kr2_ : W1.cell? ⟨gr, 2, none⟩ = some (.int .u32 0) := (blk_cell BR 2).trans rfl; have zkr2_ := blk_frozen BR 2; have kr3_ : W1.cell? ⟨gr, 3, none⟩ = some (.int .u32 0) := (blk_cell BR 3).trans rfl; have zkr3_ := blk_frozen BR 3; have kr4_ : W1.cell? ⟨gr, 4, none⟩ = some (.int .u32 0) := (blk_cell BR 4).trans rfl; have zkr4_ := blk_frozen BR 4; have kr5_ : W1.cell? ⟨gr, 5, none⟩ = some (.int .u32 0) := (blk_cell BR 5).trans rfl; have zkr5_ := blk_frozen BR 5; have kr6_ : W1.cell? ⟨gr, 6, none⟩ = some (.int .u32 0) := (blk_cell BR 6).trans rfl; have zkr6_ := blk_frozen BR 6
  by_cases he : er = 0
  rotate_left
  · rw [if_neg he] at h
    simp only [Option.some.injEq, Prod.mk.injEq] at h
    obtain ⟨rfl, rfl, rfl, rfl, rfl, rfl, rfl, rfl⟩ := h
    have e1 : (er != 0) = true := bne_iff_ne.mpr he
    have e2 : (er == 0) = false := beq_eq_false_iff_ne.mpr he
    clear he hV
    go_wp2_with (first | ((with_reducible refine gate_store (t := 24) (p := 2) rfl ?_); refine store_event (t := 24) (p := 2) (v := ?voe1_) (w1 := (((((((W1.setCell ⟨gr, 0, none⟩ (.int .u32 0)).setCell ⟨gr, 1, none⟩ (.int .u32 0)).setCell ⟨gr, 2, none⟩ (.int .u32 0)).setCell ⟨gr, 3, none⟩ (.int .u32 0)).setCell ⟨gr, 4, none⟩ (.int .u32 0)).setCell ⟨gr, 5, none⟩ (.int .u32 0)).setCell ⟨gr, 6, none⟩ (.int .u32 0))) ?hg ?ho ?hn ?hr ?_; (case ho => rfl); (case hg => rfl); (case hn => rfl); (case hr => first | (go_simp; done) | (go_simp; rfl)); intro W2 hw; have BR_ := (by rw [hw]; exact bp7_ BR : W2.heap[gr]? = some (.cells #[.int .u32 0, .int .u32 0, .int .u32 0, .int .u32 0, .int .u32 0, .int .u32 0, .int .u32 0] 24 (0, 0))); have HB_ := (by rw [hw]; exact (below_set (below_set (below_set (below_set (below_set (below_set (below_set HB wgr) wgr) wgr) wgr) wgr) wgr) wgr) : Below w.heap.size w W2); clear hw HB BR; have HB := HB_; have BR := BR_; clear HB_ BR_; (try clear kr0_); (try clear zkr0_); (try clear kr1_); (try clear zkr1_); (try clear kr2_); (try clear zkr2_); (try clear kr3_); (try clear zkr3_); (try clear kr4_); (try clear zkr4_); (try clear kr5_); (try clear zkr5_); (try clear kr6_); (try clear zkr6_)))
    refine bodyPost_ret (results_ct rfl _ _ gr 24 #[.int .u32 0, .int .u32 0, .int .u32 0, .int .u32 0, .int .u32 0, .int .u32 0, .int .u32 0] (0, 0) _ rfl BR Tryd.underlying24 rfl (by kernel_rfl)) rfl ?_
    exact ⟨rfl, HB⟩
  subst he
  rw [if_pos rfl] at h
  cases fs with
  | nil =>
    unfold rget.top at h
    simp only [Option.some.injEq, Prod.mk.injEq] at h
    obtain ⟨rfl, rfl, rfl, rfl, rfl, rfl, rfl, rfl⟩ := h
    simp only [List.length_nil]
    go_wp2_with (first | ((with_reducible refine gate_store (t := 24) (p := 2) rfl ?_); refine store_event (t := 24) (p := 2) (v := ?voe2_) (w1 := (((((((W1.setCell ⟨gr, 0, none⟩ (.int .u32 0)).setCell ⟨gr, 1, none⟩ (.int .u32 0)).setCell ⟨gr, 2, none⟩ (.int .u32 0)).setCell ⟨gr, 3, none⟩ (.int .u32 0)).setCell ⟨gr, 4, none⟩ (.int .u32 0)).setCell ⟨gr, 5, none⟩ (.int .u32 0)).setCell ⟨gr, 6, none⟩ (.int .u32 0))) ?hg ?ho ?hn ?hr ?_; (case ho => rfl); (case hg => rfl); (case hn => rfl); (case hr => first | (go_simp; done) | (go_simp; rfl)); intro W3 hw; have BR_ := (by rw [hw]; exact bp7_ BR : W3.heap[gr]? = some (.cells #[.int .u32 0, .int .u32 0, .int .u32 0, .int .u32 0, .int .u32 0, .int .u32 0, .int .u32 0] 24 (0, 0))); have HB_ := (by rw [hw]; exact (below_set (below_set (below_set (below_set (below_set (below_set (below_set HB wgr) wgr) wgr) wgr) wgr) wgr) wgr) : Below w.heap.size w W3); clear hw HB BR; have HB := HB_; have BR := BR_; clear HB_ BR_; (try clear kr0_); (try clear zkr0_); (try clear kr1_); (try clear zkr1_); (try clear kr2_); (try clear zkr2_); (try clear kr3_); (try clear zkr3_); (try clear kr4_); (try clear zkr4_); (try clear kr5_); (try clear zkr5_); (try clear kr6_); (try clear zkr6_)))
    refine bodyPost_ret (results_ct rfl _ _ gr 24 #[.int .u32 0, .int .u32 0, .int .u32 0, .int .u32 0, .int .u32 0, .int .u32 0, .int .u32 0] (0, 0) _ rfl BR Tryd.underlying24 rfl (by kernel_rfl)) rfl ?_
    exact ⟨rfl, HB⟩
  | cons f ft =>
  dsimp only [rget.top] at h
  obtain ⟨ad, A1, c1, eA, hx0, hx0', hx1, hx1', hi1⟩ := msg.first hV
  subst eA
  obtain ⟨fs, hfs⟩ : ∃ fs, fs = f :: ft := ⟨_, rfl⟩
  rw [← hfs] at hV h ⊢
  obtain ⟨N, hN⟩ : ∃ N, N = fs.length := ⟨_, rfl⟩
  have hNp : 1 ≤ N := by rw [hN, hfs, List.length_cons]; omega
  rw [← hN]
  have n0 : ((N : Int) == 0) = false := beq_eq_false_iff_ne.mpr (by omega)
  have n1 : (N == 0) = false := beq_eq_false_iff_ne.mpr (by omega)
  have n2 : decide (N = 0) = false := decide_eq_false (by omega)
  have n3 : (0 < N) = True := eq_true (by omega)
  have n4 : ((0 : Int) < (N : Int)) = True := eq_true (by omega)
  replace hfs := Aside0.mk hfs
  replace hN := Aside0.mk hN
  by_cases c1_ : f.f0 = 1
  rotate_left
  · have hno : ¬ (f.f0 = 1 ∧ f.f1.length = 1 ∧ 1 ≤ rd f.f1 0 ∧ rd f.f1 0 ≤ 9) := fun q => by have := q.1; have := q.2.1; have := q.2.2.1; have := q.2.2.2; omega
    rw [if_neg hno] at h
    simp only [Option.some.injEq, Prod.mk.injEq] at h
    obtain ⟨rfl, rfl, rfl, rfl, rfl, rfl, rfl, rfl⟩ := h
    have e1 : (f.f0 != 1) = true := bne_iff_ne.mpr c1_
    have e2 : (f.f0 == 1) = false := beq_eq_false_iff_ne.mpr c1_
    clear hno hV
    go_wp2_with (first | ((with_reducible refine gate_store (t := 24) (p := 2) rfl ?_); refine store_event (t := 24) (p := 2) (v := ?voe3_) (w1 := (((((((W1.setCell ⟨gr, 0, none⟩ (.int .u32 0)).setCell ⟨gr, 1, none⟩ (.int .u32 0)).setCell ⟨gr, 2, none⟩ (.int .u32 0)).setCell ⟨gr, 3, none⟩ (.int .u32 0)).setCell ⟨gr, 4, none⟩ (.int .u32 0)).setCell ⟨gr, 5, none⟩ (.int .u32 0)).setCell ⟨gr, 6, none⟩ (.int .u32 0))) ?hg ?ho ?hn ?hr ?_; (case ho => rfl); (case hg => rfl); (case hn => rfl); (case hr => first | (go_simp; done) | (go_simp; rfl)); intro W4 hw; have BR_ := (by rw [hw]; exact bp7_ BR : W4.heap[gr]? = some (.cells #[.int .u32 0, .int .u32 0, .int .u32 0, .int .u32 0, .int .u32 0, .int .u32 0, .int .u32 0] 24 (0, 0))); have HB_ := (by rw [hw]; exact (below_set (below_set (below_set (below_set (below_set (below_set (below_set HB wgr) wgr) wgr) wgr) wgr) wgr) wgr) : Below w.heap.size w W4); clear hw HB BR; have HB := HB_; have BR := BR_; clear HB_ BR_; (try clear kr0_); (try clear zkr0_); (try clear kr1_); (try clear zkr1_); (try clear kr2_); (try clear zkr2_); (try clear kr3_); (try clear zkr3_); (try clear kr4_); (try clear zkr4_); (try clear kr5_); (try clear zkr5_); (try clear kr6_); (try clear zkr6_)))
    refine bodyPost_ret (results_ct rfl _ _ gr 24 #[.int .u32 0, .int .u32 0, .int .u32 0, .int .u32 0, .int .u32 0, .int .u32 0, .int .u32 0] (0, 0) _ rfl BR Tryd.underlying24 rfl (by kernel_rfl)) rfl ?_
    exact ⟨rfl, HB⟩
  rw [c1_] at hx0 hx0'
  by_cases c2_ : f.f1.length = 1
  rotate_left
  · have hno : ¬ (f.f0 = 1 ∧ f.f1.length = 1 ∧ 1 ≤ rd f.f1 0 ∧ rd f.f1 0 ≤ 9) := fun q => by have := q.1; have := q.2.1; have := q.2.2.1; have := q.2.2.2; omega
    rw [if_neg hno] at h
    simp only [Option.some.injEq, Prod.mk.injEq] at h
    obtain ⟨rfl, rfl, rfl, rfl, rfl, rfl, rfl, rfl⟩ := h
    have e1 : ((f.f1.length : Int) != 1) = true := bne_iff_ne.mpr (by omega)
    have e2 : (f.f1.length == 1) = false := beq_eq_false_iff_ne.mpr c2_
    have e3 : ((f.f1.length : Int) == 1) = false := beq_eq_false_iff_ne.mpr (by omega)
    have e4 : (f.f1.length != 1) = true := bne_iff_ne.mpr c2_
    clear hno hV
    go_wp2_with (first | ((with_reducible refine gate_store (t := 24) (p := 2) rfl ?_); refine store_event (t := 24) (p := 2) (v := ?voe4_) (w1 := (((((((W1.setCell ⟨gr, 0, none⟩ (.int .u32 0)).setCell ⟨gr, 1, none⟩ (.int .u32 0)).setCell ⟨gr, 2, none⟩ (.int .u32 0)).setCell ⟨gr, 3, none⟩ (.int .u32 0)).setCell ⟨gr, 4, none⟩ (.int .u32 0)).setCell ⟨gr, 5, none⟩ (.int .u32 0)).setCell ⟨gr, 6, none⟩ (.int .u32 0))) ?hg ?ho ?hn ?hr ?_; (case ho => rfl); (case hg => rfl); (case hn => rfl); (case hr => first | (go_simp; done) | (go_simp; rfl)); intro W4 hw; have BR_ := (by rw [hw]; exact bp7_ BR : W4.heap[gr]? = some (.cells #[.int .u32 0, .int .u32 0, .int .u32 0, .int .u32 0, .int .u32 0, .int .u32 0, .int .u32 0] 24 (0, 0))); have HB_ := (by rw [hw]; exact (below_set (below_set (below_set (below_set (below_set (below_set (below_set HB wgr) wgr) wgr) wgr) wgr) wgr) wgr) : Below w.heap.size w W4); clear hw HB BR; have HB := HB_; have BR := BR_; clear HB_ BR_; (try clear kr0_); (try clear zkr0_); (try clear kr1_); (try clear zkr1_); (try clear kr2_); (try clear zkr2_); (try clear kr3_); (try clear zkr3_); (try clear kr4_); (try clear zkr4_); (try clear kr5_); (try clear zkr5_); (try clear kr6_); (try clear zkr6_)))
    refine bodyPost_ret (results_ct rfl _ _ gr 24 #[.int .u32 0, .int .u32 0, .int .u32 0, .int .u32 0, .int .u32 0, .int .u32 0, .int .u32 0] (0, 0) _ rfl BR Tryd.underlying24 rfl (by kernel_rfl)) rfl ?_
    exact ⟨rfl, HB⟩
  rw [c2_] at hx1 hx1'
  obtain ⟨ad1, e1A, hy⟩ := Kd.at_int hi1 0 (by decide) (by rw [c2_]; decide)
  subst e1A
  obtain ⟨v, hv⟩ : ∃ v, v = rd f.f1 0 := ⟨_, rfl⟩
  rw [← hv] at hy h
  have hy : W1.cell? (ad1.add 0) = some (.int .u32 v) := hy
  have hy' : W1.cell? ad1 = some (.int .u32 v) := msg.add0 ad1 ▸ hy
  clear hi1
  by_cases c3_ : v < 1
  · have hno : ¬ (f.f0 = 1 ∧ f.f1.length = 1 ∧ 1 ≤ v ∧ v ≤ 9) := fun q => by have := q.1; have := q.2.1; have := q.2.2.1; have := q.2.2.2; omega
    rw [if_neg hno] at h
    simp only [Option.some.injEq, Prod.mk.injEq] at h
    obtain ⟨rfl, rfl, rfl, rfl, rfl, rfl, rfl, rfl⟩ := h
    have e1 : decide (v < 1) = true := decide_eq_true c3_
    clear hno hV
    go_wp2_with (first | ((with_reducible refine gate_store (t := 24) (p := 2) rfl ?_); refine store_event (t := 24) (p := 2) (v := ?voe5_) (w1 := (((((((W1.setCell ⟨gr, 0, none⟩ (.int .u32 0)).setCell ⟨gr, 1, none⟩ (.int .u32 0)).setCell ⟨gr, 2, none⟩ (.int .u32 0)).setCell ⟨gr, 3, none⟩ (.int .u32 0)).setCell ⟨gr, 4, none⟩ (.int .u32 0)).setCell ⟨gr, 5, none⟩ (.int .u32 0)).setCell ⟨gr, 6, none⟩ (.int .u32 0))) ?hg ?ho ?hn ?hr ?_; (case ho => rfl); (case hg => rfl); (case hn => rfl); (case hr => first | (go_simp; done) | (go_simp; rfl)); intro W5 hw; have BR_ := (by rw [hw]; exact bp7_ BR : W5.heap[gr]? = some (.cells #[.int .u32 0, .int .u32 0, .int .u32 0, .int .u32 0, .int .u32 0, .int .u32 0, .int .u32 0] 24 (0, 0))); have HB_ := (by rw [hw]; exact (below_set (below_set (below_set (below_set (below_set (below_set (below_set HB wgr) wgr) wgr) wgr) wgr) wgr) wgr) : Below w.heap.size w W5); clear hw HB BR; have HB := HB_; have BR := BR_; clear HB_ BR_; (try clear kr0_); (try clear zkr0_); (try clear kr1_); (try clear zkr1_); (try clear kr2_); (try clear zkr2_); (try clear kr3_); (try clear zkr3_); (try clear kr4_); (try clear zkr4_); (try clear kr5_); (try clear zkr5_); (try clear kr6_); (try clear zkr6_)))
    refine bodyPost_ret (results_ct rfl _ _ gr 24 #[.int .u32 0, .int .u32 0, .int .u32 0, .int .u32 0, .int .u32 0, .int .u32 0, .int .u32 0] (0, 0) _ rfl BR Tryd.underlying24 rfl (by kernel_rfl)) rfl ?_
    exact ⟨rfl, HB⟩
  have e3_ : decide (v < 1) = false := decide_eq_false c3_
  by_cases c4_ : 9 < v
  · have hno : ¬ (f.f0 = 1 ∧ f.f1.length = 1 ∧ 1 ≤ v ∧ v ≤ 9) := fun q => by have := q.1; have := q.2.1; have := q.2.2.1; have := q.2.2.2; omega
    rw [if_neg hno] at h
    simp only [Option.some.injEq, Prod.mk.injEq] at h
    obtain ⟨rfl, rfl, rfl, rfl, rfl, rfl, rfl, rfl⟩ := h
    have e1 : decide (9 < v) = true := decide_eq_true c4_
    have e2 : decide (v > 9) = true := decide_eq_true c4_
    clear hno hV
    go_wp2_with (first | ((with_reducible refine gate_store (t := 24) (p := 2) rfl ?_); refine store_event (t := 24) (p := 2) (v := ?voe6_) (w1 := (((((((W1.setCell ⟨gr, 0, none⟩ (.int .u32 0)).setCell ⟨gr, 1, none⟩ (.int .u32 0)).setCell ⟨gr, 2, none⟩ (.int .u32 0)).setCell ⟨gr, 3, none⟩ (.int .u32 0)).setCell ⟨gr, 4, none⟩ (.int .u32 0)).setCell ⟨gr, 5, none⟩ (.int .u32 0)).setCell ⟨gr, 6, none⟩ (.int .u32 0))) ?hg ?ho ?hn ?hr ?_; (case ho => rfl); (case hg => rfl); (case hn => rfl); (case hr => first | (go_simp; done) | (go_simp; rfl)); intro W15 hw; have BR_ := (by rw [hw]; exact bp7_ BR : W15.heap[gr]? = some (.cells #[.int .u32 0, .int .u32 0, .int .u32 0, .int .u32 0, .int .u32 0, .int .u32 0, .int .u32 0] 24 (0, 0))); have HB_ := (by rw [hw]; exact (below_set (below_set (below_set (below_set (below_set (below_set (below_set HB wgr) wgr) wgr) wgr) wgr) wgr) wgr) : Below w.heap.size w W15); clear hw HB BR; have HB := HB_; have BR := BR_; clear HB_ BR_; (try clear kr0_); (try clear zkr0_); (try clear kr1_); (try clear zkr1_); (try clear kr2_); (try clear zkr2_); (try clear kr3_); (try clear zkr3_); (try clear kr4_); (try clear zkr4_); (try clear kr5_); (try clear zkr5_); (try clear kr6_); (try clear zkr6_)))
    refine bodyPost_ret (results_ct rfl _ _ gr 24 #[.int .u32 0, .int .u32 0, .int .u32 0, .int .u32 0, .int .u32 0, .int .u32 0, .int .u32 0] (0, 0) _ rfl BR Tryd.underlying24 rfl (by kernel_rfl)) rfl ?_
    exact ⟨rfl, HB⟩
  have e4_ : decide (9 < v) = false := decide_eq_false c4_
  have e5_ : decide (v > 9) = false := decide_eq_false c4_
  rw [if_pos ⟨c1_, c2_, by omega, by omega⟩] at h
  have hres := h
  clear h
  go_wp2_with (first | ((with_reducible refine gate_dst (N := 6) rfl ?_); refine box_event ?hg (N := 6) ?hd (cs := #[.int .u32 0, .int .u32 0, .int .u32 0, .int .u32 0, .int .u32 0, .int .u32 0, .int .u32 0]) (t := 24) ?hr ?_; (case hd => rfl); (case hg => rfl); (case hr => first | (go_simp; done) | (go_simp; rfl)); intro gm hgm W6 BM hb_; have wgm : W1.heap.size ≤ gm := Nat.le_of_eq hgm.symm; have lrm : gr < gm := (by rw [hgm]; exact blk_lt BR); have HC : Below W1.heap.size W1 W6 := hb_; clear hgm hb_; have km0_ : W6.cell? ⟨gm, 0, none⟩ = some (.int .u32 0) := (blk_cell BM 0).trans rfl; have zkm0_ := blk_frozen BM 0; have km1_ : W6.cell? ⟨gm, 1, none⟩ = some (.int .u32 0) := (blk_cell BM 1).trans rfl; have zkm1_ := blk_frozen BM 1; have km2_ : W6.cell? ⟨gm, 2, none⟩ = some (.int .u32 0) := (blk_cell BM 2).trans rfl; have zkm2_ := blk_frozen BM 2; have km3_ : W6.cell? ⟨gm, 3, none⟩ = some (.int .u32 0) := (blk_cell BM 3).trans rfl; have zkm3_ := blk_frozen BM 3; have km4_ : W6.cell? ⟨gm, 4, none⟩ = some (.int .u32 0) := (blk_cell BM 4).trans rfl; have zkm4_ := blk_frozen BM 4; have km5_ : W6.cell? ⟨gm, 5, none⟩ = some (.int .u32 0) := (blk_cell BM 5).trans rfl; have zkm5_ := blk_frozen BM 5; have km6_ : W6.cell? ⟨gm, 6, none⟩ = some (.int .u32 0) := (blk_cell BM 6).trans rfl; have zkm6_ := blk_frozen BM 6) | ((with_reducible refine gate_store (t := 24) (p := 6) rfl ?_); refine store_event (t := 24) (p := 6) (v := ?vom_) (w1 := (((((((W6.setCell ⟨gm, 0, none⟩ (.int .u32 v)).setCell ⟨gm, 1, none⟩ (.int .u32 0)).setCell ⟨gm, 2, none⟩ (.int .u32 0)).setCell ⟨gm, 3, none⟩ (.int .u32 0)).setCell ⟨gm, 4, none⟩ (.int .u32 0)).setCell ⟨gm, 5, none⟩ (.int .u32 0)).setCell ⟨gm, 6, none⟩ (.int .u32 0))) ?hg ?ho ?hn ?hr ?_; (case ho => rfl); (case hg => rfl); (case hn => rfl); (case hr => first | (go_simp; done) | (go_simp; rfl)); intro W7 hw; have BM_ := (by rw [hw]; exact bp7_ BM : W7.heap[gm]? = some (.cells #[.int .u32 v, .int .u32 0, .int .u32 0, .int .u32 0, .int .u32 0, .int .u32 0, .int .u32 0] 24 (0, 0))); have HC_ := (by rw [hw]; exact (below_set (below_set (below_set (below_set (below_set (below_set (below_set HC wgm) wgm) wgm) wgm) wgm) wgm) wgm) : Below W1.heap.size W1 W7); clear hw HC BM; have BM := BM_; clear BM_; replace hV := Kd.V_mono (ok' := fun k => k ≠ gm ∧ k ≠ gr) (Kd.V_below hV HC_) (fun k hk => ⟨fun e_ => by have := hk.2; omega, hk.1⟩); replace BR := blk_below BR HC_; replace HB := HB.trans (HC_.mono HB.size); clear HC_; (try clear km0_); (try clear zkm0_); (try clear km1_); (try clear zkm1_); (try clear km2_); (try clear zkm2_); (try clear km3_); (try clear zkm3_); (try clear km4_); (try clear zkm4_); (try clear km5_); (try clear zkm5_); (try clear km6_); (try clear zkm6_); (try clear kr0_); (try clear zkr0_); (try clear kr1_); (try clear zkr1_); (try clear kr2_); (try clear zkr2_); (try clear kr3_); (try clear zkr3_); (try clear kr4_); (try clear zkr4_); (try clear kr5_); (try clear zkr5_); (try clear kr6_); (try clear zkr6_); have km0_ : W7.cell? ⟨gm, 0, none⟩ = some (.int .u32 v) := (blk_cell BM 0).trans rfl; have zkm0_ := blk_frozen BM 0; have km1_ : W7.cell? ⟨gm, 1, none⟩ = some (.int .u32 0) := (blk_cell BM 1).trans rfl; have zkm1_ := blk_frozen BM 1; have km2_ : W7.cell? ⟨gm, 2, none⟩ = some (.int .u32 0) := (blk_cell BM 2).trans rfl; have zkm2_ := blk_frozen BM 2; have km3_ : W7.cell? ⟨gm, 3, none⟩ = some (.int .u32 0) := (blk_cell BM 3).trans rfl; have zkm3_ := blk_frozen BM 3; have km4_ : W7.cell? ⟨gm, 4, none⟩ = some (.int .u32 0) := (blk_cell BM 4).trans rfl; have zkm4_ := blk_frozen BM 4; have km5_ : W7.cell? ⟨gm, 5, none⟩ = some (.int .u32 0) := (blk_cell BM 5).trans rfl; have zkm5_ := blk_frozen BM 5; have km6_ : W7.cell? ⟨gm, 6, none⟩ = some (.int .u32 0) := (blk_cell BM 6).trans rfl; have zkm6_ := blk_frozen BM 6))
  clear n0 n1 n2 n3 n4 hNp hx0 hx0' hx1 hx1' hy hy' c1_ c2_ c3_ c4_ e3_ e4_ e5_ wgm hv hfs AG
  go_loopg [7] k (fun kq v7 w' => ∃ (x : Int) (m1 m2 m3 m4 m5 m6 : Int), v7 = .int .i64 x ∧ Aside0 (rget.l kq l0 fs x v m1 m2 m3 m4 m5 m6 = some (r1, r2, r3, r4, r5, r6, r7, r8)) ∧ Aside0 (Kd.V k45 45 w' 0 (fun k => k ≠ gm ∧ k ≠ gr) (.slice (some ad) fs.length cf) fs) ∧ Aside0 (w'.heap[gm]? = some (.cells #[.int .u32 v, .int .u32 m1, .int .u32 m2, .int .u32 m3, .int .u32 m4, .int .u32 m5, .int .u32 m6] 24 (0, 0))) ∧ Aside0 (w'.heap[gr]? = some (.cells #[.int .u32 0, .int .u32 0, .int .u32 0, .int .u32 0, .int .u32 0, .int .u32 0, .int .u32 0] 24 (0, 0))) ∧ Aside0 (Below w.heap.size w w'))
  case atStart => exact ⟨1, 0, 0, 0, 0, 0, 0, rfl, ⟨hres⟩, ⟨hV⟩, ⟨BM⟩, ⟨BR⟩, ⟨HB⟩⟩
  case round =>
    clear hres hV BM BR HB
    obtain ⟨x, m1, m2, m3, m4, m5, m6, rfl, HR, HV, HBM, HBR, HHB⟩ := hrel
    have BM := HBM.out
    have BR := HBR.out
    have HB := HHB.out
    have hV := HV.out
    clear HBM HBR HHB HV
    cases gk with
    | zero => exact absurd HR.out (by simp [rget.l])
    | succ k2 =>
      have km0_ : wr.cell? ⟨gm, 0, none⟩ = some (.int .u32 v) := (blk_cell BM 0).trans rfl; have zkm0_ := blk_frozen BM 0; have km1_ : wr.cell? ⟨gm, 1, none⟩ = some (.int .u32 m1) := (blk_cell BM 1).trans rfl; have zkm1_ := blk_frozen BM 1; have km2_ : wr.cell? ⟨gm, 2, none⟩ = some (.int .u32 m2) := (blk_cell BM 2).trans rfl; have zkm2_ := blk_frozen BM 2; have km3_ : wr.cell? ⟨gm, 3, none⟩ = some (.int .u32 m3) := (blk_cell BM 3).trans rfl; have zkm3_ := blk_frozen BM 3; have km4_ : wr.cell? ⟨gm, 4, none⟩ = some (.int .u32 m4) := (blk_cell BM 4).trans rfl; have zkm4_ := blk_frozen BM 4; have km5_ : wr.cell? ⟨gm, 5, none⟩ = some (.int .u32 m5) := (blk_cell BM 5).trans rfl; have zkm5_ := blk_frozen BM 5; have km6_ : wr.cell? ⟨gm, 6, none⟩ = some (.int .u32 m6) := (blk_cell BM 6).trans rfl; have zkm6_ := blk_frozen BM 6
      have kr0_ : wr.cell? ⟨gr, 0, none⟩ = some (.int .u32 0) := (blk_cell BR 0).trans rfl; have zkr0_ := blk_frozen BR 0; have kr1_ : wr.cell? ⟨gr, 1, none⟩ = some (.int .u32 0) := (blk_cell BR 1).trans rfl; have zkr1_ := blk_frozen BR 1; have kr2_ : wr.cell? ⟨gr, 2, none⟩ = some (.int .u32 0) := (blk_cell BR 2).trans rfl; have zkr2_ := blk_frozen BR 2; have kr3_ : wr.cell? ⟨gr, 3, none⟩ = some (.int .u32 0) := (blk_cell BR 3).trans rfl; have zkr3_ := blk_frozen BR 3; have kr4_ : wr.cell? ⟨gr, 4, none⟩ = some (.int .u32 0) := (blk_cell BR 4).trans rfl; have zkr4_ := blk_frozen BR 4; have kr5_ : wr.cell? ⟨gr, 5, none⟩ = some (.int .u32 0) := (blk_cell BR 5).trans rfl; have zkr5_ := blk_frozen BR 5; have kr6_ : wr.cell? ⟨gr, 6, none⟩ = some (.int .u32 0) := (blk_cell BR 6).trans rfl; have zkr6_ := blk_frozen BR 6
      have hres := HR.out
      clear HR
      rw [rget.l] at hres
      by_cases cx : x < (fs.length : Int)
      rotate_left
      · rw [if_neg cx] at hres
        obtain ⟨⟨z1, z2⟩, hp, hres⟩ := Option.bind_eq_some_iff.mp hres
        dsimp only at hres
        obtain ⟨s, hs, hres⟩ := Option.bind_eq_some_iff.mp hres
        have AP := Aside0.mk hp
        have AS := Aside0.mk hs
        clear hp hs hV
        have q1 : decide (x < (N : Int)) = false := decide_eq_false (by rw [hN.out]; exact cx)
        clear cx
        cases s with
        | true =>
          rw [if_pos rfl] at hres
          simp only [Option.some.injEq, Prod.mk.injEq] at hres
          obtain ⟨rfl, rfl, rfl, rfl, rfl, rfl, rfl, rfl⟩ := hres
          go_wp2_with (first | (go_at_call 10; (with_reducible refine (chamberlainref03_Put.calls k2 v m1 m2 m3 m4 m5 m6 z1 z2 _ AP.out).mono ?_); rintro e w9 ⟨vz, rfl, hz, hb_⟩; replace BM := blk_below BM hb_; replace BR := blk_below BR hb_; replace HB := HB.trans (hb_.mono HB.size); obtain ⟨Az, cz, ez⟩ := Kd.R_slice hz; subst ez; have AZ := Aside0.mk (Kd.R_reads' hz); clear hz hb_; (try clear km0_); (try clear zkm0_); (try clear km1_); (try clear zkm1_); (try clear km2_); (try clear zkm2_); (try clear km3_); (try clear zkm3_); (try clear km4_); (try clear zkm4_); (try clear km5_); (try clear zkm5_); (try clear km6_); (try clear zkm6_); (try clear kr0_); (try clear zkr0_); (try clear kr1_); (try clear zkr1_); (try clear kr2_); (try clear zkr2_); (try clear kr3_); (try clear zkr3_); (try clear kr4_); (try clear zkr4_); (try clear kr5_); (try clear zkr5_); (try clear kr6_); (try clear zkr6_); have km0_ : w9.cell? ⟨gm, 0, none⟩ = some (.int .u32 v) := (blk_cell BM 0).trans rfl; have zkm0_ := blk_frozen BM 0; have km1_ : w9.cell? ⟨gm, 1, none⟩ = some (.int .u32 m1) := (blk_cell BM 1).trans rfl; have zkm1_ := blk_frozen BM 1; have km2_ : w9.cell? ⟨gm, 2, none⟩ = some (.int .u32 m2) := (blk_cell BM 2).trans rfl; have zkm2_ := blk_frozen BM 2; have km3_ : w9.cell? ⟨gm, 3, none⟩ = some (.int .u32 m3) := (blk_cell BM 3).trans rfl; have zkm3_ := blk_frozen BM 3; have km4_ : w9.cell? ⟨gm, 4, none⟩ = some (.int .u32 m4) := (blk_cell BM 4).trans rfl; have zkm4_ := blk_frozen BM 4; have km5_ : w9.cell? ⟨gm, 5, none⟩ = some (.int .u32 m5) := (blk_cell BM 5).trans rfl; have zkm5_ := blk_frozen BM 5; have km6_ : w9.cell? ⟨gm, 6, none⟩ = some (.int .u32 m6) := (blk_cell BM 6).trans rfl; have zkm6_ := blk_frozen BM 6; have kr0_ : w9.cell? ⟨gr, 0, none⟩ = some (.int .u32 0) := (blk_cell BR 0).trans rfl; have zkr0_ := blk_frozen BR 0; have kr1_ : w9.cell? ⟨gr, 1, none⟩ = some (.int .u32 0) := (blk_cell BR 1).trans rfl; have zkr1_ := blk_frozen BR 1; have kr2_ : w9.cell? ⟨gr, 2, none⟩ = some (.int .u32 0) := (blk_cell BR 2).trans rfl; have zkr2_ := blk_frozen BR 2; have kr3_ : w9.cell? ⟨gr, 3, none⟩ = some (.int .u32 0) := (blk_cell BR 3).trans rfl; have zkr3_ := blk_frozen BR 3; have kr4_ : w9.cell? ⟨gr, 4, none⟩ = some (.int .u32 0) := (blk_cell BR 4).trans rfl; have zkr4_ := blk_frozen BR 4; have kr5_ : w9.cell? ⟨gr, 5, none⟩ = some (.int .u32 0) := (blk_cell BR 5).trans rfl; have zkr5_ := blk_frozen BR 5; have kr6_ : w9.cell? ⟨gr, 6, none⟩ = some (.int .u32 0) := (blk_cell BR 6).trans rfl; have zkr6_ := blk_frozen BR 6) | (go_at_call 13; (with_reducible refine (chamberlainref01_Same.calls k2 Az cz z1 A0 c0 l0 true _ AZ.out.2.2 AZ.out.2.1 (Kd.C_below AR0.out HB) hc0 AS.out).mono ?_); rintro e w10 ⟨rfl, hd_⟩; have hb_ := hd_.below; clear hd_; replace BM := blk_below BM hb_; replace BR := blk_below BR hb_; replace HB := HB.trans (hb_.mono HB.size); clear hb_; (try clear km0_); (try clear zkm0_); (try clear km1_); (try clear zkm1_); (try clear km2_); (try clear zkm2_); (try clear km3_); (try clear zkm3_); (try clear km4_); (try clear zkm4_); (try clear km5_); (try clear zkm5_); (try clear km6_); (try clear zkm6_); (try clear kr0_); (try clear zkr0_); (try clear kr1_); (try clear zkr1_); (try clear kr2_); (try clear zkr2_); (try clear kr3_); (try clear zkr3_); (try clear kr4_); (try clear zkr4_); (try clear kr5_); (try clear zkr5_); (try clear kr6_); (try clear zkr6_); have km0_ : w10.cell? ⟨gm, 0, none⟩ = some (.int .u32 v) := (blk_cell BM 0).trans rfl; have zkm0_ := blk_frozen BM 0; have km1_ : w10.cell? ⟨gm, 1, none⟩ = some (.int .u32 m1) := (blk_cell BM 1).trans rfl; have zkm1_ := blk_frozen BM 1; have km2_ : w10.cell? ⟨gm, 2, none⟩ = some (.int .u32 m2) := (blk_cell BM 2).trans rfl; have zkm2_ := blk_frozen BM 2; have km3_ : w10.cell? ⟨gm, 3, none⟩ = some (.int .u32 m3) := (blk_cell BM 3).trans rfl; have zkm3_ := blk_frozen BM 3; have km4_ : w10.cell? ⟨gm, 4, none⟩ = some (.int .u32 m4) := (blk_cell BM 4).trans rfl; have zkm4_ := blk_frozen BM 4; have km5_ : w10.cell? ⟨gm, 5, none⟩ = some (.int .u32 m5) := (blk_cell BM 5).trans rfl; have zkm5_ := blk_frozen BM 5; have km6_ : w10.cell? ⟨gm, 6, none⟩ = some (.int .u32 m6) := (blk_cell BM 6).trans rfl; have zkm6_ := blk_frozen BM 6; have kr0_ : w10.cell? ⟨gr, 0, none⟩ = some (.int .u32 0) := (blk_cell BR 0).trans rfl; have zkr0_ := blk_frozen BR 0; have kr1_ : w10.cell? ⟨gr, 1, none⟩ = some (.int .u32 0) := (blk_cell BR 1).trans rfl; have zkr1_ := blk_frozen BR 1; have kr2_ : w10.cell? ⟨gr, 2, none⟩ = some (.int .u32 0) := (blk_cell BR 2).trans rfl; have zkr2_ := blk_frozen BR 2; have kr3_ : w10.cell? ⟨gr, 3, none⟩ = some (.int .u32 0) := (blk_cell BR 3).trans rfl; have zkr3_ := blk_frozen BR 3; have kr4_ : w10.cell? ⟨gr, 4, none⟩ = some (.int .u32 0) := (blk_cell BR 4).trans rfl; have zkr4_ := blk_frozen BR 4; have kr5_ : w10.cell? ⟨gr, 5, none⟩ = some (.int .u32 0) := (blk_cell BR 5).trans rfl; have zkr5_ := blk_frozen BR 5; have kr6_ : w10.cell? ⟨gr, 6, none⟩ = some (.int .u32 0) := (blk_cell BR 6).trans rfl; have zkr6_ := blk_frozen BR 6) | ((with_reducible refine gate_store (t := 24) (p := 2) rfl ?_); refine store_event (t := 24) (p := 2) (v := ?vof1_) (w1 := (((((((w10.setCell ⟨gr, 0, none⟩ (.int .u32 v)).setCell ⟨gr, 1, none⟩ (.int .u32 m1)).setCell ⟨gr, 2, none⟩ (.int .u32 m2)).setCell ⟨gr, 3, none⟩ (.int .u32 m3)).setCell ⟨gr, 4, none⟩ (.int .u32 m4)).setCell ⟨gr, 5, none⟩ (.int .u32 m5)).setCell ⟨gr, 6, none⟩ (.int .u32 m6))) ?hg ?ho ?hn ?hr ?_; (case ho => rfl); (case hg => rfl); (case hn => rfl); (case hr => first | (go_simp; done) | (go_simp; rfl)); intro W9 hw; have BR_ := (by rw [hw]; exact bp7_ BR : W9.heap[gr]? = some (.cells #[.int .u32 v, .int .u32 m1, .int .u32 m2, .int .u32 m3, .int .u32 m4, .int .u32 m5, .int .u32 m6] 24 (0, 0))); have HB_ := (by rw [hw]; exact (below_set (below_set (below_set (below_set (below_set (below_set (below_set HB wgr) wgr) wgr) wgr) wgr) wgr) wgr) : Below w.heap.size w W9); clear hw HB BR; have HB := HB_; have BR := BR_; clear HB_ BR_; (try clear kr0_); (try clear zkr0_); (try clear kr1_); (try clear zkr1_); (try clear kr2_); (try clear zkr2_); (try clear kr3_); (try clear zkr3_); (try clear kr4_); (try clear zkr4_); (try clear kr5_); (try clear zkr5_); (try clear kr6_); (try clear zkr6_)))
          refine bodyPost_ret (results_ct rfl _ _ gr 24 #[.int .u32 v, .int .u32 m1, .int .u32 m2, .int .u32 m3, .int .u32 m4, .int .u32 m5, .int .u32 m6] (0, 0) _ rfl BR Tryd.underlying24 rfl (by kernel_rfl)) rfl ?_
          exact ⟨rfl, HB⟩
        | false =>
          rw [if_neg (by decide)] at hres
          simp only [Option.some.injEq, Prod.mk.injEq] at hres
          obtain ⟨rfl, rfl, rfl, rfl, rfl, rfl, rfl, rfl⟩ := hres
          go_wp2_with (first | (go_at_call 10; (with_reducible refine (chamberlainref03_Put.calls k2 v m1 m2 m3 m4 m5 m6 z1 z2 _ AP.out).mono ?_); rintro e w9 ⟨vz, rfl, hz, hb_⟩; replace BM := blk_below BM hb_; replace BR := blk_below BR hb_; replace HB := HB.trans (hb_.mono HB.size); obtain ⟨Az, cz, ez⟩ := Kd.R_slice hz; subst ez; have AZ := Aside0.mk (Kd.R_reads' hz); clear hz hb_; (try clear km0_); (try clear zkm0_); (try clear km1_); (try clear zkm1_); (try clear km2_); (try clear zkm2_); (try clear km3_); (try clear zkm3_); (try clear km4_); (try clear zkm4_); (try clear km5_); (try clear zkm5_); (try clear km6_); (try clear zkm6_); (try clear kr0_); (try clear zkr0_); (try clear kr1_); (try clear zkr1_); (try clear kr2_); (try clear zkr2_); (try clear kr3_); (try clear zkr3_); (try clear kr4_); (try clear zkr4_); (try clear kr5_); (try clear zkr5_); (try clear kr6_); (try clear zkr6_); have km0_ : w9.cell? ⟨gm, 0, none⟩ = some (.int .u32 v) := (blk_cell BM 0).trans rfl; have zkm0_ := blk_frozen BM 0; have km1_ : w9.cell? ⟨gm, 1, none⟩ = some (.int .u32 m1) := (blk_cell BM 1).trans rfl; have zkm1_ := blk_frozen BM 1; have km2_ : w9.cell? ⟨gm, 2, none⟩ = some (.int .u32 m2) := (blk_cell BM 2).trans rfl; have zkm2_ := blk_frozen BM 2; have km3_ : w9.cell? ⟨gm, 3, none⟩ = some (.int .u32 m3) := (blk_cell BM 3).trans rfl; have zkm3_ := blk_frozen BM 3; have km4_ : w9.cell? ⟨gm, 4, none⟩ = some (.int .u32 m4) := (blk_cell BM 4).trans rfl; have zkm4_ := blk_frozen BM 4; have km5_ : w9.cell? ⟨gm, 5, none⟩ = some (.int .u32 m5) := (blk_cell BM 5).trans rfl; have zkm5_ := blk_frozen BM 5; have km6_ : w9.cell? ⟨gm, 6, none⟩ = some (.int .u32 m6) := (blk_cell BM 6).trans rfl; have zkm6_ := blk_frozen BM 6; have kr0_ : w9.cell? ⟨gr, 0, none⟩ = some (.int .u32 0) := (blk_cell BR 0).trans rfl; have zkr0_ := blk_frozen BR 0; have kr1_ : w9.cell? ⟨gr, 1, none⟩ = some (.int .u32 0) := (blk_cell BR 1).trans rfl; have zkr1_ := blk_frozen BR 1; have kr2_ : w9.cell? ⟨gr, 2, none⟩ = some (.int .u32 0) := (blk_cell BR 2).trans rfl; have zkr2_ := blk_frozen BR 2; have kr3_ : w9.cell? ⟨gr, 3, none⟩ = some (.int .u32 0) := (blk_cell BR 3).trans rfl; have zkr3_ := blk_frozen BR 3; have kr4_ : w9.cell? ⟨gr, 4, none⟩ = some (.int .u32 0) := (blk_cell BR 4).trans rfl; have zkr4_ := blk_frozen BR 4; have kr5_ : w9.cell? ⟨gr, 5, none⟩ = some (.int .u32 0) := (blk_cell BR 5).trans rfl; have zkr5_ := blk_frozen BR 5; have kr6_ : w9.cell? ⟨gr, 6, none⟩ = some (.int .u32 0) := (blk_cell BR 6).trans rfl; have zkr6_ := blk_frozen BR 6) | (go_at_call 13; (with_reducible refine (chamberlainref01_Same.calls k2 Az cz z1 A0 c0 l0 false _ AZ.out.2.2 AZ.out.2.1 (Kd.C_below AR0.out HB) hc0 AS.out).mono ?_); rintro e w10 ⟨rfl, hd_⟩; have hb_ := hd_.below; clear hd_; replace BM := blk_below BM hb_; replace BR := blk_below BR hb_; replace HB := HB.trans (hb_.mono HB.size); clear hb_; (try clear km0_); (try clear zkm0_); (try clear km1_); (try clear zkm1_); (try clear km2_); (try clear zkm2_); (try clear km3_); (try clear zkm3_); (try clear km4_); (try clear zkm4_); (try clear km5_); (try clear zkm5_); (try clear km6_); (try clear zkm6_); (try clear kr0_); (try clear zkr0_); (try clear kr1_); (try clear zkr1_); (try clear kr2_); (try clear zkr2_); (try clear kr3_); (try clear zkr3_); (try clear kr4_); (try clear zkr4_); (try clear kr5_); (try clear zkr5_); (try clear kr6_); (try clear zkr6_); have km0_ : w10.cell? ⟨gm, 0, none⟩ = some (.int .u32 v) := (blk_cell BM 0).trans rfl; have zkm0_ := blk_frozen BM 0; have km1_ : w10.cell? ⟨gm, 1, none⟩ = some (.int .u32 m1) := (blk_cell BM 1).trans rfl; have zkm1_ := blk_frozen BM 1; have km2_ : w10.cell? ⟨gm, 2, none⟩ = some (.int .u32 m2) := (blk_cell BM 2).trans rfl; have zkm2_ := blk_frozen BM 2; have km3_ : w10.cell? ⟨gm, 3, none⟩ = some (.int .u32 m3) := (blk_cell BM 3).trans rfl; have zkm3_ := blk_frozen BM 3; have km4_ : w10.cell? ⟨gm, 4, none⟩ = some (.int .u32 m4) := (blk_cell BM 4).trans rfl; have zkm4_ := blk_frozen BM 4; have km5_ : w10.cell? ⟨gm, 5, none⟩ = some (.int .u32 m5) := (blk_cell BM 5).trans rfl; have zkm5_ := blk_frozen BM 5; have km6_ : w10.cell? ⟨gm, 6, none⟩ = some (.int .u32 m6) := (blk_cell BM 6).trans rfl; have zkm6_ := blk_frozen BM 6; have kr0_ : w10.cell? ⟨gr, 0, none⟩ = some (.int .u32 0) := (blk_cell BR 0).trans rfl; have zkr0_ := blk_frozen BR 0; have kr1_ : w10.cell? ⟨gr, 1, none⟩ = some (.int .u32 0) := (blk_cell BR 1).trans rfl; have zkr1_ := blk_frozen BR 1; have kr2_ : w10.cell? ⟨gr, 2, none⟩ = some (.int .u32 0) := (blk_cell BR 2).trans rfl; have zkr2_ := blk_frozen BR 2; have kr3_ : w10.cell? ⟨gr, 3, none⟩ = some (.int .u32 0) := (blk_cell BR 3).trans rfl; have zkr3_ := blk_frozen BR 3; have kr4_ : w10.cell? ⟨gr, 4, none⟩ = some (.int .u32 0) := (blk_cell BR 4).trans rfl; have zkr4_ := blk_frozen BR 4; have kr5_ : w10.cell? ⟨gr, 5, none⟩ = some (.int .u32 0) := (blk_cell BR 5).trans rfl; have zkr5_ := blk_frozen BR 5; have kr6_ : w10.cell? ⟨gr, 6, none⟩ = some (.int .u32 0) := (blk_cell BR 6).trans rfl; have zkr6_ := blk_frozen BR 6) | ((with_reducible refine gate_store (t := 24) (p := 2) rfl ?_); refine store_event (t := 24) (p := 2) (v := ?vof2_) (w1 := (((((((w10.setCell ⟨gr, 0, none⟩ (.int .u32 0)).setCell ⟨gr, 1, none⟩ (.int .u32 0)).setCell ⟨gr, 2, none⟩ (.int .u32 0)).setCell ⟨gr, 3, none⟩ (.int .u32 0)).setCell ⟨gr, 4, none⟩ (.int .u32 0)).setCell ⟨gr, 5, none⟩ (.int .u32 0)).setCell ⟨gr, 6, none⟩ (.int .u32 0))) ?hg ?ho ?hn ?hr ?_; (case ho => rfl); (case hg => rfl); (case hn => rfl); (case hr => first | (go_simp; done) | (go_simp; rfl)); intro W10 hw; have BR_ := (by rw [hw]; exact bp7_ BR : W10.heap[gr]? = some (.cells #[.int .u32 0, .int .u32 0, .int .u32 0, .int .u32 0, .int .u32 0, .int .u32 0, .int .u32 0] 24 (0, 0))); have HB_ := (by rw [hw]; exact (below_set (below_set (below_set (below_set (below_set (below_set (below_set HB wgr) wgr) wgr) wgr) wgr) wgr) wgr) : Below w.heap.size w W10); clear hw HB BR; have HB := HB_; have BR := BR_; clear HB_ BR_; (try clear kr0_); (try clear zkr0_); (try clear kr1_); (try clear zkr1_); (try clear kr2_); (try clear zkr2_); (try clear kr3_); (try clear zkr3_); (try clear kr4_); (try clear zkr4_); (try clear kr5_); (try clear zkr5_); (try clear kr6_); (try clear zkr6_)))
          refine bodyPost_ret (results_ct rfl _ _ gr 24 #[.int .u32 0, .int .u32 0, .int .u32 0, .int .u32 0, .int .u32 0, .int .u32 0, .int .u32 0] (0, 0) _ rfl BR Tryd.underlying24 rfl (by kernel_rfl)) rfl ?_
          exact ⟨rfl, HB⟩
      rw [if_pos cx] at hres
      by_cases cz : 0 ≤ x
      rotate_left
      · rw [if_neg cz] at hres; cases hres
      rw [if_pos cz] at hres
      obtain ⟨ad_, A1, c1, eA, hx0, hx1, hi1⟩ := rget.at hV x cz cx
      cases eA
      obtain ⟨g, hg⟩ : ∃ g, g = rd_T45 fs x := ⟨_, rfl⟩
      rw [← hg] at hx0 hx1 hi1 hres
      clear hg
      have q1 : decide (x < (N : Int)) = true := decide_eq_true (by rw [hN.out]; exact cx)
      have q2 : (x < (N : Int)) = True := eq_true (by rw [hN.out]; exact cx)
      have q3 : (0 ≤ x) = True := eq_true cz
      clear cx cz
      by_cases c2_ : g.f1.length = 1
      rotate_left
      · rw [if_neg c2_] at hres
        simp only [Option.some.injEq, Prod.mk.injEq] at hres
        obtain ⟨rfl, rfl, rfl, rfl, rfl, rfl, rfl, rfl⟩ := hres
        have e1 : ((g.f1.length : Int) != 1) = true := bne_iff_ne.mpr (by omega)
        have e2 : (g.f1.length == 1) = false := beq_eq_false_iff_ne.mpr c2_
        have e3 : ((g.f1.length : Int) == 1) = false := beq_eq_false_iff_ne.mpr (by omega)
        have e4 : (g.f1.length != 1) = true := bne_iff_ne.mpr c2_
        clear hV hi1
        go_wp2
        go_quiet (fail)
        have hb_ : Below wr.heap.size wr (wr.drewN nq) := pw_below_drewN (Below.refl _ _) _
        (try clear km0_); (try clear zkm0_); (try clear km1_); (try clear zkm1_); (try clear km2_); (try clear zkm2_); (try clear km3_); (try clear zkm3_); (try clear km4_); (try clear zkm4_); (try clear km5_); (try clear zkm5_); (try clear km6_); (try clear zkm6_); (try clear kr0_); (try clear zkr0_); (try clear kr1_); (try clear zkr1_); (try clear kr2_); (try clear zkr2_); (try clear kr3_); (try clear zkr3_); (try clear kr4_); (try clear zkr4_); (try clear kr5_); (try clear zkr5_); (try clear kr6_); (try clear zkr6_)
        replace BM := blk_below BM hb_
        replace BR := blk_below BR hb_
        replace HB := HB.trans (hb_.mono HB.size)
        replace hx0 := pw_cell_below hb_ hx0
        replace hx1 := pw_cell_below hb_ hx1
        clear hb_
        generalize wr.drewN nq = w9 at BM BR HB hx0 hx1 ⊢
        have km0_ : w9.cell? ⟨gm, 0, none⟩ = some (.int .u32 v) := (blk_cell BM 0).trans rfl; have zkm0_ := blk_frozen BM 0; have km1_ : w9.cell? ⟨gm, 1, none⟩ = some (.int .u32 m1) := (blk_cell BM 1).trans rfl; have zkm1_ := blk_frozen BM 1; have km2_ : w9.cell? ⟨gm, 2, none⟩ = some (.int .u32 m2) := (blk_cell BM 2).trans rfl; have zkm2_ := blk_frozen BM 2; have km3_ : w9.cell? ⟨gm, 3, none⟩ = some (.int .u32 m3) := (blk_cell BM 3).trans rfl; have zkm3_ := blk_frozen BM 3; have km4_ : w9.cell? ⟨gm, 4, none⟩ = some (.int .u32 m4) := (blk_cell BM 4).trans rfl; have zkm4_ := blk_frozen BM 4; have km5_ : w9.cell? ⟨gm, 5, none⟩ = some (.int .u32 m5) := (blk_cell BM 5).trans rfl; have zkm5_ := blk_frozen BM 5; have km6_ : w9.cell? ⟨gm, 6, none⟩ = some (.int .u32 m6) := (blk_cell BM 6).trans rfl; have zkm6_ := blk_frozen BM 6
        have kr0_ : w9.cell? ⟨gr, 0, none⟩ = some (.int .u32 0) := (blk_cell BR 0).trans rfl; have zkr0_ := blk_frozen BR 0; have kr1_ : w9.cell? ⟨gr, 1, none⟩ = some (.int .u32 0) := (blk_cell BR 1).trans rfl; have zkr1_ := blk_frozen BR 1; have kr2_ : w9.cell? ⟨gr, 2, none⟩ = some (.int .u32 0) := (blk_cell BR 2).trans rfl; have zkr2_ := blk_frozen BR 2; have kr3_ : w9.cell? ⟨gr, 3, none⟩ = some (.int .u32 0) := (blk_cell BR 3).trans rfl; have zkr3_ := blk_frozen BR 3; have kr4_ : w9.cell? ⟨gr, 4, none⟩ = some (.int .u32 0) := (blk_cell BR 4).trans rfl; have zkr4_ := blk_frozen BR 4; have kr5_ : w9.cell? ⟨gr, 5, none⟩ = some (.int .u32 0) := (blk_cell BR 5).trans rfl; have zkr5_ := blk_frozen BR 5; have kr6_ : w9.cell? ⟨gr, 6, none⟩ = some (.int .u32 0) := (blk_cell BR 6).trans rfl; have zkr6_ := blk_frozen BR 6
        go_wp2_with (first | ((with_reducible refine gate_store (t := 24) (p := 2) rfl ?_); refine store_event (t := 24) (p := 2) (v := ?vog1_) (w1 := (((((((w9.setCell ⟨gr, 0, none⟩ (.int .u32 0)).setCell ⟨gr, 1, none⟩ (.int .u32 0)).setCell ⟨gr, 2, none⟩ (.int .u32 0)).setCell ⟨gr, 3, none⟩ (.int .u32 0)).setCell ⟨gr, 4, none⟩ (.int .u32 0)).setCell ⟨gr, 5, none⟩ (.int .u32 0)).setCell ⟨gr, 6, none⟩ (.int .u32 0))) ?hg ?ho ?hn ?hr ?_; (case ho => rfl); (case hg => rfl); (case hn => rfl); (case hr => first | (go_simp; done) | (go_simp; rfl)); intro W11 hw; have BR_ := (by rw [hw]; exact bp7_ BR : W11.heap[gr]? = some (.cells #[.int .u32 0, .int .u32 0, .int .u32 0, .int .u32 0, .int .u32 0, .int .u32 0, .int .u32 0] 24 (0, 0))); have HB_ := (by rw [hw]; exact (below_set (below_set (below_set (below_set (below_set (below_set (below_set HB wgr) wgr) wgr) wgr) wgr) wgr) wgr) : Below w.heap.size w W11); clear hw HB BR; have HB := HB_; have BR := BR_; clear HB_ BR_; (try clear kr0_); (try clear zkr0_); (try clear kr1_); (try clear zkr1_); (try clear kr2_); (try clear zkr2_); (try clear kr3_); (try clear zkr3_); (try clear kr4_); (try clear zkr4_); (try clear kr5_); (try clear zkr5_); (try clear kr6_); (try clear zkr6_)))
        refine bodyPost_ret (results_ct rfl _ _ gr 24 #[.int .u32 0, .int .u32 0, .int .u32 0, .int .u32 0, .int .u32 0, .int .u32 0, .int .u32 0] (0, 0) _ rfl BR Tryd.underlying24 rfl (by kernel_rfl)) rfl ?_
        exact ⟨rfl, HB⟩
      rw [if_pos c2_] at hres
      rw [c2_] at hx1
      obtain ⟨ad1, e1A, hy⟩ := Kd.at_int hi1 0 (by decide) (by rw [c2_]; decide)
      subst e1A
      obtain ⟨u, hu⟩ : ∃ u, u = rd g.f1 0 := ⟨_, rfl⟩
      rw [← hu] at hy hres
      have hy : wr.cell? (ad1.add 0) = some (.int .u32 u) := hy
      have hy' : wr.cell? ad1 = some (.int .u32 u) := msg.add0 ad1 ▸ hy
      clear hi1 c2_ hu
      obtain ⟨s, hs, hres_⟩ := Option.bind_eq_some_iff.mp hres
      clear hres
      have hres := hres_
      clear hres_
      have AH := Aside0.mk hs
      clear hs
      obtain ⟨G, hG⟩ : ∃ G, G = g.f0 := ⟨_, rfl⟩
      rw [← hG] at hx0 AH hres
      clear hG g
      cases s with
      | false =>
        rw [if_neg (by decide)] at hres
        simp only [Option.some.injEq, Prod.mk.injEq] at hres
        obtain ⟨rfl, rfl, rfl, rfl, rfl, rfl, rfl, rfl⟩ := hres

        go_wp2
        go_quiet (first | (go_at_call 22; (with_reducible refine (chamberlainref03_Has.calls k2 v G false _ AH.out).mono ?_); rintro e w' ⟨rfl, ⟨nd, rfl⟩⟩; (try first | exact ⟨rfl, _, World.drewN_drewN _ _ _⟩ | exact ⟨rfl, _, Eq.trans (World.drewN_drewN _ _ _) (congrArg (World.drewN _) (Nat.add_assoc _ _ _))⟩)))
        have hb_ : Below wr.heap.size wr (wr.drewN nq) := pw_below_drewN (Below.refl _ _) _
        (try clear km0_); (try clear zkm0_); (try clear km1_); (try clear zkm1_); (try clear km2_); (try clear zkm2_); (try clear km3_); (try clear zkm3_); (try clear km4_); (try clear zkm4_); (try clear km5_); (try clear zkm5_); (try clear km6_); (try clear zkm6_); (try clear kr0_); (try clear zkr0_); (try clear kr1_); (try clear zkr1_); (try clear kr2_); (try clear zkr2_); (try clear kr3_); (try clear zkr3_); (try clear kr4_); (try clear zkr4_); (try clear kr5_); (try clear zkr5_); (try clear kr6_); (try clear zkr6_)
        replace BM := blk_below BM hb_
        replace BR := blk_below BR hb_
        replace HB := HB.trans (hb_.mono HB.size)
        replace hV := Kd.V_below hV hb_
        replace hx0 := pw_cell_below hb_ hx0
        replace hx1 := pw_cell_below hb_ hx1
        clear hb_
        generalize wr.drewN nq = w9 at BM BR HB hV hx0 hx1 ⊢
        have km0_ : w9.cell? ⟨gm, 0, none⟩ = some (.int .u32 v) := (blk_cell BM 0).trans rfl; have zkm0_ := blk_frozen BM 0; have km1_ : w9.cell? ⟨gm, 1, none⟩ = some (.int .u32 m1) := (blk_cell BM 1).trans rfl; have zkm1_ := blk_frozen BM 1; have km2_ : w9.cell? ⟨gm, 2, none⟩ = some (.int .u32 m2) := (blk_cell BM 2).trans rfl; have zkm2_ := blk_frozen BM 2; have km3_ : w9.cell? ⟨gm, 3, none⟩ = some (.int .u32 m3) := (blk_cell BM 3).trans rfl; have zkm3_ := blk_frozen BM 3; have km4_ : w9.cell? ⟨gm, 4, none⟩ = some (.int .u32 m4) := (blk_cell BM 4).trans rfl; have zkm4_ := blk_frozen BM 4; have km5_ : w9.cell? ⟨gm, 5, none⟩ = some (.int .u32 m5) := (blk_cell BM 5).trans rfl; have zkm5_ := blk_frozen BM 5; have km6_ : w9.cell? ⟨gm, 6, none⟩ = some (.int .u32 m6) := (blk_cell BM 6).trans rfl; have zkm6_ := blk_frozen BM 6
        have kr0_ : w9.cell? ⟨gr, 0, none⟩ = some (.int .u32 0) := (blk_cell BR 0).trans rfl; have zkr0_ := blk_frozen BR 0; have kr1_ : w9.cell? ⟨gr, 1, none⟩ = some (.int .u32 0) := (blk_cell BR 1).trans rfl; have zkr1_ := blk_frozen BR 1; have kr2_ : w9.cell? ⟨gr, 2, none⟩ = some (.int .u32 0) := (blk_cell BR 2).trans rfl; have zkr2_ := blk_frozen BR 2; have kr3_ : w9.cell? ⟨gr, 3, none⟩ = some (.int .u32 0) := (blk_cell BR 3).trans rfl; have zkr3_ := blk_frozen BR 3; have kr4_ : w9.cell? ⟨gr, 4, none⟩ = some (.int .u32 0) := (blk_cell BR 4).trans rfl; have zkr4_ := blk_frozen BR 4; have kr5_ : w9.cell? ⟨gr, 5, none⟩ = some (.int .u32 0) := (blk_cell BR 5).trans rfl; have zkr5_ := blk_frozen BR 5; have kr6_ : w9.cell? ⟨gr, 6, none⟩ = some (.int .u32 0) := (blk_cell BR 6).trans rfl; have zkr6_ := blk_frozen BR 6
        go_wp2_with (first | ((with_reducible refine gate_store (t := 24) (p := 2) rfl ?_); refine store_event (t := 24) (p := 2) (v := ?voh1_) (w1 := (((((((w9.setCell ⟨gr, 0, none⟩ (.int .u32 0)).setCell ⟨gr, 1, none⟩ (.int .u32 0)).setCell ⟨gr, 2, none⟩ (.int .u32 0)).setCell ⟨gr, 3, none⟩ (.int .u32 0)).setCell ⟨gr, 4, none⟩ (.int .u32 0)).setCell ⟨gr, 5, none⟩ (.int .u32 0)).setCell ⟨gr, 6, none⟩ (.int .u32 0))) ?hg ?ho ?hn ?hr ?_; (case ho => rfl); (case hg => rfl); (case hn => rfl); (case hr => first | (go_simp; done) | (go_simp; rfl)); intro W12 hw; have BR_ := (by rw [hw]; exact bp7_ BR : W12.heap[gr]? = some (.cells #[.int .u32 0, .int .u32 0, .int .u32 0, .int .u32 0, .int .u32 0, .int .u32 0, .int .u32 0] 24 (0, 0))); have HB_ := (by rw [hw]; exact (below_set (below_set (below_set (below_set (below_set (below_set (below_set HB wgr) wgr) wgr) wgr) wgr) wgr) wgr) : Below w.heap.size w W12); clear hw HB BR; have HB := HB_; have BR := BR_; clear HB_ BR_; (try clear kr0_); (try clear zkr0_); (try clear kr1_); (try clear zkr1_); (try clear kr2_); (try clear zkr2_); (try clear kr3_); (try clear zkr3_); (try clear kr4_); (try clear zkr4_); (try clear kr5_); (try clear zkr5_); (try clear kr6_); (try clear zkr6_)))
        refine bodyPost_ret (results_ct rfl _ _ gr 24 #[.int .u32 0, .int .u32 0, .int .u32 0, .int .u32 0, .int .u32 0, .int .u32 0, .int .u32 0] (0, 0) _ rfl BR Tryd.underlying24 rfl (by kernel_rfl)) rfl ?_
        exact ⟨rfl, HB⟩
      | true =>
        rw [if_pos rfl] at hres
        go_wp2
        go_quiet (first | (go_at_call 22; (with_reducible refine (chamberlainref03_Has.calls k2 v G true _ AH.out).mono ?_); rintro e w' ⟨rfl, ⟨nd, rfl⟩⟩; (try first | exact ⟨rfl, _, World.drewN_drewN _ _ _⟩ | exact ⟨rfl, _, Eq.trans (World.drewN_drewN _ _ _) (congrArg (World.drewN _) (Nat.add_assoc _ _ _))⟩)))
        have hb_ : Below wr.heap.size wr (wr.drewN nq) := pw_below_drewN (Below.refl _ _) _
        (try clear km0_); (try clear zkm0_); (try clear km1_); (try clear zkm1_); (try clear km2_); (try clear zkm2_); (try clear km3_); (try clear zkm3_); (try clear km4_); (try clear zkm4_); (try clear km5_); (try clear zkm5_); (try clear km6_); (try clear zkm6_); (try clear kr0_); (try clear zkr0_); (try clear kr1_); (try clear zkr1_); (try clear kr2_); (try clear zkr2_); (try clear kr3_); (try clear zkr3_); (try clear kr4_); (try clear zkr4_); (try clear kr5_); (try clear zkr5_); (try clear kr6_); (try clear zkr6_)
        replace BM := blk_below BM hb_
        replace BR := blk_below BR hb_
        replace HB := HB.trans (hb_.mono HB.size)
        replace hV := Kd.V_below hV hb_
        replace hx0 := pw_cell_below hb_ hx0
        replace hx1 := pw_cell_below hb_ hx1
        replace hy := pw_cell_below hb_ hy
        replace hy' := pw_cell_below hb_ hy'
        clear hb_
        generalize wr.drewN nq = w9 at BM BR HB hV hx0 hx1 hy hy' ⊢
        have km0_ : w9.cell? ⟨gm, 0, none⟩ = some (.int .u32 v) := (blk_cell BM 0).trans rfl; have zkm0_ := blk_frozen BM 0; have km1_ : w9.cell? ⟨gm, 1, none⟩ = some (.int .u32 m1) := (blk_cell BM 1).trans rfl; have zkm1_ := blk_frozen BM 1; have km2_ : w9.cell? ⟨gm, 2, none⟩ = some (.int .u32 m2) := (blk_cell BM 2).trans rfl; have zkm2_ := blk_frozen BM 2; have km3_ : w9.cell? ⟨gm, 3, none⟩ = some (.int .u32 m3) := (blk_cell BM 3).trans rfl; have zkm3_ := blk_frozen BM 3; have km4_ : w9.cell? ⟨gm, 4, none⟩ = some (.int .u32 m4) := (blk_cell BM 4).trans rfl; have zkm4_ := blk_frozen BM 4; have km5_ : w9.cell? ⟨gm, 5, none⟩ = some (.int .u32 m5) := (blk_cell BM 5).trans rfl; have zkm5_ := blk_frozen BM 5; have km6_ : w9.cell? ⟨gm, 6, none⟩ = some (.int .u32 m6) := (blk_cell BM 6).trans rfl; have zkm6_ := blk_frozen BM 6
        have kr0_ : w9.cell? ⟨gr, 0, none⟩ = some (.int .u32 0) := (blk_cell BR 0).trans rfl; have zkr0_ := blk_frozen BR 0; have kr1_ : w9.cell? ⟨gr, 1, none⟩ = some (.int .u32 0) := (blk_cell BR 1).trans rfl; have zkr1_ := blk_frozen BR 1; have kr2_ : w9.cell? ⟨gr, 2, none⟩ = some (.int .u32 0) := (blk_cell BR 2).trans rfl; have zkr2_ := blk_frozen BR 2; have kr3_ : w9.cell? ⟨gr, 3, none⟩ = some (.int .u32 0) := (blk_cell BR 3).trans rfl; have zkr3_ := blk_frozen BR 3; have kr4_ : w9.cell? ⟨gr, 4, none⟩ = some (.int .u32 0) := (blk_cell BR 4).trans rfl; have zkr4_ := blk_frozen BR 4; have kr5_ : w9.cell? ⟨gr, 5, none⟩ = some (.int .u32 0) := (blk_cell BR 5).trans rfl; have zkr5_ := blk_frozen BR 5; have kr6_ : w9.cell? ⟨gr, 6, none⟩ = some (.int .u32 0) := (blk_cell BR 6).trans rfl; have zkr6_ := blk_frozen BR 6
        by_cases c2 : G = 2
        · subst c2
          have hres2 : rget.l k2 l0 fs (wrap64 (x + 1)) v u m2 m3 m4 m5 m6 = some (r1, r2, r3, r4, r5, r6, r7, r8) := hres
          clear hres
          go_wp2_with (first | ((with_reducible refine gate_store (t := 22) (p := 104) rfl ?_); refine store_event (t := 22) (p := 104) (v := ?vw2_) (w1 := w9.setCell ⟨gm, 1, none⟩ (.int .u32 u)) ?hg ?ho ?hn ?hr ?_; (case ho => rfl); (case hg => rfl); (case hn => rfl); (case hr => first | (go_simp; done) | (go_simp; rfl)); intro W14 hw; have BM_ := (by rw [hw]; exact blk_put (cs := #[.int .u32 v, .int .u32 m1, .int .u32 m2, .int .u32 m3, .int .u32 m4, .int .u32 m5, .int .u32 m6]) (cs' := #[.int .u32 v, .int .u32 u, .int .u32 m2, .int .u32 m3, .int .u32 m4, .int .u32 m5, .int .u32 m6]) BM 1 _ rfl : W14.heap[gm]? = some (.cells #[.int .u32 v, .int .u32 u, .int .u32 m2, .int .u32 m3, .int .u32 m4, .int .u32 m5, .int .u32 m6] 24 (0, 0))); have BR_ := (by rw [hw]; exact blk_far (p := ⟨gm, 1, none⟩) BR (Nat.ne_of_lt lrm) _ : W14.heap[gr]? = some (.cells #[.int .u32 0, .int .u32 0, .int .u32 0, .int .u32 0, .int .u32 0, .int .u32 0, .int .u32 0] 24 (0, 0))); have hV_ := (by rw [hw]; exact Kd.V_far (p := ⟨gm, 1, none⟩) hV (fun k hk => hk.1) _ : Kd.V k45 45 W14 0 (fun k => k ≠ gm ∧ k ≠ gr) (.slice (some ad) fs.length cf) fs); have HB_ := (by rw [hw]; exact below_set (g := gm) (j := 1) (v := .int .u32 u) HB (Nat.le_trans wgr (Nat.le_of_lt lrm)) : Below w.heap.size w W14); clear hw BM BR hV HB; have BM := BM_; have BR := BR_; have hV := hV_; have HB := HB_; clear BM_ BR_ hV_ HB_; (try clear km0_); (try clear zkm0_); (try clear km1_); (try clear zkm1_); (try clear km2_); (try clear zkm2_); (try clear km3_); (try clear zkm3_); (try clear km4_); (try clear zkm4_); (try clear km5_); (try clear zkm5_); (try clear km6_); (try clear zkm6_); (try clear kr0_); (try clear zkr0_); (try clear kr1_); (try clear zkr1_); (try clear kr2_); (try clear zkr2_); (try clear kr3_); (try clear zkr3_); (try clear kr4_); (try clear zkr4_); (try clear kr5_); (try clear zkr5_); (try clear kr6_); (try clear zkr6_)))
          go_roundg k2
          case measure => exact Nat.lt_succ_self _
          case rel => exact ⟨wrap64 (x + 1), u, m2, m3, m4, m5, m6, (by first | rfl | (simp [i64_w]; done)), ⟨hres2⟩, ⟨hV⟩, ⟨BM⟩, ⟨BR⟩, ⟨HB⟩⟩
        have d2 : (G == 2) = false := beq_eq_false_iff_ne.mpr c2
        have b2 : (G = 2) = False := eq_false c2
        by_cases c3 : G = 3
        · subst c3
          clear c2
          have hres2 : rget.l k2 l0 fs (wrap64 (x + 1)) v m1 u m3 m4 m5 m6 = some (r1, r2, r3, r4, r5, r6, r7, r8) := hres
          clear hres
          go_wp2_with (first | ((with_reducible refine gate_store (t := 22) (p := 108) rfl ?_); refine store_event (t := 22) (p := 108) (v := ?vw3_) (w1 := w9.setCell ⟨gm, 2, none⟩ (.int .u32 u)) ?hg ?ho ?hn ?hr ?_; (case ho => rfl); (case hg => rfl); (case hn => rfl); (case hr => first | (go_simp; done) | (go_simp; rfl)); intro W14 hw; have BM_ := (by rw [hw]; exact blk_put (cs := #[.int .u32 v, .int .u32 m1, .int .u32 m2, .int .u32 m3, .int .u32 m4, .int .u32 m5, .int .u32 m6]) (cs' := #[.int .u32 v, .int .u32 m1, .int .u32 u, .int .u32 m3, .int .u32 m4, .int .u32 m5, .int .u32 m6]) BM 2 _ rfl : W14.heap[gm]? = some (.cells #[.int .u32 v, .int .u32 m1, .int .u32 u, .int .u32 m3, .int .u32 m4, .int .u32 m5, .int .u32 m6] 24 (0, 0))); have BR_ := (by rw [hw]; exact blk_far (p := ⟨gm, 2, none⟩) BR (Nat.ne_of_lt lrm) _ : W14.heap[gr]? = some (.cells #[.int .u32 0, .int .u32 0, .int .u32 0, .int .u32 0, .int .u32 0, .int .u32 0, .int .u32 0] 24 (0, 0))); have hV_ := (by rw [hw]; exact Kd.V_far (p := ⟨gm, 2, none⟩) hV (fun k hk => hk.1) _ : Kd.V k45 45 W14 0 (fun k => k ≠ gm ∧ k ≠ gr) (.slice (some ad) fs.length cf) fs); have HB_ := (by rw [hw]; exact below_set (g := gm) (j := 2) (v := .int .u32 u) HB (Nat.le_trans wgr (Nat.le_of_lt lrm)) : Below w.heap.size w W14); clear hw BM BR hV HB; have BM := BM_; have BR := BR_; have hV := hV_; have HB := HB_; clear BM_ BR_ hV_ HB_; (try clear km0_); (try clear zkm0_); (try clear km1_); (try clear zkm1_); (try clear km2_); (try clear zkm2_); (try clear km3_); (try clear zkm3_); (try clear km4_); (try clear zkm4_); (try clear km5_); (try clear zkm5_); (try clear km6_); (try clear zkm6_); (try clear kr0_); (try clear zkr0_); (try clear kr1_); (try clear zkr1_); (try clear kr2_); (try clear zkr2_); (try clear kr3_); (try clear zkr3_); (try clear kr4_); (try clear zkr4_); (try clear kr5_); (try clear zkr5_); (try clear kr6_); (try clear zkr6_)))
          go_roundg k2
          case measure => exact Nat.lt_succ_self _
          case rel => exact ⟨wrap64 (x + 1), m1, u, m3, m4, m5, m6, (by first | rfl | (simp [i64_w]; done)), ⟨hres2⟩, ⟨hV⟩, ⟨BM⟩, ⟨BR⟩, ⟨HB⟩⟩
        have d3 : (G == 3) = false := beq_eq_false_iff_ne.mpr c3
        have b3 : (G = 3) = False := eq_false c3
        by_cases c4 : G = 4
        · subst c4
          clear c2
          clear c3
          have hres2 : rget.l k2 l0 fs (wrap64 (x + 1)) v m1 m2 u m4 m5 m6 = some (r1, r2, r3, r4, r5, r6, r7, r8) := hres
          clear hres
          go_wp2_with (first | ((with_reducible refine gate_store (t := 22) (p := 112) rfl ?_); refine store_event (t := 22) (p := 112) (v := ?vw4_) (w1 := w9.setCell ⟨gm, 3, none⟩ (.int .u32 u)) ?hg ?ho ?hn ?hr ?_; (case ho => rfl); (case hg => rfl); (case hn => rfl); (case hr => first | (go_simp; done) | (go_simp; rfl)); intro W14 hw; have BM_ := (by rw [hw]; exact blk_put (cs := #[.int .u32 v, .int .u32 m1, .int .u32 m2, .int .u32 m3, .int .u32 m4, .int .u32 m5, .int .u32 m6]) (cs' := #[.int .u32 v, .int .u32 m1, .int .u32 m2, .int .u32 u, .int .u32 m4, .int .u32 m5, .int .u32 m6]) BM 3 _ rfl : W14.heap[gm]? = some (.cells #[.int .u32 v, .int .u32 m1, .int .u32 m2, .int .u32 u, .int .u32 m4, .int .u32 m5, .int .u32 m6] 24 (0, 0))); have BR_ := (by rw [hw]; exact blk_far (p := ⟨gm, 3, none⟩) BR (Nat.ne_of_lt lrm) _ : W14.heap[gr]? = some (.cells #[.int .u32 0, .int .u32 0, .int .u32 0, .int .u32 0, .int .u32 0, .int .u32 0, .int .u32 0] 24 (0, 0))); have hV_ := (by rw [hw]; exact Kd.V_far (p := ⟨gm, 3, none⟩) hV (fun k hk => hk.1) _ : Kd.V k45 45 W14 0 (fun k => k ≠ gm ∧ k ≠ gr) (.slice (some ad) fs.length cf) fs); have HB_ := (by rw [hw]; exact below_set (g := gm) (j := 3) (v := .int .u32 u) HB (Nat.le_trans wgr (Nat.le_of_lt lrm)) : Below w.heap.size w W14); clear hw BM BR hV HB; have BM := BM_; have BR := BR_; have hV := hV_; have HB := HB_; clear BM_ BR_ hV_ HB_; (try clear km0_); (try clear zkm0_); (try clear km1_); (try clear zkm1_); (try clear km2_); (try clear zkm2_); (try clear km3_); (try clear zkm3_); (try clear km4_); (try clear zkm4_); (try clear km5_); (try clear zkm5_); (try clear km6_); (try clear zkm6_); (try clear kr0_); (try clear zkr0_); (try clear kr1_); (try clear zkr1_); (try clear kr2_); (try clear zkr2_); (try clear kr3_); (try clear zkr3_); (try clear kr4_); (try clear zkr4_); (try clear kr5_); (try clear zkr5_); (try clear kr6_); (try clear zkr6_)))
          go_roundg k2
          case measure => exact Nat.lt_succ_self _
          case rel => exact ⟨wrap64 (x + 1), m1, m2, u, m4, m5, m6, (by first | rfl | (simp [i64_w]; done)), ⟨hres2⟩, ⟨hV⟩, ⟨BM⟩, ⟨BR⟩, ⟨HB⟩⟩
        have d4 : (G == 4) = false := beq_eq_false_iff_ne.mpr c4
        have b4 : (G = 4) = False := eq_false c4
        by_cases c5 : G = 5
        · subst c5
          clear c2
          clear c3
          clear c4
          have hres2 : rget.l k2 l0 fs (wrap64 (x + 1)) v m1 m2 m3 u m5 m6 = some (r1, r2, r3, r4, r5, r6, r7, r8) := hres
          clear hres
          go_wp2_with (first | ((with_reducible refine gate_store (t := 22) (p := 116) rfl ?_); refine store_event (t := 22) (p := 116) (v := ?vw5_) (w1 := w9.setCell ⟨gm, 4, none⟩ (.int .u32 u)) ?hg ?ho ?hn ?hr ?_; (case ho => rfl); (case hg => rfl); (case hn => rfl); (case hr => first | (go_simp; done) | (go_simp; rfl)); intro W14 hw; have BM_ := (by rw [hw]; exact blk_put (cs := #[.int .u32 v, .int .u32 m1, .int .u32 m2, .int .u32 m3, .int .u32 m4, .int .u32 m5, .int .u32 m6]) (cs' := #[.int .u32 v, .int .u32 m1, .int .u32 m2, .int .u32 m3, .int .u32 u, .int .u32 m5, .int .u32 m6]) BM 4 _ rfl : W14.heap[gm]? = some (.cells #[.int .u32 v, .int .u32 m1, .int .u32 m2, .int .u32 m3, .int .u32 u, .int .u32 m5, .int .u32 m6] 24 (0, 0))); have BR_ := (by rw [hw]; exact blk_far (p := ⟨gm, 4, none⟩) BR (Nat.ne_of_lt lrm) _ : W14.heap[gr]? = some (.cells #[.int .u32 0, .int .u32 0, .int .u32 0, .int .u32 0, .int .u32 0, .int .u32 0, .int .u32 0] 24 (0, 0))); have hV_ := (by rw [hw]; exact Kd.V_far (p := ⟨gm, 4, none⟩) hV (fun k hk => hk.1) _ : Kd.V k45 45 W14 0 (fun k => k ≠ gm ∧ k ≠ gr) (.slice (some ad) fs.length cf) fs); have HB_ := (by rw [hw]; exact below_set (g := gm) (j := 4) (v := .int .u32 u) HB (Nat.le_trans wgr (Nat.le_of_lt lrm)) : Below w.heap.size w W14); clear hw BM BR hV HB; have BM := BM_; have BR := BR_; have hV := hV_; have HB := HB_; clear BM_ BR_ hV_ HB_; (try clear km0_); (try clear zkm0_); (try clear km1_); (try clear zkm1_); (try clear km2_); (try clear zkm2_); (try clear km3_); (try clear zkm3_); (try clear km4_); (try clear zkm4_); (try clear km5_); (try clear zkm5_); (try clear km6_); (try clear zkm6_); (try clear kr0_); (try clear zkr0_); (try clear kr1_); (try clear zkr1_); (try clear kr2_); (try clear zkr2_); (try clear kr3_); (try clear zkr3_); (try clear kr4_); (try clear zkr4_); (try clear kr5_); (try clear zkr5_); (try clear kr6_); (try clear zkr6_)))
          go_roundg k2
          case measure => exact Nat.lt_succ_self _
          case rel => exact ⟨wrap64 (x + 1), m1, m2, m3, u, m5, m6, (by first | rfl | (simp [i64_w]; done)), ⟨hres2⟩, ⟨hV⟩, ⟨BM⟩, ⟨BR⟩, ⟨HB⟩⟩
        have d5 : (G == 5) = false := beq_eq_false_iff_ne.mpr c5
        have b5 : (G = 5) = False := eq_false c5
        by_cases c6 : G = 6
        · subst c6
          clear c2
          clear c3
          clear c4
          clear c5
          have hres2 : rget.l k2 l0 fs (wrap64 (x + 1)) v m1 m2 m3 m4 u m6 = some (r1, r2, r3, r4, r5, r6, r7, r8) := hres
          clear hres
          go_wp2_with (first | ((with_reducible refine gate_store (t := 22) (p := 120) rfl ?_); refine store_event (t := 22) (p := 120) (v := ?vw6_) (w1 := w9.setCell ⟨gm, 5, none⟩ (.int .u32 u)) ?hg ?ho ?hn ?hr ?_; (case ho => rfl); (case hg => rfl); (case hn => rfl); (case hr => first | (go_simp; done) | (go_simp; rfl)); intro W14 hw; have BM_ := (by rw [hw]; exact blk_put (cs := #[.int .u32 v, .int .u32 m1, .int .u32 m2, .int .u32 m3, .int .u32 m4, .int .u32 m5, .int .u32 m6]) (cs' := #[.int .u32 v, .int .u32 m1, .int .u32 m2, .int .u32 m3, .int .u32 m4, .int .u32 u, .int .u32 m6]) BM 5 _ rfl : W14.heap[gm]? = some (.cells #[.int .u32 v, .int .u32 m1, .int .u32 m2, .int .u32 m3, .int .u32 m4, .int .u32 u, .int .u32 m6] 24 (0, 0))); have BR_ := (by rw [hw]; exact blk_far (p := ⟨gm, 5, none⟩) BR (Nat.ne_of_lt lrm) _ : W14.heap[gr]? = some (.cells #[.int .u32 0, .int .u32 0, .int .u32 0, .int .u32 0, .int .u32 0, .int .u32 0, .int .u32 0] 24 (0, 0))); have hV_ := (by rw [hw]; exact Kd.V_far (p := ⟨gm, 5, none⟩) hV (fun k hk => hk.1) _ : Kd.V k45 45 W14 0 (fun k => k ≠ gm ∧ k ≠ gr) (.slice (some ad) fs.length cf) fs); have HB_ := (by rw [hw]; exact below_set (g := gm) (j := 5) (v := .int .u32 u) HB (Nat.le_trans wgr (Nat.le_of_lt lrm)) : Below w.heap.size w W14); clear hw BM BR hV HB; have BM := BM_; have BR := BR_; have hV := hV_; have HB := HB_; clear BM_ BR_ hV_ HB_; (try clear km0_); (try clear zkm0_); (try clear km1_); (try clear zkm1_); (try clear km2_); (try clear zkm2_); (try clear km3_); (try clear zkm3_); (try clear km4_); (try clear zkm4_); (try clear km5_); (try clear zkm5_); (try clear km6_); (try clear zkm6_); (try clear kr0_); (try clear zkr0_); (try clear kr1_); (try clear zkr1_); (try clear kr2_); (try clear zkr2_); (try clear kr3_); (try clear zkr3_); (try clear kr4_); (try clear zkr4_); (try clear kr5_); (try clear zkr5_); (try clear kr6_); (try clear zkr6_)))
          go_roundg k2
          case measure => exact Nat.lt_succ_self _
          case rel => exact ⟨wrap64 (x + 1), m1, m2, m3, m4, u, m6, (by first | rfl | (simp [i64_w]; done)), ⟨hres2⟩, ⟨hV⟩, ⟨BM⟩, ⟨BR⟩, ⟨HB⟩⟩
        have d6 : (G == 6) = false := beq_eq_false_iff_ne.mpr c6
        have b6 : (G = 6) = False := eq_false c6
        by_cases c7 : G = 7
        · subst c7
          clear c2
          clear c3
          clear c4
          clear c5
          clear c6
          have hres2 : rget.l k2 l0 fs (wrap64 (x + 1)) v m1 m2 m3 m4 m5 u = some (r1, r2, r3, r4, r5, r6, r7, r8) := hres
          clear hres
          go_wp2_with (first | ((with_reducible refine gate_store (t := 22) (p := 124) rfl ?_); refine store_event (t := 22) (p := 124) (v := ?vw7_) (w1 := w9.setCell ⟨gm, 6, none⟩ (.int .u32 u)) ?hg ?ho ?hn ?hr ?_; (case ho => rfl); (case hg => rfl); (case hn => rfl); (case hr => first | (go_simp; done) | (go_simp; rfl)); intro W14 hw; have BM_ := (by rw [hw]; exact blk_put (cs := #[.int .u32 v, .int .u32 m1, .int .u32 m2, .int .u32 m3, .int .u32 m4, .int .u32 m5, .int .u32 m6]) (cs' := #[.int .u32 v, .int .u32 m1, .int .u32 m2, .int .u32 m3, .int .u32 m4, .int .u32 m5, .int .u32 u]) BM 6 _ rfl : W14.heap[gm]? = some (.cells #[.int .u32 v, .int .u32 m1, .int .u32 m2, .int .u32 m3, .int .u32 m4, .int .u32 m5, .int .u32 u] 24 (0, 0))); have BR_ := (by rw [hw]; exact blk_far (p := ⟨gm, 6, none⟩) BR (Nat.ne_of_lt lrm) _ : W14.heap[gr]? = some (.cells #[.int .u32 0, .int .u32 0, .int .u32 0, .int .u32 0, .int .u32 0, .int .u32 0, .int .u32 0] 24 (0, 0))); have hV_ := (by rw [hw]; exact Kd.V_far (p := ⟨gm, 6, none⟩) hV (fun k hk => hk.1) _ : Kd.V k45 45 W14 0 (fun k => k ≠ gm ∧ k ≠ gr) (.slice (some ad) fs.length cf) fs); have HB_ := (by rw [hw]; exact below_set (g := gm) (j := 6) (v := .int .u32 u) HB (Nat.le_trans wgr (Nat.le_of_lt lrm)) : Below w.heap.size w W14); clear hw BM BR hV HB; have BM := BM_; have BR := BR_; have hV := hV_; have HB := HB_; clear BM_ BR_ hV_ HB_; (try clear km0_); (try clear zkm0_); (try clear km1_); (try clear zkm1_); (try clear km2_); (try clear zkm2_); (try clear km3_); (try clear zkm3_); (try clear km4_); (try clear zkm4_); (try clear km5_); (try clear zkm5_); (try clear km6_); (try clear zkm6_); (try clear kr0_); (try clear zkr0_); (try clear kr1_); (try clear zkr1_); (try clear kr2_); (try clear zkr2_); (try clear kr3_); (try clear zkr3_); (try clear kr4_); (try clear zkr4_); (try clear kr5_); (try clear zkr5_); (try clear kr6_); (try clear zkr6_)))
          go_roundg k2
          case measure => exact Nat.lt_succ_self _
          case rel => exact ⟨wrap64 (x + 1), m1, m2, m3, m4, m5, u, (by first | rfl | (simp [i64_w]; done)), ⟨hres2⟩, ⟨hV⟩, ⟨BM⟩, ⟨BR⟩, ⟨HB⟩⟩
        have d7 : (G == 7) = false := beq_eq_false_iff_ne.mpr c7
        have b7 : (G = 7) = False := eq_false c7
        have hres2 : rget.l k2 l0 fs (wrap64 (x + 1)) v m1 m2 m3 m4 m5 m6 = some (r1, r2, r3, r4, r5, r6, r7, r8) := by rw [if_neg c2, if_neg c3, if_neg c4, if_neg c5, if_neg c6, if_neg c7] at hres; exact hres
        clear hres c2 c3 c4 c5 c6 c7
        go_wp2
        go_roundg k2
        case measure => exact Nat.lt_succ_self _
        case rel => exact ⟨wrap64 (x + 1), m1, m2, m3, m4, m5, m6, (by first | rfl | (simp [i64_w]; done)), ⟨hres2⟩, ⟨hV⟩, ⟨BM⟩, ⟨BR⟩, ⟨HB⟩⟩

end Go.Proofs.YtkmgfleoondblaaDoor.PMsgKeeps
