/- A part of the proof of ParseLayout's card: walks of the functions that it calls, and plain lemmas: Qgref02Same, Xref1, Xparse, Xlist, Qgref01class, Qgref01run, Qgref01sign, Qgref01number, Qgref01Word, Xref2, Xref3, Xref4, Xext, Xlaw1, Xlaw2. No condition of its own. -/
import Derived.Test.YtajcnjdinmgpjaaDoorMParseLayoutb
set_option linter.unusedVariables false
set_option linter.unusedSimpArgs false
namespace Go.Proofs.YtajcnjdinmgpjaaDoor.P
open Go.RowKit Go.Proofs.YtajcnjdinmgpjaaDoorW.PrintWords Go.Proofs.YtajcnjdinmgpjaaDoorW.PrintLast Go.Proofs.YtajcnjdinmgpjaaDoorW.PrintMore
attribute [local go_sem] max2_int min2_int max_two min_two max_three min_three max_four min_four   -- for this text's walks alone
set_option linter.unusedVariables false
set_option linter.unusedSimpArgs false

/-! ### gossamerref02_Same: function 9 -/
mutual
def gossamerref02_Same.j0 : Nat → Bool → Int → ByteArray → Int → Int → List (S25) → Int → ByteArray → Int → Int → List (S25) → Option (Bool)
  | 0, _, _, _, _, _, _, _, _, _, _, _ => none
  | k + 1, x33, x243000, x243001, x243002, x243003, x243004, x244000, x244001, x244002, x244003, x244004 => if x33 = true then (some false) else (gossamerref02_Same.l0 k 0 x243000 x243001 x243002 x243003 x243004 x244000 x244001 x244002 x244003 x244004)
def gossamerref02_Same.l0 : Nat → Int → Int → ByteArray → Int → Int → List (S25) → Int → ByteArray → Int → Int → List (S25) → Option (Bool)
  | 0, _, _, _, _, _, _, _, _, _, _, _ => none
  | k + 1, x5, x243000, x243001, x243002, x243003, x243004, x244000, x244001, x244002, x244003, x244004 => if x5 < (x243004.length : Int) then (if 0 ≤ x5 then (if x5 < (x244004.length : Int) then ((gossamerref02_Same.f k ((rd_T25 x243004 x5).f0) ((rd_T25 x243004 x5).f1) ((rd_T25 x243004 x5).f2) ((rd_T25 x243004 x5).f3) ((rd_T25 x243004 x5).f4) ((rd_T25 x244004 x5).f0) ((rd_T25 x244004 x5).f1) ((rd_T25 x244004 x5).f2) ((rd_T25 x244004 x5).f3) ((rd_T25 x244004 x5).f4)).bind fun t246 => (if t246 = true then (gossamerref02_Same.l0 k (wrap64 (x5 + 1)) x243000 x243001 x243002 x243003 x243004 x244000 x244001 x244002 x244003 x244004) else (some false))) else (none)) else (none)) else (some true)
def gossamerref02_Same.f : Nat → Int → ByteArray → Int → Int → List (S25) → Int → ByteArray → Int → Int → List (S25) → Option (Bool)
  | 0, _, _, _, _, _, _, _, _, _, _ => none
  | k + 1, a0_0, a0_1, a0_2, a0_3, l0_4, a1_0, a1_1, a1_2, a1_3, l1_4 => if a0_0 = a1_0 then (if a0_1.toList = a1_1.toList then (if a0_2 = a1_2 then (gossamerref02_Same.j0 k ((l0_4.length : Int) != (l1_4.length : Int)) a0_0 a0_1 a0_2 a0_3 l0_4 a1_0 a1_1 a1_2 a1_3 l1_4) else (gossamerref02_Same.j0 k true a0_0 a0_1 a0_2 a0_3 l0_4 a1_0 a1_1 a1_2 a1_3 l1_4)) else (gossamerref02_Same.j0 k true a0_0 a0_1 a0_2 a0_3 l0_4 a1_0 a1_1 a1_2 a1_3 l1_4)) else (gossamerref02_Same.j0 k true a0_0 a0_1 a0_2 a0_3 l0_4 a1_0 a1_1 a1_2 a1_3 l1_4)
end
theorem gossamerref02_Same.mono_l : ∀ k, (∀ y0 y1 y2 y3 y4 y5 y6 y7 y8 y9, LeO (gossamerref02_Same.f k y0 y1 y2 y3 y4 y5 y6 y7 y8 y9) (gossamerref02_Same.f (k + 1) y0 y1 y2 y3 y4 y5 y6 y7 y8 y9)) ∧ (∀ y0 y1 y2 y3 y4 y5 y6 y7 y8 y9 y10, LeO (gossamerref02_Same.j0 k y0 y1 y2 y3 y4 y5 y6 y7 y8 y9 y10) (gossamerref02_Same.j0 (k + 1) y0 y1 y2 y3 y4 y5 y6 y7 y8 y9 y10)) ∧ (∀ y0 y1 y2 y3 y4 y5 y6 y7 y8 y9 y10, LeO (gossamerref02_Same.l0 k y0 y1 y2 y3 y4 y5 y6 y7 y8 y9 y10) (gossamerref02_Same.l0 (k + 1) y0 y1 y2 y3 y4 y5 y6 y7 y8 y9 y10))
  | 0 => ⟨fun _ _ _ _ _ _ _ _ _ _ r h => by simp [gossamerref02_Same.f] at h, fun _ _ _ _ _ _ _ _ _ _ _ r h => by simp [gossamerref02_Same.j0] at h, fun _ _ _ _ _ _ _ _ _ _ _ r h => by simp [gossamerref02_Same.l0] at h⟩
  | k + 1 => by
    obtain ⟨ih0, ih1, ih2⟩ := gossamerref02_Same.mono_l k
    refine ⟨?_, ?_, ?_⟩
    · intro y0 y1 y2 y3 y4 y5 y6 y7 y8 y9
      unfold gossamerref02_Same.f
      repeat' first
      | (with_reducible exact ih0 _ _ _ _ _ _ _ _ _ _)
      | (with_reducible exact ih1 _ _ _ _ _ _ _ _ _ _ _)
      | (with_reducible exact ih2 _ _ _ _ _ _ _ _ _ _ _)
      | (with_reducible exact LeO.refl _)
      | (with_reducible exact LeO.none _)
      | (with_reducible refine LeO.ite ?_ ?_)
      | (with_reducible refine LeO.bind ?_ (fun _ => ?_))
      | exact ih0 _ _ _ _ _ _ _ _ _ _
      | exact ih1 _ _ _ _ _ _ _ _ _ _ _
      | exact ih2 _ _ _ _ _ _ _ _ _ _ _
      | exact LeO.none _
      | refine LeO.ite ?_ ?_
      | refine LeO.bind ?_ (fun _ => ?_)
    · intro y0 y1 y2 y3 y4 y5 y6 y7 y8 y9 y10
      unfold gossamerref02_Same.j0
      repeat' first
      | (with_reducible exact ih0 _ _ _ _ _ _ _ _ _ _)
      | (with_reducible exact ih1 _ _ _ _ _ _ _ _ _ _ _)
      | (with_reducible exact ih2 _ _ _ _ _ _ _ _ _ _ _)
      | (with_reducible exact LeO.refl _)
      | (with_reducible exact LeO.none _)
      | (with_reducible refine LeO.ite ?_ ?_)
      | (with_reducible refine LeO.bind ?_ (fun _ => ?_))
      | exact ih0 _ _ _ _ _ _ _ _ _ _
      | exact ih1 _ _ _ _ _ _ _ _ _ _ _
      | exact ih2 _ _ _ _ _ _ _ _ _ _ _
      | exact LeO.none _
      | refine LeO.ite ?_ ?_
      | refine LeO.bind ?_ (fun _ => ?_)
    · intro y0 y1 y2 y3 y4 y5 y6 y7 y8 y9 y10
      unfold gossamerref02_Same.l0
      repeat' first
      | (with_reducible exact ih0 _ _ _ _ _ _ _ _ _ _)
      | (with_reducible exact ih1 _ _ _ _ _ _ _ _ _ _ _)
      | (with_reducible exact ih2 _ _ _ _ _ _ _ _ _ _ _)
      | (with_reducible exact LeO.refl _)
      | (with_reducible exact LeO.none _)
      | (with_reducible refine LeO.ite ?_ ?_)
      | (with_reducible refine LeO.bind ?_ (fun _ => ?_))
      | exact ih0 _ _ _ _ _ _ _ _ _ _
      | exact ih1 _ _ _ _ _ _ _ _ _ _ _
      | exact ih2 _ _ _ _ _ _ _ _ _ _ _
      | exact LeO.none _
      | refine LeO.ite ?_ ?_
      | refine LeO.bind ?_ (fun _ => ?_)
theorem gossamerref02_Same.mono : ∀ a0 a1 a2 a3 a4 a5 a6 a7 a8 a9 k, LeO (gossamerref02_Same.f k a0 a1 a2 a3 a4 a5 a6 a7 a8 a9) (gossamerref02_Same.f (k + 1) a0 a1 a2 a3 a4 a5 a6 a7 a8 a9) := by
  intro a0 a1 a2 a3 a4 a5 a6 a7 a8 a9 k
  obtain ⟨ih0, ih1, ih2⟩ := gossamerref02_Same.mono_l k
  exact ih0 a0 a1 a2 a3 a4 a5 a6 a7 a8 a9
def gossamerref02_Same.T6 : Bool × List (List Nat × List Nat) := (true, [([], []), ([0], [0]), ([], []), ([1, 2], [1, 2]), ([3], [3]), ([], []), ([5], [5]), ([], []), ([6, 7], [6, 7]), ([8], [8]), ([4, 9], [4, 9]), ([10], [10])])
def gossamerref02_Same.B6 : List Nat := [0, 1, 0, 7, 15, 0, 32, 0, 224, 480, 1023, 2047]
theorem gossamerref02_Same.tab6 : rtab .any (opsOf Tryd.f9 6) = gossamerref02_Same.T6 := by kernel_rfl
theorem gossamerref02_Same.bits6 : waitsOk gossamerref02_Same.T6.2 gossamerref02_Same.B6 = true := by kernel_rfl
set_option maxHeartbeats 8000000 in
set_option maxRecDepth 100000 in
theorem gossamerref02_Same.calls (k : Nat) : ∀ (a0_0 : Int) (a0_1 : ByteArray) (a0_2 : Int) (a0_3 : Int) (A0_4 : Option Addr) (c0_4 : Nat) (l0_4 : List (S25)) (a1_0 : Int) (a1_1 : ByteArray) (a1_2 : Int) (a1_3 : Int) (A1_4 : Option Addr) (c1_4 : Nat) (l1_4 : List (S25)) (r : Bool) (w : World) (hr0_4 : Kd.C k25 w A0_4 l0_4.length l0_4) (hc0_4 : l0_4.length ≤ c0_4) (hr1_4 : Kd.C k25 w A1_4 l1_4.length l1_4) (hc1_4 : l1_4.length ≤ c1_4) (h : gossamerref02_Same.f k a0_0 a0_1 a0_2 a0_3 l0_4 a1_0 a1_1 a1_2 a1_3 l1_4 = some r),
    Calls Tryd.prog 9 #[.agg #[.int .i64 a0_0, .string a0_1, .int .i64 a0_2, .int .i64 a0_3, .slice A0_4 l0_4.length c0_4], .agg #[.int .i64 a1_0, .string a1_1, .int .i64 a1_2, .int .i64 a1_3, .slice A1_4 l1_4.length c1_4]] w fun e w' => e = .returned (.bool r) ∧ Below w.heap.size w w' := by
  induction k using Nat.strongRecOn with
  | _ k ih =>
  intro a0_0 a0_1 a0_2 a0_3 A0_4 c0_4 l0_4 a1_0 a1_1 a1_2 a1_3 A1_4 c1_4 l1_4 r w hr0_4 hc0_4 hr1_4 hc1_4 h
  cases k with
  | zero => exact absurd h (by simp [gossamerref02_Same.f])
  | succ k =>
  simp only [gossamerref02_Same.f] at h
  have hu25 := Tryd.underlying25
  have HR0_4 := Aside0.mk hr0_4
  have HC0_4 := Aside0.mk hc0_4
  clear hr0_4 hc0_4
  have HR1_4 := Aside0.mk hr1_4
  have HC1_4 := Aside0.mk hc1_4
  clear hr1_4 hc1_4
  have HB := Aside0.mk (Below.refl w.heap.size w)
  have H : (if a0_0 = a1_0 then (if a0_1.toList = a1_1.toList then (if a0_2 = a1_2 then (gossamerref02_Same.j0 k ((l0_4.length : Int) != (l1_4.length : Int)) a0_0 a0_1 a0_2 a0_3 l0_4 a1_0 a1_1 a1_2 a1_3 l1_4) else (gossamerref02_Same.j0 k true a0_0 a0_1 a0_2 a0_3 l0_4 a1_0 a1_1 a1_2 a1_3 l1_4)) else (gossamerref02_Same.j0 k true a0_0 a0_1 a0_2 a0_3 l0_4 a1_0 a1_1 a1_2 a1_3 l1_4)) else (gossamerref02_Same.j0 k true a0_0 a0_1 a0_2 a0_3 l0_4 a1_0 a1_1 a1_2 a1_3 l1_4)) = some r := h
  clear h
  have HC3 := Aside0.mk H
  clear H
  go_enter Tryd.func9, Tryd.ntmps9
  go_upto_region 1 with (first | ((with_reducible refine gate_dst (N := 2) rfl ?_); (try (refine gate_guard (by rfl) ?_; dsimp only)); refine box_event ?hg (N := 2) ?hd (cs := #[.int .i64 a0_0, .string a0_1, .int .i64 a0_2, .int .i64 a0_3, .slice A0_4 l0_4.length c0_4]) (t := 25) ?hr ?_; (case hd => rfl); (case hg => rfl); (case hr => first | (go_simp; done) | (go_simp; rfl)); intro gb242 hg w4 hbox hb; have n0_ := Aside0.mk (below_step (by repeat (first | (with_reducible first | exact HB.out | apply below_alloc | apply pw_below_drewN | apply below_drew1) | exact HB.out)) hb); have n1_ := Aside0.mk (hbox); have n2_ := Aside0.mk ((by rw [hg]; exact (below_size (by repeat (first | (with_reducible first | exact HB.out | apply below_alloc | apply pw_below_drewN | apply below_drew1) | exact HB.out))) : w.heap.size ≤ gb242)); have n3_ := Aside0.mk ((by rw [hg]; exact (below_size (by repeat (first | (with_reducible first | exact HB.out | apply below_alloc | apply pw_below_drewN | apply below_drew1) | exact HB.out))) : w.heap.size ≤ gb242)); clear HB; have HB := n0_; have BK242 := n1_; have GW242 := n2_; have GE242 := n3_; clear n0_ n1_ n2_ n3_; clear hb hbox hg) | ((with_reducible refine gate_dst (N := 3) rfl ?_); (try (refine gate_guard (by rfl) ?_; dsimp only)); refine box_event ?hg (N := 3) ?hd (cs := #[.int .i64 a1_0, .string a1_1, .int .i64 a1_2, .int .i64 a1_3, .slice A1_4 l1_4.length c1_4]) (t := 25) ?hr ?_; (case hd => rfl); (case hg => rfl); (case hr => first | (go_simp; done) | (go_simp; rfl)); intro gb243 hg w5 hbox hb; have n0_ := Aside0.mk (blk_below (g := gb242) (o := .cells #[.int .i64 a0_0, .string a0_1, .int .i64 a0_2, .int .i64 a0_3, .slice A0_4 l0_4.length c0_4] 25 (0, 0)) (by (with_reducible repeat (first | refine blk_drewN ?_ _ | refine blk_drew ?_ | refine blk_alloc ?_ _)); exact BK242.out) hb); have n1_ := Aside0.mk (below_step (by repeat (first | (with_reducible first | exact HB.out | apply below_alloc | apply pw_below_drewN | apply below_drew1 | refine below_set ?_ GE242.out) | exact HB.out)) hb); have n2_ := Aside0.mk (hbox); have n3_ := Aside0.mk ((by rw [hg]; exact (below_size (by repeat (first | (with_reducible first | exact HB.out | apply below_alloc | apply pw_below_drewN | apply below_drew1 | refine below_set ?_ GE242.out) | exact HB.out))) : w.heap.size ≤ gb243)); have n4_ := Aside0.mk ((by rw [hg]; exact (below_size (by repeat (first | (with_reducible first | exact HB.out | apply below_alloc | apply pw_below_drewN | apply below_drew1 | refine below_set ?_ GE242.out) | exact HB.out))) : w.heap.size ≤ gb243)); have n5_ := Aside0.mk ((by rw [hg]; exact Nat.ne_of_lt (blk_lt (g := gb242) (o := .cells #[.int .i64 a0_0, .string a0_1, .int .i64 a0_2, .int .i64 a0_3, .slice A0_4 l0_4.length c0_4] 25 (0, 0)) (by (with_reducible repeat (first | refine blk_drewN ?_ _ | refine blk_drew ?_ | refine blk_alloc ?_ _)); exact BK242.out)) : gb242 ≠ gb243)); have n6_ := Aside0.mk ((by rw [hg]; exact Nat.ne_of_gt (blk_lt (g := gb242) (o := .cells #[.int .i64 a0_0, .string a0_1, .int .i64 a0_2, .int .i64 a0_3, .slice A0_4 l0_4.length c0_4] 25 (0, 0)) (by (with_reducible repeat (first | refine blk_drewN ?_ _ | refine blk_drew ?_ | refine blk_alloc ?_ _)); exact BK242.out)) : gb243 ≠ gb242)); clear BK242; clear HB; have BK242 := n0_; have HB := n1_; have BK243 := n2_; have GW243 := n3_; have GE243 := n4_; have NB242_243 := n5_; have NB243_242 := n6_; clear n0_ n1_ n2_ n3_ n4_ n5_ n6_; clear hb hbox hg))
  (try simp only [Act.put, List.setIfInBounds_toArray, List.set_cons_zero, List.set_cons_succ])
  go_cut [33] (fun v33 wc => ∃ (kq : Nat) (x33_2 : Bool), v33 = .bool x33_2 ∧ Aside0 (gossamerref02_Same.j0 kq x33_2 a0_0 a0_1 a0_2 a0_3 l0_4 a1_0 a1_1 a1_2 a1_3 l1_4 = some r) ∧ Aside0 (kq ≤ k) ∧ Aside0 (wc.heap[gb242]? = some (.cells #[.int .i64 a0_0, .string a0_1, .int .i64 a0_2, .int .i64 a0_3, (.slice A0_4 l0_4.length c0_4)] 25 (0, 0))) ∧ Aside0 (wc.heap[gb243]? = some (.cells #[.int .i64 a1_0, .string a1_1, .int .i64 a1_2, .int .i64 a1_3, (.slice A1_4 l1_4.length c1_4)] 25 (0, 0))) ∧ Aside0 (Below w.heap.size w wc))
  case first =>
    have H := HC3.out
    clear HC3
    by_cases c6 : a0_0 = a1_0
    · rw [if_pos c6] at H
      have c6b0 : (a0_0 == a1_0) = true := beq_iff_eq.mpr c6
      have c6b1 : (a0_0 != a1_0) = false := bne_eq_false_iff_eq.mpr c6
      clear c6
      (first | rw [c6b0] | (simp only [i64_w, i32_w]; rw [c6b0]) | skip)
      by_cases c7 : a0_1.toList = a1_1.toList
      · rw [if_pos c7] at H
        have c7b0 : (a0_1.toList == a1_1.toList) = true := beq_iff_eq.mpr c7
        have c7b1 : (a0_1.toList != a1_1.toList) = false := bne_eq_false_iff_eq.mpr c7
        clear c7
        by_cases c8 : a0_2 = a1_2
        · rw [if_pos c8] at H
          have c8b0 : (a0_2 == a1_2) = true := beq_iff_eq.mpr c8
          have c8b1 : (a0_2 != a1_2) = false := bne_eq_false_iff_eq.mpr c8
          clear c8
          have H' := Aside0.mk H
          clear H
          have hnb9 := NB242_243.out
          have hnc9 := NB243_242.out
          have hcz10_0 : w5.cell? ⟨gb242, 0, none⟩ = some (.int .i64 a0_0) := (blk_cell BK242.out 0).trans rfl
          have hcz10_1 : w5.cell? ⟨gb242, 1, none⟩ = some (.string a0_1) := (blk_cell BK242.out 1).trans rfl
          have hcz10_2 : w5.cell? ⟨gb242, 2, none⟩ = some (.int .i64 a0_2) := (blk_cell BK242.out 2).trans rfl
          have hcz10_3 : w5.cell? ⟨gb242, 3, none⟩ = some (.int .i64 a0_3) := (blk_cell BK242.out 3).trans rfl
          have hcz10_4 : w5.cell? ⟨gb242, 4, none⟩ = some (.slice A0_4 l0_4.length c0_4) := (blk_cell BK242.out 4).trans rfl
          have hfz10_0 := blk_frozen BK242.out 0
          have hfz10_1 := blk_frozen BK242.out 1
          have hfz10_2 := blk_frozen BK242.out 2
          have hfz10_3 := blk_frozen BK242.out 3
          have hfz10_4 := blk_frozen BK242.out 4
          have hcz11_0 : w5.cell? ⟨gb243, 0, none⟩ = some (.int .i64 a1_0) := (blk_cell BK243.out 0).trans rfl
          have hcz11_1 : w5.cell? ⟨gb243, 1, none⟩ = some (.string a1_1) := (blk_cell BK243.out 1).trans rfl
          have hcz11_2 : w5.cell? ⟨gb243, 2, none⟩ = some (.int .i64 a1_2) := (blk_cell BK243.out 2).trans rfl
          have hcz11_3 : w5.cell? ⟨gb243, 3, none⟩ = some (.int .i64 a1_3) := (blk_cell BK243.out 3).trans rfl
          have hcz11_4 : w5.cell? ⟨gb243, 4, none⟩ = some (.slice A1_4 l1_4.length c1_4) := (blk_cell BK243.out 4).trans rfl
          have hfz11_0 := blk_frozen BK243.out 0
          have hfz11_1 := blk_frozen BK243.out 1
          have hfz11_2 := blk_frozen BK243.out 2
          have hfz11_3 := blk_frozen BK243.out 3
          have hfz11_4 := blk_frozen BK243.out 4
          go_wp2
          go_meet
          case rel => exact ⟨_, (((l0_4.length : Int) != (l1_4.length : Int))), (by first | rfl | (simp; done) | (simp [*]; done)), H', ⟨by first | omega | exact Nat.le_refl _⟩, ⟨by (with_reducible repeat (first | refine blk_drewN ?_ _ | refine blk_drew ?_ | refine blk_alloc ?_ _)); exact BK242.out⟩, ⟨by (with_reducible repeat (first | refine blk_drewN ?_ _ | refine blk_drew ?_ | refine blk_alloc ?_ _)); exact BK243.out⟩, ⟨by repeat (first | (with_reducible first | exact HB.out | apply below_alloc | apply pw_below_drewN | apply below_drew1 | refine below_set ?_ GE242.out | refine below_set ?_ GE243.out) | exact HB.out)⟩⟩
        · rw [if_neg c8] at H
          have c8b0 : (a0_2 == a1_2) = false := beq_eq_false_iff_ne.mpr c8
          have c8b1 : (a0_2 != a1_2) = true := bne_iff_ne.mpr c8
          have H' := Aside0.mk H
          clear H
          have hnb12 := NB242_243.out
          have hnc12 := NB243_242.out
          have hcz13_0 : w5.cell? ⟨gb242, 0, none⟩ = some (.int .i64 a0_0) := (blk_cell BK242.out 0).trans rfl
          have hcz13_1 : w5.cell? ⟨gb242, 1, none⟩ = some (.string a0_1) := (blk_cell BK242.out 1).trans rfl
          have hcz13_2 : w5.cell? ⟨gb242, 2, none⟩ = some (.int .i64 a0_2) := (blk_cell BK242.out 2).trans rfl
          have hcz13_3 : w5.cell? ⟨gb242, 3, none⟩ = some (.int .i64 a0_3) := (blk_cell BK242.out 3).trans rfl
          have hcz13_4 : w5.cell? ⟨gb242, 4, none⟩ = some (.slice A0_4 l0_4.length c0_4) := (blk_cell BK242.out 4).trans rfl
          have hfz13_0 := blk_frozen BK242.out 0
          have hfz13_1 := blk_frozen BK242.out 1
          have hfz13_2 := blk_frozen BK242.out 2
          have hfz13_3 := blk_frozen BK242.out 3
          have hfz13_4 := blk_frozen BK242.out 4
          have hcz14_0 : w5.cell? ⟨gb243, 0, none⟩ = some (.int .i64 a1_0) := (blk_cell BK243.out 0).trans rfl
          have hcz14_1 : w5.cell? ⟨gb243, 1, none⟩ = some (.string a1_1) := (blk_cell BK243.out 1).trans rfl
          have hcz14_2 : w5.cell? ⟨gb243, 2, none⟩ = some (.int .i64 a1_2) := (blk_cell BK243.out 2).trans rfl
          have hcz14_3 : w5.cell? ⟨gb243, 3, none⟩ = some (.int .i64 a1_3) := (blk_cell BK243.out 3).trans rfl
          have hcz14_4 : w5.cell? ⟨gb243, 4, none⟩ = some (.slice A1_4 l1_4.length c1_4) := (blk_cell BK243.out 4).trans rfl
          have hfz14_0 := blk_frozen BK243.out 0
          have hfz14_1 := blk_frozen BK243.out 1
          have hfz14_2 := blk_frozen BK243.out 2
          have hfz14_3 := blk_frozen BK243.out 3
          have hfz14_4 := blk_frozen BK243.out 4
          go_wp2
          go_meet
          case rel => exact ⟨_, (true), (by first | rfl | (simp; done) | (simp [*]; done)), H', ⟨by first | omega | exact Nat.le_refl _⟩, ⟨by (with_reducible repeat (first | refine blk_drewN ?_ _ | refine blk_drew ?_ | refine blk_alloc ?_ _)); exact BK242.out⟩, ⟨by (with_reducible repeat (first | refine blk_drewN ?_ _ | refine blk_drew ?_ | refine blk_alloc ?_ _)); exact BK243.out⟩, ⟨by repeat (first | (with_reducible first | exact HB.out | apply below_alloc | apply pw_below_drewN | apply below_drew1 | refine below_set ?_ GE242.out | refine below_set ?_ GE243.out) | exact HB.out)⟩⟩
      · rw [if_neg c7] at H
        have c7b0 : (a0_1.toList == a1_1.toList) = false := beq_eq_false_iff_ne.mpr c7
        have c7b1 : (a0_1.toList != a1_1.toList) = true := bne_iff_ne.mpr c7
        have H' := Aside0.mk H
        clear H
        have hnb15 := NB242_243.out
        have hnc15 := NB243_242.out
        have hcz16_0 : w5.cell? ⟨gb242, 0, none⟩ = some (.int .i64 a0_0) := (blk_cell BK242.out 0).trans rfl
        have hcz16_1 : w5.cell? ⟨gb242, 1, none⟩ = some (.string a0_1) := (blk_cell BK242.out 1).trans rfl
        have hcz16_2 : w5.cell? ⟨gb242, 2, none⟩ = some (.int .i64 a0_2) := (blk_cell BK242.out 2).trans rfl
        have hcz16_3 : w5.cell? ⟨gb242, 3, none⟩ = some (.int .i64 a0_3) := (blk_cell BK242.out 3).trans rfl
        have hcz16_4 : w5.cell? ⟨gb242, 4, none⟩ = some (.slice A0_4 l0_4.length c0_4) := (blk_cell BK242.out 4).trans rfl
        have hfz16_0 := blk_frozen BK242.out 0
        have hfz16_1 := blk_frozen BK242.out 1
        have hfz16_2 := blk_frozen BK242.out 2
        have hfz16_3 := blk_frozen BK242.out 3
        have hfz16_4 := blk_frozen BK242.out 4
        have hcz17_0 : w5.cell? ⟨gb243, 0, none⟩ = some (.int .i64 a1_0) := (blk_cell BK243.out 0).trans rfl
        have hcz17_1 : w5.cell? ⟨gb243, 1, none⟩ = some (.string a1_1) := (blk_cell BK243.out 1).trans rfl
        have hcz17_2 : w5.cell? ⟨gb243, 2, none⟩ = some (.int .i64 a1_2) := (blk_cell BK243.out 2).trans rfl
        have hcz17_3 : w5.cell? ⟨gb243, 3, none⟩ = some (.int .i64 a1_3) := (blk_cell BK243.out 3).trans rfl
        have hcz17_4 : w5.cell? ⟨gb243, 4, none⟩ = some (.slice A1_4 l1_4.length c1_4) := (blk_cell BK243.out 4).trans rfl
        have hfz17_0 := blk_frozen BK243.out 0
        have hfz17_1 := blk_frozen BK243.out 1
        have hfz17_2 := blk_frozen BK243.out 2
        have hfz17_3 := blk_frozen BK243.out 3
        have hfz17_4 := blk_frozen BK243.out 4
        go_wp2
        go_meet
        case rel => exact ⟨_, (true), (by first | rfl | (simp; done) | (simp [*]; done)), H', ⟨by first | omega | exact Nat.le_refl _⟩, ⟨by (with_reducible repeat (first | refine blk_drewN ?_ _ | refine blk_drew ?_ | refine blk_alloc ?_ _)); exact BK242.out⟩, ⟨by (with_reducible repeat (first | refine blk_drewN ?_ _ | refine blk_drew ?_ | refine blk_alloc ?_ _)); exact BK243.out⟩, ⟨by repeat (first | (with_reducible first | exact HB.out | apply below_alloc | apply pw_below_drewN | apply below_drew1 | refine below_set ?_ GE242.out | refine below_set ?_ GE243.out) | exact HB.out)⟩⟩
    · rw [if_neg c6] at H
      have c6b0 : (a0_0 == a1_0) = false := beq_eq_false_iff_ne.mpr c6
      have c6b1 : (a0_0 != a1_0) = true := bne_iff_ne.mpr c6
      (first | rw [c6b0] | (simp only [i64_w, i32_w]; rw [c6b0]) | skip)
      have H' := Aside0.mk H
      clear H
      have hnb18 := NB242_243.out
      have hnc18 := NB243_242.out
      have hcz19_0 : w5.cell? ⟨gb242, 0, none⟩ = some (.int .i64 a0_0) := (blk_cell BK242.out 0).trans rfl
      have hcz19_1 : w5.cell? ⟨gb242, 1, none⟩ = some (.string a0_1) := (blk_cell BK242.out 1).trans rfl
      have hcz19_2 : w5.cell? ⟨gb242, 2, none⟩ = some (.int .i64 a0_2) := (blk_cell BK242.out 2).trans rfl
      have hcz19_3 : w5.cell? ⟨gb242, 3, none⟩ = some (.int .i64 a0_3) := (blk_cell BK242.out 3).trans rfl
      have hcz19_4 : w5.cell? ⟨gb242, 4, none⟩ = some (.slice A0_4 l0_4.length c0_4) := (blk_cell BK242.out 4).trans rfl
      have hfz19_0 := blk_frozen BK242.out 0
      have hfz19_1 := blk_frozen BK242.out 1
      have hfz19_2 := blk_frozen BK242.out 2
      have hfz19_3 := blk_frozen BK242.out 3
      have hfz19_4 := blk_frozen BK242.out 4
      have hcz20_0 : w5.cell? ⟨gb243, 0, none⟩ = some (.int .i64 a1_0) := (blk_cell BK243.out 0).trans rfl
      have hcz20_1 : w5.cell? ⟨gb243, 1, none⟩ = some (.string a1_1) := (blk_cell BK243.out 1).trans rfl
      have hcz20_2 : w5.cell? ⟨gb243, 2, none⟩ = some (.int .i64 a1_2) := (blk_cell BK243.out 2).trans rfl
      have hcz20_3 : w5.cell? ⟨gb243, 3, none⟩ = some (.int .i64 a1_3) := (blk_cell BK243.out 3).trans rfl
      have hcz20_4 : w5.cell? ⟨gb243, 4, none⟩ = some (.slice A1_4 l1_4.length c1_4) := (blk_cell BK243.out 4).trans rfl
      have hfz20_0 := blk_frozen BK243.out 0
      have hfz20_1 := blk_frozen BK243.out 1
      have hfz20_2 := blk_frozen BK243.out 2
      have hfz20_3 := blk_frozen BK243.out 3
      have hfz20_4 := blk_frozen BK243.out 4
      go_wp2
      go_meet
      case rel => exact ⟨_, (true), (by first | rfl | (simp; done) | (simp [*]; done)), H', ⟨by first | omega | exact Nat.le_refl _⟩, ⟨by (with_reducible repeat (first | refine blk_drewN ?_ _ | refine blk_drew ?_ | refine blk_alloc ?_ _)); exact BK242.out⟩, ⟨by (with_reducible repeat (first | refine blk_drewN ?_ _ | refine blk_drew ?_ | refine blk_alloc ?_ _)); exact BK243.out⟩, ⟨by repeat (first | (with_reducible first | exact HB.out | apply below_alloc | apply pw_below_drewN | apply below_drew1 | refine below_set ?_ GE242.out | refine below_set ?_ GE243.out) | exact HB.out)⟩⟩
  case rest =>
    clear HC3
    try clear c1
    try clear p2
    try clear c6
    try clear c6b0
    try clear c6b1
    try clear c7
    try clear c7b0
    try clear c7b1
    try clear c8
    try clear c8b0
    try clear c8b1
    try clear c9
    try clear c12
    try clear c15
    try clear c18
    try clear hcz10_0
    try clear hcz10_1
    try clear hcz10_2
    try clear hcz10_3
    try clear hcz10_4
    try clear hcz11_0
    try clear hcz11_1
    try clear hcz11_2
    try clear hcz11_3
    try clear hcz11_4
    try clear hcz13_0
    try clear hcz13_1
    try clear hcz13_2
    try clear hcz13_3
    try clear hcz13_4
    try clear hcz14_0
    try clear hcz14_1
    try clear hcz14_2
    try clear hcz14_3
    try clear hcz14_4
    try clear hcz16_0
    try clear hcz16_1
    try clear hcz16_2
    try clear hcz16_3
    try clear hcz16_4
    try clear hcz17_0
    try clear hcz17_1
    try clear hcz17_2
    try clear hcz17_3
    try clear hcz17_4
    try clear hcz19_0
    try clear hcz19_1
    try clear hcz19_2
    try clear hcz19_3
    try clear hcz19_4
    try clear hcz20_0
    try clear hcz20_1
    try clear hcz20_2
    try clear hcz20_3
    try clear hcz20_4
    try clear hfz10_0
    try clear hfz10_1
    try clear hfz10_2
    try clear hfz10_3
    try clear hfz10_4
    try clear hfz11_0
    try clear hfz11_1
    try clear hfz11_2
    try clear hfz11_3
    try clear hfz11_4
    try clear hfz13_0
    try clear hfz13_1
    try clear hfz13_2
    try clear hfz13_3
    try clear hfz13_4
    try clear hfz14_0
    try clear hfz14_1
    try clear hfz14_2
    try clear hfz14_3
    try clear hfz14_4
    try clear hfz16_0
    try clear hfz16_1
    try clear hfz16_2
    try clear hfz16_3
    try clear hfz16_4
    try clear hfz17_0
    try clear hfz17_1
    try clear hfz17_2
    try clear hfz17_3
    try clear hfz17_4
    try clear hfz19_0
    try clear hfz19_1
    try clear hfz19_2
    try clear hfz19_3
    try clear hfz19_4
    try clear hfz20_0
    try clear hfz20_1
    try clear hfz20_2
    try clear hfz20_3
    try clear hfz20_4
    obtain ⟨kq, x33_2, rfl, HA, HJ2, BK242, BK243, HB⟩ := hcut
    cases kq with
    | zero => exact absurd HA.out (by simp [gossamerref02_Same.j0])
    | succ kj2 =>
      have H := HA.out
      clear HA
      simp only [gossamerref02_Same.j0] at H
      by_cases c21 : x33_2 = true
      · subst c21
        have H1 : (some false) = some r := by rw [if_pos rfl] at H; exact H
        clear H
        have H := H1
        clear H1
        obtain rfl := Option.some.inj H
        go_wp2
        go_ret
        exact ⟨by first | rfl | (simp [errW_none, errW_some] <;> rfl) | (simp [*, errW_none, errW_some] <;> rfl), by repeat (first | (with_reducible first | exact HB.out | apply below_alloc | apply pw_below_drewN | apply below_drew1 | refine below_set ?_ GE242.out | refine below_set ?_ GE243.out) | exact HB.out)⟩
      · replace c21 := Bool.eq_false_iff.mpr c21
        subst c21
        have H1 : (gossamerref02_Same.l0 kj2 0 a0_0 a0_1 a0_2 a0_3 l0_4 a1_0 a1_1 a1_2 a1_3 l1_4) = some r := by rw [if_neg (show ¬ (false = true) by decide)] at H; exact H
        clear H
        have H := H1
        clear H1
        have H' := Aside0.mk H
        clear H
        go_wp2
        go_loopg [5] kj2 (fun kq v5 w' => ∃ (x5_2 : Int), v5 = .int .i64 x5_2 ∧ Aside0 (gossamerref02_Same.l0 kq x5_2 a0_0 a0_1 a0_2 a0_3 l0_4 a1_0 a1_1 a1_2 a1_3 l1_4 = some r) ∧ Aside0 (kq ≤ kj2) ∧ Aside0 (w'.heap[gb242]? = some (.cells #[.int .i64 a0_0, .string a0_1, .int .i64 a0_2, .int .i64 a0_3, (.slice A0_4 l0_4.length c0_4)] 25 (0, 0))) ∧ Aside0 (w'.heap[gb243]? = some (.cells #[.int .i64 a1_0, .string a1_1, .int .i64 a1_2, .int .i64 a1_3, (.slice A1_4 l1_4.length c1_4)] 25 (0, 0))) ∧ Aside0 (Below w.heap.size w w'))
        case atStart => exact ⟨(0), (by first | rfl | (simp; done) | (simp [*]; done)), H', ⟨Nat.le_refl _⟩, ⟨by (with_reducible repeat (first | refine blk_drewN ?_ _ | refine blk_drew ?_ | refine blk_alloc ?_ _)); exact BK242.out⟩, ⟨by (with_reducible repeat (first | refine blk_drewN ?_ _ | refine blk_drew ?_ | refine blk_alloc ?_ _)); exact BK243.out⟩, ⟨by repeat (first | (with_reducible first | exact HB.out | apply below_alloc | apply pw_below_drewN | apply below_drew1 | refine below_set ?_ GE242.out | refine below_set ?_ GE243.out) | exact HB.out)⟩⟩
        case round =>
          clear H'
          try clear c1
          try clear c2
          try clear p2
          try clear c6
          try clear c6b0
          try clear c6b1
          try clear c7
          try clear c7b0
          try clear c7b1
          try clear c8
          try clear c8b0
          try clear c8b1
          try clear c9
          try clear c12
          try clear c15
          try clear c18
          try clear c21
          try clear hcz10_0
          try clear hcz10_1
          try clear hcz10_2
          try clear hcz10_3
          try clear hcz10_4
          try clear hcz11_0
          try clear hcz11_1
          try clear hcz11_2
          try clear hcz11_3
          try clear hcz11_4
          try clear hcz13_0
          try clear hcz13_1
          try clear hcz13_2
          try clear hcz13_3
          try clear hcz13_4
          try clear hcz14_0
          try clear hcz14_1
          try clear hcz14_2
          try clear hcz14_3
          try clear hcz14_4
          try clear hcz16_0
          try clear hcz16_1
          try clear hcz16_2
          try clear hcz16_3
          try clear hcz16_4
          try clear hcz17_0
          try clear hcz17_1
          try clear hcz17_2
          try clear hcz17_3
          try clear hcz17_4
          try clear hcz19_0
          try clear hcz19_1
          try clear hcz19_2
          try clear hcz19_3
          try clear hcz19_4
          try clear hcz20_0
          try clear hcz20_1
          try clear hcz20_2
          try clear hcz20_3
          try clear hcz20_4
          try clear hfz10_0
          try clear hfz10_1
          try clear hfz10_2
          try clear hfz10_3
          try clear hfz10_4
          try clear hfz11_0
          try clear hfz11_1
          try clear hfz11_2
          try clear hfz11_3
          try clear hfz11_4
          try clear hfz13_0
          try clear hfz13_1
          try clear hfz13_2
          try clear hfz13_3
          try clear hfz13_4
          try clear hfz14_0
          try clear hfz14_1
          try clear hfz14_2
          try clear hfz14_3
          try clear hfz14_4
          try clear hfz16_0
          try clear hfz16_1
          try clear hfz16_2
          try clear hfz16_3
          try clear hfz16_4
          try clear hfz17_0
          try clear hfz17_1
          try clear hfz17_2
          try clear hfz17_3
          try clear hfz17_4
          try clear hfz19_0
          try clear hfz19_1
          try clear hfz19_2
          try clear hfz19_3
          try clear hfz19_4
          try clear hfz20_0
          try clear hfz20_1
          try clear hfz20_2
          try clear hfz20_3
          try clear hfz20_4
          try clear p2
          obtain ⟨x5_2, rfl, HA, HK2, BK242, BK243, HB⟩ := hrel
          cases gk with
          | zero => exact absurd HA.out (by simp [gossamerref02_Same.l0])
          | succ k2 =>
            have H := HA.out
            clear HA
            simp only [gossamerref02_Same.l0] at H
            by_cases c22 : x5_2 < (l0_4.length : Int)
            · rw [if_pos c22] at H
              have c22b0 : decide (x5_2 < (l0_4.length : Int)) = true := decide_eq_true c22
              clear c22
              by_cases c23 : 0 ≤ x5_2
              · rw [if_pos c23] at H
                have c23b0 : decide (0 ≤ x5_2) = true := decide_eq_true c23
                clear c23
                by_cases c24 : x5_2 < (l1_4.length : Int)
                · rw [if_pos c24] at H
                  have c24b0 : decide (x5_2 < (l1_4.length : Int)) = true := decide_eq_true c24
                  clear c24
                  replace H := Option.bind_eq_some_iff.mp H
                  obtain ⟨t246, A250, H⟩ := H
                  replace H : (if t246 = true then (gossamerref02_Same.l0 k2 (wrap64 (x5_2 + 1)) a0_0 a0_1 a0_2 a0_3 l0_4 a1_0 a1_1 a1_2 a1_3 l1_4) else (some false)) = some r := H
                  have A25 := Aside0.mk A250
                  clear A250
                  by_cases c26 : t246 = true
                  · subst c26
                    have H1 : (gossamerref02_Same.l0 k2 (wrap64 (x5_2 + 1)) a0_0 a0_1 a0_2 a0_3 l0_4 a1_0 a1_1 a1_2 a1_3 l1_4) = some r := by rw [if_pos rfl] at H; exact H
                    clear H
                    have H := H1
                    clear H1
                    have H' := Aside0.mk H
                    clear H
                    have hnb27 := NB242_243.out
                    have hnc27 := NB243_242.out
                    have hcz28_0 : wr.cell? ⟨gb242, 0, none⟩ = some (.int .i64 a0_0) := (blk_cell BK242.out 0).trans rfl
                    have hcz28_1 : wr.cell? ⟨gb242, 1, none⟩ = some (.string a0_1) := (blk_cell BK242.out 1).trans rfl
                    have hcz28_2 : wr.cell? ⟨gb242, 2, none⟩ = some (.int .i64 a0_2) := (blk_cell BK242.out 2).trans rfl
                    have hcz28_3 : wr.cell? ⟨gb242, 3, none⟩ = some (.int .i64 a0_3) := (blk_cell BK242.out 3).trans rfl
                    have hcz28_4 : wr.cell? ⟨gb242, 4, none⟩ = some (.slice A0_4 l0_4.length c0_4) := (blk_cell BK242.out 4).trans rfl
                    have hfz28_0 := blk_frozen BK242.out 0
                    have hfz28_1 := blk_frozen BK242.out 1
                    have hfz28_2 := blk_frozen BK242.out 2
                    have hfz28_3 := blk_frozen BK242.out 3
                    have hfz28_4 := blk_frozen BK242.out 4
                    try go_wp2
                    have n0_ := Aside0.mk (blk_drew BK242.out)
                    have n1_ := Aside0.mk (blk_drew BK243.out)
                    have n2_ := Aside0.mk (below_drew1 HB.out)
                    clear BK242
                    clear BK243
                    clear HB
                    have BK242 := n0_
                    have BK243 := n1_
                    have HB := n2_
                    clear n0_ n1_ n2_
                    have p244 : 0 ≤ (x5_2 : Int) := of_decide_eq_true (by first | (with_reducible assumption) | assumption)
                    have q244 : x5_2 < (l0_4.length : Int) := of_decide_eq_true (by first | (with_reducible assumption) | assumption)
                    obtain ⟨ad244, A244_4, c244_4, e244, hx244_0, hx244_1, hx244_2, hx244_3, hx244_4, hl244_4, hi244_4⟩ := at_T25 HR0_4.out x5_2 p244 q244
                    have hw244_4 := hx244_4
                    have hw244_3 := hx244_3
                    have hw244_2 := hx244_2
                    have hw244_1 := hx244_1
                    have hw244_0 := hx244_0
                    cases e244
                    replace hx244_0 := (HB.out.cell (World.block_lt_of_cell? w _ hx244_0)).trans hx244_0
                    replace hx244_1 := (HB.out.cell (World.block_lt_of_cell? w _ hx244_1)).trans hx244_1
                    replace hx244_2 := (HB.out.cell (World.block_lt_of_cell? w _ hx244_2)).trans hx244_2
                    replace hx244_3 := (HB.out.cell (World.block_lt_of_cell? w _ hx244_3)).trans hx244_3
                    replace hx244_4 := (HB.out.cell (World.block_lt_of_cell? w _ hx244_4)).trans hx244_4
                    have HR244_4 := Aside0.mk hi244_4
                    have HC244_4 := Aside0.mk hl244_4
                    clear hi244_4 hl244_4
                    replace p244 := eq_true p244
                    replace q244 := eq_true q244
                    have p245 : 0 ≤ (x5_2 : Int) := of_decide_eq_true (by first | (with_reducible assumption) | assumption)
                    have q245 : x5_2 < (l1_4.length : Int) := of_decide_eq_true (by first | (with_reducible assumption) | assumption)
                    obtain ⟨ad245, A245_4, c245_4, e245, hx245_0, hx245_1, hx245_2, hx245_3, hx245_4, hl245_4, hi245_4⟩ := at_T25 HR1_4.out x5_2 p245 q245
                    have hw245_4 := hx245_4
                    have hw245_3 := hx245_3
                    have hw245_2 := hx245_2
                    have hw245_1 := hx245_1
                    have hw245_0 := hx245_0
                    cases e245
                    replace hx245_0 := (HB.out.cell (World.block_lt_of_cell? w _ hx245_0)).trans hx245_0
                    replace hx245_1 := (HB.out.cell (World.block_lt_of_cell? w _ hx245_1)).trans hx245_1
                    replace hx245_2 := (HB.out.cell (World.block_lt_of_cell? w _ hx245_2)).trans hx245_2
                    replace hx245_3 := (HB.out.cell (World.block_lt_of_cell? w _ hx245_3)).trans hx245_3
                    replace hx245_4 := (HB.out.cell (World.block_lt_of_cell? w _ hx245_4)).trans hx245_4
                    have HR245_4 := Aside0.mk hi245_4
                    have HC245_4 := Aside0.mk hl245_4
                    clear hi245_4 hl245_4
                    replace p245 := eq_true p245
                    replace q245 := eq_true q245
                    refine start_ (n := 12) (S := fun w' => w'.cell? ⟨gb242, 0, none⟩ = some (.int .i64 a0_0) ∧ w'.cell? ⟨gb242, 1, none⟩ = some (.string a0_1) ∧ w'.cell? ⟨gb242, 2, none⟩ = some (.int .i64 a0_2) ∧ w'.cell? ⟨gb242, 3, none⟩ = some (.int .i64 a0_3) ∧ w'.cell? ⟨gb242, 4, none⟩ = some (.slice (some ad244) l0_4.length c0_4) ∧ w'.cell? ⟨gb243, 0, none⟩ = some (.int .i64 a1_0) ∧ w'.cell? ⟨gb243, 1, none⟩ = some (.string a1_1) ∧ w'.cell? ⟨gb243, 2, none⟩ = some (.int .i64 a1_2) ∧ w'.cell? ⟨gb243, 3, none⟩ = some (.int .i64 a1_3) ∧ w'.cell? ⟨gb243, 4, none⟩ = some (.slice (some ad245) l1_4.length c1_4) ∧ w'.cell? (ad244.add ((x5_2).toNat * 5)) = some (.int .i64 ((rd_T25 l0_4 x5_2).f0)) ∧ w'.cell? ⟨(ad244.add ((x5_2).toNat * 5)).block, (ad244.add ((x5_2).toNat * 5)).off + 1, none⟩ = some (.string ((rd_T25 l0_4 x5_2).f1)) ∧ w'.cell? ⟨(ad244.add ((x5_2).toNat * 5)).block, (ad244.add ((x5_2).toNat * 5)).off + 2, none⟩ = some (.int .i64 ((rd_T25 l0_4 x5_2).f2)) ∧ w'.cell? ⟨(ad244.add ((x5_2).toNat * 5)).block, (ad244.add ((x5_2).toNat * 5)).off + 3, none⟩ = some (.int .i64 ((rd_T25 l0_4 x5_2).f3)) ∧ w'.cell? ⟨(ad244.add ((x5_2).toNat * 5)).block, (ad244.add ((x5_2).toNat * 5)).off + 4, none⟩ = some (.slice A244_4 ((rd_T25 l0_4 x5_2).f4).length c244_4) ∧ w'.cell? (ad245.add ((x5_2).toNat * 5)) = some (.int .i64 ((rd_T25 l1_4 x5_2).f0)) ∧ w'.cell? ⟨(ad245.add ((x5_2).toNat * 5)).block, (ad245.add ((x5_2).toNat * 5)).off + 1, none⟩ = some (.string ((rd_T25 l1_4 x5_2).f1)) ∧ w'.cell? ⟨(ad245.add ((x5_2).toNat * 5)).block, (ad245.add ((x5_2).toNat * 5)).off + 2, none⟩ = some (.int .i64 ((rd_T25 l1_4 x5_2).f2)) ∧ w'.cell? ⟨(ad245.add ((x5_2).toNat * 5)).block, (ad245.add ((x5_2).toNat * 5)).off + 3, none⟩ = some (.int .i64 ((rd_T25 l1_4 x5_2).f3)) ∧ w'.cell? ⟨(ad245.add ((x5_2).toNat * 5)).block, (ad245.add ((x5_2).toNat * 5)).off + 4, none⟩ = some (.slice A245_4 ((rd_T25 l1_4 x5_2).f4).length c245_4)) (ds := []) #[false, false, false, false, false, false, false, false, false, false, false, false] (by kernel_rfl) rfl rfl ⟨(blk_cell BK242.out 0).trans rfl, (blk_cell BK242.out 1).trans rfl, (blk_cell BK242.out 2).trans rfl, (blk_cell BK242.out 3).trans rfl, (blk_cell BK242.out 4).trans rfl, (blk_cell BK243.out 0).trans rfl, (blk_cell BK243.out 1).trans rfl, (blk_cell BK243.out 2).trans rfl, (blk_cell BK243.out 3).trans rfl, (blk_cell BK243.out 4).trans rfl, ((HB.out.cell (World.block_lt_of_cell? w _ hw244_0)).trans hw244_0), ((HB.out.cell (World.block_lt_of_cell? w _ hw244_1)).trans hw244_1), ((HB.out.cell (World.block_lt_of_cell? w _ hw244_2)).trans hw244_2), ((HB.out.cell (World.block_lt_of_cell? w _ hw244_3)).trans hw244_3), ((HB.out.cell (World.block_lt_of_cell? w _ hw244_4)).trans hw244_4), ((HB.out.cell (World.block_lt_of_cell? w _ hw245_0)).trans hw245_0), ((HB.out.cell (World.block_lt_of_cell? w _ hw245_1)).trans hw245_1), ((HB.out.cell (World.block_lt_of_cell? w _ hw245_2)).trans hw245_2), ((HB.out.cell (World.block_lt_of_cell? w _ hw245_3)).trans hw245_3), ((HB.out.cell (World.block_lt_of_cell? w _ hw245_4)).trans hw245_4)⟩ (fun hHeld => ?_); refine with_tabW gossamerref02_Same.tab6 gossamerref02_Same.bits6 (fun HT_ HW_ => ?_)
                    generalize wr.drew = w29 at BK242 BK243 HB HR244_4 HR245_4 hx244_0 hx244_1 hx244_2 hx244_3 hx244_4 hx245_0 hx245_1 hx245_2 hx245_3 hx245_4 hHeld ⊢
                    refine pure_ (i := 0) (N := some 41) (v := ?_) (a' := ?_) #[true, false, false, false, false, false, false, false, false, false, false, false] rfl rfl (any_of HT_.out (by kernel_rfl)) (fun _ _ _ h => h) (Or.inl ⟨by rfl, ?_⟩) ?_ ?_
                    rotate_left
                    · intro w'
                      go_simp
                      with_reducible rfl
                    rotate_left
                    · simp only [Act.put, List.setIfInBounds_toArray, List.set_cons_zero, List.set_cons_succ, i64_w, i32_w]
                      rfl
                    refine pure_ (i := 2) (N := some 43) (v := ?_) (a' := ?_) #[true, false, true, false, false, false, false, false, false, false, false, false] rfl rfl (any_of HT_.out (by kernel_rfl)) (fun _ _ _ h => h) (Or.inl ⟨by rfl, ?_⟩) ?_ ?_
                    rotate_left
                    · intro w'
                      go_simp
                      with_reducible rfl
                    rotate_left
                    · simp only [Act.put, List.setIfInBounds_toArray, List.set_cons_zero, List.set_cons_succ, i64_w, i32_w]
                      rfl
                    refine pure_ (i := 5) (N := some 46) (v := ?_) (a' := ?_) #[true, false, true, false, false, true, false, false, false, false, false, false] rfl rfl (any_of HT_.out (by kernel_rfl)) (fun _ _ _ h => h) (Or.inl ⟨by rfl, ?_⟩) ?_ ?_
                    rotate_left
                    · intro w'
                      go_simp
                      with_reducible rfl
                    rotate_left
                    · simp only [Act.put, List.setIfInBounds_toArray, List.set_cons_zero, List.set_cons_succ, i64_w, i32_w]
                      rfl
                    refine pure_ (i := 7) (N := some 48) (v := ?_) (a' := ?_) #[true, false, true, false, false, true, false, true, false, false, false, false] rfl rfl (any_of HT_.out (by kernel_rfl)) (fun _ _ _ h => h) (Or.inl ⟨by rfl, ?_⟩) ?_ ?_
                    rotate_left
                    · intro w'
                      go_simp
                      with_reducible rfl
                    rotate_left
                    · simp only [Act.put, List.setIfInBounds_toArray, List.set_cons_zero, List.set_cons_succ, i64_w, i32_w]
                      rfl
                    refine take_ (i := 1) (N := some 42) (v := ?_) (a' := ?_) #[true, true, true, false, false, true, false, true, false, false, false, false] rfl rfl (take_ofW HT_.out HW_.out (by kernel_rfl)) (fun _ _ _ h => h) (Or.inl ⟨by rfl, ?_⟩) hHeld ?_ ?_
                    rotate_left
                    · rintro w' ⟨s0, s1, s2, s3, s4, s5, s6, s7, s8, s9, s10, s11, s12, s13, s14, s15, s16, s17, s18, s19⟩
                      go_simp
                      with_reducible rfl
                    rotate_left
                    · simp only [Act.put, List.setIfInBounds_toArray, List.set_cons_zero, List.set_cons_succ, i64_w, i32_w]
                      rfl
                    refine pure_ (i := 3) (N := some 44) (v := ?_) (a' := ?_) #[true, true, true, true, false, true, false, true, false, false, false, false] rfl rfl (any_of HT_.out (by kernel_rfl)) (fun _ _ _ h => h) (Or.inl ⟨by rfl, ?_⟩) ?_ ?_
                    rotate_left
                    · intro w'
                      go_simp
                      with_reducible rfl
                    rotate_left
                    · simp only [Act.put, List.setIfInBounds_toArray, List.set_cons_zero, List.set_cons_succ, i64_w, i32_w]
                      rfl
                    refine take_ (i := 4) (N := some 45) (v := ?_) (a' := ?_) #[true, true, true, true, true, true, false, true, false, false, false, false] rfl rfl (take_ofW HT_.out HW_.out (by kernel_rfl)) (fun _ _ _ h => h) (Or.inl ⟨by rfl, ?_⟩) hHeld ?_ ?_
                    rotate_left
                    · rintro w' ⟨s0, s1, s2, s3, s4, s5, s6, s7, s8, s9, s10, s11, s12, s13, s14, s15, s16, s17, s18, s19⟩
                      go_simp
                      with_reducible rfl
                    rotate_left
                    · simp only [Act.put, List.setIfInBounds_toArray, List.set_cons_zero, List.set_cons_succ, i64_w, i32_w]
                      rfl
                    refine take_ (i := 6) (N := some 47) (v := ?_) (a' := ?_) #[true, true, true, true, true, true, true, true, false, false, false, false] rfl rfl (take_ofW HT_.out HW_.out (by kernel_rfl)) (fun _ _ _ h => h) (Or.inl ⟨by rfl, ?_⟩) hHeld ?_ ?_
                    rotate_left
                    · rintro w' ⟨s0, s1, s2, s3, s4, s5, s6, s7, s8, s9, s10, s11, s12, s13, s14, s15, s16, s17, s18, s19⟩
                      go_simp
                      with_reducible rfl
                    rotate_left
                    · simp only [Act.put, List.setIfInBounds_toArray, List.set_cons_zero, List.set_cons_succ, i64_w, i32_w]
                      rfl
                    refine pure_ (i := 8) (N := some 49) (v := ?_) (a' := ?_) #[true, true, true, true, true, true, true, true, true, false, false, false] rfl rfl (any_of HT_.out (by kernel_rfl)) (fun _ _ _ h => h) (Or.inl ⟨by rfl, ?_⟩) ?_ ?_
                    rotate_left
                    · intro w'
                      go_simp
                      with_reducible rfl
                    rotate_left
                    · simp only [Act.put, List.setIfInBounds_toArray, List.set_cons_zero, List.set_cons_succ, i64_w, i32_w]
                      rfl
                    refine take_ (i := 9) (N := some 50) (v := ?_) (a' := ?_) #[true, true, true, true, true, true, true, true, true, true, false, false] rfl rfl (take_ofW HT_.out HW_.out (by kernel_rfl)) (fun _ _ _ h => h) (Or.inl ⟨by rfl, ?_⟩) hHeld ?_ ?_
                    rotate_left
                    · rintro w' ⟨s0, s1, s2, s3, s4, s5, s6, s7, s8, s9, s10, s11, s12, s13, s14, s15, s16, s17, s18, s19⟩
                      go_simp
                      with_reducible rfl
                    rotate_left
                    · simp only [Act.put, List.setIfInBounds_toArray, List.set_cons_zero, List.set_cons_succ, i64_w, i32_w]
                      rfl
                    refine one_ (i := 10) (N := some 51) #[true, true, true, true, true, true, true, true, true, true, true, false] rfl rfl (one_of HT_.out (by kernel_rfl)) (by decide) (fun K hK => ?_)
                    refine goes_ Tryd.func9 (by kernel_rfl) rfl #[.agg #[.int .i64 ((rd_T25 l0_4 x5_2).f0), .string ((rd_T25 l0_4 x5_2).f1), .int .i64 ((rd_T25 l0_4 x5_2).f2), .int .i64 ((rd_T25 l0_4 x5_2).f3), .slice A244_4 ((rd_T25 l0_4 x5_2).f4).length c244_4], .agg #[.int .i64 ((rd_T25 l1_4 x5_2).f0), .string ((rd_T25 l1_4 x5_2).f1), .int .i64 ((rd_T25 l1_4 x5_2).f2), .int .i64 ((rd_T25 l1_4 x5_2).f3), .slice A245_4 ((rd_T25 l1_4 x5_2).f4).length c245_4]] (by rfl) rfl rfl (by (try simp only [List.map_toArray, List.map_cons, List.map_nil]); first | done | rfl | (simp only [List.length_drop, List.length_take]; rfl)) ?_
                    with_reducible refine (ih k2 (by have := HJ2.out; have := HK2.out; omega) ((rd_T25 l0_4 x5_2).f0) ((rd_T25 l0_4 x5_2).f1) ((rd_T25 l0_4 x5_2).f2) ((rd_T25 l0_4 x5_2).f3) _ _ ((rd_T25 l0_4 x5_2).f4) ((rd_T25 l1_4 x5_2).f0) ((rd_T25 l1_4 x5_2).f1) ((rd_T25 l1_4 x5_2).f2) ((rd_T25 l1_4 x5_2).f3) _ _ ((rd_T25 l1_4 x5_2).f4) true _ ?side1 ?side2 ?side3 ?side4 A25.out).mono ?_
                    (case side1 => repeat (first | exact (Kd.C_below HR244_4.out HB.out) | (with_reducible refine Kd.C_alloc ?_ _) | (with_reducible refine Kd.C_drewN ?_ _) | (with_reducible refine Kd.C_drew ?_)))
                    (case side2 => exact HC244_4.out)
                    (case side3 => repeat (first | exact (Kd.C_below HR245_4.out HB.out) | (with_reducible refine Kd.C_alloc ?_ _) | (with_reducible refine Kd.C_drewN ?_ _) | (with_reducible refine Kd.C_drew ?_)))
                    (case side4 => exact HC245_4.out)
                    rintro e w30 ⟨rfl, hb⟩
                    refine ⟨_, rfl, ?_⟩
                    have n0_ := Aside0.mk (blk_below (g := gb242) (o := .cells #[.int .i64 a0_0, .string a0_1, .int .i64 a0_2, .int .i64 a0_3, .slice (some ad244) l0_4.length c0_4] 25 (0, 0)) (by (with_reducible repeat (first | refine blk_drewN ?_ _ | refine blk_drew ?_ | refine blk_alloc ?_ _)); exact BK242.out) hb)
                    have n1_ := Aside0.mk (blk_below (g := gb243) (o := .cells #[.int .i64 a1_0, .string a1_1, .int .i64 a1_2, .int .i64 a1_3, .slice (some ad245) l1_4.length c1_4] 25 (0, 0)) (by (with_reducible repeat (first | refine blk_drewN ?_ _ | refine blk_drew ?_ | refine blk_alloc ?_ _)); exact BK243.out) hb)
                    have n2_ := Aside0.mk (below_step (by repeat (first | (with_reducible first | exact HB.out | apply below_alloc | apply pw_below_drewN | apply below_drew1 | refine below_set ?_ GE242.out | refine below_set ?_ GE243.out) | exact HB.out)) hb)
                    clear BK242
                    clear BK243
                    clear HB
                    have BK242 := n0_
                    have BK243 := n1_
                    have HB := n2_
                    clear n0_ n1_ n2_
                    (try clear hb)
                    (try clear hb2)
                    (try clear hk)
                    (try clear hi)
                    refine hK.out _ _ ⟨(blk_cell BK242.out 0).trans rfl, (blk_cell BK242.out 1).trans rfl, (blk_cell BK242.out 2).trans rfl, (blk_cell BK242.out 3).trans rfl, (blk_cell BK242.out 4).trans rfl, (blk_cell BK243.out 0).trans rfl, (blk_cell BK243.out 1).trans rfl, (blk_cell BK243.out 2).trans rfl, (blk_cell BK243.out 3).trans rfl, (blk_cell BK243.out 4).trans rfl, ((HB.out.cell (World.block_lt_of_cell? w _ hw244_0)).trans hw244_0), ((HB.out.cell (World.block_lt_of_cell? w _ hw244_1)).trans hw244_1), ((HB.out.cell (World.block_lt_of_cell? w _ hw244_2)).trans hw244_2), ((HB.out.cell (World.block_lt_of_cell? w _ hw244_3)).trans hw244_3), ((HB.out.cell (World.block_lt_of_cell? w _ hw244_4)).trans hw244_4), ((HB.out.cell (World.block_lt_of_cell? w _ hw245_0)).trans hw245_0), ((HB.out.cell (World.block_lt_of_cell? w _ hw245_1)).trans hw245_1), ((HB.out.cell (World.block_lt_of_cell? w _ hw245_2)).trans hw245_2), ((HB.out.cell (World.block_lt_of_cell? w _ hw245_3)).trans hw245_3), ((HB.out.cell (World.block_lt_of_cell? w _ hw245_4)).trans hw245_4)⟩ (fun hHeld => ?_)
                    clear hK K
                    refine norm_ (a' := ?_) ?_ ?_
                    rotate_left
                    · show Act.put _ (some 51) _ = _
                      simp only [Act.put, List.setIfInBounds_toArray, List.set_cons_zero, List.set_cons_succ, i64_w, i32_w]
                      rfl
                    refine pure_ (i := 11) (N := some 52) (v := ?_) (a' := ?_) #[true, true, true, true, true, true, true, true, true, true, true, true] rfl rfl (any_of HT_.out (by kernel_rfl)) (fun _ _ _ h => h) (Or.inl ⟨by rfl, ?_⟩) ?_ ?_
                    rotate_left
                    · intro w'
                      go_simp
                      with_reducible rfl
                    rotate_left
                    · simp only [Act.put, List.setIfInBounds_toArray, List.set_cons_zero, List.set_cons_succ, i64_w, i32_w]
                      rfl
                    refine done_ (done_of HT_.out (by kernel_rfl)) ?_
                    try go_wp2
                    go_roundg k2
                    case measure => have := HJ2.out; have := HK2.out; omega
                    case rel => exact ⟨(wrap64 (x5_2 + 1)), (by first | rfl | (simp; done) | (simp [*]; done)), H', ⟨by have := HJ2.out; have := HK2.out; omega⟩, ⟨by (with_reducible repeat (first | refine blk_drewN ?_ _ | refine blk_drew ?_ | refine blk_alloc ?_ _)); exact BK242.out⟩, ⟨by (with_reducible repeat (first | refine blk_drewN ?_ _ | refine blk_drew ?_ | refine blk_alloc ?_ _)); exact BK243.out⟩, ⟨by repeat (first | (with_reducible first | exact HB.out | apply below_alloc | apply pw_below_drewN | apply below_drew1 | refine below_set ?_ GE242.out | refine below_set ?_ GE243.out) | exact HB.out)⟩⟩
                  · replace c26 := Bool.eq_false_iff.mpr c26
                    subst c26
                    have H1 : (some false) = some r := by rw [if_neg (show ¬ (false = true) by decide)] at H; exact H
                    clear H
                    have H := H1
                    clear H1
                    obtain rfl := Option.some.inj H
                    have hnb31 := NB242_243.out
                    have hnc31 := NB243_242.out
                    have hcz32_0 : wr.cell? ⟨gb242, 0, none⟩ = some (.int .i64 a0_0) := (blk_cell BK242.out 0).trans rfl
                    have hcz32_1 : wr.cell? ⟨gb242, 1, none⟩ = some (.string a0_1) := (blk_cell BK242.out 1).trans rfl
                    have hcz32_2 : wr.cell? ⟨gb242, 2, none⟩ = some (.int .i64 a0_2) := (blk_cell BK242.out 2).trans rfl
                    have hcz32_3 : wr.cell? ⟨gb242, 3, none⟩ = some (.int .i64 a0_3) := (blk_cell BK242.out 3).trans rfl
                    have hcz32_4 : wr.cell? ⟨gb242, 4, none⟩ = some (.slice A0_4 l0_4.length c0_4) := (blk_cell BK242.out 4).trans rfl
                    have hfz32_0 := blk_frozen BK242.out 0
                    have hfz32_1 := blk_frozen BK242.out 1
                    have hfz32_2 := blk_frozen BK242.out 2
                    have hfz32_3 := blk_frozen BK242.out 3
                    have hfz32_4 := blk_frozen BK242.out 4
                    try go_wp2
                    have n0_ := Aside0.mk (blk_drew BK242.out)
                    have n1_ := Aside0.mk (blk_drew BK243.out)
                    have n2_ := Aside0.mk (below_drew1 HB.out)
                    clear BK242
                    clear BK243
                    clear HB
                    have BK242 := n0_
                    have BK243 := n1_
                    have HB := n2_
                    clear n0_ n1_ n2_
                    have p244 : 0 ≤ (x5_2 : Int) := of_decide_eq_true (by first | (with_reducible assumption) | assumption)
                    have q244 : x5_2 < (l0_4.length : Int) := of_decide_eq_true (by first | (with_reducible assumption) | assumption)
                    obtain ⟨ad244, A244_4, c244_4, e244, hx244_0, hx244_1, hx244_2, hx244_3, hx244_4, hl244_4, hi244_4⟩ := at_T25 HR0_4.out x5_2 p244 q244
                    have hw244_4 := hx244_4
                    have hw244_3 := hx244_3
                    have hw244_2 := hx244_2
                    have hw244_1 := hx244_1
                    have hw244_0 := hx244_0
                    cases e244
                    replace hx244_0 := (HB.out.cell (World.block_lt_of_cell? w _ hx244_0)).trans hx244_0
                    replace hx244_1 := (HB.out.cell (World.block_lt_of_cell? w _ hx244_1)).trans hx244_1
                    replace hx244_2 := (HB.out.cell (World.block_lt_of_cell? w _ hx244_2)).trans hx244_2
                    replace hx244_3 := (HB.out.cell (World.block_lt_of_cell? w _ hx244_3)).trans hx244_3
                    replace hx244_4 := (HB.out.cell (World.block_lt_of_cell? w _ hx244_4)).trans hx244_4
                    have HR244_4 := Aside0.mk hi244_4
                    have HC244_4 := Aside0.mk hl244_4
                    clear hi244_4 hl244_4
                    replace p244 := eq_true p244
                    replace q244 := eq_true q244
                    have p245 : 0 ≤ (x5_2 : Int) := of_decide_eq_true (by first | (with_reducible assumption) | assumption)
                    have q245 : x5_2 < (l1_4.length : Int) := of_decide_eq_true (by first | (with_reducible assumption) | assumption)
                    obtain ⟨ad245, A245_4, c245_4, e245, hx245_0, hx245_1, hx245_2, hx245_3, hx245_4, hl245_4, hi245_4⟩ := at_T25 HR1_4.out x5_2 p245 q245
                    have hw245_4 := hx245_4
                    have hw245_3 := hx245_3
                    have hw245_2 := hx245_2
                    have hw245_1 := hx245_1
                    have hw245_0 := hx245_0
                    cases e245
                    replace hx245_0 := (HB.out.cell (World.block_lt_of_cell? w _ hx245_0)).trans hx245_0
                    replace hx245_1 := (HB.out.cell (World.block_lt_of_cell? w _ hx245_1)).trans hx245_1
                    replace hx245_2 := (HB.out.cell (World.block_lt_of_cell? w _ hx245_2)).trans hx245_2
                    replace hx245_3 := (HB.out.cell (World.block_lt_of_cell? w _ hx245_3)).trans hx245_3
                    replace hx245_4 := (HB.out.cell (World.block_lt_of_cell? w _ hx245_4)).trans hx245_4
                    have HR245_4 := Aside0.mk hi245_4
                    have HC245_4 := Aside0.mk hl245_4
                    clear hi245_4 hl245_4
                    replace p245 := eq_true p245
                    replace q245 := eq_true q245
                    refine start_ (n := 12) (S := fun w' => w'.cell? ⟨gb242, 0, none⟩ = some (.int .i64 a0_0) ∧ w'.cell? ⟨gb242, 1, none⟩ = some (.string a0_1) ∧ w'.cell? ⟨gb242, 2, none⟩ = some (.int .i64 a0_2) ∧ w'.cell? ⟨gb242, 3, none⟩ = some (.int .i64 a0_3) ∧ w'.cell? ⟨gb242, 4, none⟩ = some (.slice (some ad244) l0_4.length c0_4) ∧ w'.cell? ⟨gb243, 0, none⟩ = some (.int .i64 a1_0) ∧ w'.cell? ⟨gb243, 1, none⟩ = some (.string a1_1) ∧ w'.cell? ⟨gb243, 2, none⟩ = some (.int .i64 a1_2) ∧ w'.cell? ⟨gb243, 3, none⟩ = some (.int .i64 a1_3) ∧ w'.cell? ⟨gb243, 4, none⟩ = some (.slice (some ad245) l1_4.length c1_4) ∧ w'.cell? (ad244.add ((x5_2).toNat * 5)) = some (.int .i64 ((rd_T25 l0_4 x5_2).f0)) ∧ w'.cell? ⟨(ad244.add ((x5_2).toNat * 5)).block, (ad244.add ((x5_2).toNat * 5)).off + 1, none⟩ = some (.string ((rd_T25 l0_4 x5_2).f1)) ∧ w'.cell? ⟨(ad244.add ((x5_2).toNat * 5)).block, (ad244.add ((x5_2).toNat * 5)).off + 2, none⟩ = some (.int .i64 ((rd_T25 l0_4 x5_2).f2)) ∧ w'.cell? ⟨(ad244.add ((x5_2).toNat * 5)).block, (ad244.add ((x5_2).toNat * 5)).off + 3, none⟩ = some (.int .i64 ((rd_T25 l0_4 x5_2).f3)) ∧ w'.cell? ⟨(ad244.add ((x5_2).toNat * 5)).block, (ad244.add ((x5_2).toNat * 5)).off + 4, none⟩ = some (.slice A244_4 ((rd_T25 l0_4 x5_2).f4).length c244_4) ∧ w'.cell? (ad245.add ((x5_2).toNat * 5)) = some (.int .i64 ((rd_T25 l1_4 x5_2).f0)) ∧ w'.cell? ⟨(ad245.add ((x5_2).toNat * 5)).block, (ad245.add ((x5_2).toNat * 5)).off + 1, none⟩ = some (.string ((rd_T25 l1_4 x5_2).f1)) ∧ w'.cell? ⟨(ad245.add ((x5_2).toNat * 5)).block, (ad245.add ((x5_2).toNat * 5)).off + 2, none⟩ = some (.int .i64 ((rd_T25 l1_4 x5_2).f2)) ∧ w'.cell? ⟨(ad245.add ((x5_2).toNat * 5)).block, (ad245.add ((x5_2).toNat * 5)).off + 3, none⟩ = some (.int .i64 ((rd_T25 l1_4 x5_2).f3)) ∧ w'.cell? ⟨(ad245.add ((x5_2).toNat * 5)).block, (ad245.add ((x5_2).toNat * 5)).off + 4, none⟩ = some (.slice A245_4 ((rd_T25 l1_4 x5_2).f4).length c245_4)) (ds := []) #[false, false, false, false, false, false, false, false, false, false, false, false] (by kernel_rfl) rfl rfl ⟨(blk_cell BK242.out 0).trans rfl, (blk_cell BK242.out 1).trans rfl, (blk_cell BK242.out 2).trans rfl, (blk_cell BK242.out 3).trans rfl, (blk_cell BK242.out 4).trans rfl, (blk_cell BK243.out 0).trans rfl, (blk_cell BK243.out 1).trans rfl, (blk_cell BK243.out 2).trans rfl, (blk_cell BK243.out 3).trans rfl, (blk_cell BK243.out 4).trans rfl, ((HB.out.cell (World.block_lt_of_cell? w _ hw244_0)).trans hw244_0), ((HB.out.cell (World.block_lt_of_cell? w _ hw244_1)).trans hw244_1), ((HB.out.cell (World.block_lt_of_cell? w _ hw244_2)).trans hw244_2), ((HB.out.cell (World.block_lt_of_cell? w _ hw244_3)).trans hw244_3), ((HB.out.cell (World.block_lt_of_cell? w _ hw244_4)).trans hw244_4), ((HB.out.cell (World.block_lt_of_cell? w _ hw245_0)).trans hw245_0), ((HB.out.cell (World.block_lt_of_cell? w _ hw245_1)).trans hw245_1), ((HB.out.cell (World.block_lt_of_cell? w _ hw245_2)).trans hw245_2), ((HB.out.cell (World.block_lt_of_cell? w _ hw245_3)).trans hw245_3), ((HB.out.cell (World.block_lt_of_cell? w _ hw245_4)).trans hw245_4)⟩ (fun hHeld => ?_); refine with_tabW gossamerref02_Same.tab6 gossamerref02_Same.bits6 (fun HT_ HW_ => ?_)
                    generalize wr.drew = w33 at BK242 BK243 HB HR244_4 HR245_4 hx244_0 hx244_1 hx244_2 hx244_3 hx244_4 hx245_0 hx245_1 hx245_2 hx245_3 hx245_4 hHeld ⊢
                    refine pure_ (i := 0) (N := some 41) (v := ?_) (a' := ?_) #[true, false, false, false, false, false, false, false, false, false, false, false] rfl rfl (any_of HT_.out (by kernel_rfl)) (fun _ _ _ h => h) (Or.inl ⟨by rfl, ?_⟩) ?_ ?_
                    rotate_left
                    · intro w'
                      go_simp
                      with_reducible rfl
                    rotate_left
                    · simp only [Act.put, List.setIfInBounds_toArray, List.set_cons_zero, List.set_cons_succ, i64_w, i32_w]
                      rfl
                    refine pure_ (i := 2) (N := some 43) (v := ?_) (a' := ?_) #[true, false, true, false, false, false, false, false, false, false, false, false] rfl rfl (any_of HT_.out (by kernel_rfl)) (fun _ _ _ h => h) (Or.inl ⟨by rfl, ?_⟩) ?_ ?_
                    rotate_left
                    · intro w'
                      go_simp
                      with_reducible rfl
                    rotate_left
                    · simp only [Act.put, List.setIfInBounds_toArray, List.set_cons_zero, List.set_cons_succ, i64_w, i32_w]
                      rfl
                    refine pure_ (i := 5) (N := some 46) (v := ?_) (a' := ?_) #[true, false, true, false, false, true, false, false, false, false, false, false] rfl rfl (any_of HT_.out (by kernel_rfl)) (fun _ _ _ h => h) (Or.inl ⟨by rfl, ?_⟩) ?_ ?_
                    rotate_left
                    · intro w'
                      go_simp
                      with_reducible rfl
                    rotate_left
                    · simp only [Act.put, List.setIfInBounds_toArray, List.set_cons_zero, List.set_cons_succ, i64_w, i32_w]
                      rfl
                    refine pure_ (i := 7) (N := some 48) (v := ?_) (a' := ?_) #[true, false, true, false, false, true, false, true, false, false, false, false] rfl rfl (any_of HT_.out (by kernel_rfl)) (fun _ _ _ h => h) (Or.inl ⟨by rfl, ?_⟩) ?_ ?_
                    rotate_left
                    · intro w'
                      go_simp
                      with_reducible rfl
                    rotate_left
                    · simp only [Act.put, List.setIfInBounds_toArray, List.set_cons_zero, List.set_cons_succ, i64_w, i32_w]
                      rfl
                    refine take_ (i := 1) (N := some 42) (v := ?_) (a' := ?_) #[true, true, true, false, false, true, false, true, false, false, false, false] rfl rfl (take_ofW HT_.out HW_.out (by kernel_rfl)) (fun _ _ _ h => h) (Or.inl ⟨by rfl, ?_⟩) hHeld ?_ ?_
                    rotate_left
                    · rintro w' ⟨s0, s1, s2, s3, s4, s5, s6, s7, s8, s9, s10, s11, s12, s13, s14, s15, s16, s17, s18, s19⟩
                      go_simp
                      with_reducible rfl
                    rotate_left
                    · simp only [Act.put, List.setIfInBounds_toArray, List.set_cons_zero, List.set_cons_succ, i64_w, i32_w]
                      rfl
                    refine pure_ (i := 3) (N := some 44) (v := ?_) (a' := ?_) #[true, true, true, true, false, true, false, true, false, false, false, false] rfl rfl (any_of HT_.out (by kernel_rfl)) (fun _ _ _ h => h) (Or.inl ⟨by rfl, ?_⟩) ?_ ?_
                    rotate_left
                    · intro w'
                      go_simp
                      with_reducible rfl
                    rotate_left
                    · simp only [Act.put, List.setIfInBounds_toArray, List.set_cons_zero, List.set_cons_succ, i64_w, i32_w]
                      rfl
                    refine take_ (i := 4) (N := some 45) (v := ?_) (a' := ?_) #[true, true, true, true, true, true, false, true, false, false, false, false] rfl rfl (take_ofW HT_.out HW_.out (by kernel_rfl)) (fun _ _ _ h => h) (Or.inl ⟨by rfl, ?_⟩) hHeld ?_ ?_
                    rotate_left
                    · rintro w' ⟨s0, s1, s2, s3, s4, s5, s6, s7, s8, s9, s10, s11, s12, s13, s14, s15, s16, s17, s18, s19⟩
                      go_simp
                      with_reducible rfl
                    rotate_left
                    · simp only [Act.put, List.setIfInBounds_toArray, List.set_cons_zero, List.set_cons_succ, i64_w, i32_w]
                      rfl
                    refine take_ (i := 6) (N := some 47) (v := ?_) (a' := ?_) #[true, true, true, true, true, true, true, true, false, false, false, false] rfl rfl (take_ofW HT_.out HW_.out (by kernel_rfl)) (fun _ _ _ h => h) (Or.inl ⟨by rfl, ?_⟩) hHeld ?_ ?_
                    rotate_left
                    · rintro w' ⟨s0, s1, s2, s3, s4, s5, s6, s7, s8, s9, s10, s11, s12, s13, s14, s15, s16, s17, s18, s19⟩
                      go_simp
                      with_reducible rfl
                    rotate_left
                    · simp only [Act.put, List.setIfInBounds_toArray, List.set_cons_zero, List.set_cons_succ, i64_w, i32_w]
                      rfl
                    refine pure_ (i := 8) (N := some 49) (v := ?_) (a' := ?_) #[true, true, true, true, true, true, true, true, true, false, false, false] rfl rfl (any_of HT_.out (by kernel_rfl)) (fun _ _ _ h => h) (Or.inl ⟨by rfl, ?_⟩) ?_ ?_
                    rotate_left
                    · intro w'
                      go_simp
                      with_reducible rfl
                    rotate_left
                    · simp only [Act.put, List.setIfInBounds_toArray, List.set_cons_zero, List.set_cons_succ, i64_w, i32_w]
                      rfl
                    refine take_ (i := 9) (N := some 50) (v := ?_) (a' := ?_) #[true, true, true, true, true, true, true, true, true, true, false, false] rfl rfl (take_ofW HT_.out HW_.out (by kernel_rfl)) (fun _ _ _ h => h) (Or.inl ⟨by rfl, ?_⟩) hHeld ?_ ?_
                    rotate_left
                    · rintro w' ⟨s0, s1, s2, s3, s4, s5, s6, s7, s8, s9, s10, s11, s12, s13, s14, s15, s16, s17, s18, s19⟩
                      go_simp
                      with_reducible rfl
                    rotate_left
                    · simp only [Act.put, List.setIfInBounds_toArray, List.set_cons_zero, List.set_cons_succ, i64_w, i32_w]
                      rfl
                    refine one_ (i := 10) (N := some 51) #[true, true, true, true, true, true, true, true, true, true, true, false] rfl rfl (one_of HT_.out (by kernel_rfl)) (by decide) (fun K hK => ?_)
                    refine goes_ Tryd.func9 (by kernel_rfl) rfl #[.agg #[.int .i64 ((rd_T25 l0_4 x5_2).f0), .string ((rd_T25 l0_4 x5_2).f1), .int .i64 ((rd_T25 l0_4 x5_2).f2), .int .i64 ((rd_T25 l0_4 x5_2).f3), .slice A244_4 ((rd_T25 l0_4 x5_2).f4).length c244_4], .agg #[.int .i64 ((rd_T25 l1_4 x5_2).f0), .string ((rd_T25 l1_4 x5_2).f1), .int .i64 ((rd_T25 l1_4 x5_2).f2), .int .i64 ((rd_T25 l1_4 x5_2).f3), .slice A245_4 ((rd_T25 l1_4 x5_2).f4).length c245_4]] (by rfl) rfl rfl (by (try simp only [List.map_toArray, List.map_cons, List.map_nil]); first | done | rfl | (simp only [List.length_drop, List.length_take]; rfl)) ?_
                    with_reducible refine (ih k2 (by have := HJ2.out; have := HK2.out; omega) ((rd_T25 l0_4 x5_2).f0) ((rd_T25 l0_4 x5_2).f1) ((rd_T25 l0_4 x5_2).f2) ((rd_T25 l0_4 x5_2).f3) _ _ ((rd_T25 l0_4 x5_2).f4) ((rd_T25 l1_4 x5_2).f0) ((rd_T25 l1_4 x5_2).f1) ((rd_T25 l1_4 x5_2).f2) ((rd_T25 l1_4 x5_2).f3) _ _ ((rd_T25 l1_4 x5_2).f4) false _ ?side1 ?side2 ?side3 ?side4 A25.out).mono ?_
                    (case side1 => repeat (first | exact (Kd.C_below HR244_4.out HB.out) | (with_reducible refine Kd.C_alloc ?_ _) | (with_reducible refine Kd.C_drewN ?_ _) | (with_reducible refine Kd.C_drew ?_)))
                    (case side2 => exact HC244_4.out)
                    (case side3 => repeat (first | exact (Kd.C_below HR245_4.out HB.out) | (with_reducible refine Kd.C_alloc ?_ _) | (with_reducible refine Kd.C_drewN ?_ _) | (with_reducible refine Kd.C_drew ?_)))
                    (case side4 => exact HC245_4.out)
                    rintro e w34 ⟨rfl, hb⟩
                    refine ⟨_, rfl, ?_⟩
                    have n0_ := Aside0.mk (blk_below (g := gb242) (o := .cells #[.int .i64 a0_0, .string a0_1, .int .i64 a0_2, .int .i64 a0_3, .slice (some ad244) l0_4.length c0_4] 25 (0, 0)) (by (with_reducible repeat (first | refine blk_drewN ?_ _ | refine blk_drew ?_ | refine blk_alloc ?_ _)); exact BK242.out) hb)
                    have n1_ := Aside0.mk (blk_below (g := gb243) (o := .cells #[.int .i64 a1_0, .string a1_1, .int .i64 a1_2, .int .i64 a1_3, .slice (some ad245) l1_4.length c1_4] 25 (0, 0)) (by (with_reducible repeat (first | refine blk_drewN ?_ _ | refine blk_drew ?_ | refine blk_alloc ?_ _)); exact BK243.out) hb)
                    have n2_ := Aside0.mk (below_step (by repeat (first | (with_reducible first | exact HB.out | apply below_alloc | apply pw_below_drewN | apply below_drew1 | refine below_set ?_ GE242.out | refine below_set ?_ GE243.out) | exact HB.out)) hb)
                    clear BK242
                    clear BK243
                    clear HB
                    have BK242 := n0_
                    have BK243 := n1_
                    have HB := n2_
                    clear n0_ n1_ n2_
                    (try clear hb)
                    (try clear hb2)
                    (try clear hk)
                    (try clear hi)
                    refine hK.out _ _ ⟨(blk_cell BK242.out 0).trans rfl, (blk_cell BK242.out 1).trans rfl, (blk_cell BK242.out 2).trans rfl, (blk_cell BK242.out 3).trans rfl, (blk_cell BK242.out 4).trans rfl, (blk_cell BK243.out 0).trans rfl, (blk_cell BK243.out 1).trans rfl, (blk_cell BK243.out 2).trans rfl, (blk_cell BK243.out 3).trans rfl, (blk_cell BK243.out 4).trans rfl, ((HB.out.cell (World.block_lt_of_cell? w _ hw244_0)).trans hw244_0), ((HB.out.cell (World.block_lt_of_cell? w _ hw244_1)).trans hw244_1), ((HB.out.cell (World.block_lt_of_cell? w _ hw244_2)).trans hw244_2), ((HB.out.cell (World.block_lt_of_cell? w _ hw244_3)).trans hw244_3), ((HB.out.cell (World.block_lt_of_cell? w _ hw244_4)).trans hw244_4), ((HB.out.cell (World.block_lt_of_cell? w _ hw245_0)).trans hw245_0), ((HB.out.cell (World.block_lt_of_cell? w _ hw245_1)).trans hw245_1), ((HB.out.cell (World.block_lt_of_cell? w _ hw245_2)).trans hw245_2), ((HB.out.cell (World.block_lt_of_cell? w _ hw245_3)).trans hw245_3), ((HB.out.cell (World.block_lt_of_cell? w _ hw245_4)).trans hw245_4)⟩ (fun hHeld => ?_)
                    clear hK K
                    refine norm_ (a' := ?_) ?_ ?_
                    rotate_left
                    · show Act.put _ (some 51) _ = _
                      simp only [Act.put, List.setIfInBounds_toArray, List.set_cons_zero, List.set_cons_succ, i64_w, i32_w]
                      rfl
                    refine pure_ (i := 11) (N := some 52) (v := ?_) (a' := ?_) #[true, true, true, true, true, true, true, true, true, true, true, true] rfl rfl (any_of HT_.out (by kernel_rfl)) (fun _ _ _ h => h) (Or.inl ⟨by rfl, ?_⟩) ?_ ?_
                    rotate_left
                    · intro w'
                      go_simp
                      with_reducible rfl
                    rotate_left
                    · simp only [Act.put, List.setIfInBounds_toArray, List.set_cons_zero, List.set_cons_succ, i64_w, i32_w]
                      rfl
                    refine done_ (done_of HT_.out (by kernel_rfl)) ?_
                    try go_wp2
                    go_ret
                    exact ⟨by first | rfl | (simp [errW_none, errW_some] <;> rfl) | (simp [*, errW_none, errW_some] <;> rfl), by repeat (first | (with_reducible first | exact HB.out | apply below_alloc | apply pw_below_drewN | apply below_drew1 | refine below_set ?_ GE242.out | refine below_set ?_ GE243.out) | exact HB.out)⟩
                · rw [if_neg c24] at H
                  exact absurd H (by simp)
              · rw [if_neg c23] at H
                exact absurd H (by simp)
            · rw [if_neg c22] at H
              have c22b0 : decide (x5_2 < (l0_4.length : Int)) = false := decide_eq_false c22
              clear c22
              obtain rfl := Option.some.inj H
              have hnb35 := NB242_243.out
              have hnc35 := NB243_242.out
              have hcz36_0 : wr.cell? ⟨gb242, 0, none⟩ = some (.int .i64 a0_0) := (blk_cell BK242.out 0).trans rfl
              have hcz36_1 : wr.cell? ⟨gb242, 1, none⟩ = some (.string a0_1) := (blk_cell BK242.out 1).trans rfl
              have hcz36_2 : wr.cell? ⟨gb242, 2, none⟩ = some (.int .i64 a0_2) := (blk_cell BK242.out 2).trans rfl
              have hcz36_3 : wr.cell? ⟨gb242, 3, none⟩ = some (.int .i64 a0_3) := (blk_cell BK242.out 3).trans rfl
              have hcz36_4 : wr.cell? ⟨gb242, 4, none⟩ = some (.slice A0_4 l0_4.length c0_4) := (blk_cell BK242.out 4).trans rfl
              have hfz36_0 := blk_frozen BK242.out 0
              have hfz36_1 := blk_frozen BK242.out 1
              have hfz36_2 := blk_frozen BK242.out 2
              have hfz36_3 := blk_frozen BK242.out 3
              have hfz36_4 := blk_frozen BK242.out 4
              go_wp2
              go_ret
              exact ⟨by first | rfl | (simp [errW_none, errW_some] <;> rfl) | (simp [*, errW_none, errW_some] <;> rfl), by repeat (first | (with_reducible first | exact HB.out | apply below_alloc | apply pw_below_drewN | apply below_drew1 | refine below_set ?_ GE242.out | refine below_set ?_ GE243.out) | exact HB.out)⟩

end Go.Proofs.YtajcnjdinmgpjaaDoor.P
/- Depth, sameness and equality of trees, as the printed functions have them. -/
namespace Go.Proofs.YtajcnjdinmgpjaaDoor.X
open Go.RowKit Go.Proofs.YtajcnjdinmgpjaaDoorW.PrintWords Go.Proofs.YtajcnjdinmgpjaaDoorW.PrintLast Go.Proofs.YtajcnjdinmgpjaaDoorW.PrintMore Go.Proofs.YtajcnjdinmgpjaaDoor.P
mutual
def tsz : Tree → Nat
  | ⟨_, _, _, _, l⟩ => tszL l + 1
def tszL : List Tree → Nat
  | [] => 0
  | t :: l => tsz t + tszL l
end
mutual
def tdp : Tree → Nat
  | ⟨_, _, _, _, l⟩ => tdpL l + 1
def tdpL : List Tree → Nat
  | [] => 0
  | t :: l => max (tdp t) (tdpL l)
end
theorem tsz_eq (t : Tree) : tsz t = tszL t.f4 + 1 := by cases t; rw [tsz]
theorem tdp_eq (t : Tree) : tdp t = tdpL t.f4 + 1 := by cases t; rw [tdp]
theorem tsz_pos (t : Tree) : 0 < tsz t := by rw [tsz_eq]; omega
theorem tszL_cons (t : Tree) (l : List Tree) : tszL (t :: l) = tsz t + tszL l := by rw [tszL]
theorem tdpL_cons (t : Tree) (l : List Tree) : tdpL (t :: l) = max (tdp t) (tdpL l) := by rw [tdpL]
theorem tszL_nil : tszL [] = 0 := by rw [tszL]
theorem tdpL_nil : tdpL [] = 0 := by rw [tdpL]
theorem tszL_append : ∀ (a b : List Tree), tszL (a ++ b) = tszL a + tszL b
  | [], b => by simp [tszL_nil]
  | x :: a, b => by rw [List.cons_append, tszL_cons, tszL_cons, tszL_append a b]; omega
theorem tszL_len : ∀ (a : List Tree), a.length ≤ tszL a
  | [] => by simp
  | x :: a => by have := tszL_len a; have := tsz_pos x; rw [tszL_cons]; simp; omega
mutual
theorem tdp_tsz : ∀ t, tdp t ≤ tsz t
  | ⟨_, _, _, _, l⟩ => by rw [tdp, tsz]; have := tdpL_tszL l; omega
theorem tdpL_tszL : ∀ l, tdpL l ≤ tszL l
  | [] => by rw [tdpL_nil]; omega
  | t :: l => by rw [tdpL_cons, tszL_cons]; have := tdp_tsz t; have := tdpL_tszL l; omega
end
theorem rd_drop (xs : List Tree) (i : Nat) (h : i < xs.length) : xs.drop i = rd_T25 xs (i : Int) :: xs.drop (i + 1) := by
  rw [List.drop_eq_getElem_cons h]
  congr 1
  simp [rd_T25, h]
theorem wrap_small (a : Int) (h0 : -9223372036854775808 ≤ a) (h1 : a < 9223372036854775808) : wrap64 a = a := by
  unfold wrap64
  omega
theorem Depth_l0 (n : Nat) (ih : ∀ t, tsz t ≤ n → ∀ k, 2 * tsz t ≤ k → tree_Depth.f k t.f0 t.f1 t.f2 t.f3 t.f4 = some ((tdp t : Nat) : Int)) (xs : List Tree) (hsz : tszL xs ≤ n) (hn : n ≤ 1000000000000) :
    ∀ (m i : Nat) (x : Nat) (k : Nat), xs.length - i = m → i ≤ xs.length → 2 * tszL (xs.drop i) + 1 ≤ k → x ≤ n → tree_Depth.l0 k (x : Int) xs (xs.length : Int) (i : Int) = some ((max x (tdpL (xs.drop i)) + 1 : Nat) : Int)
  | 0, i, x, k, hm, hi, hk, hx => by
    obtain ⟨k, rfl⟩ : ∃ j, k = j + 1 := ⟨k - 1, by omega⟩
    unfold tree_Depth.l0
    rw [if_neg (by omega), List.drop_eq_nil_of_le (by omega), tdpL_nil, wrap_small _ (by omega) (by omega)]
    congr 1
    omega
  | m + 1, i, x, k, hm, hi, hk, hx => by
    obtain ⟨k, rfl⟩ : ∃ j, k = j + 1 := ⟨k - 1, by omega⟩
    have hd := rd_drop xs i (by omega)
    rw [hd, tszL_cons] at hk
    have hle : tszL (xs.drop i) ≤ tszL xs := by
      have := tszL_append (xs.take i) (xs.drop i)
      rw [List.take_append_drop] at this
      omega
    rw [hd, tszL_cons] at hle
    have h1 := tsz_pos (rd_T25 xs (i : Int))
    have h2 := tdp_tsz (rd_T25 xs (i : Int))
    unfold tree_Depth.l0
    rw [if_pos (by omega), if_pos (by omega), if_pos (by omega), ih _ (by omega) k (by omega)]
    show tree_Depth.l0 k (mx (x : Int) _) xs _ (wrap64 ((i : Int) + 1)) = _
    have hlen : (xs.length : Int) ≤ 1000000000000 := by have := tszL_len xs; omega
    have hmx : mx (x : Int) ((tdp (rd_T25 xs (i : Int)) : Nat) : Int) = ((max x (tdp (rd_T25 xs (i : Int))) : Nat) : Int) := by unfold mx; omega
    rw [wrap_small _ (by omega) (by omega), hmx, show ((i : Int) + 1) = ((i + 1 : Nat) : Int) by omega, Depth_l0 n ih xs hsz hn m (i + 1) _ k (by omega) (by omega) (by omega) (by omega), hd, tdpL_cons]
    congr 2
    omega
theorem Depth_f : ∀ (n : Nat) (t : Tree), tsz t ≤ n → n ≤ 1000000000000 → ∀ k, 2 * tsz t ≤ k → tree_Depth.f k t.f0 t.f1 t.f2 t.f3 t.f4 = some ((tdp t : Nat) : Int)
  | 0, t, h, _, _, _ => by have := tsz_pos t; omega
  | n + 1, t, h, hn, k, hk => by
    obtain ⟨k, rfl⟩ : ∃ j, k = j + 1 := ⟨k - 1, by have := tsz_pos t; omega⟩
    rw [tsz_eq] at h hk
    unfold tree_Depth.f
    have := Depth_l0 n (fun t ht k hk => Depth_f n t ht (by omega) k hk) t.f4 (by omega) (by omega) t.f4.length 0 0 k (by omega) (by omega) (by simp; omega) (by omega)
    simp only [List.drop_zero, Nat.zero_max] at this
    rw [tdp_eq]
    exact this
/-! ### trees that are the same, but for places -/
mutual
inductive Sm : Tree → Tree → Prop
  | mk (a : Int) (b : ByteArray) (n p p' : Int) (l l' : List Tree) : SmL l l' → Sm ⟨a, b, n, p, l⟩ ⟨a, b, n, p', l'⟩
inductive SmL : List Tree → List Tree → Prop
  | nil : SmL [] []
  | cons (t t' : Tree) (l l' : List Tree) : Sm t t' → SmL l l' → SmL (t :: l) (t' :: l')
end
theorem SmL.len : ∀ {l l' : List Tree}, SmL l l' → l.length = l'.length
  | _, _, .nil => rfl
  | _, _, .cons _ _ _ _ _ h => by simp [h.len]
theorem SmL.drop : ∀ {l l' : List Tree} (i : Nat), SmL l l' → SmL (l.drop i) (l'.drop i)
  | _, _, 0, h => h
  | _, _, _ + 1, .nil => .nil
  | _, _, i + 1, .cons _ _ _ _ _ h => h.drop i
theorem SmL.append : ∀ {l l' m m' : List Tree}, SmL l l' → SmL m m' → SmL (l ++ m) (l' ++ m')
  | _, _, _, _, .nil, k => k
  | _, _, _, _, .cons _ _ _ _ a h, k => .cons _ _ _ _ a (h.append k)
mutual
theorem Sm.refl : ∀ t, Sm t t
  | ⟨a, b, n, p, l⟩ => .mk a b n p p l l (SmL.refl l)
theorem SmL.refl : ∀ l, SmL l l
  | [] => .nil
  | t :: l => .cons _ _ _ _ (Sm.refl t) (SmL.refl l)
end
mutual
theorem Sm.symm : ∀ {t t'}, Sm t t' → Sm t' t
  | _, _, .mk a b n p p' l l' h => .mk a b n p' p l' l h.symm
theorem SmL.symm : ∀ {l l'}, SmL l l' → SmL l' l
  | _, _, .nil => .nil
  | _, _, .cons _ _ _ _ h k => .cons _ _ _ _ h.symm k.symm
end
mutual
theorem Sm.tdp : ∀ {t t'}, Sm t t' → tdp t = tdp t'
  | _, _, .mk a b n p p' l l' h => by rw [X.tdp, X.tdp, h.tdpL]
theorem SmL.tdpL : ∀ {l l'}, SmL l l' → tdpL l = tdpL l'
  | _, _, .nil => rfl
  | _, _, .cons _ _ _ _ h k => by rw [tdpL_cons, tdpL_cons, h.tdp, k.tdpL]
end
mutual
theorem Sm.tsz : ∀ {t t'}, Sm t t' → tsz t = tsz t'
  | _, _, .mk a b n p p' l l' h => by rw [X.tsz, X.tsz, h.tszL]
theorem SmL.tszL : ∀ {l l'}, SmL l l' → tszL l = tszL l'
  | _, _, .nil => rfl
  | _, _, .cons _ _ _ _ h k => by rw [tszL_cons, tszL_cons, h.tsz, k.tszL]
end
theorem Sm.parts {t t' : Tree} (h : Sm t t') : t.f0 = t'.f0 ∧ t.f1 = t'.f1 ∧ t.f2 = t'.f2 ∧ SmL t.f4 t'.f4 := by
  cases h with
  | mk a b n p p' l l' h => exact ⟨rfl, rfl, rfl, h⟩
theorem SmL.head {t t' : Tree} {l l' : List Tree} (h : SmL (t :: l) (t' :: l')) : Sm t t' ∧ SmL l l' := by
  cases h with
  | cons _ _ _ _ h k => exact ⟨h, k⟩
theorem Same_l0 (n : Nat) (ih : ∀ t u, Sm t u → tsz t ≤ n → ∀ k, 3 * tsz t ≤ k → gossamerref02_Same.f k t.f0 t.f1 t.f2 t.f3 t.f4 u.f0 u.f1 u.f2 u.f3 u.f4 = some true) (a0 : Int) (a1 : ByteArray) (a2 a3 : Int) (b0 : Int) (b1 : ByteArray) (b2 b3 : Int) (xs ys : List Tree) (hsz : tszL xs ≤ n) (hn : n ≤ 1000000000000) (hS : SmL xs ys) :
    ∀ (m i : Nat) (k : Nat), xs.length - i = m → i ≤ xs.length → 3 * tszL (xs.drop i) + 1 ≤ k → gossamerref02_Same.l0 k (i : Int) a0 a1 a2 a3 xs b0 b1 b2 b3 ys = some true
  | 0, i, k, hm, hi, hk => by
    obtain ⟨k, rfl⟩ : ∃ j, k = j + 1 := ⟨k - 1, by omega⟩
    unfold gossamerref02_Same.l0
    rw [if_neg (by omega)]
  | m + 1, i, k, hm, hi, hk => by
    obtain ⟨k, rfl⟩ : ∃ j, k = j + 1 := ⟨k - 1, by omega⟩
    have hl := hS.len
    have hd := rd_drop xs i (by omega)
    have hd' := rd_drop ys i (by omega)
    have hSd := hS.drop i
    rw [hd, hd'] at hSd
    have hS1 := hSd.head.1
    rw [hd, tszL_cons] at hk
    have hle : tszL (xs.drop i) ≤ tszL xs := by
      have := tszL_append (xs.take i) (xs.drop i)
      rw [List.take_append_drop] at this
      omega
    rw [hd, tszL_cons] at hle
    have h1 := tsz_pos (rd_T25 xs (i : Int))
    have hlen : (xs.length : Int) ≤ 1000000000000 := by have := tszL_len xs; omega
    unfold gossamerref02_Same.l0
    rw [if_pos (by omega), if_pos (by omega), if_pos (by omega), ih _ _ hS1 (by omega) k (by omega)]
    show (if true = true then gossamerref02_Same.l0 k (wrap64 ((i : Int) + 1)) _ _ _ _ xs _ _ _ _ ys else some false) = _
    rw [if_pos rfl, wrap_small _ (by omega) (by omega), show ((i : Int) + 1) = ((i + 1 : Nat) : Int) by omega]
    exact Same_l0 n ih a0 a1 a2 a3 b0 b1 b2 b3 xs ys hsz hn hS m (i + 1) k (by omega) (by omega) (by omega)
theorem Same_f : ∀ (n : Nat) (t u : Tree), Sm t u → tsz t ≤ n → n ≤ 1000000000000 → ∀ k, 3 * tsz t ≤ k → gossamerref02_Same.f k t.f0 t.f1 t.f2 t.f3 t.f4 u.f0 u.f1 u.f2 u.f3 u.f4 = some true
  | 0, t, _, _, h, _, _, _ => by have := tsz_pos t; omega
  | n + 1, t, u, hS, h, hn, k, hk => by
    rw [tsz_eq] at h hk
    obtain ⟨k, rfl⟩ : ∃ j, k = j + 1 + 1 := ⟨k - 2, by omega⟩
    obtain ⟨e0, e1, e2, hS4⟩ := hS.parts
    have hl := hS4.len
    unfold gossamerref02_Same.f
    rw [if_pos e0, if_pos (by rw [e1]), if_pos e2]
    unfold gossamerref02_Same.j0
    rw [hl, if_neg (by simp)]
    exact Same_l0 n (fun t u hS ht k hk => Same_f n t u hS ht (by omega) k hk) _ _ _ _ _ _ _ _ t.f4 u.f4 (by omega) (by omega) hS4 t.f4.length 0 k (by omega) (by omega) (by simp; omega)
theorem One_l0 (n : Nat) (ih : ∀ t : Tree, tsz t ≤ n → ∀ k, 3 * tsz t ≤ k → gossamerref02_One.f k t.f0 t.f1 t.f2 t.f3 t.f4 t.f0 t.f1 t.f2 t.f3 t.f4 = some true) (a0 : Int) (a1 : ByteArray) (a2 a3 : Int) (b0 : Int) (b1 : ByteArray) (b2 b3 : Int) (xs : List Tree) (hsz : tszL xs ≤ n) (hn : n ≤ 1000000000000) :
    ∀ (m i : Nat) (k : Nat), xs.length - i = m → i ≤ xs.length → 3 * tszL (xs.drop i) + 1 ≤ k → gossamerref02_One.l0 k (i : Int) a0 a1 a2 a3 xs b0 b1 b2 b3 xs = some true
  | 0, i, k, hm, hi, hk => by
    obtain ⟨k, rfl⟩ : ∃ j, k = j + 1 := ⟨k - 1, by omega⟩
    unfold gossamerref02_One.l0
    rw [if_neg (by omega)]
  | m + 1, i, k, hm, hi, hk => by
    obtain ⟨k, rfl⟩ : ∃ j, k = j + 1 := ⟨k - 1, by omega⟩
    have hd := rd_drop xs i (by omega)
    rw [hd, tszL_cons] at hk
    have hle : tszL (xs.drop i) ≤ tszL xs := by
      have := tszL_append (xs.take i) (xs.drop i)
      rw [List.take_append_drop] at this
      omega
    rw [hd, tszL_cons] at hle
    have h1 := tsz_pos (rd_T25 xs (i : Int))
    have hlen : (xs.length : Int) ≤ 1000000000000 := by have := tszL_len xs; omega
    unfold gossamerref02_One.l0
    rw [if_pos (by omega), if_pos (by omega), if_pos (by omega), ih _ (by omega) k (by omega)]
    show (if true = true then gossamerref02_One.l0 k (wrap64 ((i : Int) + 1)) _ _ _ _ xs _ _ _ _ xs else some false) = _
    rw [if_pos rfl, wrap_small _ (by omega) (by omega), show ((i : Int) + 1) = ((i + 1 : Nat) : Int) by omega]
    exact One_l0 n ih a0 a1 a2 a3 b0 b1 b2 b3 xs hsz hn m (i + 1) k (by omega) (by omega) (by omega)
theorem One_f : ∀ (n : Nat) (t : Tree), tsz t ≤ n → n ≤ 1000000000000 → ∀ k, 3 * tsz t ≤ k → gossamerref02_One.f k t.f0 t.f1 t.f2 t.f3 t.f4 t.f0 t.f1 t.f2 t.f3 t.f4 = some true
  | 0, t, h, _, _, _ => by have := tsz_pos t; omega
  | n + 1, t, h, hn, k, hk => by
    rw [tsz_eq] at h hk
    obtain ⟨k, rfl⟩ : ∃ j, k = j + 1 + 1 := ⟨k - 2, by omega⟩
    unfold gossamerref02_One.f
    rw [if_pos rfl, if_pos rfl, if_pos rfl, if_pos rfl]
    unfold gossamerref02_One.j0
    rw [if_neg (by simp)]
    exact One_l0 n (fun t ht k hk => One_f n t ht (by omega) k hk) _ _ _ _ _ _ _ _ t.f4 (by omega) (by omega) t.f4.length 0 k (by omega) (by omega) (by simp; omega)

/-! ### how large what is read is -/
def base : N → Nat
  | .args _ t => tsz t
  | .ops _ t => tsz t
  | .alts _ ts => tszL ts + 1
  | _ => 0
def one (nt : N) : Nat := if tight nt then 1 else 0
theorem one_sub (b : Bool) : one (sub b) = 1 := by cases b <;> rfl
theorem base_sub (b : Bool) : base (sub b) = 0 := by cases b <;> rfl
theorem tszL_vars : ∀ (vs : List Tok), tszL (vs.map varT) = vs.length
  | [] => by simp [tszL_nil]
  | v :: vs => by rw [List.map_cons, tszL_cons, tszL_vars vs, tsz_eq]; simp [varT, tszL_nil]; omega
theorem der_tsz {nt : N} {l : List Tok} {t : Tree} {r : List Tok} (h : Der nt l t r) : tsz t + 2 * r.length + one nt ≤ base nt + 2 * l.length := by
  induction h with
  | lam a x d l b r _ _ _ _ ih => simp [base, one, tight, tsz_eq ⟨_, _, _, _, _⟩, tszL_cons, tszL_nil] at ih ⊢; omega
  | let_ k a x e i l l2 v b r _ _ _ _ _ _ ih1 ih2 => simp [base, one, tight, tsz_eq ⟨_, _, _, _, _⟩, tszL_cons, tszL_nil] at ih1 ih2 ⊢; omega
  | case_ a o c l l2 l3 v b t r _ _ _ _ _ _ ih1 ih2 ih3 => simp [base, one, tight, tszL_cons, tszL_nil] at ih1 ih2 ih3 ⊢; omega
  | altsMore at_ ts p l a r t r' _ _ _ _ ih1 ih2 => simp [base, one, tight, tszL_append, tszL_cons, tszL_nil] at ih1 ih2 ⊢; omega
  | altsEnd at_ ts q r _ => simp [base, one, tight, tsz_eq ⟨_, _, _, _, _⟩]; omega
  | alt_ c vs a l b r _ _ _ _ _ ih => simp [base, one, tight, tsz_eq ⟨_, _, _, _, _⟩, tszL_append, tszL_cons, tszL_nil, tszL_vars] at ih ⊢; omega
  | cmpE l t r _ ih => exact ih
  | cmp0 l t r _ _ _ ih => exact ih
  | cmp1 l t o r1 b r _ _ _ ih1 ih2 => simp [base, one, tight, opT, tsz_eq ⟨_, _, _, _, _⟩, tszL_cons, tszL_nil] at ih1 ih2 ⊢; omega
  | lev b l t r1 t' r _ _ ih1 ih2 => rw [one_sub, base_sub] at ih1; simp [base, one, tight] at ih1 ih2 ⊢; omega
  | ops0 b t r _ _ => simp [base, one, tight]
  | ops1 b t o l x r t' r' _ _ _ ih1 ih2 => rw [one_sub, base_sub] at ih1; simp [base, one, tight, opT, tsz_eq ⟨_, _, _, _, _⟩, tszL_cons, tszL_nil] at ih1 ih2 ⊢; omega
  | app l t r1 t' r _ _ ih1 ih2 => simp [base, one, tight] at ih1 ih2 ⊢; omega
  | args0 c t r _ => simp [base, one, tight]
  | argsC t l a r t' r' _ _ _ ih1 ih2 =>
    have e : tsz ⟨t.f0, t.f1, t.f2, t.f3, t.f4 ++ [a]⟩ = tsz t + tsz a := by rw [tsz_eq, tsz_eq t, tszL_append, tszL_cons, tszL_nil]; omega
    simp [base, one, tight, e] at ih1 ih2 ⊢
    omega
  | argsA t l a r t' r' _ _ ih1 ih2 =>
    have e : tsz ⟨3, ⟨#[]⟩, 0, t.f3, [t, a]⟩ = tsz t + tsz a + 1 := by rw [tsz_eq, tszL_cons, tszL_cons, tszL_nil]; omega
    simp [base, one, tight, e] at ih1 ih2 ⊢
    omega
  | paren a q l t r _ _ _ ih => simp [base, one, tight] at ih ⊢; omega
  | var x r _ => simp [base, one, tight, tsz_eq ⟨_, _, _, _, _⟩, tszL_nil]; omega
  | con x r _ => simp [base, one, tight, tsz_eq ⟨_, _, _, _, _⟩, tszL_nil]; omega
  | int x r _ => simp [base, one, tight, tsz_eq ⟨_, _, _, _, _⟩, tszL_nil]; omega
end Go.Proofs.YtajcnjdinmgpjaaDoor.X
/- The walks of the reader: Parse. -/
namespace Go.Proofs.YtajcnjdinmgpjaaDoor.X
open Go.RowKit Go.Proofs.YtajcnjdinmgpjaaDoorW.PrintWords Go.Proofs.YtajcnjdinmgpjaaDoorW.PrintLast Go.Proofs.YtajcnjdinmgpjaaDoorW.PrintMore Go.Proofs.YtajcnjdinmgpjaaDoor.P
/-- What a text is parsed as: a tree; or where, and by what, it is none. -/
def parseM (s : ByteArray) (deep : Int) : Except (Int × Int) Tree :=
  if deep < 1 ∨ 200 < deep then .error (0, 1) else if 4096 < s.size then .error (0, 32)
  else match lexAll s with
    | .error (p, c) => .error ((p : Int), c)
    | .ok l => match pWhole l with
      | .fail r => .error ((hd r (s.size : Int)).f3, 30)
      | .ok t _ => if deep < ((tdp t : Nat) : Int) then .error (0, 31) else .ok t
def QRel (w : World) (R : Except (Int × Int) Tree) (e : Ending) (w' : World) : Prop :=
  match R with
  | .ok t => ∃ A c, e = .returned (.tuple #[treeV t A c, .int .i64 0, .int .i64 0]) ∧ TAt w' (Iv w.heap.size w'.heap.size) t A c ∧ Below w.heap.size w w'
  | .error (p, c) => e = .returned (.tuple #[treeZ, .int .i64 p, .int .i64 c]) ∧ Below w.heap.size w w'
theorem kpBelow {w W w' : World} {g : Nat} (h : Below w.heap.size w W) (k : Kp W w' g none) (hg : w.heap.size ≤ g) : Below w.heap.size w w' :=
  ⟨k.os.trans h.os, k.tape.trans h.tape, k.output.trans h.output, Nat.le_trans h.size k.size, fun i hi => (k.blks i (Nat.lt_of_lt_of_le hi h.size) (by omega) (by simp)).trans (h.block i hi)⟩
theorem lexLoop_len (s : ByteArray) : ∀ (m a : Nat) (xs l : List Tok), lexLoop s m a xs = .ok l → a ≤ s.size → xs.length ≤ a → l.length ≤ s.size
  | 0, a, xs, l, h, ha, hx => by cases h; omega
  | m + 1, a, xs, l, h, ha, hx => by
    unfold lexLoop at h
    have hsk := skip_ge s a ha
    split at h
    · cases h; omega
    · split at h
      · cases h
      · rename_i t ht
        have hpos : 0 < (s.extract (skip s a) s.size).size := by rw [extract_size _ _ hsk.2]; omega
        have hts := lexFirst_size hpos ht
        rw [extract_size _ _ hsk.2] at hts
        exact lexLoop_len s m _ _ l h (by omega) (by simp; omega)
theorem lexAll_len {s : ByteArray} {l : List Tok} (h : lexAll s = .ok l) : l.length ≤ s.size := lexLoop_len s _ 0 [] l h (by omega) (by simp)
theorem whole_tsz {l : List Tok} {t : Tree} {r : List Tok} (h : pWhole l = .ok t r) : tsz t ≤ 2 * l.length ∧ Der .expr l t [] := by
  unfold pWhole at h
  obtain ⟨t', r', h1, h2⟩ := PR.bind_inv h
  split at h2
  · rename_i hr
    cases h2
    have hr' : r' = [] := List.length_eq_zero_iff.1 hr
    subst hr'
    have hd := expr_der _ _ _ _ h1
    have := der_tsz hd
    simp [base] at this
    exact ⟨by omega, hd⟩
  · cases h2
theorem lexNamed_err {s : ByteArray} {c0 c : Int} (h : lexNamed s c0 = .error c) : c = 10 ∨ c = 11 := by
  unfold lexNamed at h
  repeat' split at h
  all_goals first | (cases h; first | exact .inl rfl | exact .inr rfl) | cases h
theorem lexFirst_err {s : ByteArray} {c : Int} (h : lexFirst s = .error c) : c = 10 ∨ c = 11 := by
  unfold lexFirst at h
  split at h
  · split at h
    · cases h
    · cases h; exact .inl rfl
  · cases hl : lexNamed (s.extract 0 (lenW s)) (c0 s) with
    | ok p => obtain ⟨k, n⟩ := p; rw [hl] at h; cases h
    | error c' => rw [hl] at h; cases h; exact lexNamed_err hl
theorem lexLoop_err (s : ByteArray) : ∀ (m a : Nat) (xs : List Tok) (p : Nat) (c : Int), lexLoop s m a xs = .error (p, c) → c = 10 ∨ c = 11
  | 0, a, xs, p, c, h => by cases h
  | m + 1, a, xs, p, c, h => by
    unfold lexLoop at h
    split at h
    · cases h
    · split at h
      · rename_i ht
        cases h
        exact lexFirst_err ht
      · exact lexLoop_err s m _ _ p c h
theorem lexAll_err {s : ByteArray} {p : Nat} {c : Int} (h : lexAll s = .error (p, c)) : c = 10 ∨ c = 11 := lexLoop_err s _ 0 [] p c h
theorem Depth_calls (t : Tree) (A : Option Addr) (c : Nat) (ok : Nat → Prop) (w : World) (h : TAt w ok t A c) (hs : tsz t ≤ 1000000000000) :
    Calls Tryd.prog 17 #[treeV t A c] w fun e w' => e = .returned (.int .i64 ((tdp t : Nat) : Int)) ∧ Below w.heap.size w w' :=
  tree_Depth.calls (2 * tsz t) t.f0 t.f1 t.f2 t.f3 A c t.f4 _ w (Kd.F_now h.2.1) h.1 (Depth_f (tsz t) t (Nat.le_refl _) hs _ (Nat.le_refl _))
theorem close5 {w W : World} {v0 v1 v2 v3 v4 : Value} (hz : W.heap[w.heap.size]? = some (.cells #[v0, v1, v2, v3, v4] 25 (0, 0))) (hB : Below w.heap.size w W) (u0 u1 u2 u3 u4 : Value) :
    (((((W.setCell ⟨w.heap.size, 0, none⟩ u0).setCell ⟨w.heap.size, 1, none⟩ u1).setCell ⟨w.heap.size, 2, none⟩ u2).setCell ⟨w.heap.size, 3, none⟩ u3).setCell ⟨w.heap.size, 4, none⟩ u4).heap[w.heap.size]? = some (.cells #[u0, u1, u2, u3, u4] 25 (0, 0)) ∧
      Below w.heap.size w (((((W.setCell ⟨w.heap.size, 0, none⟩ u0).setCell ⟨w.heap.size, 1, none⟩ u1).setCell ⟨w.heap.size, 2, none⟩ u2).setCell ⟨w.heap.size, 3, none⟩ u3).setCell ⟨w.heap.size, 4, none⟩ u4) :=
  ⟨set5 hz, ((((hB.setCell (p := ⟨w.heap.size, 0, none⟩) (Nat.le_refl _) u0).setCell (p := ⟨w.heap.size, 1, none⟩) (Nat.le_refl _) u1).setCell (p := ⟨w.heap.size, 2, none⟩) (Nat.le_refl _) u2).setCell (p := ⟨w.heap.size, 3, none⟩) (Nat.le_refl _) u3).setCell (p := ⟨w.heap.size, 4, none⟩) (Nat.le_refl _) u4⟩
set_option maxRecDepth 100000 in
set_option maxHeartbeats 4000000 in
theorem Parse_calls (s : ByteArray) (deep : Int) (w : World) : Calls Tryd.prog 7 #[.string s, .int .i64 deep] w (QRel w (parseM s deep)) := by
  obtain ⟨R, hR⟩ : ∃ R, R = parseM s deep := ⟨_, rfl⟩
  rw [← hR]
  unfold parseM at hR
  have hz := blk_new w (.cells #[.int .i64 0, .string ⟨#[]⟩, .int .i64 0, .int .i64 0, .slice none 0 0] 25)
  have hB0 : Below w.heap.size w (w.alloc (.cells #[.int .i64 0, .string ⟨#[]⟩, .int .i64 0, .int .i64 0, .slice none 0 0] 25)) := below_alloc (Below.refl _ _) _
  have HZ := Lib.hid (And.intro hz hB0)
  clear hz hB0
  by_cases h12 : deep < 1 ∨ 200 < deep
  · rw [if_pos h12] at hR
    have HR := Lib.hid hR
    clear hR
    by_cases h1 : deep < 1
    · have n1 : decide (deep < 1) = true := decide_eq_true h1
      go_enter Tryd.func7, Tryd.ntmps7
      go_wp2
      obtain ⟨hz, hB⟩ := HZ.out
      obtain ⟨c0, c1, c2, c3, c4, cf, cl⟩ := open5 hz
      refine bodyPost_ret (v := .tuple #[treeZ, .int .i64 0, .int .i64 1]) (by simp [results, Tryd.results7, go_sem, c0, c1, c2, c3, c4, treeZ]) rfl ?_
      rw [HR.out]
      exact ⟨rfl, hB⟩
    · have n1 : decide (deep < 1) = false := decide_eq_false h1
      have n2 : decide (200 < deep) = true := decide_eq_true (by omega)
      go_enter Tryd.func7, Tryd.ntmps7
      go_wp2
      obtain ⟨hz, hB⟩ := HZ.out
      obtain ⟨c0, c1, c2, c3, c4, cf, cl⟩ := open5 hz
      refine bodyPost_ret (v := .tuple #[treeZ, .int .i64 0, .int .i64 1]) (by simp [results, Tryd.results7, go_sem, c0, c1, c2, c3, c4, treeZ]) rfl ?_
      rw [HR.out]
      exact ⟨rfl, hB⟩
  rw [if_neg h12] at hR
  have n1 : decide (deep < 1) = false := decide_eq_false (by omega)
  have n2 : decide (200 < deep) = false := decide_eq_false (by omega)
  by_cases h3 : 4096 < s.size
  · rw [if_pos h3] at hR
    have HR := Lib.hid hR
    clear hR
    have n3 : decide ((4096 : Int) < (s.size : Int)) = true := decide_eq_true (by omega)
    go_enter Tryd.func7, Tryd.ntmps7
    go_wp2
    obtain ⟨hz, hB⟩ := HZ.out
    obtain ⟨c0, c1, c2, c3, c4, cf, cl⟩ := open5 hz
    refine bodyPost_ret (v := .tuple #[treeZ, .int .i64 0, .int .i64 32]) (by simp [results, Tryd.results7, go_sem, c0, c1, c2, c3, c4, treeZ]) rfl ?_
    rw [HR.out]
    exact ⟨rfl, hB⟩
  rw [if_neg h3] at hR
  have n3 : decide ((4096 : Int) < (s.size : Int)) = false := decide_eq_false (by omega)
  have HA := All_calls s (by omega) (w.alloc (.cells #[.int .i64 0, .string ⟨#[]⟩, .int .i64 0, .int .i64 0, .slice none 0 0] 25))
  cases hl : lexAll s with
  | error pc =>
    obtain ⟨p, c⟩ := pc
    have hc := lexAll_err hl
    rw [hl] at hR HA
    have HR := Lib.hid hR
    have HA' := Lib.hid HA
    clear hR HA hl
    have n4 : (c == 0) = false := by rcases hc with rfl | rfl <;> rfl
    clear hc
    go_enter Tryd.func7, Tryd.ntmps7
    go_wp2_with fail
    refine HA'.out.mono ?_
    rintro e w1 ⟨rfl, hB1⟩
    have hz1 := blk_below (HZ.out.1) hB1
    have hBB := HZ.out.2.trans (hB1.mono (by simp))
    clear hB1
    obtain ⟨c0, c1, c2, c3, c4, cf, cl⟩ := open5 hz1
    have HZ1 := Lib.hid (And.intro hz1 hBB)
    clear hz1 hBB HZ
    go_wp2
    obtain ⟨hz, hB⟩ := HZ1.out
    have hz5 := set5 (u0 := .int .i64 0) (u1 := .string ⟨#[]⟩) (u2 := .int .i64 0) (u3 := .int .i64 0) (u4 := .slice none 0 0) hz
    have hB5 := ((((hB.setCell (p := ⟨w.heap.size, 0, none⟩) (by simp) (.int .i64 0)).setCell (p := ⟨w.heap.size, 1, none⟩) (by simp) (.string ⟨#[]⟩)).setCell (p := ⟨w.heap.size, 2, none⟩) (by simp) (.int .i64 0)).setCell (p := ⟨w.heap.size, 3, none⟩) (by simp) (.int .i64 0)).setCell (p := ⟨w.heap.size, 4, none⟩) (by simp) (.slice none 0 0)
    obtain ⟨W5, hW⟩ : ∃ W5, W5 = (((((w1.setCell ⟨w.heap.size, 0, none⟩ (.int .i64 0)).setCell ⟨w.heap.size, 1, none⟩ (.string ⟨#[]⟩)).setCell ⟨w.heap.size, 2, none⟩ (.int .i64 0)).setCell ⟨w.heap.size, 3, none⟩ (.int .i64 0)).setCell ⟨w.heap.size, 4, none⟩ (.slice none 0 0)) := ⟨_, rfl⟩
    rw [← hW] at hz5 hB5 ⊢
    clear hW hz hB c0 c1 c2 c3 c4 cf cl
    obtain ⟨c0, c1, c2, c3, c4, cf, cl⟩ := open5 hz5
    refine bodyPost_ret (v := .tuple #[treeZ, .int .i64 (p : Int), .int .i64 c]) (by simp [results, Tryd.results7, go_sem, c0, c1, c2, c3, c4, treeZ]) rfl ?_
    rw [HR.out]
    exact ⟨rfl, hB5⟩
  | ok l =>
    rw [hl] at hR HA
    have hlen := lexAll_len hl
    have HA' := Lib.hid HA
    have HR0 := Lib.hid hR
    clear HA hl hR
    go_enter Tryd.func7, Tryd.ntmps7
    go_wp2_with fail
    refine HA'.out.mono ?_
    rintro e w1 ⟨A, c, rfl, hlc, hC, hB1⟩
    have hz1 := blk_below HZ.out.1 hB1
    have hBB := HZ.out.2.trans (hB1.mono (by simp))
    clear hB1 HZ HA'
    obtain ⟨c0, c1, c2, c3, c4, cf, cl⟩ := open5 hz1
    have HZ1 := Lib.hid (And.intro hz1 hBB)
    clear hz1 hBB
    go_wp2_with fail
    have hI : Rdr w1 (w1.alloc (.cells #[.slice A l.length c, .int .i64 (s.size : Int)] 42)) w1.heap.size l (s.size : Int) := ⟨A, c, blk_new _ _, hlc, Nat.le_refl _, hC, below_alloc (Below.refl _ _) _⟩
    refine (whole_calls w1 _ w1.heap.size (s.size : Int) l (by omega) hI).mono ?_
    clear hI hC
    intro e w2 hw2
    obtain ⟨hz1, hBB⟩ := HZ1.out
    cases hp : pWhole l with
    | fail r =>
      rw [hp] at hw2
      have HR1 := HR0.out
      rw [hp] at HR1
      have HR := Lib.hid HR1
      clear HR1 HR0 hp
      obtain ⟨rfl, hK⟩ := hw2
      have hz2 := hK.blk (blk_alloc hz1 _) (by omega) (by simp)
      have hB2 := kpBelow (hBB.alloc (Nat.le_of_lt cl) _) hK (by omega)
      clear hz1 hBB HZ1 hK c0 c1 c2 c3 c4 cf
      obtain ⟨c0, c1, c2, c3, c4, cf, cl2⟩ := open5 hz2
      have HZ2 := Lib.hid (And.intro hz2 hB2)
      clear hz2 hB2
      unfold treeZ
      go_wp2
      obtain ⟨hz, hB⟩ := HZ2.out
      obtain ⟨hz5, hB5⟩ := close5 hz hB (.int .i64 0) (.string ⟨#[]⟩) (.int .i64 0) (.int .i64 0) (.slice none 0 0)
      have hz6 := blk_alloc hz5 (.cells #[.int .i64 0, .string ⟨#[]⟩, .int .i64 0, .int .i64 0, .slice none 0 0] 25)
      have hB6 := hB5.alloc hB5.size (.cells #[.int .i64 0, .string ⟨#[]⟩, .int .i64 0, .int .i64 0, .slice none 0 0] 25)
      obtain ⟨W5, hW⟩ : ∃ W5, W5 = ((((((w2.setCell ⟨w.heap.size, 0, none⟩ (.int .i64 0)).setCell ⟨w.heap.size, 1, none⟩ (.string ⟨#[]⟩)).setCell ⟨w.heap.size, 2, none⟩ (.int .i64 0)).setCell ⟨w.heap.size, 3, none⟩ (.int .i64 0)).setCell ⟨w.heap.size, 4, none⟩ (.slice none 0 0)).alloc (.cells #[.int .i64 0, .string ⟨#[]⟩, .int .i64 0, .int .i64 0, .slice none 0 0] 25)) := ⟨_, rfl⟩
      rw [← hW] at hz6 hB6 ⊢
      clear hW hz hB hz5 hB5 c0 c1 c2 c3 c4 cf
      obtain ⟨c0, c1, c2, c3, c4, cf, cl⟩ := open5 hz6
      refine bodyPost_ret (v := .tuple #[treeZ, .int .i64 (hd r (s.size : Int)).f3, .int .i64 30]) (by simp [results, Tryd.results7, go_sem, c0, c1, c2, c3, c4, treeZ]) rfl ?_
      rw [HR.out]
      exact ⟨rfl, hB6⟩
    | ok t r =>
      rw [hp] at hw2
      have HR1 := HR0.out
      rw [hp] at HR1
      have HR := Lib.hid HR1
      have hts := (whole_tsz hp).1
      clear HR1 HR0 hp
      obtain ⟨A2, cc2, rfl, hT, hK⟩ := hw2
      have hz2 := hK.blk (blk_alloc hz1 _) (by omega) (by simp)
      have hB2 := kpBelow (hBB.alloc (Nat.le_of_lt cl) _) hK (by omega)
      have hTT : TAt w2 (Iv (w.heap.size + 1) w2.heap.size) t A2 cc2 := hT.iv (by simp; omega) (Nat.le_refl _)
      have hsz2 : w.heap.size < w2.heap.size := blk_lt hz2
      clear hz1 hBB HZ1 hK c0 c1 c2 c3 c4 cf hT
      have hz3 := blk_alloc hz2 (.cells #[.int .i64 t.f0, .string t.f1, .int .i64 t.f2, .int .i64 t.f3, .slice A2 t.f4.length cc2] 25)
      have hn3 := blk_new w2 (.cells #[.int .i64 t.f0, .string t.f1, .int .i64 t.f2, .int .i64 t.f3, .slice A2 t.f4.length cc2] 25)
      have hB3 := hB2.alloc (Nat.le_of_lt hsz2) (.cells #[.int .i64 t.f0, .string t.f1, .int .i64 t.f2, .int .i64 t.f3, .slice A2 t.f4.length cc2] 25)
      have hT3 := hTT.below (below_alloc (Below.refl _ _) (.cells #[.int .i64 t.f0, .string t.f1, .int .i64 t.f2, .int .i64 t.f3, .slice A2 t.f4.length cc2] 25))
      have HZ3 := Lib.hid (And.intro hz3 (And.intro hn3 (And.intro hB3 hT3)))
      clear hz2 hB2 hTT hz3 hn3 hB3 hT3
      unfold treeV
      go_wp2_with fail
      obtain ⟨hz3, hn3, hB3, hT3⟩ := HZ3.out
      refine (Depth_calls t A2 cc2 _ _ hT3 (by omega)).mono ?_
      rintro e w4 ⟨rfl, hB4⟩
      have hz4 := blk_below hz3 hB4
      have hn4 := blk_below hn3 hB4
      have hBB4 := below_then hB3 hB3.size hB4
      have hT4 := hT3.below hB4
      have hsz4 : w2.heap.size < w4.heap.size := blk_lt hn4
      clear hz3 hn3 hB3 hT3 HZ3 hB4
      obtain ⟨c0, c1, c2, c3, c4, cf, cl4⟩ := open5 hz4
      obtain ⟨d0, d1, d2, d3, d4, df, dl4⟩ := open5 hn4
      have HZ4 := Lib.hid (And.intro hz4 (And.intro hBB4 hT4))
      clear hz4 hn4 hBB4 hT4
      by_cases hd : deep < ((tdp t : Nat) : Int)
      · have HR1 := HR.out
        have HR1 : R = if deep < ((tdp t : Nat) : Int) then .error (0, 31) else .ok t := HR1
        rw [if_pos hd] at HR1
        have HR2 := Lib.hid HR1
        have n5 : decide (deep < ((tdp t : Nat) : Int)) = true := decide_eq_true hd
        clear HR HR1 hd
        go_wp2
        obtain ⟨hz, hB, hT⟩ := HZ4.out
        obtain ⟨hz6, hB6⟩ := close5 hz hB (.int .i64 0) (.string ⟨#[]⟩) (.int .i64 0) (.int .i64 0) (.slice none 0 0)
        obtain ⟨W5, hW⟩ : ∃ W5, W5 = (((((w4.setCell ⟨w.heap.size, 0, none⟩ (.int .i64 0)).setCell ⟨w.heap.size, 1, none⟩ (.string ⟨#[]⟩)).setCell ⟨w.heap.size, 2, none⟩ (.int .i64 0)).setCell ⟨w.heap.size, 3, none⟩ (.int .i64 0)).setCell ⟨w.heap.size, 4, none⟩ (.slice none 0 0)) := ⟨_, rfl⟩
        rw [← hW] at hz6 hB6 ⊢
        clear hW hz hB hT HZ4 c0 c1 c2 c3 c4 cf d0 d1 d2 d3 d4 df
        obtain ⟨c0, c1, c2, c3, c4, cf, cl⟩ := open5 hz6
        refine bodyPost_ret (v := .tuple #[treeZ, .int .i64 0, .int .i64 31]) (by simp [results, Tryd.results7, go_sem, c0, c1, c2, c3, c4, treeZ]) rfl ?_
        rw [HR2.out]
        exact ⟨rfl, hB6⟩
      · have HR1 := HR.out
        have HR1 : R = if deep < ((tdp t : Nat) : Int) then .error (0, 31) else .ok t := HR1
        rw [if_neg hd] at HR1
        have HR2 := Lib.hid HR1
        have n5 : decide (deep < ((tdp t : Nat) : Int)) = false := decide_eq_false hd
        clear HR HR1 hd
        go_wp2
        obtain ⟨hz, hB, hT⟩ := HZ4.out
        obtain ⟨hz6, hB6⟩ := close5 hz hB (.int .i64 t.f0) (.string t.f1) (.int .i64 t.f2) (.int .i64 t.f3) (.slice A2 t.f4.length cc2)
        have hT6 := hT.far5 (R := w.heap.size) (v0 := .int .i64 t.f0) (v1 := .string t.f1) (v2 := .int .i64 t.f2) (v3 := .int .i64 t.f3) (v4 := .slice A2 t.f4.length cc2) (fun h => by have := h.1; omega)
        have hsz5 : (((((w4.setCell ⟨w.heap.size, 0, none⟩ (.int .i64 t.f0)).setCell ⟨w.heap.size, 1, none⟩ (.string t.f1)).setCell ⟨w.heap.size, 2, none⟩ (.int .i64 t.f2)).setCell ⟨w.heap.size, 3, none⟩ (.int .i64 t.f3)).setCell ⟨w.heap.size, 4, none⟩ (.slice A2 t.f4.length cc2)).heap.size = w4.heap.size := by simp
        obtain ⟨W5, hW⟩ : ∃ W5, W5 = (((((w4.setCell ⟨w.heap.size, 0, none⟩ (.int .i64 t.f0)).setCell ⟨w.heap.size, 1, none⟩ (.string t.f1)).setCell ⟨w.heap.size, 2, none⟩ (.int .i64 t.f2)).setCell ⟨w.heap.size, 3, none⟩ (.int .i64 t.f3)).setCell ⟨w.heap.size, 4, none⟩ (.slice A2 t.f4.length cc2)) := ⟨_, rfl⟩
        rw [← hW] at hz6 hB6 hT6 hsz5 ⊢
        clear hW hz hB hT HZ4 c0 c1 c2 c3 c4 cf d0 d1 d2 d3 d4 df
        obtain ⟨c0, c1, c2, c3, c4, cf, cl⟩ := open5 hz6
        refine bodyPost_ret (v := .tuple #[treeV t A2 cc2, .int .i64 0, .int .i64 0]) (by simp [results, Tryd.results7, go_sem, c0, c1, c2, c3, c4, treeV]) rfl ?_
        rw [HR2.out]
        exact ⟨A2, cc2, rfl, hT6.iv (by omega) (by omega), hB6⟩
end Go.Proofs.YtajcnjdinmgpjaaDoor.X
/- The words, on lists of bytes. -/
namespace Go.Proofs.YtajcnjdinmgpjaaDoor.X
open Go.RowKit Go.Proofs.YtajcnjdinmgpjaaDoorW.PrintWords Go.Proofs.YtajcnjdinmgpjaaDoorW.PrintLast Go.Proofs.YtajcnjdinmgpjaaDoorW.PrintMore Go.Proofs.YtajcnjdinmgpjaaDoor.P
def wB (b : UInt8) : Bool := wordI (b.toNat : Int)
def wl (l : List UInt8) : Nat := (l.takeWhile wB).length
def sg1L : List UInt8 := [92, 46, 40, 41, 61, 123, 125, 124, 43, 45, 42, 47, 60]
/-- how long the sign at the front is -/
def sgn : List UInt8 → Nat
  | [] => 0
  | b :: r => if (b = 45 ∧ r.head? = some 62) ∨ (b = 61 ∧ r.head? = some 61) then 2 else if sg1L.contains b then 1 else 0
def h0 (l : List UInt8) : Int := match l with | [] => 0 | b :: _ => (b.toNat : Int)
def wordsL : List (List UInt8) := [[108, 101, 116], [108, 101, 116, 114, 101, 99], [105, 110], [99, 97, 115, 101], [111, 102]]
def big (b : UInt8) : Bool := decide (57 < (b.toNat : Int))
/-- letters and digits: kind and number, or the fault -/
def specW (w : List UInt8) : Except Int (Int × Int) :=
  if digI (h0 w) then (if w.any big then .error 10 else if 18 < w.length ∨ (1 < w.length ∧ h0 w = 48) then .error 11 else .ok (3, (Lib.atoi w).getD 0))
  else if 16 < w.length then .error 11 else if wordsL.contains w then .ok (4, 0) else if upI (h0 w) then .ok (2, 0) else .ok (1, 0)
/-- the token at the front: kind, length, number -/
def specF (l : List UInt8) : Except Int (Int × Nat × Int) :=
  if wl l = 0 then (if sgn l = 0 then .error 10 else .ok (5, sgn l, 0))
  else match specW (l.take (wl l)) with
    | .ok (k, n) => .ok (k, wl l, n)
    | .error c => .error c
theorem notW_wB (b : UInt8) : notW (b.toNat : Int) = !wB b := by
  unfold notW wB
  by_cases h : 127 < (b.toNat : Int)
  · have : wordI (b.toNat : Int) = false := by
      simp [wordI, lowI, upI, digI]
      omega
    simp [h, this]
  · simp [h]
theorem ixF_while (p : UInt8 → Bool) : ∀ (l : List UInt8) (i : Nat), ixF p l i = if (l.takeWhile fun b => !p b).length < l.length then ((i + (l.takeWhile fun b => !p b).length : Nat) : Int) else -1
  | [], i => rfl
  | b :: r, i => by
    unfold ixF
    by_cases h : p b = true
    · simp [h]
    · have h' : p b = false := by simpa using h
      rw [if_neg h, ixF_while p r (i + 1)]
      simp only [List.takeWhile_cons, h', Bool.not_false, if_true, List.length_cons]
      by_cases hl : (r.takeWhile fun b => !p b).length < r.length
      · rw [if_pos hl, if_pos (by omega)]
        congr 1
        omega
      · rw [if_neg hl, if_neg (by omega)]
theorem takeWhile_notW (l : List UInt8) : (l.takeWhile fun b => !notW (b.toNat : Int)) = l.takeWhile wB := by
  congr 1
  funext b
  rw [notW_wB]
  simp
theorem wl_le (l : List UInt8) : wl l ≤ l.length := (List.takeWhile_prefix _).length_le
theorem endW_wl (s : ByteArray) : endW s = if wl s.data.toList < s.size then ((wl s.data.toList : Nat) : Int) else -1 := by
  unfold endW
  rw [ixF_while, takeWhile_notW]
  simp only [Nat.zero_add]
  rfl
theorem lenW_wl (s : ByteArray) : lenW s = wl s.data.toList := by
  have h := wl_le s.data.toList
  have hs : s.data.toList.length = s.size := rfl
  unfold lenW
  rw [endW_wl]
  by_cases hl : wl s.data.toList < s.size
  · rw [if_pos hl, if_neg (by omega)]
    rfl
  · rw [if_neg hl, if_pos (by omega)]
    omega
theorem endW_zero (s : ByteArray) (h : 0 < s.size) : endW s = 0 ↔ wl s.data.toList = 0 := by
  rw [endW_wl]
  by_cases hl : wl s.data.toList < s.size
  · rw [if_pos hl]; omega
  · rw [if_neg hl]; omega
theorem c0_h0 (s : ByteArray) : c0 s = h0 s.data.toList := rfl
theorem ixF_any (p : UInt8 → Bool) : ∀ (l : List UInt8) (i : Nat), 0 ≤ ixF p l i ↔ l.any p = true
  | [], i => by simp [ixF]
  | b :: r, i => by
    unfold ixF
    by_cases h : p b = true
    · simp [h]
    · have h' : p b = false := by simpa using h
      rw [if_neg h, ixF_any p r (i + 1)]
      simp [h']
theorem bytes_ext {a b : ByteArray} (h : a.data.toList = b.data.toList) : a = b := ByteArray.ext (Array.toList_inj.1 h)
theorem isWordB_spec (s : ByteArray) : isWordB s = wordsL.contains s.data.toList := by
  have e : ∀ x y : List UInt8, (x == y) = decide (x = y) := fun x y => by
    by_cases h : x = y
    · simp [h]
    · simp [h]
  unfold isWordB wordsL
  simp only [ByteArray.toList_eq, List.any_cons, List.any_nil, List.contains_cons, List.contains_nil]
theorem head_take {l : List UInt8} {k : Nat} (h : 0 < k) : h0 (l.take k) = h0 l := by
  cases l with
  | nil => simp [h0]
  | cons b r =>
    cases k with
    | zero => omega
    | succ k => simp [h0]
theorem lexNamed_spec (s : ByteArray) (h : 0 < lenW s) : lexNamed (s.extract 0 (lenW s)) (c0 s) = specW (s.data.toList.take (wl s.data.toList)) := by
  have e1 : (s.extract 0 (lenW s)).data.toList = s.data.toList.take (wl s.data.toList) := by rw [take_list, lenW_wl]
  have e2 : (s.extract 0 (lenW s)).size = (s.data.toList.take (wl s.data.toList)).length := by rw [← e1]; rfl
  have e3 : c0 s = h0 (s.data.toList.take (wl s.data.toList)) := by rw [c0_h0, head_take (by rw [← lenW_wl]; exact h)]
  unfold lexNamed specW
  rw [e1, e2, e3, isWordB_spec, e1]
  by_cases hd : digI (h0 (s.data.toList.take (wl s.data.toList))) = true
  · rw [if_pos hd, if_pos hd]
    by_cases ha : 0 ≤ ixF (fun b => decide (57 < (b.toNat : Int))) (s.data.toList.take (wl s.data.toList)) 0
    · rw [if_pos ha, if_pos (by have := (ixF_any _ _ _).1 ha; exact this)]
    · rw [if_neg ha, if_neg (show ¬ (s.data.toList.take (wl s.data.toList)).any big = true from fun h' => ha ((ixF_any _ _ _).2 h'))]
  · rw [if_neg hd, if_neg hd]
theorem firstSign_spec (s : ByteArray) (b : UInt8) (r : List UInt8) (hs : s.data.toList = b :: r) : (sgn s.data.toList = 0 ∧ firstSign s signL = none) ∨ (0 < sgn s.data.toList ∧ firstSign s signL = some (s.extract 0 (sgn s.data.toList))) := by
  have key : ∀ (x : ByteArray) (k : Nat), sgn s.data.toList = k → x.data.toList = s.data.toList.take k → some x = some (s.extract 0 (sgn s.data.toList)) := by
    intro x k hk hx
    rw [hk, bytes_ext (hx.trans (take_list s k).symm)]
  by_cases h1 : b = 45 ∧ r.head? = some 62
  · obtain ⟨rfl, hr⟩ := h1
    obtain ⟨r, rfl⟩ : ∃ q, r = 62 :: q := by cases r <;> simp_all
    have hk : sgn s.data.toList = 2 := by rw [hs]; rfl
    refine .inr ⟨by omega, ?_⟩
    rw [show firstSign s signL = some ⟨#[45, 62]⟩ by simp [firstSign, signL, Lib.hasPrefix, hs, List.isPrefixOf]]
    exact key _ 2 hk (by rw [hs]; rfl)
  · by_cases h2 : b = 61 ∧ r.head? = some 61
    · obtain ⟨rfl, hr⟩ := h2
      obtain ⟨r, rfl⟩ : ∃ q, r = 61 :: q := by cases r <;> simp_all
      have hk : sgn s.data.toList = 2 := by rw [hs]; rfl
      refine .inr ⟨by omega, ?_⟩
      rw [show firstSign s signL = some ⟨#[61, 61]⟩ by simp [firstSign, signL, Lib.hasPrefix, hs, List.isPrefixOf]]
      exact key _ 2 hk (by rw [hs]; rfl)
    · have n1 : Lib.hasPrefix s.data.toList [45, 62] = false := by
        rw [hs]
        cases r with
        | nil => simp [Lib.hasPrefix, List.isPrefixOf]
        | cons c r =>
          simp [Lib.hasPrefix, List.isPrefixOf] at h1 ⊢
          exact fun e => fun e' => h1 e.symm e'.symm
      have n2 : Lib.hasPrefix s.data.toList [61, 61] = false := by
        rw [hs]
        cases r with
        | nil => simp [Lib.hasPrefix, List.isPrefixOf]
        | cons c r =>
          simp [Lib.hasPrefix, List.isPrefixOf] at h2 ⊢
          exact fun e => fun e' => h2 e.symm e'.symm
      have n3 : ∀ x : UInt8, Lib.hasPrefix s.data.toList [x] = (x == b) := by
        intro x
        rw [hs]
        simp [Lib.hasPrefix, List.isPrefixOf]
      have hk : sgn s.data.toList = if sg1L.contains b then 1 else 0 := by
        rw [hs]
        show (if _ then _ else _) = _
        rw [if_neg (by rintro (h | h); exact h1 h; exact h2 h)]
      by_cases hm : b ∈ sg1L
      · rw [if_pos (by simpa using hm)] at hk
        refine .inr ⟨by omega, ?_⟩
        refine Eq.trans (b := some ⟨#[b]⟩) ?_ (key ⟨#[b]⟩ 1 hk (by rw [hs]; rfl))
        simp only [firstSign, signL, n1, n2, n3]
        simp [sg1L] at hm
        rcases hm with rfl | rfl | rfl | rfl | rfl | rfl | rfl | rfl | rfl | rfl | rfl | rfl | rfl <;> rfl
      · rw [if_neg (by simpa using hm)] at hk
        refine .inl ⟨hk, ?_⟩
        simp [sg1L] at hm
        obtain ⟨a1, a2, a3, a4, a5, a6, a7, a8, a9, a10, a11, a12, a13⟩ := hm
        have f : ∀ x : UInt8, b ≠ x → (x == b) = false := fun x h => by simpa using fun e => h e.symm
        simp only [firstSign, signL, n1, n2, n3, f _ a1, f _ a2, f _ a3, f _ a4, f _ a5, f _ a6, f _ a7, f _ a8, f _ a9, f _ a10, f _ a11, f _ a12, f _ a13]
        rfl
/-- what the front token is, by lists -/
theorem lexFirst_spec (s : ByteArray) (hs : 0 < s.size) : lexFirst s = match specF s.data.toList with | .ok (k, m, n) => .ok ⟨k, s.extract 0 m, n, 0⟩ | .error c => .error c := by
  unfold lexFirst specF
  by_cases hz : endW s = 0
  · rw [if_pos hz, if_pos ((endW_zero s hs).1 hz)]
    cases hl : s.data.toList with
    | nil => have : s.data.toList.length = s.size := rfl; rw [hl] at this; simp at this; omega
    | cons b r =>
      rw [← hl]
      rcases firstSign_spec s b r hl with ⟨h1, h2⟩ | ⟨h1, h2⟩
      · rw [if_pos h1, h2]
      · rw [if_neg (by omega), h2]
  · have hn := mt (endW_zero s hs).2 hz
    rw [if_neg hz, if_neg hn, lexNamed_spec s (by rw [lenW_wl]; omega), lenW_wl]
    cases specW (s.data.toList.take (wl s.data.toList)) with
    | ok p => rfl
    | error c => rfl
end Go.Proofs.YtajcnjdinmgpjaaDoor.X
namespace Go.Proofs.YtajcnjdinmgpjaaDoor.P
open Go.RowKit Go.Proofs.YtajcnjdinmgpjaaDoorW.PrintWords Go.Proofs.YtajcnjdinmgpjaaDoorW.PrintLast Go.Proofs.YtajcnjdinmgpjaaDoorW.PrintMore
attribute [local go_sem] max2_int min2_int max_two min_two max_three min_three max_four min_four   -- for this text's walks alone
set_option linter.unusedVariables false
set_option linter.unusedSimpArgs false

/-! ### gossamerref01_class: function 18 -/
mutual
def gossamerref01_class.j0 : Nat → Int → Bool → Option (Int)
  | 0, _, _ => none
  | k + 1, x0, x8 => if x8 = true then (some 1) else (if x0 ≥ 65 then (gossamerref01_class.j1 k x0 (decide (x0 ≤ 90))) else (gossamerref01_class.j1 k x0 false))
def gossamerref01_class.j1 : Nat → Int → Bool → Option (Int)
  | 0, _, _ => none
  | k + 1, x0, x14 => if x14 = true then (some 2) else (if x0 ≥ 48 then (gossamerref01_class.j2 k x0 (decide (x0 ≤ 57))) else (gossamerref01_class.j2 k x0 false))
def gossamerref01_class.j2 : Nat → Int → Bool → Option (Int)
  | 0, _, _ => none
  | k + 1, x0, x20 => if x20 = true then (some 3) else (if x0 = 32 then (some 4) else (if x0 = 10 then (some 4) else (if x0 = 9 then (some 4) else (some 0))))
end
def gossamerref01_class.f (k : Nat) (a0 : Int) : Option (Int) := if a0 ≥ 97 then (gossamerref01_class.j0 k a0 (decide (a0 ≤ 122))) else (gossamerref01_class.j0 k a0 false)
theorem gossamerref01_class.mono_l : ∀ k, (∀ y0 y1, LeO (gossamerref01_class.j0 k y0 y1) (gossamerref01_class.j0 (k + 1) y0 y1)) ∧ (∀ y0 y1, LeO (gossamerref01_class.j1 k y0 y1) (gossamerref01_class.j1 (k + 1) y0 y1)) ∧ (∀ y0 y1, LeO (gossamerref01_class.j2 k y0 y1) (gossamerref01_class.j2 (k + 1) y0 y1))
  | 0 => ⟨fun _ _ r h => by simp [gossamerref01_class.j0] at h, fun _ _ r h => by simp [gossamerref01_class.j1] at h, fun _ _ r h => by simp [gossamerref01_class.j2] at h⟩
  | k + 1 => by
    obtain ⟨ih0, ih1, ih2⟩ := gossamerref01_class.mono_l k
    refine ⟨?_, ?_, ?_⟩
    · intro y0 y1
      unfold gossamerref01_class.j0
      repeat' first
      | (with_reducible exact ih0 _ _)
      | (with_reducible exact ih1 _ _)
      | (with_reducible exact ih2 _ _)
      | (with_reducible exact LeO.refl _)
      | (with_reducible exact LeO.none _)
      | (with_reducible refine LeO.ite ?_ ?_)
      | (with_reducible refine LeO.bind ?_ (fun _ => ?_))
      | exact ih0 _ _
      | exact ih1 _ _
      | exact ih2 _ _
      | exact LeO.none _
      | refine LeO.ite ?_ ?_
      | refine LeO.bind ?_ (fun _ => ?_)
    · intro y0 y1
      unfold gossamerref01_class.j1
      repeat' first
      | (with_reducible exact ih0 _ _)
      | (with_reducible exact ih1 _ _)
      | (with_reducible exact ih2 _ _)
      | (with_reducible exact LeO.refl _)
      | (with_reducible exact LeO.none _)
      | (with_reducible refine LeO.ite ?_ ?_)
      | (with_reducible refine LeO.bind ?_ (fun _ => ?_))
      | exact ih0 _ _
      | exact ih1 _ _
      | exact ih2 _ _
      | exact LeO.none _
      | refine LeO.ite ?_ ?_
      | refine LeO.bind ?_ (fun _ => ?_)
    · intro y0 y1
      unfold gossamerref01_class.j2
      repeat' first
      | (with_reducible exact ih0 _ _)
      | (with_reducible exact ih1 _ _)
      | (with_reducible exact ih2 _ _)
      | (with_reducible exact LeO.refl _)
      | (with_reducible exact LeO.none _)
      | (with_reducible refine LeO.ite ?_ ?_)
      | (with_reducible refine LeO.bind ?_ (fun _ => ?_))
      | exact ih0 _ _
      | exact ih1 _ _
      | exact ih2 _ _
      | exact LeO.none _
      | refine LeO.ite ?_ ?_
      | refine LeO.bind ?_ (fun _ => ?_)
theorem gossamerref01_class.mono : ∀ a0 k, LeO (gossamerref01_class.f k a0) (gossamerref01_class.f (k + 1) a0) := by
  intro a0 k
  obtain ⟨ih0, ih1, ih2⟩ := gossamerref01_class.mono_l k
  unfold gossamerref01_class.f
  repeat' first
      | (with_reducible exact ih0 _ _)
      | (with_reducible exact ih1 _ _)
      | (with_reducible exact ih2 _ _)
      | (with_reducible exact LeO.refl _)
      | (with_reducible exact LeO.none _)
      | (with_reducible refine LeO.ite ?_ ?_)
      | (with_reducible refine LeO.bind ?_ (fun _ => ?_))
      | exact ih0 _ _
      | exact ih1 _ _
      | exact ih2 _ _
      | exact LeO.none _
      | refine LeO.ite ?_ ?_
      | refine LeO.bind ?_ (fun _ => ?_)
set_option maxHeartbeats 8000000 in
set_option maxRecDepth 100000 in
theorem gossamerref01_class.calls (k : Nat) (a0 : Int) (r : Int) (w : World) (h : gossamerref01_class.f k a0 = some r) :
    Calls Tryd.prog 18 #[.int .u8 a0] w fun e w' => e = .returned (.int .i64 r) ∧ Drawn0 w w' := by
  have H : (if a0 ≥ 97 then (gossamerref01_class.j0 k a0 (decide (a0 ≤ 122))) else (gossamerref01_class.j0 k a0 false)) = some r := h
  clear h
  have HC2 := Aside0.mk H
  clear H
  go_enter Tryd.func18, Tryd.ntmps18
  go_upto_region 1 with (fail)
  go_cut [8] (fun v8 wc => ∃ (kq : Nat) (x8_1 : Bool), v8 = .bool x8_1 ∧ Aside0 (gossamerref01_class.j0 kq a0 x8_1 = some r) ∧ Aside0 (kq ≤ k) ∧ Drawn0 w wc)
  case first =>
    have H := HC2.out
    clear HC2
    by_cases c3 : a0 ≥ 97
    · rw [if_pos c3] at H
      have c3b0 : decide (97 ≤ a0) = true := decide_eq_true c3
      clear c3
      (first | rw [c3b0] | (simp only [i64_w, i32_w]; rw [c3b0]) | skip)
      have H' := Aside0.mk H
      clear H
      go_wp2
      go_meet
      case rel => exact ⟨_, (decide (a0 ≤ 122)), (by first | rfl | (simp; done) | (simp [*]; done)), H', ⟨by first | omega | exact Nat.le_refl _⟩, by repeat (first | exact Drawn0.refl _ | apply Drawn0.step)⟩
    · rw [if_neg c3] at H
      have c3b0 : decide (97 ≤ a0) = false := decide_eq_false c3
      clear c3
      (first | rw [c3b0] | (simp only [i64_w, i32_w]; rw [c3b0]) | skip)
      have H' := Aside0.mk H
      clear H
      go_wp2
      go_meet
      case rel => exact ⟨_, (false), (by first | rfl | (simp; done) | (simp [*]; done)), H', ⟨by first | omega | exact Nat.le_refl _⟩, by repeat (first | exact Drawn0.refl _ | apply Drawn0.step)⟩
  case rest =>
    clear HC2
    try clear c1
    try clear p2
    try clear c3
    try clear c3b0
    obtain ⟨kq, x8_1, rfl, HA, HJ1, ⟨mc1, rfl⟩⟩ := hcut
    cases kq with
    | zero => exact absurd HA.out (by simp [gossamerref01_class.j0])
    | succ kj1 =>
      have H := HA.out
      clear HA
      simp only [gossamerref01_class.j0] at H
      by_cases c4 : x8_1 = true
      · subst c4
        have H1 : (some 1) = some r := by rw [if_pos rfl] at H; exact H
        clear H
        have H := H1
        clear H1
        obtain rfl := Option.some.inj H
        go_wp2
        go_ret
        exact ⟨by first | rfl | (simp; done) | (simp [*]; done), by repeat (first | exact Drawn0.refl _ | apply Drawn0.step)⟩
      · replace c4 := Bool.eq_false_iff.mpr c4
        subst c4
        have H1 : (if a0 ≥ 65 then (gossamerref01_class.j1 kj1 a0 (decide (a0 ≤ 90))) else (gossamerref01_class.j1 kj1 a0 false)) = some r := by rw [if_neg (show ¬ (false = true) by decide)] at H; exact H
        clear H
        have H := H1
        clear H1
        have HC5 := Aside0.mk H
        clear H
        go_upto_region 3 with (fail)
        go_cut [14] (fun v14 wc => ∃ (kq : Nat) (x14_4 : Bool), v14 = .bool x14_4 ∧ Aside0 (gossamerref01_class.j1 kq a0 x14_4 = some r) ∧ Aside0 (kq ≤ kj1) ∧ Drawn0 w wc)
        case first =>
          have H := HC5.out
          clear HC5
          by_cases c6 : a0 ≥ 65
          · rw [if_pos c6] at H
            have c6b0 : decide (65 ≤ a0) = true := decide_eq_true c6
            clear c6
            (first | rw [c6b0] | (simp only [i64_w, i32_w]; rw [c6b0]) | skip)
            have H' := Aside0.mk H
            clear H
            go_wp2
            go_meet
            case rel => exact ⟨_, (decide (a0 ≤ 90)), (by first | rfl | (simp; done) | (simp [*]; done)), H', ⟨by have := HJ1.out; first | omega | exact Nat.le_refl _⟩, by repeat (first | exact Drawn0.refl _ | apply Drawn0.step)⟩
          · rw [if_neg c6] at H
            have c6b0 : decide (65 ≤ a0) = false := decide_eq_false c6
            clear c6
            (first | rw [c6b0] | (simp only [i64_w, i32_w]; rw [c6b0]) | skip)
            have H' := Aside0.mk H
            clear H
            go_wp2
            go_meet
            case rel => exact ⟨_, (false), (by first | rfl | (simp; done) | (simp [*]; done)), H', ⟨by have := HJ1.out; first | omega | exact Nat.le_refl _⟩, by repeat (first | exact Drawn0.refl _ | apply Drawn0.step)⟩
        case rest =>
          clear HC5
          try clear c1
          try clear p2
          try clear c3
          try clear c3b0
          try clear c4
          try clear c6
          try clear c6b0
          try clear p2
          obtain ⟨kq, x14_4, rfl, HA, HJ4, ⟨mc4, rfl⟩⟩ := hcut
          cases kq with
          | zero => exact absurd HA.out (by simp [gossamerref01_class.j1])
          | succ kj4 =>
            have H := HA.out
            clear HA
            simp only [gossamerref01_class.j1] at H
            by_cases c7 : x14_4 = true
            · subst c7
              have H1 : (some 2) = some r := by rw [if_pos rfl] at H; exact H
              clear H
              have H := H1
              clear H1
              obtain rfl := Option.some.inj H
              go_wp2
              go_ret
              exact ⟨by first | rfl | (simp; done) | (simp [*]; done), by repeat (first | exact Drawn0.refl _ | apply Drawn0.step)⟩
            · replace c7 := Bool.eq_false_iff.mpr c7
              subst c7
              have H1 : (if a0 ≥ 48 then (gossamerref01_class.j2 kj4 a0 (decide (a0 ≤ 57))) else (gossamerref01_class.j2 kj4 a0 false)) = some r := by rw [if_neg (show ¬ (false = true) by decide)] at H; exact H
              clear H
              have H := H1
              clear H1
              have HC8 := Aside0.mk H
              clear H
              go_upto_region 5 with (fail)
              go_cut [20] (fun v20 wc => ∃ (kq : Nat) (x20_7 : Bool), v20 = .bool x20_7 ∧ Aside0 (gossamerref01_class.j2 kq a0 x20_7 = some r) ∧ Aside0 (kq ≤ kj4) ∧ Drawn0 w wc)
              case first =>
                have H := HC8.out
                clear HC8
                by_cases c9 : a0 ≥ 48
                · rw [if_pos c9] at H
                  have c9b0 : decide (48 ≤ a0) = true := decide_eq_true c9
                  clear c9
                  (first | rw [c9b0] | (simp only [i64_w, i32_w]; rw [c9b0]) | skip)
                  have H' := Aside0.mk H
                  clear H
                  go_wp2
                  go_meet
                  case rel => exact ⟨_, (decide (a0 ≤ 57)), (by first | rfl | (simp; done) | (simp [*]; done)), H', ⟨by have := HJ1.out; have := HJ4.out; first | omega | exact Nat.le_refl _⟩, by repeat (first | exact Drawn0.refl _ | apply Drawn0.step)⟩
                · rw [if_neg c9] at H
                  have c9b0 : decide (48 ≤ a0) = false := decide_eq_false c9
                  clear c9
                  (first | rw [c9b0] | (simp only [i64_w, i32_w]; rw [c9b0]) | skip)
                  have H' := Aside0.mk H
                  clear H
                  go_wp2
                  go_meet
                  case rel => exact ⟨_, (false), (by first | rfl | (simp; done) | (simp [*]; done)), H', ⟨by have := HJ1.out; have := HJ4.out; first | omega | exact Nat.le_refl _⟩, by repeat (first | exact Drawn0.refl _ | apply Drawn0.step)⟩
              case rest =>
                clear HC8
                try clear c1
                try clear p2
                try clear c3
                try clear c3b0
                try clear c4
                try clear c6
                try clear c6b0
                try clear c7
                try clear c9
                try clear c9b0
                try clear p2
                obtain ⟨kq, x20_7, rfl, HA, HJ7, ⟨mc7, rfl⟩⟩ := hcut
                cases kq with
                | zero => exact absurd HA.out (by simp [gossamerref01_class.j2])
                | succ kj7 =>
                  have H := HA.out
                  clear HA
                  simp only [gossamerref01_class.j2] at H
                  by_cases c10 : x20_7 = true
                  · subst c10
                    have H1 : (some 3) = some r := by rw [if_pos rfl] at H; exact H
                    clear H
                    have H := H1
                    clear H1
                    obtain rfl := Option.some.inj H
                    go_wp2
                    go_ret
                    exact ⟨by first | rfl | (simp; done) | (simp [*]; done), by repeat (first | exact Drawn0.refl _ | apply Drawn0.step)⟩
                  · replace c10 := Bool.eq_false_iff.mpr c10
                    subst c10
                    have H1 : (if a0 = 32 then (some 4) else (if a0 = 10 then (some 4) else (if a0 = 9 then (some 4) else (some 0)))) = some r := by rw [if_neg (show ¬ (false = true) by decide)] at H; exact H
                    clear H
                    have H := H1
                    clear H1
                    by_cases c11 : a0 = 32
                    · rw [if_pos c11] at H
                      have c11b0 : (a0 == 32) = true := beq_iff_eq.mpr c11
                      have c11b1 : (a0 != 32) = false := bne_eq_false_iff_eq.mpr c11
                      clear c11
                      obtain rfl := Option.some.inj H
                      go_wp2
                      go_ret
                      exact ⟨by first | rfl | (simp; done) | (simp [*]; done), by repeat (first | exact Drawn0.refl _ | apply Drawn0.step)⟩
                    · rw [if_neg c11] at H
                      have c11b0 : (a0 == 32) = false := beq_eq_false_iff_ne.mpr c11
                      have c11b1 : (a0 != 32) = true := bne_iff_ne.mpr c11
                      by_cases c12 : a0 = 10
                      · rw [if_pos c12] at H
                        have c12b0 : (a0 == 10) = true := beq_iff_eq.mpr c12
                        have c12b1 : (a0 != 10) = false := bne_eq_false_iff_eq.mpr c12
                        clear c12
                        obtain rfl := Option.some.inj H
                        go_wp2
                        go_ret
                        exact ⟨by first | rfl | (simp; done) | (simp [*]; done), by repeat (first | exact Drawn0.refl _ | apply Drawn0.step)⟩
                      · rw [if_neg c12] at H
                        have c12b0 : (a0 == 10) = false := beq_eq_false_iff_ne.mpr c12
                        have c12b1 : (a0 != 10) = true := bne_iff_ne.mpr c12
                        by_cases c13 : a0 = 9
                        · rw [if_pos c13] at H
                          have c13b0 : (a0 == 9) = true := beq_iff_eq.mpr c13
                          have c13b1 : (a0 != 9) = false := bne_eq_false_iff_eq.mpr c13
                          clear c13
                          obtain rfl := Option.some.inj H
                          go_wp2
                          go_ret
                          exact ⟨by first | rfl | (simp; done) | (simp [*]; done), by repeat (first | exact Drawn0.refl _ | apply Drawn0.step)⟩
                        · rw [if_neg c13] at H
                          have c13b0 : (a0 == 9) = false := beq_eq_false_iff_ne.mpr c13
                          have c13b1 : (a0 != 9) = true := bne_iff_ne.mpr c13
                          obtain rfl := Option.some.inj H
                          go_wp2
                          go_ret
                          exact ⟨by first | rfl | (simp; done) | (simp [*]; done), by repeat (first | exact Drawn0.refl _ | apply Drawn0.step)⟩

end Go.Proofs.YtajcnjdinmgpjaaDoor.P
namespace Go.Proofs.YtajcnjdinmgpjaaDoor.P
open Go.RowKit Go.Proofs.YtajcnjdinmgpjaaDoorW.PrintWords Go.Proofs.YtajcnjdinmgpjaaDoorW.PrintLast Go.Proofs.YtajcnjdinmgpjaaDoorW.PrintMore
attribute [local go_sem] max2_int min2_int max_two min_two max_three min_three max_four min_four   -- for this text's walks alone
set_option linter.unusedVariables false
set_option linter.unusedSimpArgs false

/-! ### gossamerref01_run: function 33 -/
def gossamerref01_run.l0 : Nat → ByteArray → Int → Int → Bool → Option (Int × Bool)
  | 0, _, _, _, _ => none
  | k + 1, x0, x1, x6, x7 => if (wrap64 (x1 + x6)) < (x0.size : Int) then (if 0 ≤ (wrap64 (x1 + x6)) then ((gossamerref01_class.f k (bt x0 (wrap64 (x1 + x6)))).bind fun t219 => (if t219 < 1 then (some (x6, x7)) else (if t219 > 3 then (some (x6, x7)) else (if x7 = true then (gossamerref01_run.l0 k x0 x1 (wrap64 (x6 + 1)) true) else (gossamerref01_run.l0 k x0 x1 (wrap64 (x6 + 1)) (decide (t219 < 3))))))) else (none)) else (some (x6, x7))
def gossamerref01_run.f (k : Nat) (a0 : ByteArray) (a1 : Int) : Option (Int × Bool) := gossamerref01_run.l0 k a0 a1 0 false
theorem gossamerref01_run.mono_l : ∀ k, (∀ y0 y1 y2 y3, LeO (gossamerref01_run.l0 k y0 y1 y2 y3) (gossamerref01_run.l0 (k + 1) y0 y1 y2 y3))
  | 0 => fun _ _ _ _ r h => by simp [gossamerref01_run.l0] at h
  | k + 1 => by
    have ih0 := gossamerref01_run.mono_l k
    · intro y0 y1 y2 y3
      unfold gossamerref01_run.l0
      repeat' first
      | (with_reducible exact ih0 _ _ _ _)
      | (with_reducible exact gossamerref01_class.mono _ _)
      | (with_reducible exact LeO.refl _)
      | (with_reducible exact LeO.none _)
      | (with_reducible refine LeO.ite ?_ ?_)
      | (with_reducible refine LeO.bind ?_ (fun _ => ?_))
      | exact ih0 _ _ _ _
      | exact gossamerref01_class.mono _ _
      | exact LeO.none _
      | refine LeO.ite ?_ ?_
      | refine LeO.bind ?_ (fun _ => ?_)
theorem gossamerref01_run.mono : ∀ a0 a1 k, LeO (gossamerref01_run.f k a0 a1) (gossamerref01_run.f (k + 1) a0 a1) := by
  intro a0 a1 k
  have ih0 := gossamerref01_run.mono_l k
  unfold gossamerref01_run.f
  repeat' first
      | (with_reducible exact ih0 _ _ _ _)
      | (with_reducible exact gossamerref01_class.mono _ _)
      | (with_reducible exact LeO.refl _)
      | (with_reducible exact LeO.none _)
      | (with_reducible refine LeO.ite ?_ ?_)
      | (with_reducible refine LeO.bind ?_ (fun _ => ?_))
      | exact ih0 _ _ _ _
      | exact gossamerref01_class.mono _ _
      | exact LeO.none _
      | refine LeO.ite ?_ ?_
      | refine LeO.bind ?_ (fun _ => ?_)
set_option maxHeartbeats 8000000 in
set_option maxRecDepth 100000 in
theorem gossamerref01_run.calls (k : Nat) (a0 : ByteArray) (a1 : Int) (r1 : Int) (r2 : Bool) (w : World) (h : gossamerref01_run.f k a0 a1 = some (r1, r2)) :
    Calls Tryd.prog 33 #[.string a0, .int .i64 a1] w fun e w' => e = .returned (.tuple #[.int .i64 r1, .bool r2]) ∧ Drawn0 w w' := by
  have H : (gossamerref01_run.l0 k a0 a1 0 false) = some (r1, r2) := h
  clear h
  have H' := Aside0.mk H
  clear H
  go_enter Tryd.func33, Tryd.ntmps33
  go_wp2
  go_loopg [6, 7] k (fun kq v6 v7 w' => ∃ (x6_1 : Int) (x7_1 : Bool), v6 = .int .i64 x6_1 ∧ v7 = .bool x7_1 ∧ Aside0 (gossamerref01_run.l0 kq a0 a1 x6_1 x7_1 = some (r1, r2)) ∧ Aside0 (kq ≤ k) ∧ Drawn0 w w')
  case atStart => exact ⟨(0), (false), (by first | rfl | (simp; done) | (simp [*]; done)), (by first | rfl | (simp; done) | (simp [*]; done)), H', ⟨Nat.le_refl _⟩, by repeat (first | exact Drawn0.refl _ | apply Drawn0.step)⟩
  case round =>
    clear H'
    try clear p2
    obtain ⟨x6_1, x7_1, rfl, rfl, HA, HK1, ⟨m1, rfl⟩⟩ := hrel
    cases gk with
    | zero => exact absurd HA.out (by simp [gossamerref01_run.l0])
    | succ k1 =>
      have H := HA.out
      clear HA
      simp only [gossamerref01_run.l0] at H
      by_cases c3 : (wrap64 (a1 + x6_1)) < (a0.size : Int)
      · rw [if_pos c3] at H
        have c3b0 : decide ((wrap64 (a1 + x6_1)) < (a0.size : Int)) = true := decide_eq_true c3
        clear c3
        obtain ⟨ji4, hji4⟩ : ∃ j_ : Int, (wrap64 (a1 + x6_1)) = j_ := ⟨_, rfl⟩
        replace H : (if 0 ≤ (ji4) then ((gossamerref01_class.f k1 (bt a0 (ji4))).bind fun t219 => (if t219 < 1 then (some (x6_1, x7_1)) else (if t219 > 3 then (some (x6_1, x7_1)) else (if x7_1 = true then (gossamerref01_run.l0 k1 a0 a1 (wrap64 (x6_1 + 1)) true) else (gossamerref01_run.l0 k1 a0 a1 (wrap64 (x6_1 + 1)) (decide (t219 < 3))))))) else (none)) = some (r1, r2) := by first | (rw [hji4] at H; exact H) | (simp only [hji4] at H ⊢; exact H)
        (try rw [hji4] at c3b0)
        have hji4w : (IntKind.i64.wrap (a1 + x6_1)) = ji4 := (i64_w _).trans hji4
        by_cases c5 : 0 ≤ (ji4)
        · rw [if_pos c5] at H
          have c5b0 : decide (0 ≤ (ji4)) = true := decide_eq_true c5
          clear c5
          replace H := Option.bind_eq_some_iff.mp H
          obtain ⟨t219, A70, H⟩ := H
          replace H : (if t219 < 1 then (some (x6_1, x7_1)) else (if t219 > 3 then (some (x6_1, x7_1)) else (if x7_1 = true then (gossamerref01_run.l0 k1 a0 a1 (wrap64 (x6_1 + 1)) true) else (gossamerref01_run.l0 k1 a0 a1 (wrap64 (x6_1 + 1)) (decide (t219 < 3)))))) = some (r1, r2) := H
          have A7 := Aside0.mk A70
          clear A70
          by_cases c8 : t219 < 1
          · rw [if_pos c8] at H
            have c8b0 : decide (t219 < 1) = true := decide_eq_true c8
            clear c8
            simp only [Option.some.injEq, Prod.mk.injEq] at H
            obtain ⟨rfl, rfl⟩ := H
            have p6 : 0 ≤ ((ji4) : Int) := of_decide_eq_true (by first | (with_reducible assumption) | assumption)
            have q6 : (ji4) < (a0.size : Int) := of_decide_eq_true (by first | (with_reducible assumption) | assumption)
            have hx6 := bt_at a0 (ji4)
            replace p6 := eq_true p6
            replace q6 := eq_true q6
            go_wp2_with (first | ((with_reducible refine gate_callee (f := 18) rfl ?_); refine goesL_ (some 20) rfl rfl Tryd.func18 (by kernel_rfl) rfl #[.int .u8 (bt a0 (ji4))] rfl (by (try simp only [List.map_toArray, List.map_cons, List.map_nil]); first | done | (simp only [hji4]; rfl) | rfl | (simp only [List.length_drop, List.length_take]; rfl)) ?_; (with_reducible refine (gossamerref01_class.calls k1 (bt a0 (ji4)) t219 _ A7.out).mono ?_); rintro e w' ⟨rfl, ⟨nd, rfl⟩⟩; refine ⟨_, rfl, ?_⟩))
            go_ret2
            exact ⟨by first | rfl | (simp; done) | (simp only [← hji4] <;> (first | rfl | simp)) | (simp [*]; done), by repeat (first | exact Drawn0.refl _ | apply Drawn0.step)⟩
          · rw [if_neg c8] at H
            have c8b0 : decide (t219 < 1) = false := decide_eq_false c8
            clear c8
            by_cases c9 : t219 > 3
            · rw [if_pos c9] at H
              have c9b0 : decide (3 < t219) = true := decide_eq_true c9
              clear c9
              simp only [Option.some.injEq, Prod.mk.injEq] at H
              obtain ⟨rfl, rfl⟩ := H
              have p6 : 0 ≤ ((ji4) : Int) := of_decide_eq_true (by first | (with_reducible assumption) | assumption)
              have q6 : (ji4) < (a0.size : Int) := of_decide_eq_true (by first | (with_reducible assumption) | assumption)
              have hx6 := bt_at a0 (ji4)
              replace p6 := eq_true p6
              replace q6 := eq_true q6
              go_wp2_with (first | ((with_reducible refine gate_callee (f := 18) rfl ?_); refine goesL_ (some 20) rfl rfl Tryd.func18 (by kernel_rfl) rfl #[.int .u8 (bt a0 (ji4))] rfl (by (try simp only [List.map_toArray, List.map_cons, List.map_nil]); first | done | (simp only [hji4]; rfl) | rfl | (simp only [List.length_drop, List.length_take]; rfl)) ?_; (with_reducible refine (gossamerref01_class.calls k1 (bt a0 (ji4)) t219 _ A7.out).mono ?_); rintro e w' ⟨rfl, ⟨nd, rfl⟩⟩; refine ⟨_, rfl, ?_⟩))
              go_ret2
              exact ⟨by first | rfl | (simp; done) | (simp only [← hji4] <;> (first | rfl | simp)) | (simp [*]; done), by repeat (first | exact Drawn0.refl _ | apply Drawn0.step)⟩
            · rw [if_neg c9] at H
              have c9b0 : decide (3 < t219) = false := decide_eq_false c9
              clear c9
              by_cases c10 : x7_1 = true
              · subst c10
                have H1 : (gossamerref01_run.l0 k1 a0 a1 (wrap64 (x6_1 + 1)) true) = some (r1, r2) := by rw [if_pos rfl] at H; exact H
                clear H
                have H := H1
                clear H1
                have H' := Aside0.mk H
                clear H
                have p6 : 0 ≤ ((ji4) : Int) := of_decide_eq_true (by first | (with_reducible assumption) | assumption)
                have q6 : (ji4) < (a0.size : Int) := of_decide_eq_true (by first | (with_reducible assumption) | assumption)
                have hx6 := bt_at a0 (ji4)
                replace p6 := eq_true p6
                replace q6 := eq_true q6
                go_wp2_with (first | ((with_reducible refine gate_callee (f := 18) rfl ?_); refine goesL_ (some 20) rfl rfl Tryd.func18 (by kernel_rfl) rfl #[.int .u8 (bt a0 (ji4))] rfl (by (try simp only [List.map_toArray, List.map_cons, List.map_nil]); first | done | (simp only [hji4]; rfl) | rfl | (simp only [List.length_drop, List.length_take]; rfl)) ?_; (with_reducible refine (gossamerref01_class.calls k1 (bt a0 (ji4)) t219 _ A7.out).mono ?_); rintro e w' ⟨rfl, ⟨nd, rfl⟩⟩; refine ⟨_, rfl, ?_⟩))
                go_roundg k1
                case measure => have := HK1.out; omega
                case rel => exact ⟨(wrap64 (x6_1 + 1)), (true), (by first | rfl | (simp; done) | (simp [*]; done)), (by first | rfl | (simp; done) | (simp [*]; done)), H', ⟨by have := HK1.out; omega⟩, by repeat (first | exact Drawn0.refl _ | apply Drawn0.step)⟩
              · replace c10 := Bool.eq_false_iff.mpr c10
                subst c10
                have H1 : (gossamerref01_run.l0 k1 a0 a1 (wrap64 (x6_1 + 1)) (decide (t219 < 3))) = some (r1, r2) := by rw [if_neg (show ¬ (false = true) by decide)] at H; exact H
                clear H
                have H := H1
                clear H1
                have H' := Aside0.mk H
                clear H
                have p6 : 0 ≤ ((ji4) : Int) := of_decide_eq_true (by first | (with_reducible assumption) | assumption)
                have q6 : (ji4) < (a0.size : Int) := of_decide_eq_true (by first | (with_reducible assumption) | assumption)
                have hx6 := bt_at a0 (ji4)
                replace p6 := eq_true p6
                replace q6 := eq_true q6
                go_wp2_with (first | ((with_reducible refine gate_callee (f := 18) rfl ?_); refine goesL_ (some 20) rfl rfl Tryd.func18 (by kernel_rfl) rfl #[.int .u8 (bt a0 (ji4))] rfl (by (try simp only [List.map_toArray, List.map_cons, List.map_nil]); first | done | (simp only [hji4]; rfl) | rfl | (simp only [List.length_drop, List.length_take]; rfl)) ?_; (with_reducible refine (gossamerref01_class.calls k1 (bt a0 (ji4)) t219 _ A7.out).mono ?_); rintro e w' ⟨rfl, ⟨nd, rfl⟩⟩; refine ⟨_, rfl, ?_⟩))
                go_roundg k1
                case measure => have := HK1.out; omega
                case rel => exact ⟨(wrap64 (x6_1 + 1)), (decide (t219 < 3)), (by first | rfl | (simp; done) | (simp [*]; done)), (by first | rfl | (simp; done) | (simp [*]; done)), H', ⟨by have := HK1.out; omega⟩, by repeat (first | exact Drawn0.refl _ | apply Drawn0.step)⟩
        · rw [if_neg c5] at H
          exact absurd H (by simp)
      · rw [if_neg c3] at H
        have c3b0 : decide ((wrap64 (a1 + x6_1)) < (a0.size : Int)) = false := decide_eq_false c3
        clear c3
        simp only [Option.some.injEq, Prod.mk.injEq] at H
        obtain ⟨rfl, rfl⟩ := H
        go_wp2
        go_ret2
        exact ⟨by first | rfl | (simp; done) | (simp [*]; done), by repeat (first | exact Drawn0.refl _ | apply Drawn0.step)⟩

end Go.Proofs.YtajcnjdinmgpjaaDoor.P
namespace Go.Proofs.YtajcnjdinmgpjaaDoor.P
open Go.RowKit Go.Proofs.YtajcnjdinmgpjaaDoorW.PrintWords Go.Proofs.YtajcnjdinmgpjaaDoorW.PrintLast Go.Proofs.YtajcnjdinmgpjaaDoorW.PrintMore
attribute [local go_sem] max2_int min2_int max_two min_two max_three min_three max_four min_four   -- for this text's walks alone
set_option linter.unusedVariables false
set_option linter.unusedSimpArgs false

/-! ### gossamerref01_sign: function 34 -/
mutual
def gossamerref01_sign.j0 : Nat → ByteArray → Int → Bool → Option (Int)
  | 0, _, _, _ => none
  | k + 1, x0, x1, x26 => if x26 = true then (some 2) else (gossamerref01_sign.l0 k x0 x1 0)
def gossamerref01_sign.l0 : Nat → ByteArray → Int → Int → Option (Int)
  | 0, _, _, _ => none
  | k + 1, x0, x1, x5 => if x5 < 13 then (if 0 ≤ x5 then (if 0 ≤ x1 then (if x1 < (x0.size : Int) then (if (bt (⟨#[92, 46, 40, 41, 61, 123, 125, 124, 43, 45, 42, 47, 60]⟩ : ByteArray) x5) = (bt x0 x1) then (some 1) else (gossamerref01_sign.l0 k x0 x1 (wrap64 (x5 + 1)))) else (none)) else (none)) else (none)) else (some 0)
end
def gossamerref01_sign.f (k : Nat) (a0 : ByteArray) (a1 : Int) : Option (Int) := if (wrap64 (a1 + 1)) < (a0.size : Int) then (if 0 ≤ a1 then (if a1 ≤ (wrap64 (a1 + 2)) then (if (wrap64 (a1 + 2)) ≤ (a0.size : Int) then (if (a0.extract (a1 : Int).toNat ((wrap64 (a1 + 2)) : Int).toNat).toList = ([45, 62] : List UInt8) then (gossamerref01_sign.j0 k a0 a1 true) else (gossamerref01_sign.j0 k a0 a1 ((a0.extract (a1 : Int).toNat ((wrap64 (a1 + 2)) : Int).toNat).toList == ([61, 61] : List UInt8)))) else (none)) else (none)) else (none)) else (gossamerref01_sign.j0 k a0 a1 false)
theorem gossamerref01_sign.mono_l : ∀ k, (∀ y0 y1 y2, LeO (gossamerref01_sign.j0 k y0 y1 y2) (gossamerref01_sign.j0 (k + 1) y0 y1 y2)) ∧ (∀ y0 y1 y2, LeO (gossamerref01_sign.l0 k y0 y1 y2) (gossamerref01_sign.l0 (k + 1) y0 y1 y2))
  | 0 => ⟨fun _ _ _ r h => by simp [gossamerref01_sign.j0] at h, fun _ _ _ r h => by simp [gossamerref01_sign.l0] at h⟩
  | k + 1 => by
    obtain ⟨ih0, ih1⟩ := gossamerref01_sign.mono_l k
    refine ⟨?_, ?_⟩
    · intro y0 y1 y2
      unfold gossamerref01_sign.j0
      repeat' first
      | (with_reducible exact ih0 _ _ _)
      | (with_reducible exact ih1 _ _ _)
      | (with_reducible exact LeO.refl _)
      | (with_reducible exact LeO.none _)
      | (with_reducible refine LeO.ite ?_ ?_)
      | (with_reducible refine LeO.bind ?_ (fun _ => ?_))
      | exact ih0 _ _ _
      | exact ih1 _ _ _
      | exact LeO.none _
      | refine LeO.ite ?_ ?_
      | refine LeO.bind ?_ (fun _ => ?_)
    · intro y0 y1 y2
      unfold gossamerref01_sign.l0
      repeat' first
      | (with_reducible exact ih0 _ _ _)
      | (with_reducible exact ih1 _ _ _)
      | (with_reducible exact LeO.refl _)
      | (with_reducible exact LeO.none _)
      | (with_reducible refine LeO.ite ?_ ?_)
      | (with_reducible refine LeO.bind ?_ (fun _ => ?_))
      | exact ih0 _ _ _
      | exact ih1 _ _ _
      | exact LeO.none _
      | refine LeO.ite ?_ ?_
      | refine LeO.bind ?_ (fun _ => ?_)
theorem gossamerref01_sign.mono : ∀ a0 a1 k, LeO (gossamerref01_sign.f k a0 a1) (gossamerref01_sign.f (k + 1) a0 a1) := by
  intro a0 a1 k
  obtain ⟨ih0, ih1⟩ := gossamerref01_sign.mono_l k
  unfold gossamerref01_sign.f
  repeat' first
      | (with_reducible exact ih0 _ _ _)
      | (with_reducible exact ih1 _ _ _)
      | (with_reducible exact LeO.refl _)
      | (with_reducible exact LeO.none _)
      | (with_reducible refine LeO.ite ?_ ?_)
      | (with_reducible refine LeO.bind ?_ (fun _ => ?_))
      | exact ih0 _ _ _
      | exact ih1 _ _ _
      | exact LeO.none _
      | refine LeO.ite ?_ ?_
      | refine LeO.bind ?_ (fun _ => ?_)
set_option maxHeartbeats 8000000 in
set_option maxRecDepth 100000 in
theorem gossamerref01_sign.calls (k : Nat) (a0 : ByteArray) (a1 : Int) (r : Int) (w : World) (h : gossamerref01_sign.f k a0 a1 = some r) :
    Calls Tryd.prog 34 #[.string a0, .int .i64 a1] w fun e w' => e = .returned (.int .i64 r) ∧ Drawn0 w w' := by
  have H : (if (wrap64 (a1 + 1)) < (a0.size : Int) then (if 0 ≤ a1 then (if a1 ≤ (wrap64 (a1 + 2)) then (if (wrap64 (a1 + 2)) ≤ (a0.size : Int) then (if (a0.extract (a1 : Int).toNat ((wrap64 (a1 + 2)) : Int).toNat).toList = ([45, 62] : List UInt8) then (gossamerref01_sign.j0 k a0 a1 true) else (gossamerref01_sign.j0 k a0 a1 ((a0.extract (a1 : Int).toNat ((wrap64 (a1 + 2)) : Int).toNat).toList == ([61, 61] : List UInt8)))) else (none)) else (none)) else (none)) else (gossamerref01_sign.j0 k a0 a1 false)) = some r := h
  clear h
  have HC3 := Aside0.mk H
  clear H
  go_enter Tryd.func34, Tryd.ntmps34
  go_upto_region 1 with (fail)
  repeat (go_quiet (fail); go_upto_region 1 with (fail))
  go_cut [26] (fun v26 wc => ∃ (kq : Nat) (x26_2 : Bool), v26 = .bool x26_2 ∧ Aside0 (gossamerref01_sign.j0 kq a0 a1 x26_2 = some r) ∧ Aside0 (kq ≤ k) ∧ Drawn0 w wc)
  case first =>
    have H := HC3.out
    clear HC3
    by_cases c4 : (wrap64 (a1 + 1)) < (a0.size : Int)
    · rw [if_pos c4] at H
      have c4b0 : decide ((wrap64 (a1 + 1)) < (a0.size : Int)) = true := decide_eq_true c4
      clear c4
      (first | rw [c4b0] | (simp only [i64_w, i32_w]; rw [c4b0]) | skip)
      by_cases c5 : 0 ≤ a1
      · rw [if_pos c5] at H
        have c5b0 := eq_true c5
        have c5b1 : decide (0 ≤ a1) = true := decide_eq_true c5
        clear c5
        by_cases c6 : a1 ≤ (wrap64 (a1 + 2))
        · rw [if_pos c6] at H
          have c6b0 := eq_true c6
          have c6b1 : decide (a1 ≤ (wrap64 (a1 + 2))) = true := decide_eq_true c6
          by_cases c7 : (wrap64 (a1 + 2)) ≤ (a0.size : Int)
          · rw [if_pos c7] at H
            have c7b0 := eq_true c7
            have c7b1 : decide ((wrap64 (a1 + 2)) ≤ (a0.size : Int)) = true := decide_eq_true c7
            by_cases c8 : (a0.extract (a1 : Int).toNat ((wrap64 (a1 + 2)) : Int).toNat).toList = ([45, 62] : List UInt8)
            · rw [if_pos c8] at H
              have c8b0 : ((a0.extract (a1 : Int).toNat ((wrap64 (a1 + 2)) : Int).toNat).toList == ([45, 62] : List UInt8)) = true := beq_iff_eq.mpr c8
              have c8b1 : ((a0.extract (a1 : Int).toNat ((wrap64 (a1 + 2)) : Int).toNat).toList != ([45, 62] : List UInt8)) = false := bne_eq_false_iff_eq.mpr c8
              clear c8
              have H' := Aside0.mk H
              clear H
              go_wp2
              repeat (go_quiet (fail); try go_wp2)
              go_meet
              case rel => exact ⟨_, (true), (by first | rfl | (simp; done) | (simp [*]; done)), H', ⟨by first | omega | exact Nat.le_refl _⟩, by repeat (first | exact Drawn0.refl _ | apply Drawn0.step)⟩
            · rw [if_neg c8] at H
              have c8b0 : ((a0.extract (a1 : Int).toNat ((wrap64 (a1 + 2)) : Int).toNat).toList == ([45, 62] : List UInt8)) = false := beq_eq_false_iff_ne.mpr c8
              have c8b1 : ((a0.extract (a1 : Int).toNat ((wrap64 (a1 + 2)) : Int).toNat).toList != ([45, 62] : List UInt8)) = true := bne_iff_ne.mpr c8
              have c9b0 := eq_true (of_decide_eq_true (by first | (with_reducible assumption) | assumption) : 0 ≤ a1)
              have c10b0 := eq_true (of_decide_eq_true (by first | (with_reducible assumption) | assumption) : a1 ≤ (wrap64 (a1 + 2)))
              have c11b0 := eq_true (of_decide_eq_true (by first | (with_reducible assumption) | assumption) : (wrap64 (a1 + 2)) ≤ (a0.size : Int))
              have H' := Aside0.mk H
              clear H
              go_wp2
              repeat (go_quiet (fail); try go_wp2)
              go_meet
              case rel => exact ⟨_, (((a0.extract (a1 : Int).toNat ((wrap64 (a1 + 2)) : Int).toNat).toList == ([61, 61] : List UInt8))), (by first | rfl | (simp; done) | (simp [*]; done)), H', ⟨by first | omega | exact Nat.le_refl _⟩, by repeat (first | exact Drawn0.refl _ | apply Drawn0.step)⟩
          · rw [if_neg c7] at H
            exact absurd H (by simp)
        · rw [if_neg c6] at H
          exact absurd H (by simp)
      · rw [if_neg c5] at H
        exact absurd H (by simp)
    · rw [if_neg c4] at H
      have c4b0 : decide ((wrap64 (a1 + 1)) < (a0.size : Int)) = false := decide_eq_false c4
      clear c4
      (first | rw [c4b0] | (simp only [i64_w, i32_w]; rw [c4b0]) | skip)
      have H' := Aside0.mk H
      clear H
      go_wp2
      repeat (go_quiet (fail); try go_wp2)
      go_meet
      case rel => exact ⟨_, (false), (by first | rfl | (simp; done) | (simp [*]; done)), H', ⟨by first | omega | exact Nat.le_refl _⟩, by repeat (first | exact Drawn0.refl _ | apply Drawn0.step)⟩
  case rest =>
    clear HC3
    try clear c1
    try clear p2
    try clear c3
    try clear c4
    try clear c4b0
    try clear c5
    try clear c5b0
    try clear c5b1
    try clear c6
    try clear c6b0
    try clear c6b1
    try clear p6
    try clear c7
    try clear c7b0
    try clear c7b1
    try clear c8
    try clear c8b0
    try clear c8b1
    try clear c9
    try clear c9b0
    try clear c10
    try clear c10b0
    try clear c11
    try clear c11b0
    obtain ⟨kq, x26_2, rfl, HA, HJ2, ⟨mc2, rfl⟩⟩ := hcut
    cases kq with
    | zero => exact absurd HA.out (by simp [gossamerref01_sign.j0])
    | succ kj2 =>
      have H := HA.out
      clear HA
      simp only [gossamerref01_sign.j0] at H
      by_cases c12 : x26_2 = true
      · subst c12
        have H1 : (some 2) = some r := by rw [if_pos rfl] at H; exact H
        clear H
        have H := H1
        clear H1
        obtain rfl := Option.some.inj H
        go_wp2
        repeat (go_quiet (fail); try go_wp2)
        go_ret
        exact ⟨by first | rfl | (simp; done) | (simp [*]; done), by repeat (first | exact Drawn0.refl _ | apply Drawn0.step)⟩
      · replace c12 := Bool.eq_false_iff.mpr c12
        subst c12
        have H1 : (gossamerref01_sign.l0 kj2 a0 a1 0) = some r := by rw [if_neg (show ¬ (false = true) by decide)] at H; exact H
        clear H
        have H := H1
        clear H1
        have H' := Aside0.mk H
        clear H
        go_wp2
        repeat (go_quiet (fail); try go_wp2)
        go_loopg [5] kj2 (fun kq v5 w' => ∃ (x5_2 : Int), v5 = .int .i64 x5_2 ∧ Aside0 (gossamerref01_sign.l0 kq a0 a1 x5_2 = some r) ∧ Aside0 (kq ≤ kj2) ∧ Drawn0 w w')
        case atStart => exact ⟨(0), (by first | rfl | (simp; done) | (simp [*]; done)), H', ⟨Nat.le_refl _⟩, by repeat (first | exact Drawn0.refl _ | apply Drawn0.step)⟩
        case round =>
          clear H'
          try clear c1
          try clear c2
          try clear p2
          try clear c3
          try clear c4
          try clear c4b0
          try clear c5
          try clear c5b0
          try clear c5b1
          try clear c6
          try clear c6b0
          try clear c6b1
          try clear p6
          try clear c7
          try clear c7b0
          try clear c7b1
          try clear c8
          try clear c8b0
          try clear c8b1
          try clear c9
          try clear c9b0
          try clear c10
          try clear c10b0
          try clear c11
          try clear c11b0
          try clear c12
          try clear p2
          try clear p6
          obtain ⟨x5_2, rfl, HA, HK2, ⟨m2, rfl⟩⟩ := hrel
          cases gk with
          | zero => exact absurd HA.out (by simp [gossamerref01_sign.l0])
          | succ k2 =>
            have H := HA.out
            clear HA
            simp only [gossamerref01_sign.l0] at H
            by_cases c13 : x5_2 < 13
            · rw [if_pos c13] at H
              have c13b0 : decide (x5_2 < 13) = true := decide_eq_true c13
              clear c13
              by_cases c14 : 0 ≤ x5_2
              · rw [if_pos c14] at H
                have c14b0 : decide (0 ≤ x5_2) = true := decide_eq_true c14
                clear c14
                by_cases c16 : 0 ≤ a1
                · rw [if_pos c16] at H
                  have c16b0 : decide (0 ≤ a1) = true := decide_eq_true c16
                  clear c16
                  by_cases c17 : a1 < (a0.size : Int)
                  · rw [if_pos c17] at H
                    have c17b0 : decide (a1 < (a0.size : Int)) = true := decide_eq_true c17
                    clear c17
                    by_cases c19 : (bt (⟨#[92, 46, 40, 41, 61, 123, 125, 124, 43, 45, 42, 47, 60]⟩ : ByteArray) x5_2) = (bt a0 a1)
                    · rw [if_pos c19] at H
                      have c19b0 : ((bt (⟨#[92, 46, 40, 41, 61, 123, 125, 124, 43, 45, 42, 47, 60]⟩ : ByteArray) x5_2) == (bt a0 a1)) = true := beq_iff_eq.mpr c19
                      have c19b1 : ((bt (⟨#[92, 46, 40, 41, 61, 123, 125, 124, 43, 45, 42, 47, 60]⟩ : ByteArray) x5_2) != (bt a0 a1)) = false := bne_eq_false_iff_eq.mpr c19
                      clear c19
                      obtain rfl := Option.some.inj H
                      have p15 : 0 ≤ (x5_2 : Int) := of_decide_eq_true (by first | (with_reducible assumption) | assumption)
                      have q15 : x5_2 < (13 : Int) := of_decide_eq_true (by first | (with_reducible assumption) | assumption)
                      have hx15 := bt_at (⟨#[92, 46, 40, 41, 61, 123, 125, 124, 43, 45, 42, 47, 60]⟩ : ByteArray) x5_2
                      replace p15 := eq_true p15
                      replace q15 := eq_true q15
                      have p18 : 0 ≤ (a1 : Int) := of_decide_eq_true (by first | (with_reducible assumption) | assumption)
                      have q18 : a1 < (a0.size : Int) := of_decide_eq_true (by first | (with_reducible assumption) | assumption)
                      have hx18 := bt_at a0 a1
                      replace p18 := eq_true p18
                      replace q18 := eq_true q18
                      go_wp2
                      repeat (go_quiet (fail); try go_wp2)
                      go_ret
                      exact ⟨by first | rfl | (simp; done) | (simp [*]; done), by repeat (first | exact Drawn0.refl _ | apply Drawn0.step)⟩
                    · rw [if_neg c19] at H
                      have c19b0 : ((bt (⟨#[92, 46, 40, 41, 61, 123, 125, 124, 43, 45, 42, 47, 60]⟩ : ByteArray) x5_2) == (bt a0 a1)) = false := beq_eq_false_iff_ne.mpr c19
                      have c19b1 : ((bt (⟨#[92, 46, 40, 41, 61, 123, 125, 124, 43, 45, 42, 47, 60]⟩ : ByteArray) x5_2) != (bt a0 a1)) = true := bne_iff_ne.mpr c19
                      have H' := Aside0.mk H
                      clear H
                      have p15 : 0 ≤ (x5_2 : Int) := of_decide_eq_true (by first | (with_reducible assumption) | assumption)
                      have q15 : x5_2 < (13 : Int) := of_decide_eq_true (by first | (with_reducible assumption) | assumption)
                      have hx15 := bt_at (⟨#[92, 46, 40, 41, 61, 123, 125, 124, 43, 45, 42, 47, 60]⟩ : ByteArray) x5_2
                      replace p15 := eq_true p15
                      replace q15 := eq_true q15
                      have p18 : 0 ≤ (a1 : Int) := of_decide_eq_true (by first | (with_reducible assumption) | assumption)
                      have q18 : a1 < (a0.size : Int) := of_decide_eq_true (by first | (with_reducible assumption) | assumption)
                      have hx18 := bt_at a0 a1
                      replace p18 := eq_true p18
                      replace q18 := eq_true q18
                      go_wp2
                      repeat (go_quiet (fail); try go_wp2)
                      go_roundg k2
                      case measure => have := HJ2.out; have := HK2.out; omega
                      case rel => exact ⟨(wrap64 (x5_2 + 1)), (by first | rfl | (simp; done) | (simp [*]; done)), H', ⟨by have := HJ2.out; have := HK2.out; omega⟩, by repeat (first | exact Drawn0.refl _ | apply Drawn0.step)⟩
                  · rw [if_neg c17] at H
                    exact absurd H (by simp)
                · rw [if_neg c16] at H
                  exact absurd H (by simp)
              · rw [if_neg c14] at H
                exact absurd H (by simp)
            · rw [if_neg c13] at H
              have c13b0 : decide (x5_2 < 13) = false := decide_eq_false c13
              clear c13
              obtain rfl := Option.some.inj H
              go_wp2
              repeat (go_quiet (fail); try go_wp2)
              go_ret
              exact ⟨by first | rfl | (simp; done) | (simp [*]; done), by repeat (first | exact Drawn0.refl _ | apply Drawn0.step)⟩

end Go.Proofs.YtajcnjdinmgpjaaDoor.P
namespace Go.Proofs.YtajcnjdinmgpjaaDoor.P
open Go.RowKit Go.Proofs.YtajcnjdinmgpjaaDoorW.PrintWords Go.Proofs.YtajcnjdinmgpjaaDoorW.PrintLast Go.Proofs.YtajcnjdinmgpjaaDoorW.PrintMore
attribute [local go_sem] max2_int min2_int max_two min_two max_three min_three max_four min_four   -- for this text's walks alone
set_option linter.unusedVariables false
set_option linter.unusedSimpArgs false

/-! ### gossamerref01_number: function 35 -/
def gossamerref01_number.l0 : Nat → ByteArray → Int → Int → Option (Int)
  | 0, _, _, _ => none
  | k + 1, x0, x3, x4 => if x4 < (x0.size : Int) then (if 0 ≤ x4 then (gossamerref01_number.l0 k x0 (wrap64 ((wrap64 ((wrap64 (10 * x3)) + (wrap64 (bt x0 x4)))) - 48)) (wrap64 (x4 + 1))) else (none)) else (some x3)
def gossamerref01_number.f (k : Nat) (a0 : ByteArray) : Option (Int) := gossamerref01_number.l0 k a0 0 0
theorem gossamerref01_number.mono_l : ∀ k, (∀ y0 y1 y2, LeO (gossamerref01_number.l0 k y0 y1 y2) (gossamerref01_number.l0 (k + 1) y0 y1 y2))
  | 0 => fun _ _ _ r h => by simp [gossamerref01_number.l0] at h
  | k + 1 => by
    have ih0 := gossamerref01_number.mono_l k
    · intro y0 y1 y2
      unfold gossamerref01_number.l0
      repeat' first
      | (with_reducible exact ih0 _ _ _)
      | (with_reducible exact LeO.refl _)
      | (with_reducible exact LeO.none _)
      | (with_reducible refine LeO.ite ?_ ?_)
      | (with_reducible refine LeO.bind ?_ (fun _ => ?_))
      | exact ih0 _ _ _
      | exact LeO.none _
      | refine LeO.ite ?_ ?_
      | refine LeO.bind ?_ (fun _ => ?_)
theorem gossamerref01_number.mono : ∀ a0 k, LeO (gossamerref01_number.f k a0) (gossamerref01_number.f (k + 1) a0) := by
  intro a0 k
  have ih0 := gossamerref01_number.mono_l k
  unfold gossamerref01_number.f
  repeat' first
      | (with_reducible exact ih0 _ _ _)
      | (with_reducible exact LeO.refl _)
      | (with_reducible exact LeO.none _)
      | (with_reducible refine LeO.ite ?_ ?_)
      | (with_reducible refine LeO.bind ?_ (fun _ => ?_))
      | exact ih0 _ _ _
      | exact LeO.none _
      | refine LeO.ite ?_ ?_
      | refine LeO.bind ?_ (fun _ => ?_)
set_option maxHeartbeats 8000000 in
set_option maxRecDepth 100000 in
theorem gossamerref01_number.calls (k : Nat) (a0 : ByteArray) (r : Int) (w : World) (h : gossamerref01_number.f k a0 = some r) :
    Calls Tryd.prog 35 #[.string a0] w fun e w' => e = .returned (.int .i64 r) ∧ Drawn0 w w' := by
  have H : (gossamerref01_number.l0 k a0 0 0) = some r := h
  clear h
  have H' := Aside0.mk H
  clear H
  go_enter Tryd.func35, Tryd.ntmps35
  go_wp2
  go_loopg [3, 4] k (fun kq v3 v4 w' => ∃ (x3_1 : Int) (x4_1 : Int), v3 = .int .i64 x3_1 ∧ v4 = .int .i64 x4_1 ∧ Aside0 (gossamerref01_number.l0 kq a0 x3_1 x4_1 = some r) ∧ Aside0 (kq ≤ k) ∧ Drawn0 w w')
  case atStart => exact ⟨(0), (0), (by first | rfl | (simp; done) | (simp [*]; done)), (by first | rfl | (simp; done) | (simp [*]; done)), H', ⟨Nat.le_refl _⟩, by repeat (first | exact Drawn0.refl _ | apply Drawn0.step)⟩
  case round =>
    clear H'
    obtain ⟨x3_1, x4_1, rfl, rfl, HA, HK1, ⟨m1, rfl⟩⟩ := hrel
    cases gk with
    | zero => exact absurd HA.out (by simp [gossamerref01_number.l0])
    | succ k1 =>
      have H := HA.out
      clear HA
      simp only [gossamerref01_number.l0] at H
      by_cases c2 : x4_1 < (a0.size : Int)
      · rw [if_pos c2] at H
        have c2b0 : decide (x4_1 < (a0.size : Int)) = true := decide_eq_true c2
        clear c2
        by_cases c3 : 0 ≤ x4_1
        · rw [if_pos c3] at H
          have c3b0 : decide (0 ≤ x4_1) = true := decide_eq_true c3
          clear c3
          have H' := Aside0.mk H
          clear H
          have p4 : 0 ≤ (x4_1 : Int) := of_decide_eq_true (by first | (with_reducible assumption) | assumption)
          have q4 : x4_1 < (a0.size : Int) := of_decide_eq_true (by first | (with_reducible assumption) | assumption)
          have hx4 := bt_at a0 x4_1
          replace p4 := eq_true p4
          replace q4 := eq_true q4
          go_wp2
          go_roundg k1
          case measure => have := HK1.out; omega
          case rel => exact ⟨(wrap64 ((wrap64 ((wrap64 (10 * x3_1)) + (wrap64 (bt a0 x4_1)))) - 48)), (wrap64 (x4_1 + 1)), (by first | rfl | (simp; done) | (simp [*]; done)), (by first | rfl | (simp; done) | (simp [*]; done)), H', ⟨by have := HK1.out; omega⟩, by repeat (first | exact Drawn0.refl _ | apply Drawn0.step)⟩
        · rw [if_neg c3] at H
          exact absurd H (by simp)
      · rw [if_neg c2] at H
        have c2b0 : decide (x4_1 < (a0.size : Int)) = false := decide_eq_false c2
        clear c2
        obtain rfl := Option.some.inj H
        go_wp2
        go_ret
        exact ⟨by first | rfl | (simp; done) | (simp [*]; done), by repeat (first | exact Drawn0.refl _ | apply Drawn0.step)⟩

end Go.Proofs.YtajcnjdinmgpjaaDoor.P
namespace Go.Proofs.YtajcnjdinmgpjaaDoor.P
open Go.RowKit Go.Proofs.YtajcnjdinmgpjaaDoorW.PrintWords Go.Proofs.YtajcnjdinmgpjaaDoorW.PrintLast Go.Proofs.YtajcnjdinmgpjaaDoorW.PrintMore
attribute [local go_sem] max2_int min2_int max_two min_two max_three min_three max_four min_four   -- for this text's walks alone
set_option linter.unusedVariables false
set_option linter.unusedSimpArgs false

/-! ### gossamerref01_Word: function 36 -/
def gossamerref01_Word.f (a0 : ByteArray) : Option (Bool) := if a0.toList = ([108, 101, 116] : List UInt8) then (some true) else (if a0.toList = ([108, 101, 116, 114, 101, 99] : List UInt8) then (some true) else (if a0.toList = ([105, 110] : List UInt8) then (some true) else (if a0.toList = ([99, 97, 115, 101] : List UInt8) then (some true) else (some (a0.toList == ([111, 102] : List UInt8))))))
set_option maxHeartbeats 8000000 in
set_option maxRecDepth 100000 in
theorem gossamerref01_Word.calls (a0 : ByteArray) (r : Bool) (w : World) (h : gossamerref01_Word.f a0 = some r) :
    Calls Tryd.prog 36 #[.string a0] w fun e w' => e = .returned (.bool r) ∧ Drawn0 w w' := by
  have H : (if a0.toList = ([108, 101, 116] : List UInt8) then (some true) else (if a0.toList = ([108, 101, 116, 114, 101, 99] : List UInt8) then (some true) else (if a0.toList = ([105, 110] : List UInt8) then (some true) else (if a0.toList = ([99, 97, 115, 101] : List UInt8) then (some true) else (some (a0.toList == ([111, 102] : List UInt8))))))) = some r := h
  clear h
  by_cases c2 : a0.toList = ([108, 101, 116] : List UInt8)
  · rw [if_pos c2] at H
    have c2b0 : (a0.toList == ([108, 101, 116] : List UInt8)) = true := beq_iff_eq.mpr c2
    have c2b1 : (a0.toList != ([108, 101, 116] : List UInt8)) = false := bne_eq_false_iff_eq.mpr c2
    clear c2
    obtain rfl := Option.some.inj H
    go_enter Tryd.func36, Tryd.ntmps36
    go_wp2
    go_ret
    exact ⟨by first | rfl | (simp; done) | (simp [*]; done), by repeat (first | exact Drawn0.refl _ | apply Drawn0.step)⟩
  · rw [if_neg c2] at H
    have c2b0 : (a0.toList == ([108, 101, 116] : List UInt8)) = false := beq_eq_false_iff_ne.mpr c2
    have c2b1 : (a0.toList != ([108, 101, 116] : List UInt8)) = true := bne_iff_ne.mpr c2
    by_cases c3 : a0.toList = ([108, 101, 116, 114, 101, 99] : List UInt8)
    · rw [if_pos c3] at H
      have c3b0 : (a0.toList == ([108, 101, 116, 114, 101, 99] : List UInt8)) = true := beq_iff_eq.mpr c3
      have c3b1 : (a0.toList != ([108, 101, 116, 114, 101, 99] : List UInt8)) = false := bne_eq_false_iff_eq.mpr c3
      clear c3
      obtain rfl := Option.some.inj H
      go_enter Tryd.func36, Tryd.ntmps36
      go_wp2
      go_ret
      exact ⟨by first | rfl | (simp; done) | (simp [*]; done), by repeat (first | exact Drawn0.refl _ | apply Drawn0.step)⟩
    · rw [if_neg c3] at H
      have c3b0 : (a0.toList == ([108, 101, 116, 114, 101, 99] : List UInt8)) = false := beq_eq_false_iff_ne.mpr c3
      have c3b1 : (a0.toList != ([108, 101, 116, 114, 101, 99] : List UInt8)) = true := bne_iff_ne.mpr c3
      by_cases c4 : a0.toList = ([105, 110] : List UInt8)
      · rw [if_pos c4] at H
        have c4b0 : (a0.toList == ([105, 110] : List UInt8)) = true := beq_iff_eq.mpr c4
        have c4b1 : (a0.toList != ([105, 110] : List UInt8)) = false := bne_eq_false_iff_eq.mpr c4
        clear c4
        obtain rfl := Option.some.inj H
        go_enter Tryd.func36, Tryd.ntmps36
        go_wp2
        go_ret
        exact ⟨by first | rfl | (simp; done) | (simp [*]; done), by repeat (first | exact Drawn0.refl _ | apply Drawn0.step)⟩
      · rw [if_neg c4] at H
        have c4b0 : (a0.toList == ([105, 110] : List UInt8)) = false := beq_eq_false_iff_ne.mpr c4
        have c4b1 : (a0.toList != ([105, 110] : List UInt8)) = true := bne_iff_ne.mpr c4
        by_cases c5 : a0.toList = ([99, 97, 115, 101] : List UInt8)
        · rw [if_pos c5] at H
          have c5b0 : (a0.toList == ([99, 97, 115, 101] : List UInt8)) = true := beq_iff_eq.mpr c5
          have c5b1 : (a0.toList != ([99, 97, 115, 101] : List UInt8)) = false := bne_eq_false_iff_eq.mpr c5
          clear c5
          obtain rfl := Option.some.inj H
          go_enter Tryd.func36, Tryd.ntmps36
          go_wp2
          go_ret
          exact ⟨by first | rfl | (simp; done) | (simp [*]; done), by repeat (first | exact Drawn0.refl _ | apply Drawn0.step)⟩
        · rw [if_neg c5] at H
          have c5b0 : (a0.toList == ([99, 97, 115, 101] : List UInt8)) = false := beq_eq_false_iff_ne.mpr c5
          have c5b1 : (a0.toList != ([99, 97, 115, 101] : List UInt8)) = true := bne_iff_ne.mpr c5
          obtain rfl := Option.some.inj H
          go_enter Tryd.func36, Tryd.ntmps36
          go_wp2
          go_ret
          exact ⟨by first | rfl | (simp; done) | (simp [*]; done), by repeat (first | exact Drawn0.refl _ | apply Drawn0.step)⟩

end Go.Proofs.YtajcnjdinmgpjaaDoor.P
/- The reference's words are the same. -/
namespace Go.Proofs.YtajcnjdinmgpjaaDoor.X
open Go.RowKit Go.Proofs.YtajcnjdinmgpjaaDoorW.PrintWords Go.Proofs.YtajcnjdinmgpjaaDoorW.PrintLast Go.Proofs.YtajcnjdinmgpjaaDoorW.PrintMore Go.Proofs.YtajcnjdinmgpjaaDoor.P
def isBlank (b : UInt8) : Bool := blanks.contains b
/-- a byte's class -/
def cls (c : Int) : Int := if lowI c then 1 else if upI c then 2 else if digI c then 3 else if c = 32 ∨ c = 10 ∨ c = 9 then 4 else 0
theorem class_f (c : Int) (k : Nat) (hk : 3 ≤ k) : gossamerref01_class.f k c = some (cls c) := by
  obtain ⟨k, rfl⟩ : ∃ j, k = j + 1 + 1 + 1 := ⟨k - 3, by omega⟩
  unfold gossamerref01_class.f gossamerref01_class.j0 gossamerref01_class.j1 gossamerref01_class.j2 cls lowI upI digI
  by_cases h1 : 97 ≤ c <;> by_cases h2 : c ≤ 122 <;> by_cases h3 : 65 ≤ c <;> by_cases h4 : c ≤ 90 <;> by_cases h5 : 48 ≤ c <;> by_cases h6 : c ≤ 57 <;> simp [h1, h2, h3, h4, h5, h6]
  all_goals first | omega | (by_cases h7 : c = 32 <;> by_cases h8 : c = 10 <;> by_cases h9 : c = 9 <;> simp [h7, h8, h9])
theorem wordI_cls (c : Int) : wordI c = true ↔ (1 ≤ cls c ∧ cls c ≤ 3) := by
  unfold wordI cls
  by_cases h1 : lowI c = true <;> by_cases h2 : upI c = true <;> by_cases h3 : digI c = true <;> simp [h1, h2, h3]
  split <;> omega
theorem bt_drop (s : ByteArray) (i : Nat) (h : i < s.size) : ∃ b, s.data.toList.drop i = b :: s.data.toList.drop (i + 1) ∧ bt s (i : Int) = (b.toNat : Int) := by
  refine ⟨s[i]'h, at_drop s i h, ?_⟩
  have := bt_at s (i : Int) (by simpa using h)
  rw [← this]
  rfl
theorem big_word {b : UInt8} (h : wB b = true) : big b = decide (cls (b.toNat : Int) < 3) := by
  unfold wB at h
  unfold big cls
  simp [wordI, lowI, upI, digI] at h ⊢
  by_cases h1 : 97 ≤ (b.toNat : Int) ∧ (b.toNat : Int) ≤ 122
  · rw [if_pos h1]; simp; omega
  · rw [if_neg h1]
    by_cases h2 : 65 ≤ (b.toNat : Int) ∧ (b.toNat : Int) ≤ 90
    · rw [if_pos h2]; simp; omega
    · rw [if_neg h2, if_pos (by omega)]; simp; omega
theorem run_l0 (s : ByteArray) (a : Nat) (hs : s.size ≤ 1000000000) : ∀ (m n k : Nat) (x : Bool), s.size - (a + n) = m → a + n ≤ s.size → m + 5 ≤ k →
    gossamerref01_run.l0 k s (a : Int) (n : Int) x = some (((n + wl (s.data.toList.drop (a + n)) : Nat) : Int), x || ((s.data.toList.drop (a + n)).takeWhile wB).any big)
  | 0, n, k, x, hm, hn, hk => by
    obtain ⟨k, rfl⟩ : ∃ j, k = j + 1 := ⟨k - 1, by omega⟩
    unfold gossamerref01_run.l0
    rw [wrap_small _ (by omega) (by omega), if_neg (by omega), List.drop_eq_nil_of_le (by have : s.data.toList.length = s.size := rfl; omega)]
    simp [wl]
  | m + 1, n, k, x, hm, hn, hk => by
    obtain ⟨k, rfl⟩ : ∃ j, k = j + 1 := ⟨k - 1, by omega⟩
    obtain ⟨b, hd, hb⟩ := bt_drop s (a + n) (by omega)
    unfold gossamerref01_run.l0
    rw [wrap_small _ (by omega) (by omega), if_pos (by omega), if_pos (by omega), show ((a : Int) + (n : Int)) = ((a + n : Nat) : Int) by omega, hb, class_f _ k (by omega)]
    show (if cls (b.toNat : Int) < 1 then _ else _) = _
    by_cases hw : wB b = true
    · have hc := (wordI_cls (b.toNat : Int)).1 hw
      have ih := fun x => run_l0 s a hs m (n + 1) k x (by omega) (by omega) (by omega)
      rw [if_neg (by omega), if_neg (by omega), wrap_small _ (by omega) (by omega), show ((n : Int) + 1) = ((n + 1 : Nat) : Int) by omega]
      have e : wl (s.data.toList.drop (a + n)) = 1 + wl (s.data.toList.drop (a + (n + 1))) := by
        rw [hd]
        unfold wl
        rw [List.takeWhile_cons, if_pos hw, List.length_cons]
        show _ = 1 + ((s.data.toList.drop (a + n + 1)).takeWhile wB).length
        omega
      have e2 : ((s.data.toList.drop (a + n)).takeWhile wB).any big = (big b || ((s.data.toList.drop (a + (n + 1))).takeWhile wB).any big) := by
        rw [hd, List.takeWhile_cons, if_pos hw, List.any_cons]
        rfl
      rw [e, e2, big_word hw]
      cases x with
      | true =>
        rw [if_pos rfl, ih true]
        simp
        omega
      | false =>
        rw [if_neg (by decide), ih]
        simp
        omega
    · have hc : ¬ (1 ≤ cls (b.toNat : Int) ∧ cls (b.toNat : Int) ≤ 3) := fun h => hw ((wordI_cls _).2 h)
      have e : wl (s.data.toList.drop (a + n)) = 0 := by rw [hd]; unfold wl; rw [List.takeWhile_cons, if_neg hw]; rfl
      have e2 : ((s.data.toList.drop (a + n)).takeWhile wB).any big = false := by rw [hd, List.takeWhile_cons, if_neg hw]; rfl
      rw [e, e2]
      by_cases h1 : cls (b.toNat : Int) < 1
      · rw [if_pos h1]; simp
      · rw [if_neg h1, if_pos (by omega)]; simp
theorem run_f (s : ByteArray) (a k : Nat) (hs : s.size ≤ 1000000000) (ha : a ≤ s.size) (hk : s.size + 5 ≤ k) : gossamerref01_run.f k s (a : Int) = some (((wl (s.data.toList.drop a) : Nat) : Int), ((s.data.toList.drop a).take (wl (s.data.toList.drop a))).any big) := by
  have h := run_l0 s a hs (s.size - a) 0 k false (by omega) (by omega) (by omega)
  have e : (s.data.toList.drop a).take (wl (s.data.toList.drop a)) = (s.data.toList.drop a).takeWhile wB := by
    unfold wl
    exact List.prefix_iff_eq_take.1 (List.takeWhile_prefix _) |>.symm
  rw [e]
  unfold gossamerref01_run.f
  simpa using h
/-! ### signs -/
theorem sign_j0 (k : Nat) (s : ByteArray) (a : Int) (x : Bool) : gossamerref01_sign.j0 (k + 1) s a x = if x = true then some 2 else gossamerref01_sign.l0 k s a 0 := rfl
theorem sign_l0 (s : ByteArray) (a : Nat) (b : UInt8) (ha : a < s.size) (hb : bt s (a : Int) = (b.toNat : Int)) : ∀ (m i k : Nat), 13 - i = m → i ≤ 13 → m + 1 ≤ k →
    gossamerref01_sign.l0 k s (a : Int) (i : Int) = some (if (sg1L.drop i).contains b then 1 else 0)
  | 0, i, k, hm, hi, hk => by
    obtain ⟨k, rfl⟩ : ∃ j, k = j + 1 := ⟨k - 1, by omega⟩
    obtain rfl : i = 13 := by omega
    unfold gossamerref01_sign.l0
    rw [if_neg (by omega)]
    rfl
  | m + 1, i, k, hm, hi, hk => by
    obtain ⟨k, rfl⟩ : ∃ j, k = j + 1 := ⟨k - 1, by omega⟩
    obtain ⟨x, hd, hx⟩ := bt_drop (⟨#[92, 46, 40, 41, 61, 123, 125, 124, 43, 45, 42, 47, 60]⟩ : ByteArray) i (by show i < 13; omega)
    have hd' : sg1L.drop i = x :: sg1L.drop (i + 1) := hd
    unfold gossamerref01_sign.l0
    rw [if_pos (by omega), if_pos (by omega), if_pos (by omega), if_pos (by omega), hx, hb, hd', List.contains_cons]
    by_cases he : b = x
    · subst he
      rw [if_pos rfl]
      simp
    · rw [if_neg (fun h => he (UInt8.toNat_inj.1 (by omega)).symm), wrap_small _ (by omega) (by omega), show ((i : Int) + 1) = ((i + 1 : Nat) : Int) by omega, sign_l0 s a b ha hb m (i + 1) k (by omega) (by omega) (by omega)]
      have : (b == x) = false := by simpa using he
      rw [this, Bool.false_or]
theorem two_list (s : ByteArray) (a : Nat) : (s.extract a (a + 2)).toList = (s.data.toList.drop a).take 2 := by
  rw [ByteArray.toList_eq, ByteArray.data_extract, Array.toList_extract, List.extract_eq_take_drop]
  congr 1
  omega
theorem sign_f (s : ByteArray) (a k : Nat) (hs : s.size ≤ 1000000000) (ha : a < s.size) (hk : 20 ≤ k) : gossamerref01_sign.f k s (a : Int) = some ((sgn (s.data.toList.drop a) : Nat) : Int) := by
  obtain ⟨k, rfl⟩ : ∃ j, k = j + 1 := ⟨k - 1, by omega⟩
  obtain ⟨b, hd, hb⟩ := bt_drop s a ha
  have hl := sign_l0 s a b ha hb 13 0 k (by omega) (by omega) (by omega)
  unfold gossamerref01_sign.f
  rw [wrap_small _ (by omega) (by omega)]
  by_cases h1 : (a : Int) + 1 < (s.size : Int)
  · obtain ⟨c, hd2, _⟩ := bt_drop s (a + 1) (by omega)
    rw [if_pos h1, if_pos (by omega), wrap_small _ (by omega) (by omega), if_pos (by omega), if_pos (by omega), show (((a : Int)).toNat) = a by omega, show ((a : Int) + 2).toNat = a + 2 by omega, two_list]
    rw [hd2] at hd
    rw [hd]
    show (if [b, c] = [45, 62] then _ else _) = some ((if (b = 45 ∧ some c = some 62) ∨ (b = 61 ∧ some c = some 61) then 2 else if sg1L.contains b then 1 else 0 : Nat) : Int)
    rw [sign_j0, sign_j0]
    by_cases h2 : b = 45 ∧ c = 62
    · rw [if_pos (by rw [h2.1, h2.2]), if_pos rfl, if_pos (.inl ⟨h2.1, by rw [h2.2]⟩)]
      rfl
    · have h2' : ¬ ([b, c] = [45, 62]) := by simpa using h2
      by_cases h3 : b = 61 ∧ c = 61
      · rw [if_neg h2', if_pos (by rw [h3.1, h3.2]; rfl), if_pos (.inr ⟨h3.1, by rw [h3.2]⟩)]
        rfl
      · have h3' : ¬ ((List.take 2 (b :: c :: List.drop (a + 1 + 1) s.data.toList) == [61, 61]) = true) := by
          show ¬ (([b, c] == [61, 61]) = true)
          simpa using h3
        have h4 : ¬ ((b = 45 ∧ some c = some 62) ∨ (b = 61 ∧ some c = some 61)) := by
          rintro (⟨x, y⟩ | ⟨x, y⟩)
          · exact h2 ⟨x, Option.some.inj y⟩
          · exact h3 ⟨x, Option.some.inj y⟩
        rw [if_neg h2', if_neg h3', if_neg h4]
        have e : ((if sg1L.contains b then 1 else 0 : Nat) : Int) = if (sg1L.drop 0).contains b then 1 else 0 := by
          simp only [List.drop_zero]
          split <;> rfl
        rw [e]
        exact hl
  · have hr : s.data.toList.drop (a + 1) = [] := List.drop_eq_nil_of_le (by have : s.data.toList.length = s.size := rfl; omega)
    rw [if_neg h1, hd, hr, sign_j0, if_neg (by decide)]
    have e : ((sgn [b] : Nat) : Int) = if (sg1L.drop 0).contains b then 1 else 0 := by
      simp only [List.drop_zero, sgn, List.head?_nil]
      simp
      split <;> rfl
    rw [e]
    exact hl
/-! ### numbers -/
theorem number_l0 (s : ByteArray) (hs : s.size ≤ 18) (hd : ∀ b ∈ s.data.toList, 48 ≤ b.toNat ∧ b.toNat ≤ 57) : ∀ (m i acc k : Nat), s.size - i = m → i ≤ s.size → m + 1 ≤ k → acc < 10 ^ i →
    ∃ v, Lib.decFrom acc (s.data.toList.drop i) = some v ∧ gossamerref01_number.l0 k s (acc : Int) (i : Int) = some ((v : Nat) : Int)
  | 0, i, acc, k, hm, hi, hk, ha => by
    obtain ⟨k, rfl⟩ : ∃ j, k = j + 1 := ⟨k - 1, by omega⟩
    refine ⟨acc, by rw [List.drop_eq_nil_of_le (by have : s.data.toList.length = s.size := rfl; omega)]; rfl, ?_⟩
    unfold gossamerref01_number.l0
    rw [if_neg (by omega)]
  | m + 1, i, acc, k, hm, hi, hk, ha => by
    obtain ⟨k, rfl⟩ : ∃ j, k = j + 1 := ⟨k - 1, by omega⟩
    obtain ⟨b, hdr, hb⟩ := bt_drop s i (by omega)
    have hbd := hd b (by have : b ∈ s.data.toList.drop i := by rw [hdr]; simp
                         exact List.mem_of_mem_drop this)
    have hp : 10 ^ i ≤ 10 ^ 17 := Nat.pow_le_pow_right (by decide) (by omega)
    have hacc : acc < 100000000000000000 := Nat.lt_of_lt_of_le ha hp
    obtain ⟨v, h1, h2⟩ := number_l0 s hs hd m (i + 1) (acc * 10 + (b.toNat - 48)) k (by omega) (by omega) (by omega) (by rw [Nat.pow_succ]; omega)
    refine ⟨v, ?_, ?_⟩
    · rw [hdr]
      unfold Lib.decFrom
      rw [digitVal_some b hbd.1 hbd.2]
      exact h1
    · unfold gossamerref01_number.l0
      rw [if_pos (by omega), if_pos (by omega), hb, wrap_small (10 * (acc : Int)) (by omega) (by omega), wrap_small (b.toNat : Int) (by omega) (by omega), wrap_small (10 * (acc : Int) + (b.toNat : Int)) (by omega) (by omega), wrap_small _ (by omega) (by omega), wrap_small ((i : Int) + 1) (by omega) (by omega), show 10 * (acc : Int) + (b.toNat : Int) - 48 = ((acc * 10 + (b.toNat - 48) : Nat) : Int) by omega, show ((i : Int) + 1) = ((i + 1 : Nat) : Int) by omega]
      exact h2
theorem number_f (s : ByteArray) (hs : s.size ≤ 18) (h0 : 0 < s.size) (hd : ∀ b ∈ s.data.toList, 48 ≤ b.toNat ∧ b.toNat ≤ 57) (k : Nat) (hk : 19 ≤ k) : gossamerref01_number.f k s = some ((Lib.atoi s.data.toList).getD 0) := by
  obtain ⟨v, h1, h2⟩ := number_l0 s hs hd s.size 0 0 k (by omega) (by omega) (by omega) (by decide)
  unfold gossamerref01_number.f
  have e : Lib.atoi s.data.toList = some ((v : Nat) : Int) := by
    cases hl : s.data.toList with
    | nil => have : s.data.toList.length = s.size := rfl; rw [hl] at this; simp at this; omega
    | cons b r =>
      have hbd := hd b (by rw [hl]; simp)
      rw [hl, List.drop_zero] at h1
      have e1 : (b == 45) = false := by simp; rintro rfl; simp at hbd
      have e2 : (b == 43) = false := by simp; rintro rfl; simp at hbd
      show (if (b == 45) = true then (Lib.decNat r).map (fun (m : Nat) => -(m : Int)) else if (b == 43) = true then (Lib.decNat r).map (fun (m : Nat) => (m : Int)) else (Lib.decNat (b :: r)).map (fun (m : Nat) => (m : Int))) = _
      rw [e1, e2]
      simp [Lib.decNat, h1]
  rw [e]
  exact h2
theorem Word_f (s : ByteArray) : gossamerref01_Word.f s = some (wordsL.contains s.data.toList) := by
  unfold gossamerref01_Word.f wordsL
  simp only [ByteArray.toList_eq, List.contains_cons, List.contains_nil, Bool.or_false]
  by_cases h1 : s.data.toList = [108, 101, 116]
  · simp [h1]
  · by_cases h2 : s.data.toList = [108, 101, 116, 114, 101, 99]
    · simp [h2]
    · by_cases h3 : s.data.toList = [105, 110]
      · simp [h3]
      · by_cases h4 : s.data.toList = [99, 97, 115, 101]
        · simp [h4]
        · have f : ∀ x, s.data.toList ≠ x → (s.data.toList == x) = false := fun x h => by simpa using h
          rw [if_neg h1, if_neg h2, if_neg h3, if_neg h4, f _ h1, f _ h2, f _ h3, f _ h4]
          simp
/-! ### in calls -/
theorem run_calls (s : ByteArray) (a : Nat) (hs : s.size ≤ 1000000000) (ha : a ≤ s.size) (w : World) : Calls Tryd.prog 33 #[.string s, .int .i64 (a : Int)] w fun e w' => e = .returned (.tuple #[.int .i64 ((wl (s.data.toList.drop a) : Nat) : Int), .bool (((s.data.toList.drop a).take (wl (s.data.toList.drop a))).any big)]) ∧ Below w.heap.size w w' :=
  (gossamerref01_run.calls (s.size + 5) s a _ _ w (run_f s a _ hs ha (Nat.le_refl _))).mono fun _ _ h => ⟨h.1, h.2.below⟩
theorem sign_calls (s : ByteArray) (a : Nat) (hs : s.size ≤ 1000000000) (ha : a < s.size) (w : World) : Calls Tryd.prog 34 #[.string s, .int .i64 (a : Int)] w fun e w' => e = .returned (.int .i64 ((sgn (s.data.toList.drop a) : Nat) : Int)) ∧ Below w.heap.size w w' :=
  (gossamerref01_sign.calls 20 s a _ w (sign_f s a _ hs ha (Nat.le_refl _))).mono fun _ _ h => ⟨h.1, h.2.below⟩
theorem class_calls (c : Int) (w : World) : Calls Tryd.prog 18 #[.int .u8 c] w fun e w' => e = .returned (.int .i64 (cls c)) ∧ Below w.heap.size w w' :=
  (gossamerref01_class.calls 3 c _ w (class_f c 3 (Nat.le_refl _))).mono fun _ _ h => ⟨h.1, h.2.below⟩
theorem number_calls (s : ByteArray) (hs : s.size ≤ 18) (h0 : 0 < s.size) (hd : ∀ b ∈ s.data.toList, 48 ≤ b.toNat ∧ b.toNat ≤ 57) (w : World) : Calls Tryd.prog 35 #[.string s] w fun e w' => e = .returned (.int .i64 ((Lib.atoi s.data.toList).getD 0)) ∧ Below w.heap.size w w' :=
  (gossamerref01_number.calls 19 s _ w (number_f s hs h0 hd 19 (Nat.le_refl _))).mono fun _ _ h => ⟨h.1, h.2.below⟩
theorem RWord_calls (s : ByteArray) (w : World) : Calls Tryd.prog 36 #[.string s] w fun e w' => e = .returned (.bool (wordsL.contains s.data.toList)) ∧ Below w.heap.size w w' :=
  (gossamerref01_Word.calls s _ w (Word_f s)).mono fun _ _ h => ⟨h.1, h.2.below⟩
end Go.Proofs.YtajcnjdinmgpjaaDoor.X
/- The reference's words: the walks of One and All. -/
namespace Go.Proofs.YtajcnjdinmgpjaaDoor.X
open Go.RowKit Go.Proofs.YtajcnjdinmgpjaaDoorW.PrintWords Go.Proofs.YtajcnjdinmgpjaaDoorW.PrintLast Go.Proofs.YtajcnjdinmgpjaaDoorW.PrintMore Go.Proofs.YtajcnjdinmgpjaaDoor.P
/-- the token at a place, and the fault -/
def oneV (s : ByteArray) (a : Nat) : Value := match specF (s.data.toList.drop a) with
  | .ok (k, m, n) => .tuple #[.agg #[.int .i64 k, .string (s.extract a (a + m)), .int .i64 n, .int .i64 (a : Int)], .int .i64 0]
  | .error c => .tuple #[.agg #[.int .i64 0, .string ⟨#[]⟩, .int .i64 0, .int .i64 0], .int .i64 c]
theorem specF_sign {l : List UInt8} (h : wl l = 0) (h2 : sgn l ≠ 0) : specF l = .ok (5, sgn l, 0) := by unfold specF; rw [if_pos h, if_neg h2]
theorem specF_none {l : List UInt8} (h : wl l = 0) (h2 : sgn l = 0) : specF l = .error 10 := by unfold specF; rw [if_pos h, if_pos h2]
theorem specF_word {l : List UInt8} (h : wl l ≠ 0) {k n : Int} (hp : specW (l.take (wl l)) = .ok (k, n)) : specF l = .ok (k, wl l, n) := by unfold specF; rw [if_neg h, hp]
theorem specF_werr {l : List UInt8} (h : wl l ≠ 0) {c : Int} (hp : specW (l.take (wl l)) = .error c) : specF l = .error c := by unfold specF; rw [if_neg h, hp]
theorem sub_list (s : ByteArray) (a m : Nat) : (s.extract a (a + m)).data.toList = (s.data.toList.drop a).take m := by
  rw [ByteArray.data_extract, Array.toList_extract, List.extract_eq_take_drop]
  congr 1
  omega
theorem sgn_le (l : List UInt8) : sgn l ≤ l.length := by
  cases l with
  | nil => exact Nat.le_refl _
  | cons b r =>
    show (if (b = 45 ∧ r.head? = some 62) ∨ (b = 61 ∧ r.head? = some 61) then 2 else if sg1L.contains b then 1 else 0) ≤ r.length + 1
    by_cases h : (b = 45 ∧ r.head? = some 62) ∨ (b = 61 ∧ r.head? = some 61)
    · rw [if_pos h]
      cases r with
      | nil => simp at h
      | cons c r => simp
    · rw [if_neg h]
      by_cases h2 : sg1L.contains b = true
      · rw [if_pos h2]; omega
      · rw [if_neg h2]; omega
theorem takeWhile_all (l : List UInt8) : ∀ b ∈ l.take (wl l), wB b = true := by
  have e : l.take (wl l) = l.takeWhile wB := (List.prefix_iff_eq_take.1 (List.takeWhile_prefix _)).symm
  rw [e]
  intro b hb
  exact List.all_eq_true.1 List.all_takeWhile b hb
theorem cls_dig {c : Int} (h : wordI c = true) : (cls c = 3 ↔ digI c = true) ∧ (digI c = false → cls c = if upI c then 2 else 1) := by
  unfold wordI at h
  unfold cls
  by_cases h1 : lowI c = true <;> by_cases h2 : upI c = true <;> by_cases h3 : digI c = true <;> simp [h1, h2, h3] at h ⊢
  all_goals (simp [lowI, upI, digI] at h1 h2 h3; omega)
theorem slice_str (s : ByteArray) (a m : Nat) (h : a + m ≤ s.size) (w : World) : (Instr.slice 9 (.string s) (some (.int .i64 (a : Int))) (some (.int .i64 ((a : Int) + (m : Int)))) none).run Tryd.prog w = .ok (.string (s.extract a (a + m))) w := by
  have h := run_slice_string (P := Tryd.prog) w 9 s .i64 .i64 (a : Int) ((a : Int) + (m : Int)) Tryd.underlying9 (by omega) (by omega) (by omega)
  rw [show ((a : Int)).toNat = a by omega, show ((a : Int) + (m : Int)).toNat = a + m by omega] at h
  exact h
set_option maxRecDepth 100000 in
set_option maxHeartbeats 4000000 in
theorem ROne_calls (s : ByteArray) (a : Nat) (hs : s.size ≤ 1000000000) (ha : a < s.size) (w : World) : Calls Tryd.prog 19 #[.string s, .int .i64 (a : Int)] w fun e w' => e = .returned (oneV s a) ∧ Below w.heap.size w w' := by
  obtain ⟨V, hV⟩ : ∃ V, V = oneV s a := ⟨_, rfl⟩
  rw [← hV]
  unfold oneV at hV
  have hwl := wl_le (s.data.toList.drop a)
  have hsl := sgn_le (s.data.toList.drop a)
  have hdl : (s.data.toList.drop a).length = s.size - a := by rw [List.length_drop]; rfl
  rw [hdl] at hwl hsl
  have HRUN := Lib.hid (run_calls s a hs (by omega))
  obtain ⟨b, hbd, hbt⟩ := bt_drop s a ha
  have hat : ((s[a]'ha).toNat : Int) = (b.toNat : Int) := by
    have := bt_at s (a : Int) (by simpa using ha)
    rw [hbt] at this
    exact this
  clear hbt hdl
  by_cases hz : wl (s.data.toList.drop a) = 0
  · clear hat hbd hwl
    have HZ := Lib.hid hz
    have HS := Lib.hid (sign_calls s a hs ha)
    by_cases hk : sgn (s.data.toList.drop a) = 0
    · rw [specF_none hz hk] at hV
      have HV := Lib.hid hV
      have HK := Lib.hid hk
      clear hV hz hk hsl
      go_enter Tryd.func19, Tryd.ntmps19
      go_wp2_with fail
      refine (HRUN.out _).mono ?_
      rintro e w1 ⟨rfl, hB1⟩
      rw [HZ.out]
      have hb1 := belowNew hB1
      have hB := below_step (below_alloc (Below.refl _ _) _) hB1
      go_wp2_with fail
      refine (HS.out _).mono ?_
      rintro e w2 ⟨rfl, hB2⟩
      rw [HK.out]
      have hbF := blk_below hb1 hB2
      have hBF := below_step hB hB2
      clear hb1 hB hB1 hB2
      obtain ⟨x0, x1, x2, x3, xf, xl⟩ := open4 hbF
      have HF := Lib.hid (And.intro hbF hBF)
      clear hbF hBF
      go_wp2
      obtain ⟨hbF, hBF⟩ := HF.out
      clear x0 x1 x2 x3 xf xl HF
      have hz5 := set4 (u0 := .int .i64 0) (u1 := .string ⟨#[]⟩) (u2 := .int .i64 0) (u3 := .int .i64 0) hbF
      have hB5 := (((hBF.setCell (p := ⟨w.heap.size, 0, none⟩) (Nat.le_refl _) (.int .i64 0)).setCell (p := ⟨w.heap.size, 1, none⟩) (Nat.le_refl _) (.string ⟨#[]⟩)).setCell (p := ⟨w.heap.size, 2, none⟩) (Nat.le_refl _) (.int .i64 0)).setCell (p := ⟨w.heap.size, 3, none⟩) (Nat.le_refl _) (.int .i64 0)
      obtain ⟨W5, hW⟩ : ∃ W5, W5 = ((((w2.setCell ⟨w.heap.size, 0, none⟩ (.int .i64 0)).setCell ⟨w.heap.size, 1, none⟩ (.string ⟨#[]⟩)).setCell ⟨w.heap.size, 2, none⟩ (.int .i64 0)).setCell ⟨w.heap.size, 3, none⟩ (.int .i64 0)) := ⟨_, rfl⟩
      rw [← hW] at hz5 hB5 ⊢
      clear hW
      obtain ⟨k0, k1, k2, k3, kf, kl⟩ := open4 hz5
      refine bodyPost_ret (v := .tuple #[.agg #[.int .i64 0, .string ⟨#[]⟩, .int .i64 0, .int .i64 0], .int .i64 10]) (by simp [results, Tryd.results19, go_sem, k0, k1, k2, k3]) rfl ?_
      rw [HV.out]
      exact ⟨rfl, hB5⟩
    · rw [specF_sign hz hk] at hV
      have HV := Lib.hid hV
      obtain ⟨m, hm⟩ : ∃ m, m = sgn (s.data.toList.drop a) := ⟨_, rfl⟩
      rw [← hm] at HV HS hk hsl
      have nk : (((m : Nat) : Int) == 0) = false := by simpa using hk
      clear hV hz hk hm
      go_enter Tryd.func19, Tryd.ntmps19
      go_wp2_with fail
      refine (HRUN.out _).mono ?_
      rintro e w1 ⟨rfl, hB1⟩
      rw [HZ.out]
      have hb1 := belowNew hB1
      have hB := below_step (below_alloc (Below.refl _ _) _) hB1
      go_wp2_with fail
      refine (HS.out _).mono ?_
      rintro e w2 ⟨rfl, hB2⟩
      have hbF := blk_below hb1 hB2
      have hBF := below_step hB hB2
      clear hb1 hB hB1 hB2
      obtain ⟨x0, x1, x2, x3, xf, xl⟩ := open4 hbF
      have HF := Lib.hid (And.intro hbF hBF)
      clear hbF hBF
      have hslice := slice_str s a m (by omega)
      go_wp2
      obtain ⟨hbF, hBF⟩ := HF.out
      clear x0 x1 x2 x3 xf xl HF
      have hz5 := set4 (u0 := .int .i64 5) (u1 := .string (s.extract a (a + m))) (u2 := .int .i64 0) (u3 := .int .i64 (a : Int)) hbF
      have hB5 := (((hBF.setCell (p := ⟨w.heap.size, 0, none⟩) (Nat.le_refl _) (.int .i64 5)).setCell (p := ⟨w.heap.size, 1, none⟩) (Nat.le_refl _) (.string (s.extract a (a + m)))).setCell (p := ⟨w.heap.size, 2, none⟩) (Nat.le_refl _) (.int .i64 0)).setCell (p := ⟨w.heap.size, 3, none⟩) (Nat.le_refl _) (.int .i64 (a : Int))
      obtain ⟨W5, hW⟩ : ∃ W5, W5 = ((((w2.setCell ⟨w.heap.size, 0, none⟩ (.int .i64 5)).setCell ⟨w.heap.size, 1, none⟩ (.string (s.extract a (a + m)))).setCell ⟨w.heap.size, 2, none⟩ (.int .i64 0)).setCell ⟨w.heap.size, 3, none⟩ (.int .i64 (a : Int))) := ⟨_, rfl⟩
      rw [← hW] at hz5 hB5 ⊢
      clear hW
      obtain ⟨k0, k1, k2, k3, kf, kl⟩ := open4 hz5
      refine bodyPost_ret (v := .tuple #[.agg #[.int .i64 5, .string (s.extract a (a + m)), .int .i64 0, .int .i64 (a : Int)], .int .i64 0]) (by simp [results, Tryd.results19, go_sem, k0, k1, k2, k3]) rfl ?_
      rw [HV.out]
      exact ⟨rfl, hB5⟩
  · clear hsl
    have hall := takeWhile_all (s.data.toList.drop a)
    have hh0 : h0 ((s.data.toList.drop a).take (wl (s.data.toList.drop a))) = (b.toNat : Int) := by rw [head_take (by omega), hbd]; rfl
    have hwb : wordI (b.toNat : Int) = true := by
      refine hall b ?_
      obtain ⟨j, hj⟩ : ∃ j, wl (s.data.toList.drop a) = j + 1 := ⟨wl (s.data.toList.drop a) - 1, by omega⟩
      rw [hj, hbd]
      simp
    have hcd := cls_dig hwb
    have hwle : ((s.data.toList.drop a).take (wl (s.data.toList.drop a))).length = wl (s.data.toList.drop a) := by rw [List.length_take]; exact Nat.min_eq_left (wl_le _)
    have htl := sub_list s a (wl (s.data.toList.drop a))
    have hwd : ∀ p, specW ((s.data.toList.drop a).take (wl (s.data.toList.drop a))) = .ok p → specF (s.data.toList.drop a) = .ok (p.1, wl (s.data.toList.drop a), p.2) := fun p hp => specF_word hz hp
    have hwe : ∀ c, specW ((s.data.toList.drop a).take (wl (s.data.toList.drop a))) = .error c → specF (s.data.toList.drop a) = .error c := fun c hc => specF_werr hz hc
    unfold specW at hwd hwe
    rw [hwle, hh0] at hwd hwe
    clear hh0 hwle hwb
    obtain ⟨m, hm⟩ : ∃ m, m = wl (s.data.toList.drop a) := ⟨_, rfl⟩
    rw [← hm] at HRUN hz hwl hall htl hwd hwe
    obtain ⟨L, hL⟩ : ∃ L, L = (s.data.toList.drop a).take m := ⟨_, rfl⟩
    rw [← hL] at HRUN hall htl hwd hwe
    have hLlen : L.length = m := by rw [hL, List.length_take, List.length_drop]; have : s.data.toList.length = s.size := rfl; omega
    have hbig : L.any big = false → digI (b.toNat : Int) = true → ∀ x ∈ (s.extract a (a + m)).data.toList, 48 ≤ x.toNat ∧ x.toNat ≤ 57 := by
      intro h1 _ x hx
      rw [htl] at hx
      have h2 := hall x hx
      have h3 : big x = false := by simpa using (List.any_eq_false.1 h1 x hx)
      simp [wB, wordI, lowI, upI, digI, big] at h2 h3
      omega
    have hesz : (s.extract a (a + m)).size = m := by
      have : (s.extract a (a + m)).data.toList.length = m := by rw [htl, hLlen]
      exact this
    have HSP := Lib.hid (And.intro hV (And.intro hwd (And.intro hwe (And.intro hbig (And.intro htl hcd)))))
    have HAT := Lib.hid hat
    have nz : (((m : Nat) : Int) == 0) = false := by simpa using hz
    have ham : a + m ≤ s.size := by omega
    have hm0 : 0 < m := by omega
    clear hV hwd hwe hbig htl hcd hall hL hLlen hz hm hat hbd
    go_enter Tryd.func19, Tryd.ntmps19
    go_wp2_with fail
    refine (HRUN.out _).mono ?_
    rintro e w1 ⟨rfl, hB1⟩
    have hb1 := belowNew hB1
    have hB := below_step (below_alloc (Below.refl _ _) _) hB1
    obtain ⟨X, hX⟩ : ∃ X, X = L.any big := ⟨_, rfl⟩
    rw [← hX]
    have HX := Lib.hid hX
    clear hX hB1 hesz
    have hslice := slice_str s a m ham
    go_wp2_with fail
    rw [HAT.out]
    refine (class_calls _ _).mono ?_
    rintro e w2 ⟨rfl, hB2⟩
    have hbF := blk_below (blk_alloc hb1 (.cells #[.int .i64 0, .string (s.extract a (a + m)), .int .i64 0, .int .i64 (a : Int)] 34)) hB2
    have hbT := blk_below (blk_new w1 (.cells #[.int .i64 0, .string (s.extract a (a + m)), .int .i64 0, .int .i64 (a : Int)] 34)) hB2
    have hs1 : w.heap.size < w1.heap.size := blk_lt hb1
    have hBF := below_step (hB.alloc hB.size (.cells #[.int .i64 0, .string (s.extract a (a + m)), .int .i64 0, .int .i64 (a : Int)] 34)) hB2
    clear hb1 hB hB2 hslice
    have lt2 := blk_lt hbT
    obtain ⟨hV, hwd, hwe, hbig, htl, hcd⟩ := HSP.out
    have HF := Lib.hid (And.intro hbF (And.intro hbT hBF))
    clear hbF hbT hBF HSP
    by_cases hdg : digI (b.toNat : Int) = true
    · have hc3 := hcd.1.2 hdg
      rw [hc3]
      rw [if_pos hdg] at hwd hwe
      clear hcd hc3
      have hX := HX.out
      cases hXX : X with
      | true =>
        rw [hXX] at hX
        rw [hwe 10 (by rw [if_pos hX.symm])] at hV
        have HV := Lib.hid hV
        clear hV hX hXX hwd hwe hbig htl HX hdg
        obtain ⟨hbF, hbT, hBF⟩ := HF.out
        obtain ⟨x0, x1, x2, x3, xf, xl⟩ := open4 hbF
        obtain ⟨y0, y1, y2, y3, yf, yl⟩ := open4 hbT
        clear hbF hbT hBF
        go_wp2
        obtain ⟨hbF, hbT, hBF⟩ := HF.out
        clear x0 x1 x2 x3 xf xl y0 y1 y2 y3 yf yl HF
        have hz5 := set4 (u0 := .int .i64 0) (u1 := .string ⟨#[]⟩) (u2 := .int .i64 0) (u3 := .int .i64 0) hbF
        have hB5 := (((hBF.setCell (p := ⟨w.heap.size, 0, none⟩) (Nat.le_refl _) (.int .i64 0)).setCell (p := ⟨w.heap.size, 1, none⟩) (Nat.le_refl _) (.string ⟨#[]⟩)).setCell (p := ⟨w.heap.size, 2, none⟩) (Nat.le_refl _) (.int .i64 0)).setCell (p := ⟨w.heap.size, 3, none⟩) (Nat.le_refl _) (.int .i64 0)
        obtain ⟨W5, hW⟩ : ∃ W5, W5 = ((((w2.setCell ⟨w.heap.size, 0, none⟩ (.int .i64 0)).setCell ⟨w.heap.size, 1, none⟩ (.string ⟨#[]⟩)).setCell ⟨w.heap.size, 2, none⟩ (.int .i64 0)).setCell ⟨w.heap.size, 3, none⟩ (.int .i64 0)) := ⟨_, rfl⟩
        rw [← hW] at hz5 hB5 ⊢
        clear hW
        obtain ⟨k0, k1, k2, k3, kf, kl⟩ := open4 hz5
        refine bodyPost_ret (v := .tuple #[.agg #[.int .i64 0, .string ⟨#[]⟩, .int .i64 0, .int .i64 0], .int .i64 10]) (by simp [results, Tryd.results19, go_sem, k0, k1, k2, k3]) rfl ?_
        rw [HV.out]
        exact ⟨rfl, hB5⟩
      | false =>
        rw [hXX] at hX
        rw [if_neg (by rw [← hX]; decide)] at hwd hwe
        have hds := hbig hX.symm hdg
        clear hXX hbig HX hdg hX
        by_cases h18 : 18 < m
        · rw [hwe 11 (by rw [if_pos (.inl h18)])] at hV
          have HV := Lib.hid hV
          have d18 : decide ((18 : Int) < (m : Int)) = true := decide_eq_true (by omega)
          clear hV hwd hwe htl hds
          obtain ⟨hbF, hbT, hBF⟩ := HF.out
          obtain ⟨x0, x1, x2, x3, xf, xl⟩ := open4 hbF
          obtain ⟨y0, y1, y2, y3, yf, yl⟩ := open4 hbT
          clear hbF hbT hBF
          go_wp2
          obtain ⟨hbF, hbT, hBF⟩ := HF.out
          clear x0 x1 x2 x3 xf xl y0 y1 y2 y3 yf yl HF
          have hz5 := set4 (u0 := .int .i64 0) (u1 := .string ⟨#[]⟩) (u2 := .int .i64 0) (u3 := .int .i64 0) hbF
          have hB5 := (((hBF.setCell (p := ⟨w.heap.size, 0, none⟩) (Nat.le_refl _) (.int .i64 0)).setCell (p := ⟨w.heap.size, 1, none⟩) (Nat.le_refl _) (.string ⟨#[]⟩)).setCell (p := ⟨w.heap.size, 2, none⟩) (Nat.le_refl _) (.int .i64 0)).setCell (p := ⟨w.heap.size, 3, none⟩) (Nat.le_refl _) (.int .i64 0)
          obtain ⟨W5, hW⟩ : ∃ W5, W5 = ((((w2.setCell ⟨w.heap.size, 0, none⟩ (.int .i64 0)).setCell ⟨w.heap.size, 1, none⟩ (.string ⟨#[]⟩)).setCell ⟨w.heap.size, 2, none⟩ (.int .i64 0)).setCell ⟨w.heap.size, 3, none⟩ (.int .i64 0)) := ⟨_, rfl⟩
          rw [← hW] at hz5 hB5 ⊢
          clear hW
          obtain ⟨k0, k1, k2, k3, kf, kl⟩ := open4 hz5
          refine bodyPost_ret (v := .tuple #[.agg #[.int .i64 0, .string ⟨#[]⟩, .int .i64 0, .int .i64 0], .int .i64 11]) (by simp [results, Tryd.results19, go_sem, k0, k1, k2, k3]) rfl ?_
          rw [HV.out]
          exact ⟨rfl, hB5⟩
        · have d18 : decide ((18 : Int) < (m : Int)) = false := decide_eq_false (by omega)
          by_cases h1 : 1 < m ∧ (b.toNat : Int) = 48
          · rw [hwe 11 (by rw [if_pos (.inr h1)])] at hV
            have HV := Lib.hid hV
            have d1 : decide ((1 : Int) < (m : Int)) = true := decide_eq_true (by omega)
            have d48 : (((s[a]'ha).toNat : Int) == 48) = true := by rw [HAT.out, h1.2]; rfl
            clear hV hwd hwe htl hds h1
            obtain ⟨hbF, hbT, hBF⟩ := HF.out
            obtain ⟨x0, x1, x2, x3, xf, xl⟩ := open4 hbF
            obtain ⟨y0, y1, y2, y3, yf, yl⟩ := open4 hbT
            clear hbF hbT hBF
            go_wp2
            obtain ⟨hbF, hbT, hBF⟩ := HF.out
            clear x0 x1 x2 x3 xf xl y0 y1 y2 y3 yf yl HF
            have hz5 := set4 (u0 := .int .i64 0) (u1 := .string ⟨#[]⟩) (u2 := .int .i64 0) (u3 := .int .i64 0) hbF
            have hB5 := (((hBF.setCell (p := ⟨w.heap.size, 0, none⟩) (Nat.le_refl _) (.int .i64 0)).setCell (p := ⟨w.heap.size, 1, none⟩) (Nat.le_refl _) (.string ⟨#[]⟩)).setCell (p := ⟨w.heap.size, 2, none⟩) (Nat.le_refl _) (.int .i64 0)).setCell (p := ⟨w.heap.size, 3, none⟩) (Nat.le_refl _) (.int .i64 0)
            obtain ⟨W5, hW⟩ : ∃ W5, W5 = ((((w2.setCell ⟨w.heap.size, 0, none⟩ (.int .i64 0)).setCell ⟨w.heap.size, 1, none⟩ (.string ⟨#[]⟩)).setCell ⟨w.heap.size, 2, none⟩ (.int .i64 0)).setCell ⟨w.heap.size, 3, none⟩ (.int .i64 0)) := ⟨_, rfl⟩
            rw [← hW] at hz5 hB5 ⊢
            clear hW
            obtain ⟨k0, k1, k2, k3, kf, kl⟩ := open4 hz5
            refine bodyPost_ret (v := .tuple #[.agg #[.int .i64 0, .string ⟨#[]⟩, .int .i64 0, .int .i64 0], .int .i64 11]) (by simp [results, Tryd.results19, go_sem, k0, k1, k2, k3]) rfl ?_
            rw [HV.out]
            exact ⟨rfl, hB5⟩
          · have hno : ¬ (18 < m ∨ (1 < m ∧ (b.toNat : Int) = 48)) := fun h => h.elim h18 h1
            rw [hwd _ (by rw [if_neg hno]), ← htl] at hV
            have hV : V = .tuple #[.agg #[.int .i64 3, .string (s.extract a (a + m)), .int .i64 ((Lib.atoi (s.extract a (a + m)).data.toList).getD 0), .int .i64 (a : Int)], .int .i64 0] := hV
            have hN := number_calls (s.extract a (a + m)) (by rw [ByteArray.size_extract]; omega) (by rw [ByteArray.size_extract]; omega) hds
            obtain ⟨Z, hZ⟩ : ∃ Z, Z = (Lib.atoi (s.extract a (a + m)).data.toList).getD 0 := ⟨_, rfl⟩
            rw [← hZ] at hV hN
            have HV := Lib.hid hV
            have HN := Lib.hid hN
            clear hN hZ
            have hesz : (s.extract a (a + m)).size = m := by rw [ByteArray.size_extract]; omega
            clear hV hwd hwe htl hds hno hesz
            have hw : ∀ (hcase : 1 < m → ¬ (b.toNat : Int) = 48), True := fun _ => trivial
            clear hw
            by_cases h11 : 1 < m
            · have d1 : decide ((1 : Int) < (m : Int)) = true := decide_eq_true (by omega)
              have d48 : (((s[a]'ha).toNat : Int) == 48) = false := by rw [HAT.out]; simpa using fun h => h1 ⟨h11, h⟩
              clear h1
              obtain ⟨hbF, hbT, hBF⟩ := HF.out
              obtain ⟨x0, x1, x2, x3, xf, xl⟩ := open4 hbF
              obtain ⟨y0, y1, y2, y3, yf, yl⟩ := open4 hbT
              clear hbF hbT hBF
              go_wp2_with fail
              refine (HN.out _).mono ?_
              rintro e w4 ⟨rfl, hB4⟩
              obtain ⟨hbF, hbT, hBF⟩ := HF.out
              have hbT3 := blk_put hbT 0 (.int .i64 3) rfl
              have hbF3 := blk_far hbF (p := ⟨w1.heap.size, 0, none⟩) (by show w.heap.size ≠ w1.heap.size; omega) (.int .i64 3)
              have hBF3 := hBF.setCell (p := ⟨w1.heap.size, 0, none⟩) (Nat.le_of_lt hs1) (.int .i64 3)
              have hbF4 := blk_below hbF3 hB4
              have hbT4 := blk_below hbT3 hB4
              have hBF4 := below_step hBF3 hB4
              clear x0 x1 x2 x3 xf xl y0 y1 y2 y3 yf yl hbF hbT hBF hbT3 hbF3 hBF3 hB4 HF
              obtain ⟨x0, x1, x2, x3, xf, xl⟩ := open4 hbF4
              obtain ⟨y0, y1, y2, y3, yf, yl⟩ := open4 hbT4
              have HF := Lib.hid (And.intro hbF4 (And.intro hbT4 hBF4))
              clear hbF4 hbT4 hBF4
              go_wp2
              obtain ⟨hbF0, hbT, hBF0⟩ := HF.out
              have hbF := blk_far hbF0 (p := ⟨w1.heap.size, 2, none⟩) (by show w.heap.size ≠ w1.heap.size; omega) (.int .i64 Z)
              have hBF := hBF0.setCell (p := ⟨w1.heap.size, 2, none⟩) (Nat.le_of_lt hs1) (.int .i64 Z)
              clear x0 x1 x2 x3 xf xl y0 y1 y2 y3 yf yl HF hbF0 hBF0
              have hz5 := set4 (u0 := .int .i64 3) (u1 := .string (s.extract a (a + m))) (u2 := .int .i64 Z) (u3 := .int .i64 (a : Int)) hbF
              have hB5 := (((hBF.setCell (p := ⟨w.heap.size, 0, none⟩) (Nat.le_refl _) (.int .i64 3)).setCell (p := ⟨w.heap.size, 1, none⟩) (Nat.le_refl _) (.string (s.extract a (a + m)))).setCell (p := ⟨w.heap.size, 2, none⟩) (Nat.le_refl _) (.int .i64 Z)).setCell (p := ⟨w.heap.size, 3, none⟩) (Nat.le_refl _) (.int .i64 (a : Int))
              obtain ⟨W5, hW⟩ : ∃ W5, W5 = (((((w4.setCell ⟨w1.heap.size, 2, none⟩ (.int .i64 Z)).setCell ⟨w.heap.size, 0, none⟩ (.int .i64 3)).setCell ⟨w.heap.size, 1, none⟩ (.string (s.extract a (a + m)))).setCell ⟨w.heap.size, 2, none⟩ (.int .i64 Z)).setCell ⟨w.heap.size, 3, none⟩ (.int .i64 (a : Int))) := ⟨_, rfl⟩
              rw [← hW] at hz5 hB5 ⊢
              clear hW
              obtain ⟨k0, k1, k2, k3, kf, kl⟩ := open4 hz5
              refine bodyPost_ret (v := .tuple #[.agg #[.int .i64 3, .string (s.extract a (a + m)), .int .i64 Z, .int .i64 (a : Int)], .int .i64 0]) (by simp [results, Tryd.results19, go_sem, k0, k1, k2, k3]) rfl ?_
              rw [HV.out]
              exact ⟨rfl, hB5⟩
            · have d1 : decide ((1 : Int) < (m : Int)) = false := decide_eq_false (by omega)
              clear h1
              obtain ⟨hbF, hbT, hBF⟩ := HF.out
              obtain ⟨x0, x1, x2, x3, xf, xl⟩ := open4 hbF
              obtain ⟨y0, y1, y2, y3, yf, yl⟩ := open4 hbT
              clear hbF hbT hBF
              go_wp2_with fail
              refine (HN.out _).mono ?_
              rintro e w4 ⟨rfl, hB4⟩
              obtain ⟨hbF, hbT, hBF⟩ := HF.out
              have hbT3 := blk_put hbT 0 (.int .i64 3) rfl
              have hbF3 := blk_far hbF (p := ⟨w1.heap.size, 0, none⟩) (by show w.heap.size ≠ w1.heap.size; omega) (.int .i64 3)
              have hBF3 := hBF.setCell (p := ⟨w1.heap.size, 0, none⟩) (Nat.le_of_lt hs1) (.int .i64 3)
              have hbF4 := blk_below hbF3 hB4
              have hbT4 := blk_below hbT3 hB4
              have hBF4 := below_step hBF3 hB4
              clear x0 x1 x2 x3 xf xl y0 y1 y2 y3 yf yl hbF hbT hBF hbT3 hbF3 hBF3 hB4 HF
              obtain ⟨x0, x1, x2, x3, xf, xl⟩ := open4 hbF4
              obtain ⟨y0, y1, y2, y3, yf, yl⟩ := open4 hbT4
              have HF := Lib.hid (And.intro hbF4 (And.intro hbT4 hBF4))
              clear hbF4 hbT4 hBF4
              go_wp2
              obtain ⟨hbF0, hbT, hBF0⟩ := HF.out
              have hbF := blk_far hbF0 (p := ⟨w1.heap.size, 2, none⟩) (by show w.heap.size ≠ w1.heap.size; omega) (.int .i64 Z)
              have hBF := hBF0.setCell (p := ⟨w1.heap.size, 2, none⟩) (Nat.le_of_lt hs1) (.int .i64 Z)
              clear x0 x1 x2 x3 xf xl y0 y1 y2 y3 yf yl HF hbF0 hBF0
              have hz5 := set4 (u0 := .int .i64 3) (u1 := .string (s.extract a (a + m))) (u2 := .int .i64 Z) (u3 := .int .i64 (a : Int)) hbF
              have hB5 := (((hBF.setCell (p := ⟨w.heap.size, 0, none⟩) (Nat.le_refl _) (.int .i64 3)).setCell (p := ⟨w.heap.size, 1, none⟩) (Nat.le_refl _) (.string (s.extract a (a + m)))).setCell (p := ⟨w.heap.size, 2, none⟩) (Nat.le_refl _) (.int .i64 Z)).setCell (p := ⟨w.heap.size, 3, none⟩) (Nat.le_refl _) (.int .i64 (a : Int))
              obtain ⟨W5, hW⟩ : ∃ W5, W5 = (((((w4.setCell ⟨w1.heap.size, 2, none⟩ (.int .i64 Z)).setCell ⟨w.heap.size, 0, none⟩ (.int .i64 3)).setCell ⟨w.heap.size, 1, none⟩ (.string (s.extract a (a + m)))).setCell ⟨w.heap.size, 2, none⟩ (.int .i64 Z)).setCell ⟨w.heap.size, 3, none⟩ (.int .i64 (a : Int))) := ⟨_, rfl⟩
              rw [← hW] at hz5 hB5 ⊢
              clear hW
              obtain ⟨k0, k1, k2, k3, kf, kl⟩ := open4 hz5
              refine bodyPost_ret (v := .tuple #[.agg #[.int .i64 3, .string (s.extract a (a + m)), .int .i64 Z, .int .i64 (a : Int)], .int .i64 0]) (by simp [results, Tryd.results19, go_sem, k0, k1, k2, k3]) rfl ?_
              rw [HV.out]
              exact ⟨rfl, hB5⟩
    · have hdg' : digI (b.toNat : Int) = false := by simpa using hdg
      have hck := hcd.2 hdg'
      rw [if_neg hdg] at hwd hwe
      obtain ⟨C, hC⟩ : ∃ C, C = cls (b.toNat : Int) := ⟨_, rfl⟩
      rw [← hC] at hck ⊢
      have nC : (C == 3) = false := by rw [hck]; split <;> rfl
      clear hcd hC hbig HX hdg'
      by_cases h16 : 16 < m
      · rw [hwe 11 (by rw [if_pos h16])] at hV
        have HV := Lib.hid hV
        have d16 : decide ((16 : Int) < (m : Int)) = true := decide_eq_true (by omega)
        clear hV hwd hwe htl hck hdg
        obtain ⟨hbF, hbT, hBF⟩ := HF.out
        obtain ⟨x0, x1, x2, x3, xf, xl⟩ := open4 hbF
        obtain ⟨y0, y1, y2, y3, yf, yl⟩ := open4 hbT
        clear hbF hbT hBF
        go_wp2
        obtain ⟨hbF, hbT, hBF⟩ := HF.out
        clear x0 x1 x2 x3 xf xl y0 y1 y2 y3 yf yl HF
        have hz5 := set4 (u0 := .int .i64 0) (u1 := .string ⟨#[]⟩) (u2 := .int .i64 0) (u3 := .int .i64 0) hbF
        have hB5 := (((hBF.setCell (p := ⟨w.heap.size, 0, none⟩) (Nat.le_refl _) (.int .i64 0)).setCell (p := ⟨w.heap.size, 1, none⟩) (Nat.le_refl _) (.string ⟨#[]⟩)).setCell (p := ⟨w.heap.size, 2, none⟩) (Nat.le_refl _) (.int .i64 0)).setCell (p := ⟨w.heap.size, 3, none⟩) (Nat.le_refl _) (.int .i64 0)
        obtain ⟨W5, hW⟩ : ∃ W5, W5 = ((((w2.setCell ⟨w.heap.size, 0, none⟩ (.int .i64 0)).setCell ⟨w.heap.size, 1, none⟩ (.string ⟨#[]⟩)).setCell ⟨w.heap.size, 2, none⟩ (.int .i64 0)).setCell ⟨w.heap.size, 3, none⟩ (.int .i64 0)) := ⟨_, rfl⟩
        rw [← hW] at hz5 hB5 ⊢
        clear hW
        obtain ⟨k0, k1, k2, k3, kf, kl⟩ := open4 hz5
        refine bodyPost_ret (v := .tuple #[.agg #[.int .i64 0, .string ⟨#[]⟩, .int .i64 0, .int .i64 0], .int .i64 11]) (by simp [results, Tryd.results19, go_sem, k0, k1, k2, k3]) rfl ?_
        rw [HV.out]
        exact ⟨rfl, hB5⟩
      · have d16 : decide ((16 : Int) < (m : Int)) = false := decide_eq_false (by omega)
        rw [if_neg h16] at hwd hwe
        have HW := Lib.hid (RWord_calls (s.extract a (a + m)))
        have HC := Lib.hid hck
        clear hck hdg
        obtain ⟨hbF, hbT, hBF⟩ := HF.out
        obtain ⟨x0, x1, x2, x3, xf, xl⟩ := open4 hbF
        obtain ⟨y0, y1, y2, y3, yf, yl⟩ := open4 hbT
        clear hbF hbT hBF
        by_cases hwb : wordsL.contains L = true
        · rw [hwd _ (by rw [if_pos hwb])] at hV
          have HV := Lib.hid hV
          have HWB := Lib.hid hwb
          clear hV hwd hwe hwb
          go_wp2_with fail
          refine (HW.out _).mono ?_
          rintro e w4 ⟨rfl, hB4⟩
          rw [htl, HWB.out]
          obtain ⟨hbF, hbT, hBF⟩ := HF.out
          have hbT3 := blk_put hbT 0 (.int .i64 C) rfl
          have hbF3 := blk_far hbF (p := ⟨w1.heap.size, 0, none⟩) (by show w.heap.size ≠ w1.heap.size; omega) (.int .i64 C)
          have hBF3 := hBF.setCell (p := ⟨w1.heap.size, 0, none⟩) (Nat.le_of_lt hs1) (.int .i64 C)
          have hbF4 := blk_below hbF3 hB4
          have hbT4 := blk_below hbT3 hB4
          have hBF4 := below_step hBF3 hB4
          clear x0 x1 x2 x3 xf xl y0 y1 y2 y3 yf yl hbF hbT hBF hbT3 hbF3 hBF3 hB4 HF htl
          obtain ⟨x0, x1, x2, x3, xf, xl⟩ := open4 hbF4
          obtain ⟨y0, y1, y2, y3, yf, yl⟩ := open4 hbT4
          have HF := Lib.hid (And.intro hbF4 (And.intro hbT4 hBF4))
          clear hbF4 hbT4 hBF4
          go_wp2
          obtain ⟨hbF0, hbT, hBF0⟩ := HF.out
          have hbF := blk_far hbF0 (p := ⟨w1.heap.size, 0, none⟩) (by show w.heap.size ≠ w1.heap.size; omega) (.int .i64 4)
          have hBF := hBF0.setCell (p := ⟨w1.heap.size, 0, none⟩) (Nat.le_of_lt hs1) (.int .i64 4)
          clear x0 x1 x2 x3 xf xl y0 y1 y2 y3 yf yl HF hbF0 hBF0
          have hz5 := set4 (u0 := .int .i64 4) (u1 := .string (s.extract a (a + m))) (u2 := .int .i64 0) (u3 := .int .i64 (a : Int)) hbF
          have hB5 := (((hBF.setCell (p := ⟨w.heap.size, 0, none⟩) (Nat.le_refl _) (.int .i64 4)).setCell (p := ⟨w.heap.size, 1, none⟩) (Nat.le_refl _) (.string (s.extract a (a + m)))).setCell (p := ⟨w.heap.size, 2, none⟩) (Nat.le_refl _) (.int .i64 0)).setCell (p := ⟨w.heap.size, 3, none⟩) (Nat.le_refl _) (.int .i64 (a : Int))
          obtain ⟨W5, hW⟩ : ∃ W5, W5 = (((((w4.setCell ⟨w1.heap.size, 0, none⟩ (.int .i64 4)).setCell ⟨w.heap.size, 0, none⟩ (.int .i64 4)).setCell ⟨w.heap.size, 1, none⟩ (.string (s.extract a (a + m)))).setCell ⟨w.heap.size, 2, none⟩ (.int .i64 0)).setCell ⟨w.heap.size, 3, none⟩ (.int .i64 (a : Int))) := ⟨_, rfl⟩
          rw [← hW] at hz5 hB5 ⊢
          clear hW
          obtain ⟨k0, k1, k2, k3, kf, kl⟩ := open4 hz5
          refine bodyPost_ret (v := .tuple #[.agg #[.int .i64 4, .string (s.extract a (a + m)), .int .i64 0, .int .i64 (a : Int)], .int .i64 0]) (by simp [results, Tryd.results19, go_sem, k0, k1, k2, k3]) rfl ?_
          rw [HV.out]
          exact ⟨rfl, hB5⟩
        · have hwb' : wordsL.contains L = false := by simpa using hwb
          rw [if_neg hwb] at hwd hwe
          have hV2 : V = .tuple #[.agg #[.int .i64 C, .string (s.extract a (a + m)), .int .i64 0, .int .i64 (a : Int)], .int .i64 0] := by
            rw [HC.out, hV]
            by_cases hu : upI (b.toNat : Int) = true
            · rw [hwd _ (by rw [if_pos hu]), if_pos hu]
            · rw [hwd _ (by rw [if_neg hu]), if_neg hu]
          have HV := Lib.hid hV2
          have HWB := Lib.hid hwb'
          clear hV hwd hwe hwb hwb' hV2 HC
          go_wp2_with fail
          refine (HW.out _).mono ?_
          rintro e w4 ⟨rfl, hB4⟩
          rw [htl, HWB.out]
          obtain ⟨hbF, hbT, hBF⟩ := HF.out
          have hbT3 := blk_put hbT 0 (.int .i64 C) rfl
          have hbF3 := blk_far hbF (p := ⟨w1.heap.size, 0, none⟩) (by show w.heap.size ≠ w1.heap.size; omega) (.int .i64 C)
          have hBF3 := hBF.setCell (p := ⟨w1.heap.size, 0, none⟩) (Nat.le_of_lt hs1) (.int .i64 C)
          have hbF4 := blk_below hbF3 hB4
          have hbT4 := blk_below hbT3 hB4
          have hBF4 := below_step hBF3 hB4
          clear x0 x1 x2 x3 xf xl y0 y1 y2 y3 yf yl hbF hbT hBF hbT3 hbF3 hBF3 hB4 HF htl
          obtain ⟨x0, x1, x2, x3, xf, xl⟩ := open4 hbF4
          obtain ⟨y0, y1, y2, y3, yf, yl⟩ := open4 hbT4
          have HF := Lib.hid (And.intro hbF4 (And.intro hbT4 hBF4))
          clear hbF4 hbT4 hBF4
          go_wp2
          obtain ⟨hbF, hbT, hBF⟩ := HF.out
          clear x0 x1 x2 x3 xf xl y0 y1 y2 y3 yf yl HF
          have hz5 := set4 (u0 := .int .i64 C) (u1 := .string (s.extract a (a + m))) (u2 := .int .i64 0) (u3 := .int .i64 (a : Int)) hbF
          have hB5 := (((hBF.setCell (p := ⟨w.heap.size, 0, none⟩) (Nat.le_refl _) (.int .i64 C)).setCell (p := ⟨w.heap.size, 1, none⟩) (Nat.le_refl _) (.string (s.extract a (a + m)))).setCell (p := ⟨w.heap.size, 2, none⟩) (Nat.le_refl _) (.int .i64 0)).setCell (p := ⟨w.heap.size, 3, none⟩) (Nat.le_refl _) (.int .i64 (a : Int))
          obtain ⟨W5, hW⟩ : ∃ W5, W5 = ((((w4.setCell ⟨w.heap.size, 0, none⟩ (.int .i64 C)).setCell ⟨w.heap.size, 1, none⟩ (.string (s.extract a (a + m)))).setCell ⟨w.heap.size, 2, none⟩ (.int .i64 0)).setCell ⟨w.heap.size, 3, none⟩ (.int .i64 (a : Int))) := ⟨_, rfl⟩
          rw [← hW] at hz5 hB5 ⊢
          clear hW
          obtain ⟨k0, k1, k2, k3, kf, kl⟩ := open4 hz5
          refine bodyPost_ret (v := .tuple #[.agg #[.int .i64 C, .string (s.extract a (a + m)), .int .i64 0, .int .i64 (a : Int)], .int .i64 0]) (by simp [results, Tryd.results19, go_sem, k0, k1, k2, k3]) rfl ?_
          rw [HV.out]
          exact ⟨rfl, hB5⟩
end Go.Proofs.YtajcnjdinmgpjaaDoor.X
/- The reference's words: the walk of All. -/
namespace Go.Proofs.YtajcnjdinmgpjaaDoor.X
open Go.RowKit Go.Proofs.YtajcnjdinmgpjaaDoorW.PrintWords Go.Proofs.YtajcnjdinmgpjaaDoorW.PrintLast Go.Proofs.YtajcnjdinmgpjaaDoorW.PrintMore Go.Proofs.YtajcnjdinmgpjaaDoor.P
theorem rest_list (s : ByteArray) (a : Nat) : (rest (s.extract a s.size)).data.toList = (s.data.toList.drop a).dropWhile isBlank := by
  unfold rest
  rw [extract_list]
  rfl
theorem skip_list (s : ByteArray) (a : Nat) : skip s a = s.size - ((s.data.toList.drop a).dropWhile isBlank).length := by
  unfold skip
  rw [← rest_list]
  rfl
theorem skip_blank (s : ByteArray) (a : Nat) (b : UInt8) (h : s.data.toList.drop a = b :: s.data.toList.drop (a + 1)) (hb : isBlank b = true) : skip s a = skip s (a + 1) := by
  rw [skip_list, skip_list, h, List.dropWhile_cons, if_pos hb]
theorem skip_here (s : ByteArray) (a : Nat) (ha : a ≤ s.size) (b : UInt8) (h : s.data.toList.drop a = b :: s.data.toList.drop (a + 1)) (hb : isBlank b = false) : skip s a = a := by
  rw [skip_list, h, List.dropWhile_cons, if_neg (by rw [hb]; decide), ← h, List.length_drop]
  have : s.data.toList.length = s.size := rfl
  omega
theorem skip_end (s : ByteArray) : skip s s.size = s.size := by
  rw [skip_list, List.drop_eq_nil_of_le (show s.data.toList.length ≤ s.size from Nat.le_refl _)]
  simp
theorem lexLoop_blank (s : ByteArray) (a : Nat) (b : UInt8) (h : s.data.toList.drop a = b :: s.data.toList.drop (a + 1)) (hb : isBlank b = true) (m : Nat) (xs : List Tok) : lexLoop s m a xs = lexLoop s m (a + 1) xs := by
  cases m with
  | zero => rfl
  | succ m =>
    unfold lexLoop
    rw [skip_blank s a b h hb]
theorem cls_blank (b : UInt8) : cls (b.toNat : Int) = 4 ↔ isBlank b = true := by
  have : isBlank b = true ↔ (b.toNat = 32 ∨ b.toNat = 10 ∨ b.toNat = 9) := by
    unfold isBlank blanks
    simp only [List.contains_cons, List.contains_nil, Bool.or_false, Bool.or_eq_true, beq_iff_eq]
    rw [← UInt8.toNat_inj, ← UInt8.toNat_inj, ← UInt8.toNat_inj]
    rfl
  rw [this]
  unfold cls lowI upI digI
  simp
  split <;> (try split) <;> (try split) <;> (try split) <;> omega
theorem NK_empty (W : World) (lo : Nat) (h : lo ≤ W.heap.size) : NK (W.alloc (.cells #[] 34)) lo (.slice (some ⟨W.heap.size, 0, none⟩) 0 0) [] := by
  refine Kd.R_N ⟨fun k hk => ?_, [], ?_, Reps.none _ _⟩
  · have : W.heap.size = k := by simpa [Value.ownBlock] using hk
    show lo ≤ k
    omega
  · have h2 := World.ownsRow_lit (base := lo) (e := 34) (size := 4) W #[] 0 h (by simp) (by simp)
    have h3 : (W.alloc (.cells #[] 34)).ownsRow lo 34 4 (.slice (some ⟨W.heap.size, 0, none⟩) 0 0) 0 [] := by simpa using h2
    exact h3
def RAt (s : ByteArray) (fin : Except (Nat × Int) (List Tok)) (w : World) (gf : Nat) (wx : World) (a : Nat) (V : Value) : Prop :=
  ∃ xs m, lexLoop s m a xs = fin ∧ a ≤ s.size ∧ s.size < a + m ∧ s.size < a + gf ∧ xs.length ≤ a ∧ NK wx w.heap.size V xs ∧ Below w.heap.size w wx
/-- one token more -/
theorem refNext {w w2 w5 : World} {V : Value} {A1 : Option Addr} {c1 : Nat} {xs ps : List Tok} {t0 t2 t3 : Int} {t1 : ByteArray}
    (H : NK w2 w.heap.size V xs ∧ Below w.heap.size w w2)
    (hg5 : (w2.alloc (.cells #[.int .i64 t0, .string t1, .int .i64 t2, .int .i64 t3] 34)).grownBy w5 V.ownBlock) (hN5 : NK w5 w.heap.size (.slice A1 (xs.length + 1) c1) ps) :
    w5.cell? ⟨w2.heap.size, 1, none⟩ = some (.string t1) ∧ NK w5 w.heap.size (.slice A1 (xs.length + 1) c1) ps ∧ Below w.heap.size w w5 := by
  obtain ⟨hN, hB⟩ := H
  have own : ∀ k, V.ownBlock = some k → w.heap.size ≤ k ∧ k < w2.heap.size := fun k hk => ⟨hN.1 k hk, Kd.N_lt hN k hk⟩
  have bt := blk_grown (blk_new w2 _) hg5 (fun e => by have := own _ e.symm; omega)
  have hB5 := (hB.alloc hB.size (.cells #[.int .i64 t0, .string t1, .int .i64 t2, .int .i64 t3] 34)).grown hg5 (by simp; have := hB.size; omega) (fun k hk => (own k hk).1)
  exact ⟨cz bt 1 rfl, hN5, hB5⟩
theorem oneV_ok {s : ByteArray} {a : Nat} (hpos : 0 < (s.extract a s.size).size) {t : Tok} (h : lexFirst (s.extract a s.size) = .ok t) : oneV s a = .tuple #[.agg #[.int .i64 t.f0, .string t.f1, .int .i64 t.f2, .int .i64 (a : Int)], .int .i64 0] := by
  rw [lexFirst_spec _ hpos, extract_list] at h
  unfold oneV
  cases hs : specF (s.data.toList.drop a) with
  | error c => rw [hs] at h; cases h
  | ok p =>
    obtain ⟨k, m, n⟩ := p
    rw [hs] at h
    injection h with h
    subst h
    have : s.extract a (a + m) = (s.extract a s.size).extract 0 m := bytes_ext (by rw [sub_list, take_list, extract_list])
    show Value.tuple #[.agg #[.int .i64 k, .string (s.extract a (a + m)), .int .i64 n, .int .i64 (a : Int)], .int .i64 0] = _
    rw [this]
theorem oneV_err {s : ByteArray} {a : Nat} (hpos : 0 < (s.extract a s.size).size) {c : Int} (h : lexFirst (s.extract a s.size) = .error c) : oneV s a = .tuple #[.agg #[.int .i64 0, .string ⟨#[]⟩, .int .i64 0, .int .i64 0], .int .i64 c] := by
  rw [lexFirst_spec _ hpos, extract_list] at h
  unfold oneV
  cases hs : specF (s.data.toList.drop a) with
  | error c' => rw [hs] at h; cases h; rfl
  | ok p => obtain ⟨k, m, n⟩ := p; rw [hs] at h; cases h
set_option maxRecDepth 100000 in
set_option maxHeartbeats 4000000 in
theorem RAll_calls (s : ByteArray) (hs : s.size ≤ 1000000000) (w : World) : Calls Tryd.prog 8 #[.string s] w (ARel w (lexAll s)) := by
  obtain ⟨R, hR⟩ : ∃ R, R = lexAll s := ⟨_, rfl⟩
  rw [← hR]
  unfold lexAll at hR
  have HR := Lib.hid hR
  clear hR
  go_enter Tryd.func8, Tryd.ntmps8
  go_wp2_with fail
  have hst : RAt s R w (s.size + 1) (w.alloc (.cells #[] 34)) 0 (.slice (some ⟨w.heap.size, 0, none⟩) 0 0) :=
    ⟨[], s.size + 1, HR.out.symm, by omega, by omega, by omega, by simp, NK_empty w _ (Nat.le_refl _), below_alloc (Below.refl _ _) _⟩
  have HS := Lib.hid hst
  clear hst
  go_loopg [5, 6] (s.size + 1) (fun gf v5 v6 wx => ∃ a : Nat, v6 = .int .i64 (a : Int) ∧ RAt s R w gf wx a v5)
  case atStart => exact ⟨0, rfl, HS.out⟩
  case round =>
    obtain ⟨a, rfl, xs, m, hf, ha, hm, hg, hx, hN, hB⟩ := hrel
    clear HS HR
    obtain ⟨g', rfl⟩ : ∃ g', gk = g' + 1 := ⟨gk - 1, by omega⟩
    obtain ⟨m', rfl⟩ : ∃ m', m = m' + 1 := ⟨m - 1, by omega⟩
    obtain ⟨A, cc, rfl⟩ := Kd.N_slice hN
    by_cases hlt : a < s.size
    · obtain ⟨b, hbd, hbt⟩ := bt_drop s a hlt
      have hat : ((s[a]'hlt).toNat : Int) = (b.toNat : Int) := by
        have := bt_at s (a : Int) (by simpa using hlt)
        rw [hbt] at this
        exact this
      have HAT := Lib.hid hat
      have HBD := Lib.hid hbd
      have HN := Lib.hid (And.intro hN hB)
      clear hat hbt hbd hN hB
      by_cases hbl : isBlank b = true
      · have hc := (cls_blank b).2 hbl
        rw [lexLoop_blank s a b HBD.out hbl] at hf
        have HF := Lib.hid hf
        have HC := Lib.hid hc
        clear hf hc hbl
        go_wp2_with fail
        rw [HAT.out]
        refine (class_calls _ _).mono ?_
        rintro e w1 ⟨rfl, hB1⟩
        rw [HC.out]
        go_wp2_with fail
        go_roundg g'
        case measure => omega
        case rel => exact ⟨a + 1, by go_num, xs, m' + 1, HF.out, by omega, by omega, by omega, by omega, Kd.N_below HN.out.1 hB1, below_step HN.out.2 hB1⟩
      · have hbl' : isBlank b = false := by simpa using hbl
        have hc : (cls (b.toNat : Int) == 4) = false := by simpa using fun h => hbl ((cls_blank b).1 h)
        unfold lexLoop at hf
        rw [skip_here s a ha b HBD.out hbl', if_neg (by omega)] at hf
        have hpos : 0 < (s.extract a s.size).size := by rw [extract_size s a ha]; omega
        have HO := ROne_calls s a hs hlt
        cases hfi : lexFirst (s.extract a s.size) with
        | error c =>
          have hce := lexFirst_err hfi
          rw [hfi] at hf
          rw [oneV_err hpos hfi] at HO
          have HO' := Lib.hid HO
          have HF := Lib.hid hf
          have nc : (c == 0) = false := by rcases hce with rfl | rfl <;> rfl
          clear hf HO hfi hpos hbl hbl' hce HBD
          go_wp2_with fail
          rw [HAT.out]
          refine (class_calls _ _).mono ?_
          rintro e w1 ⟨rfl, hB1⟩
          obtain ⟨K, hK⟩ : ∃ K, K = cls (b.toNat : Int) := ⟨_, rfl⟩
          rw [← hK] at hc ⊢
          clear hK
          go_wp2_with fail
          refine (HO'.out _).mono ?_
          rintro e w2 ⟨rfl, hB2⟩
          have hBB := below_step (below_step HN.out.2 hB1) hB2
          have hB3 := hBB.alloc hBB.size (.cells #[.int .i64 0, .string ⟨#[]⟩, .int .i64 0, .int .i64 0] 34)
          have HB3 := Lib.hid hB3
          clear hBB hB3 hB1 hB2
          go_wp2
          refine bodyPost_ret (v := .tuple #[.slice none 0 0, .int .i64 (a : Int), .int .i64 c]) (by simp [results, Tryd.results8, go_sem]) rfl ?_
          rw [← HF.out]
          exact ⟨rfl, HB3.out⟩
        | ok t =>
          rw [hfi] at hf
          rw [oneV_ok hpos hfi] at HO
          have hts := lexFirst_size hpos hfi
          rw [extract_size s a ha] at hts
          have HO' := Lib.hid HO
          have HF := Lib.hid hf
          clear hf HO hfi hpos hbl hbl' HBD
          go_wp2_with fail
          rw [HAT.out]
          refine (class_calls _ _).mono ?_
          rintro e w1 ⟨rfl, hB1⟩
          obtain ⟨K, hK⟩ : ∃ K, K = cls (b.toNat : Int) := ⟨_, rfl⟩
          rw [← hK] at hc ⊢
          clear hK
          go_wp2_with fail
          refine (HO'.out _).mono ?_
          rintro e w2 ⟨rfl, hB2⟩
          have hN2 := Kd.N_below (Kd.N_below HN.out.1 hB1) hB2
          have hBB := below_step (below_step HN.out.2 hB1) hB2
          have hsz := hBB.size
          have HNB := Lib.hid (And.intro hN2 hBB)
          clear hN2 hBB hB1 hB2 HN HO'
          go_wp2_with (at_builtin; refine TK_append (W := w2.alloc (.cells #[.int .i64 t.f0, .string t.f1, .int .i64 t.f2, .int .i64 (a : Int)] 34)) w.heap.size (w2.heap.size + 1) (World.size_alloc _ _) rfl _ _ rfl Tryd.underlying29 infoTok (.slice A xs.length cc) xs ⟨t.f0, t.f1, t.f2, (a : Int)⟩ rfl rfl (Kd.N_alloc HNB.out.1 _) (by omega) (by omega) ?_; (intro A1 c1 w5 hN5 hg5); (obtain ⟨y1, FF⟩ := refNext HNB.out hg5 hN5); (have HFF := Lib.hid FF); (clear FF hg5 hN5 HNB))
          go_roundg g'
          case measure => omega
          case rel => exact ⟨a + t.f1.size, by go_num, xs ++ [⟨t.f0, t.f1, t.f2, (a : Int)⟩], m', HF.out, by omega, by omega, by omega, by simp; omega, HFF.out⟩
    · obtain rfl : a = s.size := by omega
      unfold lexLoop at hf
      rw [skip_end, if_pos rfl] at hf
      have HF := Lib.hid hf
      have HN := Lib.hid (And.intro hN hB)
      clear hf hN hB hlt
      go_wp2
      refine bodyPost_ret (v := .tuple #[.slice A xs.length cc, .int .i64 0, .int .i64 0]) (by simp [results, Tryd.results8, go_sem]) rfl ?_
      rw [← HF.out]
      exact ⟨A, cc, rfl, (Kd.N_reads' HN.out.1).2.1, (Kd.N_reads' HN.out.1).2.2, HN.out.2⟩
end Go.Proofs.YtajcnjdinmgpjaaDoor.X
/- What comes behind is of no moment to where nothing goes on. -/
namespace Go.Proofs.YtajcnjdinmgpjaaDoor.X
open Go.Proofs.YtajcnjdinmgpjaaDoor.P
def PR.rest : PR → List Tok
  | .ok _ r => r
  | .fail r => r
def PR.add (m : List Tok) : PR → PR
  | .ok t r => .ok t (r ++ m)
  | .fail r => .fail (r ++ m)
def Ext (m : List Tok) (R : List Tok → PR) : Prop := (R []).rest = [] ∧ ∀ l, l ≠ [] → (R l).rest = [] ∨ R (l ++ m) = (R l).add m
set_option linter.unusedVariables false
variable {m : List Tok}
theorem ext_bind {R : List Tok → PR} {f : Tree → List Tok → PR} (hR : Ext m R) (hf : ∀ t, Ext m (f t)) : Ext m (fun l => (R l).bind f) := by
  refine ⟨?_, fun l hl => ?_⟩
  · have h := hR.1
    show ((R []).bind f).rest = []
    cases hr : R [] with
    | ok t r => rw [hr] at h; have : r = [] := h; subst this; exact (hf t).1
    | fail r => rw [hr] at h; exact h
  · rcases hR.2 l hl with h | h
    · left
      show ((R l).bind f).rest = []
      cases hr : R l with
      | ok t r => rw [hr] at h; have : r = [] := h; subst this; exact (hf t).1
      | fail r => rw [hr] at h; exact h
    · show ((R l).bind f).rest = [] ∨ (R (l ++ m)).bind f = ((R l).bind f).add m
      rw [h]
      cases hr : R l with
      | fail r => right; rfl
      | ok t r =>
        show (f t r).rest = [] ∨ f t (r ++ m) = (f t r).add m
        by_cases hn : r = []
        · subst hn; exact .inl (hf t).1
        · exact (hf t).2 r hn
theorem ext_dep {α : Type} (c : List Tok → α) (hc : ∀ l, l ≠ [] → c (l ++ m) = c l) (G : α → List Tok → PR) (hG : ∀ x, Ext m (G x)) : Ext m (fun l => G (c l) l) := by
  refine ⟨(hG _).1, fun l hl => ?_⟩
  show (G (c l) l).rest = [] ∨ G (c (l ++ m)) (l ++ m) = (G (c l) l).add m
  rw [hc l hl]
  exact (hG _).2 l hl
theorem ext_ok (t : Tree) : Ext m (fun l => .ok t l) := ⟨rfl, fun _ _ => .inr rfl⟩
theorem ext_fail : Ext m (fun l => .fail l) := ⟨rfl, fun _ _ => .inr rfl⟩
theorem ext_tail {f : List Tok → PR} (hf : Ext m f) : Ext m (fun l => f l.tail) := by
  refine ⟨hf.1, fun l hl => ?_⟩
  cases l with
  | nil => exact absurd rfl hl
  | cons a r =>
    show (f r).rest = [] ∨ f (r ++ m) = (f r).add m
    by_cases hn : r = []
    · subst hn; exact .inl hf.1
    · exact hf.2 r hn
theorem isW_add (s : ByteArray) (l : List Tok) (hl : l ≠ []) : isW (l ++ m) s = isW l s := by
  cases l with
  | nil => exact absurd rfl hl
  | cons a r => rfl
theorem kd_add (l : List Tok) (hl : l ≠ []) : kd (l ++ m) = kd l := by
  cases l with
  | nil => exact absurd rfl hl
  | cons a r => rfl
theorem hd_add (l : List Tok) (hl : l ≠ []) : hd (l ++ m) 0 = hd l 0 := by
  cases l with
  | nil => exact absurd rfl hl
  | cons a r => rfl
theorem tx_add (l : List Tok) (hl : l ≠ []) : tx (l ++ m) = tx l := by
  cases l with
  | nil => exact absurd rfl hl
  | cons a r => rfl
theorem atomB_add (l : List Tok) (hl : l ≠ []) : atomB (l ++ m) = atomB l := by unfold atomB; rw [isW_add _ l hl, kd_add l hl]
theorem ext_if {A B : List Tok → PR} (c : List Tok → Bool) (hc : ∀ l, l ≠ [] → c (l ++ m) = c l) (hA : Ext m A) (hB : Ext m B) : Ext m (fun l => if c l = true then A l else B l) :=
  ext_dep c hc (fun b l => if b = true then A l else B l) (fun b => by cases b; exact hB; exact hA)
theorem ext_word (s : ByteArray) {f : List Tok → PR} (hf : Ext m f) : Ext m (fun l => word s l f) := ext_if (fun l => isW l s) (isW_add s) (ext_tail hf) ext_fail
theorem ext_kindP (k : Int) {f : Tok → List Tok → PR} (hf : ∀ x, Ext m (f x)) : Ext m (fun l => kindP k l f) := by
  have h := ext_dep (m := m) (fun l => (decide (kd l = k), hd l 0)) (fun l hl => by rw [kd_add l hl, hd_add l hl]) (fun p l => if p.1 = true then f p.2 l.tail else .fail l) (fun p => by
    obtain ⟨b, x⟩ := p
    cases b
    · exact ext_fail
    · exact ext_tail (hf x))
  have e : (fun l => kindP k l f) = fun l => if decide (kd l = k) = true then f (hd l 0) l.tail else PR.fail l := by
    funext l
    unfold kindP
    by_cases h : kd l = k <;> simp [h]
  rw [e]
  exact h
theorem ext_atom {ex : List Tok → PR} (hex : Ext m ex) : Ext m (pAtom ex) := by
  have h1 : Ext m (fun l => (ex l.tail).bind fun t l' => word ⟨#[41]⟩ l' fun r => .ok t r) := ext_bind (ext_tail hex) (fun t => ext_word _ (ext_ok t))
  have h2 : Ext m (fun l => match l with
    | [] => .fail []
    | x :: r => if x.f0 = 1 then .ok ⟨1, x.f1, 0, x.f3, []⟩ r else if x.f0 = 2 then .ok ⟨6, x.f1, 0, x.f3, []⟩ r else if x.f0 = 3 then .ok ⟨9, ⟨#[]⟩, x.f2, x.f3, []⟩ r else .fail l) := by
    refine ⟨rfl, fun l hl => ?_⟩
    cases l with
    | nil => exact absurd rfl hl
    | cons x r =>
      right
      show (if x.f0 = 1 then PR.ok ⟨1, x.f1, 0, x.f3, []⟩ (r ++ m) else if x.f0 = 2 then .ok ⟨6, x.f1, 0, x.f3, []⟩ (r ++ m) else if x.f0 = 3 then .ok ⟨9, ⟨#[]⟩, x.f2, x.f3, []⟩ (r ++ m) else .fail (x :: r ++ m)) = PR.add m (if x.f0 = 1 then .ok ⟨1, x.f1, 0, x.f3, []⟩ r else if x.f0 = 2 then .ok ⟨6, x.f1, 0, x.f3, []⟩ r else if x.f0 = 3 then .ok ⟨9, ⟨#[]⟩, x.f2, x.f3, []⟩ r else .fail (x :: r))
      by_cases k1 : x.f0 = 1
      · simp [k1, PR.add]
      · by_cases k2 : x.f0 = 2
        · simp [k2, PR.add]
        · by_cases k3 : x.f0 = 3
          · simp [k3, PR.add]
          · simp [k1, k2, k3, PR.add]
  exact ext_if (fun l => isW l ⟨#[40]⟩) (isW_add _) h1 h2
theorem ext_args {ex : List Tok → PR} (hex : Ext m ex) (c : Bool) : ∀ k t, Ext m (pArgs ex c k t)
  | 0, _ => ext_fail
  | k + 1, t => by
    have ih := ext_args hex c k
    refine ext_if (m := m) (B := fun l => PR.ok t l) atomB atomB_add ?_ (ext_ok t)
    cases c with
    | true =>
      by_cases h8 : t.f4.length < 8
      · have := ext_bind (ext_atom hex) (fun a => ih ⟨t.f0, t.f1, t.f2, t.f3, t.f4 ++ [a]⟩)
        simpa [h8] using this
      · have : Ext m (fun l => PR.fail l) := ext_fail
        simpa [h8] using this
    | false =>
      have := ext_bind (ext_atom hex) (fun a => ih ⟨3, ⟨#[]⟩, 0, t.f3, [t, a]⟩)
      simpa using this
/-- a loop's fuel is as much as there is to read -/
theorem ext_fuel {F : Nat → List Tok → PR} (hF : ∀ k, Ext m (F k)) (hm : ∀ k k' l, l.length < k → l.length < k' → F k l = F k' l) : Ext m (fun l => F (l.length + 1) l) := by
  refine ⟨(hF 1).1, fun l hl => ?_⟩
  have h := (hF ((l ++ m).length + 1)).2 l hl
  rw [hm ((l ++ m).length + 1) (l.length + 1) l (by simp; omega) (by omega)] at h
  exact h
theorem ext_app {ex : List Tok → PR} (hex : Ext m ex) (hsh : Sh ex) : Ext m (pApp ex) :=
  ext_dep (m := m) (fun l => kd l == 2) (fun l hl => by rw [kd_add l hl]) (fun c l => (pAtom ex l).bind fun t l' => pArgs ex c (l'.length + 1) t l')
    (fun c => ext_bind (ext_atom hex) (fun t => ext_fuel (F := fun k l => pArgs ex c k t l) (fun k => ext_args hex c k t) (fun k k' l h h' => args_fuel hsh c k k' t l h h')))
theorem ext_ops {right : List Tok → PR} (hr : Ext m right) (s1 s2 : ByteArray) : ∀ k t, Ext m (pOps right s1 s2 k t)
  | 0, _ => ext_fail
  | k + 1, t => by
    have ih := ext_ops hr s1 s2 k
    refine ext_if (m := m) (B := fun l => PR.ok t l) (fun l => isW l s1 || isW l s2) (fun l hl => by rw [isW_add _ l hl, isW_add _ l hl]) ?_ (ext_ok t)
    exact ext_dep (m := m) tx tx_add (fun x l => (right l.tail).bind fun b l' => pOps right s1 s2 k (opT x t b) l') (fun x => ext_bind (ext_tail hr) (fun b => ih _))
theorem ext_prod {ex : List Tok → PR} (hex : Ext m ex) (hsh : Sh ex) : Ext m (pProd ex) :=
  ext_bind (ext_app hex hsh) (fun t => ext_fuel (F := fun k l => pOps (pApp ex) ⟨#[42]⟩ ⟨#[47]⟩ k t l) (fun k => ext_ops (ext_app hex hsh) _ _ k t) (fun k k' l h h' => ops_fuel (sh_app hsh) _ _ k k' t l h h'))
theorem ext_sum {ex : List Tok → PR} (hex : Ext m ex) (hsh : Sh ex) : Ext m (pSum ex) :=
  ext_bind (ext_prod hex hsh) (fun t => ext_fuel (F := fun k l => pOps (pProd ex) ⟨#[43]⟩ ⟨#[45]⟩ k t l) (fun k => ext_ops (ext_prod hex hsh) _ _ k t) (fun k k' l h h' => ops_fuel (sh_prod hsh) _ _ k k' t l h h'))
theorem ext_cmp {ex : List Tok → PR} (hex : Ext m ex) (hsh : Sh ex) : Ext m (pCmp ex) :=
  ext_bind (ext_sum hex hsh) (fun t => ext_if (m := m) (B := fun l => PR.ok t l) (fun l => isW l ⟨#[60]⟩ || isW l ⟨#[61, 61]⟩) (fun l hl => by rw [isW_add _ l hl, isW_add _ l hl])
    (ext_dep (m := m) tx tx_add (fun x l => (pSum ex l.tail).bind fun b r => .ok (opT x t b) r) (fun x => ext_bind (ext_tail (ext_sum hex hsh)) (fun b => ext_ok _))) (ext_ok t))
theorem ext_lam {ex : List Tok → PR} (hex : Ext m ex) : Ext m (pLam ex) :=
  ext_dep (m := m) (fun l => hd l 0) hd_add (fun h l => word ⟨#[92]⟩ l fun l1 => kindP 1 l1 fun x l2 => word ⟨#[46]⟩ l2 fun l3 => (ex l3).bind fun b r => .ok ⟨2, x.f1, 0, h.f3, [b]⟩ r)
    (fun h => ext_word _ (ext_kindP 1 (fun x => ext_word _ (ext_bind hex (fun b => ext_ok _)))))
theorem ext_let {ex : List Tok → PR} (hex : Ext m ex) (k : Int) : Ext m (pLet ex k) :=
  ext_dep (m := m) (fun l => hd l 0) hd_add (fun h l => kindP 1 l.tail fun x l2 => word ⟨#[61]⟩ l2 fun l3 => (ex l3).bind fun a l4 => word ⟨#[105, 110]⟩ l4 fun l5 => (ex l5).bind fun b r => .ok ⟨k, x.f1, 0, h.f3, [a, b]⟩ r)
    (fun h => ext_tail (f := fun l => kindP 1 l fun x l2 => word ⟨#[61]⟩ l2 fun l3 => (ex l3).bind fun a l4 => word ⟨#[105, 110]⟩ l4 fun l5 => (ex l5).bind fun b r => .ok ⟨k, x.f1, 0, h.f3, [a, b]⟩ r)
      (ext_kindP 1 (fun x => ext_word _ (ext_bind hex (fun a => ext_word _ (ext_bind hex (fun b => ext_ok _)))))))
theorem ext_vars {f : List Tree → List Tok → PR} (hf : ∀ vs, Ext m (f vs)) : ∀ k vs, Ext m (pVars f k vs)
  | 0, _ => ext_fail
  | k + 1, vs => by
    have ih := ext_vars hf k
    have h := ext_dep (m := m) (fun l => (decide (kd l = 1), hd l 0)) (fun l hl => by rw [kd_add l hl, hd_add l hl])
      (fun p l => if p.1 = true then (if vs.length < 8 then pVars f k (vs ++ [varT p.2]) l.tail else .fail l) else f vs l) (fun p => by
        obtain ⟨b, x⟩ := p
        cases b
        · exact hf vs
        · by_cases h8 : vs.length < 8
          · have := ext_tail (ih (vs ++ [varT x]))
            simpa [h8] using this
          · have : Ext m (fun l => PR.fail l) := ext_fail
            simpa [h8] using this)
    have e : pVars f (k + 1) vs = fun l => if decide (kd l = 1) = true then (if vs.length < 8 then pVars f k (vs ++ [varT (hd l 0)]) l.tail else .fail l) else f vs l := by
      funext l
      rw [pVars]
      by_cases h : kd l = 1 <;> simp [h]
    rw [e]
    exact h
theorem vars_fuel {f : List Tree → List Tok → PR} : ∀ k k' vs l, l.length < k → l.length < k' → pVars f k vs l = pVars f k' vs l
  | 0, _, _, _, h, _ => by omega
  | _ + 1, 0, _, _, _, h => by omega
  | k + 1, k' + 1, vs, l, h, h' => by
    unfold pVars
    by_cases hk : kd l = 1
    · have := kd_tail hk (by decide)
      rw [if_pos hk, if_pos hk, vars_fuel k k' _ l.tail (by omega) (by omega)]
    · rw [if_neg hk, if_neg hk]
theorem ext_alt {ex : List Tok → PR} (hex : Ext m ex) : Ext m (pAlt ex) :=
  ext_kindP 2 (fun c => ext_fuel (F := fun k l => pVars (fun vs l2 => word ⟨#[45, 62]⟩ l2 fun l3 => (ex l3).bind fun b r => .ok ⟨8, c.f1, (vs.length : Int), c.f3, vs ++ [b]⟩ r) k [] l)
    (fun k => ext_vars (fun vs => ext_word _ (ext_bind hex (fun b => ext_ok _))) k []) (fun k k' l h h' => vars_fuel k k' [] l h h'))
theorem ext_alts {ex : List Tok → PR} (hex : Ext m ex) (a : Int) : ∀ k ts, Ext m (pAlts ex a k ts)
  | 0, _ => ext_fail
  | k + 1, ts => by
    have ih := ext_alts hex a k
    refine ext_if (m := m) (B := fun l => word ⟨#[125]⟩ l fun r => .ok ⟨7, ⟨#[]⟩, 0, a, ts⟩ r) (fun l => isW l ⟨#[124]⟩) (isW_add _) ?_ (ext_word _ (ext_ok _))
    by_cases h8 : ts.length ≤ 8
    · have := ext_bind (ext_tail (ext_alt hex)) (fun b => ih (ts ++ [b]))
      simpa [h8] using this
    · have : Ext m (fun l => PR.fail l) := ext_fail
      simpa [h8] using this
theorem ext_case {ex : List Tok → PR} (hex : Ext m ex) (hsh : Sh ex) : Ext m (pCase ex) :=
  ext_dep (m := m) (fun l => hd l 0) hd_add (fun h l => word ⟨#[99, 97, 115, 101]⟩ l fun l1 => (ex l1).bind fun a l2 => word ⟨#[111, 102]⟩ l2 fun l3 => word ⟨#[123]⟩ l3 fun l4 => (pAlt ex l4).bind fun b l5 => pAlts ex h.f3 (l5.length + 1) [a, b] l5)
    (fun h => ext_word _ (ext_bind hex (fun a => ext_word _ (ext_word _ (ext_bind (ext_alt hex) (fun b => ext_fuel (F := fun k l => pAlts ex h.f3 k [a, b] l) (fun k => ext_alts hex h.f3 k [a, b]) (fun k k' l h1 h2 => alts_fuel hsh h.f3 k k' [a, b] l h1 h2)))))))
theorem ext_expr : ∀ n, Ext m (pExpr n)
  | 0 => ext_fail
  | n + 1 => by
    have hex := ext_expr n
    have hsh := sh_expr n
    exact ext_if (m := m) (fun l => isW l ⟨#[92]⟩) (isW_add _) (ext_lam hex) (ext_if (m := m) (fun l => isW l ⟨#[108, 101, 116]⟩) (isW_add _) (ext_let hex 4)
      (ext_if (m := m) (fun l => isW l ⟨#[108, 101, 116, 114, 101, 99]⟩) (isW_add _) (ext_let hex 5) (ext_if (m := m) (fun l => isW l ⟨#[99, 97, 115, 101]⟩) (isW_add _) (ext_case hex hsh) (ext_cmp hex hsh))))
end Go.Proofs.YtajcnjdinmgpjaaDoor.X
/- The words of a text that goes on, and of one that is cut. -/
namespace Go.Proofs.YtajcnjdinmgpjaaDoor.X
open Go.Proofs.YtajcnjdinmgpjaaDoor.P
theorem specF_size {l : List UInt8} {k v : Int} {n : Nat} (h : specF l = .ok (k, n, v)) : 0 < n ∧ n ≤ l.length := by
  unfold specF at h
  split at h
  · split at h
    · cases h
    · cases h
      exact ⟨by omega, sgn_le l⟩
  · rename_i hz
    cases hs : specW (l.take (wl l)) with
    | ok p => rw [hs] at h; obtain ⟨a, b⟩ := p; cases h; exact ⟨by omega, wl_le l⟩
    | error c => rw [hs] at h; cases h
theorem takeWhile_of {p : UInt8 → Bool} : ∀ (a b : List UInt8), (∀ x ∈ a, p x = true) → (∀ x, b.head? = some x → p x = false) → (a ++ b).takeWhile p = a
  | [], [], _, _ => rfl
  | [], y :: b, _, hb => by rw [List.nil_append, List.takeWhile_cons, if_neg (by rw [hb y rfl]; decide)]
  | x :: a, b, ha, hb => by
    rw [List.cons_append, List.takeWhile_cons, if_pos (ha x (by simp)), takeWhile_of a b (fun z hz => ha z (by simp [hz])) hb]
theorem head_drop_takeWhile {p : UInt8 → Bool} : ∀ (l : List UInt8) x, (l.drop (l.takeWhile p).length).head? = some x → p x = false
  | [], x, h => by simp at h
  | y :: l, x, h => by
    by_cases hy : p y = true
    · rw [List.takeWhile_cons, if_pos hy, List.length_cons, List.drop_succ_cons] at h
      exact head_drop_takeWhile l x h
    · rw [List.takeWhile_cons, if_neg hy] at h
      simp at h
      rw [← h]
      simpa using hy
def sep (c : UInt8) : Prop := wB c = false ∧ c ≠ 62 ∧ c ≠ 61
def Nx (n : Nat) (l l' : List UInt8) : Prop := (l'.drop n).head? = none ∨ (l'.drop n).head? = (l.drop n).head? ∨ ∃ c, (l'.drop n).head? = some c ∧ sep c
/-- The front token hangs on its own bytes, and a little on the next one. -/
theorem specF_same {l l' : List UInt8} {k v : Int} {n : Nat} (h : specF l = .ok (k, n, v)) (ht : l'.take n = l.take n) (hx : Nx n l l') : specF l' = .ok (k, n, v) := by
  have hsz := specF_size h
  have hh : h0 l' = h0 l := by
    have e1 := head_take (l := l') hsz.1
    have e2 := head_take (l := l) hsz.1
    rw [← e1, ht, e2]
  have hsplit : l' = l.take n ++ l'.drop n := by rw [← ht, List.take_append_drop]
  by_cases hz : wl l = 0
  · have hs : sgn l ≠ 0 := by
      intro e
      rw [specF_none hz e] at h
      cases h
    rw [specF_sign hz hs] at h
    cases h
    cases l with
    | nil => exact absurd rfl hs
    | cons b r =>
      have hb : wB b = false := by
        unfold wl at hz
        rw [List.takeWhile_cons] at hz
        by_cases hw : wB b = true
        · rw [if_pos hw] at hz; simp at hz
        · simpa using hw
      have hl' : ∃ r', l' = b :: r' := by
        cases l' with
        | nil =>
          have := congrArg List.length ht
          simp at this
          omega
        | cons c r' =>
          refine ⟨r', ?_⟩
          have e : (c :: r').take (sgn (b :: r)) = (b :: r).take (sgn (b :: r)) := ht
          obtain ⟨j, hj⟩ : ∃ j, sgn (b :: r) = j + 1 := ⟨sgn (b :: r) - 1, by omega⟩
          rw [hj] at e
          simp at e
          rw [e.1]
      obtain ⟨r', rfl⟩ := hl'
      have hz' : wl (b :: r') = 0 := by unfold wl; rw [List.takeWhile_cons, if_neg (by rw [hb]; decide)]; rfl
      have hsg : sgn (b :: r') = sgn (b :: r) := by
        show (if (b = 45 ∧ r'.head? = some 62) ∨ (b = 61 ∧ r'.head? = some 61) then 2 else if sg1L.contains b then 1 else 0) = sgn (b :: r)
        have he : sgn (b :: r) = if (b = 45 ∧ r.head? = some 62) ∨ (b = 61 ∧ r.head? = some 61) then 2 else if sg1L.contains b then 1 else 0 := rfl
        by_cases h2 : (b = 45 ∧ r.head? = some 62) ∨ (b = 61 ∧ r.head? = some 61)
        · have h2' := h2
          rw [if_pos h2] at he
          rw [he] at ht
          have hr : r'.head? = r.head? := by
            cases r with
            | nil => simp at h2
            | cons c q =>
              cases r' with
              | nil => simp at ht
              | cons c' q' => simp at ht; simp [ht]
          rw [hr, if_pos h2, he]
        · rw [if_neg h2] at he
          by_cases hc : sg1L.contains b = true
          · rw [if_pos hc] at he
            rw [he] at hx
            have h3 : ¬ ((b = 45 ∧ r'.head? = some 62) ∨ (b = 61 ∧ r'.head? = some 61)) := by
              rcases hx with hx | hx | ⟨c, hx, _, hc1, hc2⟩
              · have : r'.head? = none := hx
                rw [this]; simp
              · have : r'.head? = r.head? := hx
                rw [this]; exact h2
              · have : r'.head? = some c := hx
                rw [this]
                rintro (⟨_, e⟩ | ⟨_, e⟩)
                · exact hc1 (Option.some.inj e)
                · exact hc2 (Option.some.inj e)
            rw [if_neg h3, if_pos hc, he]
          · rw [if_neg hc] at he
            exact absurd he hs
      rw [specF_sign hz' (by rw [hsg]; exact hs), hsg]
  · cases hw : specW (l.take (wl l)) with
    | error c => rw [specF_werr hz hw] at h; cases h
    | ok p =>
      obtain ⟨a, b⟩ := p
      rw [specF_word hz hw] at h
      cases h
      have hnx : ∀ x, (l'.drop (wl l)).head? = some x → wB x = false := by
        intro x hx'
        rcases hx with hx | hx | ⟨c, hx, hc, _, _⟩
        · rw [hx] at hx'; cases hx'
        · rw [hx] at hx'
          exact head_drop_takeWhile l x hx'
        · rw [hx] at hx'; cases hx'; exact hc
      have hwl : wl l' = wl l := by
        have e : l'.takeWhile wB = l.take (wl l) := by
          rw [hsplit]
          exact takeWhile_of _ _ (takeWhile_all l) hnx
        unfold wl
        rw [e, List.length_take]
        exact Nat.min_eq_left (wl_le l)
      rw [← hwl] at hz hw ht
      rw [← hwl, specF_word hz (by rw [ht]; exact hw)]
/-! ### all tokens, on lists -/
def mkTok (k : Int) (x : List UInt8) (v : Int) (o : Nat) : Tok := ⟨k, ⟨x.toArray⟩, v, (o : Int)⟩
def LL : Nat → List UInt8 → Nat → Except (Nat × Int) (List Tok)
  | 0, _, _ => .ok []
  | m + 1, l, off =>
    if l.dropWhile isBlank = [] then .ok []
    else match specF (l.dropWhile isBlank) with
      | .error c => .error (off + (l.length - (l.dropWhile isBlank).length), c)
      | .ok (k, n, v) => match LL m ((l.dropWhile isBlank).drop n) (off + (l.length - (l.dropWhile isBlank).length) + n) with
        | .error e => .error e
        | .ok ts => .ok (mkTok k ((l.dropWhile isBlank).take n) v (off + (l.length - (l.dropWhile isBlank).length)) :: ts)
theorem dw_le (l : List UInt8) : (l.dropWhile isBlank).length ≤ l.length := (List.dropWhile_suffix _).length_le
theorem lexLoop_LL (s : ByteArray) : ∀ (m a : Nat) (xs : List Tok), a ≤ s.size → lexLoop s m a xs = match LL m (s.data.toList.drop a) a with | .error e => .error e | .ok ts => .ok (xs ++ ts)
  | 0, a, xs, _ => by simp [lexLoop, LL]
  | m + 1, a, xs, ha => by
    have hsz : s.data.toList.length = s.size := rfl
    have hdl : (s.data.toList.drop a).length = s.size - a := by rw [List.length_drop]; rfl
    have hdw := dw_le (s.data.toList.drop a)
    have hsk : skip s a = a + ((s.data.toList.drop a).length - ((s.data.toList.drop a).dropWhile isBlank).length) := by rw [skip_list]; omega
    have hskd : s.data.toList.drop (skip s a) = (s.data.toList.drop a).dropWhile isBlank := by
      have h1 : (s.data.toList.drop a).dropWhile isBlank = (s.data.toList.drop a).drop ((s.data.toList.drop a).length - ((s.data.toList.drop a).dropWhile isBlank).length) := by
        have h2 : (s.data.toList.drop a).takeWhile isBlank ++ (s.data.toList.drop a).dropWhile isBlank = s.data.toList.drop a := List.takeWhile_append_dropWhile
        have h3 : ((s.data.toList.drop a).takeWhile isBlank).length + ((s.data.toList.drop a).dropWhile isBlank).length = (s.data.toList.drop a).length := by
          rw [← List.length_append, h2]
        have h4 : (s.data.toList.drop a).drop ((s.data.toList.drop a).takeWhile isBlank).length = (s.data.toList.drop a).dropWhile isBlank := by
          conv => lhs; arg 2; rw [← h2]
          rw [List.drop_left]
        rw [show ((s.data.toList.drop a).takeWhile isBlank).length = (s.data.toList.drop a).length - ((s.data.toList.drop a).dropWhile isBlank).length by omega] at h4
        exact h4.symm
      rw [h1, List.drop_drop, hsk]
    unfold lexLoop LL
    by_cases hnil : (s.data.toList.drop a).dropWhile isBlank = []
    · rw [if_pos (by rw [hsk, hnil, hdl]; simp; omega), if_pos hnil]
      simp
    · have hne : skip s a ≠ s.size := by
        intro e
        have : ((s.data.toList.drop a).dropWhile isBlank).length = 0 := by omega
        exact hnil (List.length_eq_zero_iff.1 this)
      have hle := skip_ge s a ha
      have hpos : 0 < (s.extract (skip s a) s.size).size := by rw [extract_size _ _ hle.2]; omega
      rw [if_neg hne, if_neg hnil, lexFirst_spec _ hpos, extract_list, hskd]
      cases hsp : specF ((s.data.toList.drop a).dropWhile isBlank) with
      | error c => simp only; rw [hsk]
      | ok p =>
        obtain ⟨k, n, v⟩ := p
        have hns := specF_size hsp
        simp only
        have hex : (s.extract (skip s a) s.size).extract 0 n = ⟨(((s.data.toList.drop a).dropWhile isBlank).take n).toArray⟩ := bytes_ext (by rw [take_list, extract_list, hskd])
        have hexs : ((s.extract (skip s a) s.size).extract 0 n).size = n := by
          have : ((s.extract (skip s a) s.size).extract 0 n).data.toList.length = n := by rw [take_list, extract_list, hskd, List.length_take]; omega
          exact this
        rw [lexLoop_LL s m _ _ (by rw [hexs]; omega), hexs, show s.data.toList.drop (skip s a + n) = ((s.data.toList.drop a).dropWhile isBlank).drop n by rw [← List.drop_drop, hskd], hsk]
        cases LL m (((s.data.toList.drop a).dropWhile isBlank).drop n) (a + ((s.data.toList.drop a).length - ((s.data.toList.drop a).dropWhile isBlank).length) + n) with
        | error e => rfl
        | ok ts =>
          simp only
          rw [← hsk, hex]
          simp [mkTok]
theorem LL_fuel : ∀ (m m' : Nat) (l : List UInt8) (off : Nat), l.length < m → l.length < m' → LL m l off = LL m' l off
  | 0, _, _, _, h, _ => by omega
  | _ + 1, 0, _, _, _, h => by omega
  | m + 1, m' + 1, l, off, h, h' => by
    unfold LL
    split
    · rfl
    · cases hsp : specF (l.dropWhile isBlank) with
      | error c => rfl
      | ok p =>
        obtain ⟨k, n, v⟩ := p
        have hns := specF_size hsp
        have := dw_le l
        simp only
        rw [LL_fuel m m' _ _ (by rw [List.length_drop]; omega) (by rw [List.length_drop]; omega)]
def LT (l : List UInt8) (off : Nat) : Except (Nat × Int) (List Tok) := LL (l.length + 1) l off
theorem lexAll_LT (s : ByteArray) : lexAll s = LT s.data.toList 0 := by
  unfold lexAll LT
  rw [lexLoop_LL s _ 0 [] (by omega), List.drop_zero]
  show _ = LL (s.size + 1) s.data.toList 0
  cases LL (s.size + 1) s.data.toList 0 with
  | error e => rfl
  | ok ts => simp
theorem LT_eq (l : List UInt8) (off : Nat) : LT l off = if l.dropWhile isBlank = [] then .ok []
    else match specF (l.dropWhile isBlank) with
      | .error c => .error (off + (l.length - (l.dropWhile isBlank).length), c)
      | .ok (k, n, v) => match LT ((l.dropWhile isBlank).drop n) (off + (l.length - (l.dropWhile isBlank).length) + n) with
        | .error e => .error e
        | .ok ts => .ok (mkTok k ((l.dropWhile isBlank).take n) v (off + (l.length - (l.dropWhile isBlank).length)) :: ts) := by
  unfold LT
  rw [LL]
  split
  · rfl
  · cases hsp : specF (l.dropWhile isBlank) with
    | error c => rfl
    | ok p =>
      obtain ⟨k, n, v⟩ := p
      have hns := specF_size hsp
      have := dw_le l
      simp only
      rw [LL_fuel l.length (((l.dropWhile isBlank).drop n).length + 1) _ _ (by rw [List.length_drop]; omega) (by omega)]
/-- the three ways of a text -/
theorem LT_cases {l : List UInt8} {off : Nat} {ts : List Tok} (h : LT l off = .ok ts) : (l.dropWhile isBlank = [] ∧ ts = []) ∨
    ∃ k n v ts', l.dropWhile isBlank ≠ [] ∧ specF (l.dropWhile isBlank) = .ok (k, n, v) ∧ LT ((l.dropWhile isBlank).drop n) (off + (l.length - (l.dropWhile isBlank).length) + n) = .ok ts' ∧ ts = mkTok k ((l.dropWhile isBlank).take n) v (off + (l.length - (l.dropWhile isBlank).length)) :: ts' := by
  rw [LT_eq] at h
  split at h
  · exact .inl ⟨‹_›, by cases h; rfl⟩
  · rename_i hne
    cases hsp : specF (l.dropWhile isBlank) with
    | error c => rw [hsp] at h; cases h
    | ok p =>
      obtain ⟨k, n, v⟩ := p
      rw [hsp] at h
      simp only at h
      cases hl : LT ((l.dropWhile isBlank).drop n) (off + (l.length - (l.dropWhile isBlank).length) + n) with
      | error e => rw [hl] at h; cases h
      | ok ts' =>
        rw [hl] at h
        cases h
        exact .inr ⟨k, n, v, ts', hne, rfl, hl, rfl⟩
theorem LT_next {l : List UInt8} {off : Nat} {k v : Int} {n : Nat} (hne : l.dropWhile isBlank ≠ []) (hs : specF (l.dropWhile isBlank) = .ok (k, n, v)) :
    LT l off = match LT ((l.dropWhile isBlank).drop n) (off + (l.length - (l.dropWhile isBlank).length) + n) with
        | .error e => .error e
        | .ok ts => .ok (mkTok k ((l.dropWhile isBlank).take n) v (off + (l.length - (l.dropWhile isBlank).length)) :: ts) := by
  rw [LT_eq, if_neg hne, hs]
theorem dw_append_nil {a b : List UInt8} (h : a.dropWhile isBlank = []) : (a ++ b).dropWhile isBlank = b.dropWhile isBlank := by
  rw [List.dropWhile_append, h]
  rfl
theorem dw_append_ne {a b : List UInt8} (h : a.dropWhile isBlank ≠ []) : (a ++ b).dropWhile isBlank = a.dropWhile isBlank ++ b := by
  rw [List.dropWhile_append]
  have : (a.dropWhile isBlank).isEmpty = false := by simpa using h
  rw [this]
  rfl
/-- A text that goes on behind a byte that parts words. -/
theorem LT_append (c : UInt8) (x : List UInt8) (hc : sep c) : ∀ (N : Nat) (s : List UInt8) (off : Nat) (ts : List Tok), s.length ≤ N → LT s off = .ok ts →
    LT (s ++ c :: x) off = match LT (c :: x) (off + s.length) with | .error e => .error e | .ok us => .ok (ts ++ us)
  | N, s, off, ts, hN, h => by
    rcases LT_cases h with ⟨h1, rfl⟩ | ⟨k, n, v, ts', h1, h2, h3, rfl⟩
    · have hd := dw_append_nil (b := c :: x) h1
      have hle := dw_le (c :: x)
      rw [LT_eq, hd, LT_eq (c :: x), show off + ((s ++ c :: x).length - ((c :: x).dropWhile isBlank).length) = off + s.length + ((c :: x).length - ((c :: x).dropWhile isBlank).length) by rw [List.length_append]; omega]
      split
      · rfl
      · cases specF ((c :: x).dropWhile isBlank) with
        | error e => rfl
        | ok p =>
          obtain ⟨k, n, v⟩ := p
          simp only
          split <;> rfl
    · have hns := specF_size h2
      have hd := dw_append_ne (b := c :: x) h1
      have hle := dw_le s
      have hds : ((s.dropWhile isBlank ++ c :: x).drop n) = (s.dropWhile isBlank).drop n ++ c :: x := List.drop_append_of_le_length hns.2
      have hsp : specF (s.dropWhile isBlank ++ c :: x) = .ok (k, n, v) := by
        refine specF_same h2 (List.take_append_of_le_length hns.2) ?_
        unfold Nx
        rw [hds]
        cases hr : (s.dropWhile isBlank).drop n with
        | nil => exact .inr (.inr ⟨c, rfl, hc⟩)
        | cons y r => exact .inr (.inl rfl)
      have hlen : off + ((s ++ c :: x).length - (s.dropWhile isBlank ++ c :: x).length) = off + (s.length - (s.dropWhile isBlank).length) := by
        rw [List.length_append, List.length_append]
        omega
      have hdl : ((s.dropWhile isBlank).drop n).length = (s.dropWhile isBlank).length - n := List.length_drop
      cases N with
      | zero => omega
      | succ N =>
      have ih := LT_append c x hc N ((s.dropWhile isBlank).drop n) (off + (s.length - (s.dropWhile isBlank).length) + n) ts' (by omega) h3
      rw [LT_next (by rw [hd]; simp) (by rw [hd]; exact hsp), hd, hlen, hds, ih, List.take_append_of_le_length hns.2, hdl, show off + (s.length - (s.dropWhile isBlank).length) + n + ((s.dropWhile isBlank).length - n) = off + s.length by omega]
      cases LT (c :: x) (off + s.length) with
      | error e => rfl
      | ok us => rfl
theorem LT_at : ∀ (N : Nat) (s : List UInt8) (off : Nat) (ts : List Tok), s.length ≤ N → LT s off = .ok ts → ∀ t ∈ ts, ∃ p : Nat, t.f3 = (p : Int) ∧ off ≤ p ∧ p < off + s.length
  | N, s, off, ts, hN, h => by
    rcases LT_cases h with ⟨h1, rfl⟩ | ⟨k, n, v, ts', h1, h2, h3, rfl⟩
    · intro t ht; cases ht
    · have hns := specF_size h2
      have hle := dw_le s
      have hdl : ((s.dropWhile isBlank).drop n).length = (s.dropWhile isBlank).length - n := List.length_drop
      intro t ht
      rcases List.mem_cons.1 ht with rfl | ht
      · exact ⟨_, rfl, by omega, by omega⟩
      · cases N with
        | zero => omega
        | succ N =>
          obtain ⟨p, e, h4, h5⟩ := LT_at N _ _ ts' (by omega) h3 t ht
          exact ⟨p, e, by omega, by omega⟩
theorem tw_len (s : List UInt8) : (s.takeWhile isBlank).length = s.length - (s.dropWhile isBlank).length := by
  have h2 : s.takeWhile isBlank ++ s.dropWhile isBlank = s := List.takeWhile_append_dropWhile
  have h3 : (s.takeWhile isBlank).length + (s.dropWhile isBlank).length = s.length := by rw [← List.length_append, h2]
  omega
theorem dw_nil : ∀ (l : List UInt8), (∀ x ∈ l, isBlank x = true) → l.dropWhile isBlank = []
  | [], _ => rfl
  | y :: l, h => by
    rw [List.dropWhile_cons, if_pos (h y (by simp))]
    exact dw_nil l (fun x hx => h x (by simp [hx]))
theorem tw_dw_nil (s : List UInt8) : (s.takeWhile isBlank).dropWhile isBlank = [] := dw_nil _ (fun b hb => List.all_eq_true.1 List.all_takeWhile b hb)
/-- A text that is cut where a token begins. -/
theorem LT_cut : ∀ (N : Nat) (s : List UInt8) (off : Nat) (l0 : List Tok) (t : Tok) (r' : List Tok) (p : Nat), s.length ≤ N → LT s off = .ok (l0 ++ t :: r') → t.f3 = (p : Int) → LT (s.take (p - off)) off = .ok l0
  | N, s, off, l0, t, r', p, hN, h, hp => by
    rcases LT_cases h with ⟨h1, e⟩ | ⟨k, n, v, ts', h1, h2, h3, e⟩
    · exact absurd e (by simp)
    · have hns := specF_size h2
      have hle := dw_le s
      have hdl : ((s.dropWhile isBlank).drop n).length = (s.dropWhile isBlank).length - n := List.length_drop
      have htw := tw_len s
      have hsp : s = s.takeWhile isBlank ++ s.dropWhile isBlank := List.takeWhile_append_dropWhile.symm
      cases l0 with
      | nil =>
        simp only [List.nil_append, List.cons.injEq] at e
        obtain ⟨rfl, rfl⟩ := e
        have hp' : off + (s.length - (s.dropWhile isBlank).length) = p := by
          have : ((off + (s.length - (s.dropWhile isBlank).length) : Nat) : Int) = (p : Int) := hp
          omega
        have ht : s.take (p - off) = s.takeWhile isBlank := by
          have : p - off = (s.takeWhile isBlank).length := by omega
          rw [this]
          conv => lhs; arg 2; rw [hsp]
          exact List.take_left
        rw [ht, LT_eq, if_pos (tw_dw_nil s)]
      | cons t1 l1 =>
        simp only [List.cons_append, List.cons.injEq] at e
        obtain ⟨rfl, rfl⟩ := e
        have hmem : t ∈ l1 ++ t :: r' := by simp
        obtain ⟨p', e', h4, h5⟩ := LT_at _ _ _ _ (Nat.le_refl _) h3 t hmem
        have hpp : p' = p := by rw [e'] at hp; omega
        subst hpp
        have hs2 : s.take (p' - off) = s.takeWhile isBlank ++ (s.dropWhile isBlank).take (p' - off - (s.takeWhile isBlank).length) := by
          conv => lhs; arg 2; rw [hsp]
          rw [List.take_append]
          congr 1
          exact List.take_of_length_le (by omega)
        obtain ⟨q, hq⟩ : ∃ q, q = p' - off - (s.takeWhile isBlank).length := ⟨_, rfl⟩
        rw [← hq] at hs2
        have hqn : n ≤ q ∧ q ≤ (s.dropWhile isBlank).length := by omega
        have hd : (s.take (p' - off)).dropWhile isBlank = (s.dropWhile isBlank).take q := by
          rw [hs2, dw_append_nil (tw_dw_nil s)]
          cases hr : s.dropWhile isBlank with
          | nil => exact absurd hr h1
          | cons y r =>
            have hy : isBlank y = false := by
              have := List.head?_dropWhile_not isBlank s
              rw [hr] at this
              simpa using this
            obtain ⟨q', rfl⟩ : ∃ q', q = q' + 1 := ⟨q - 1, by omega⟩
            rw [List.take_succ_cons, List.dropWhile_cons, if_neg (by rw [hy]; decide)]
        have hspec : specF ((s.dropWhile isBlank).take q) = .ok (k, n, v) := by
          refine specF_same h2 (by rw [List.take_take, Nat.min_eq_left hqn.1]) ?_
          unfold Nx
          rw [List.drop_take]
          cases hr : (s.dropWhile isBlank).drop n with
          | nil => left; simp
          | cons y r =>
            cases hqq : q - n with
            | zero => left; simp
            | succ j => right; left; simp
        have hlq : ((s.dropWhile isBlank).take q).length = q := by rw [List.length_take]; omega
        have hlt : (s.take (p' - off)).length = p' - off := by rw [List.length_take]; omega
        have hoff : off + ((s.take (p' - off)).length - ((s.dropWhile isBlank).take q).length) = off + (s.length - (s.dropWhile isBlank).length) := by omega
        cases N with
        | zero => omega
        | succ N =>
        have ih := LT_cut N _ _ l1 t r' p' (by omega) h3 e'
        rw [LT_next (by rw [hd]; intro e; rw [e] at hlq; simp at hlq; omega) (by rw [hd]; exact hspec), hd, hoff, List.drop_take, List.take_take, Nat.min_eq_left hqn.1, show q - n = p' - (off + (s.length - (s.dropWhile isBlank).length) + n) by omega, ih]
end Go.Proofs.YtajcnjdinmgpjaaDoor.X
/- ParsePrefix: the plain law. -/
namespace Go.Proofs.YtajcnjdinmgpjaaDoor.X
open Go.Proofs.YtajcnjdinmgpjaaDoor.P
set_option linter.unusedVariables false
def Suf (R : List Tok → PR) : Prop := ∀ l, (R l).rest <:+ l
theorem suf_bind {R : List Tok → PR} {f : Tree → List Tok → PR} (hR : Suf R) (hf : ∀ t, Suf (f t)) : Suf (fun l => (R l).bind f) := by
  intro l
  have h := hR l
  show ((R l).bind f).rest <:+ l
  cases hr : R l with
  | ok t r => rw [hr] at h; exact (hf t r).trans h
  | fail r => rw [hr] at h; exact h
theorem suf_dep {α : Type} (c : List Tok → α) (G : α → List Tok → PR) (hG : ∀ x, Suf (G x)) : Suf (fun l => G (c l) l) := fun l => hG (c l) l
theorem suf_ok (t : Tree) : Suf (fun l => .ok t l) := fun l => List.suffix_refl l
theorem suf_fail : Suf (fun l => .fail l) := fun l => List.suffix_refl l
theorem suf_tail {f : List Tok → PR} (hf : Suf f) : Suf (fun l => f l.tail) := fun l => (hf l.tail).trans (List.tail_suffix l)
theorem suf_if {A B : List Tok → PR} (c : List Tok → Bool) (hA : Suf A) (hB : Suf B) : Suf (fun l => if c l = true then A l else B l) := suf_dep c (fun b l => if b = true then A l else B l) (fun b => by cases b; exact hB; exact hA)
theorem suf_word (s : ByteArray) {f : List Tok → PR} (hf : Suf f) : Suf (fun l => word s l f) := suf_if (fun l => isW l s) (suf_tail hf) suf_fail
theorem suf_kindP (k : Int) {f : Tok → List Tok → PR} (hf : ∀ x, Suf (f x)) : Suf (fun l => kindP k l f) := by
  intro l
  show (kindP k l f).rest <:+ l
  unfold kindP
  split
  · exact (hf _ _).trans (List.tail_suffix l)
  · exact List.suffix_refl l
theorem suf_atom {ex : List Tok → PR} (hex : Suf ex) : Suf (pAtom ex) := by
  intro l
  unfold pAtom
  split
  · exact suf_bind (suf_tail hex) (fun t => suf_word _ (suf_ok t)) l
  · cases l with
    | nil => exact List.suffix_refl _
    | cons x r =>
      simp only
      split
      · exact List.suffix_cons x r
      · split
        · exact List.suffix_cons x r
        · split
          · exact List.suffix_cons x r
          · exact List.suffix_refl _
theorem suf_args {ex : List Tok → PR} (hex : Suf ex) (c : Bool) : ∀ k t, Suf (pArgs ex c k t)
  | 0, _ => suf_fail
  | k + 1, t => by
    intro l
    unfold pArgs
    split
    · split
      · split
        · exact suf_bind (suf_atom hex) (fun a => suf_args hex c k _) l
        · exact List.suffix_refl _
      · exact suf_bind (suf_atom hex) (fun a => suf_args hex c k _) l
    · exact List.suffix_refl _
theorem suf_app {ex : List Tok → PR} (hex : Suf ex) : Suf (pApp ex) :=
  suf_dep (fun l => kd l == 2) (fun c l => (pAtom ex l).bind fun t l' => pArgs ex c (l'.length + 1) t l') (fun c => suf_bind (suf_atom hex) (fun t l => suf_args hex c (l.length + 1) t l))
theorem suf_ops {right : List Tok → PR} (hr : Suf right) (s1 s2 : ByteArray) : ∀ k t, Suf (pOps right s1 s2 k t)
  | 0, _ => suf_fail
  | k + 1, t => by
    intro l
    unfold pOps
    split
    · exact suf_bind (suf_tail hr) (fun b => suf_ops hr s1 s2 k _) l
    · exact List.suffix_refl _
theorem suf_prod {ex : List Tok → PR} (hex : Suf ex) : Suf (pProd ex) := suf_bind (suf_app hex) (fun t l => suf_ops (suf_app hex) _ _ (l.length + 1) t l)
theorem suf_sum {ex : List Tok → PR} (hex : Suf ex) : Suf (pSum ex) := suf_bind (suf_prod hex) (fun t l => suf_ops (suf_prod hex) _ _ (l.length + 1) t l)
theorem suf_cmp {ex : List Tok → PR} (hex : Suf ex) : Suf (pCmp ex) := suf_bind (suf_sum hex) (fun t => suf_if (B := fun l => PR.ok t l) (fun l => isW l ⟨#[60]⟩ || isW l ⟨#[61, 61]⟩)
  (suf_dep tx (fun x l => (pSum ex l.tail).bind fun b r => .ok (opT x t b) r) (fun x => suf_bind (suf_tail (suf_sum hex)) (fun b => suf_ok _))) (suf_ok t))
theorem suf_lam {ex : List Tok → PR} (hex : Suf ex) : Suf (pLam ex) :=
  suf_dep (fun l => hd l 0) (fun h l => word ⟨#[92]⟩ l fun l1 => kindP 1 l1 fun x l2 => word ⟨#[46]⟩ l2 fun l3 => (ex l3).bind fun b r => .ok ⟨2, x.f1, 0, h.f3, [b]⟩ r)
    (fun h => suf_word _ (suf_kindP 1 (fun x => suf_word _ (suf_bind hex (fun b => suf_ok _)))))
theorem suf_let {ex : List Tok → PR} (hex : Suf ex) (k : Int) : Suf (pLet ex k) :=
  suf_dep (fun l => hd l 0) (fun h l => kindP 1 l.tail fun x l2 => word ⟨#[61]⟩ l2 fun l3 => (ex l3).bind fun a l4 => word ⟨#[105, 110]⟩ l4 fun l5 => (ex l5).bind fun b r => .ok ⟨k, x.f1, 0, h.f3, [a, b]⟩ r)
    (fun h => suf_tail (f := fun l => kindP 1 l fun x l2 => word ⟨#[61]⟩ l2 fun l3 => (ex l3).bind fun a l4 => word ⟨#[105, 110]⟩ l4 fun l5 => (ex l5).bind fun b r => .ok ⟨k, x.f1, 0, h.f3, [a, b]⟩ r)
      (suf_kindP 1 (fun x => suf_word _ (suf_bind hex (fun a => suf_word _ (suf_bind hex (fun b => suf_ok _)))))))
theorem suf_vars {f : List Tree → List Tok → PR} (hf : ∀ vs, Suf (f vs)) : ∀ k vs, Suf (pVars f k vs)
  | 0, _ => suf_fail
  | k + 1, vs => by
    intro l
    unfold pVars
    split
    · split
      · exact (suf_vars hf k _ l.tail).trans (List.tail_suffix l)
      · exact List.suffix_refl _
    · exact hf vs l
theorem suf_alt {ex : List Tok → PR} (hex : Suf ex) : Suf (pAlt ex) :=
  suf_kindP 2 (fun c l => suf_vars (f := fun vs l2 => word ⟨#[45, 62]⟩ l2 fun l3 => (ex l3).bind fun b r => .ok ⟨8, c.f1, (vs.length : Int), c.f3, vs ++ [b]⟩ r) (fun vs => suf_word _ (suf_bind hex (fun b => suf_ok _))) (l.length + 1) [] l)
theorem suf_alts {ex : List Tok → PR} (hex : Suf ex) (a : Int) : ∀ k ts, Suf (pAlts ex a k ts)
  | 0, _ => suf_fail
  | k + 1, ts => by
    intro l
    unfold pAlts
    split
    · split
      · exact suf_bind (suf_tail (suf_alt hex)) (fun b => suf_alts hex a k _) l
      · exact List.suffix_refl _
    · exact suf_word _ (suf_ok _) l
theorem suf_case {ex : List Tok → PR} (hex : Suf ex) : Suf (pCase ex) :=
  suf_dep (fun l => hd l 0) (fun h l => word ⟨#[99, 97, 115, 101]⟩ l fun l1 => (ex l1).bind fun a l2 => word ⟨#[111, 102]⟩ l2 fun l3 => word ⟨#[123]⟩ l3 fun l4 => (pAlt ex l4).bind fun b l5 => pAlts ex h.f3 (l5.length + 1) [a, b] l5)
    (fun h => suf_word _ (suf_bind hex (fun a => suf_word _ (suf_word _ (suf_bind (suf_alt hex) (fun b l => suf_alts hex h.f3 (l.length + 1) [a, b] l))))))
theorem suf_expr : ∀ n, Suf (pExpr n)
  | 0 => suf_fail
  | n + 1 => by
    have hex := suf_expr n
    exact suf_if (fun l => isW l ⟨#[92]⟩) (suf_lam hex) (suf_if (fun l => isW l ⟨#[108, 101, 116]⟩) (suf_let hex 4) (suf_if (fun l => isW l ⟨#[108, 101, 116, 114, 101, 99]⟩) (suf_let hex 5) (suf_if (fun l => isW l ⟨#[99, 97, 115, 101]⟩) (suf_case hex) (suf_cmp hex))))
theorem suf_whole : Suf pWhole := suf_bind (suf_expr 5000) (fun t l => by
  show (if l.length = 0 then PR.ok t [] else .fail l).rest <:+ l
  split
  · exact List.nil_suffix
  · exact List.suffix_refl _)
theorem ext_whole (m : List Tok) : Ext m pWhole := ext_bind (ext_expr 5000) (fun t => ⟨rfl, fun l hl => by
  have h1 : ¬ l.length = 0 := fun h => hl (List.length_eq_zero_iff.1 h)
  have h2 : ¬ (l ++ m).length = 0 := by rw [List.length_append]; omega
  right
  show (if (l ++ m).length = 0 then PR.ok t [] else .fail (l ++ m)) = PR.add m (if l.length = 0 then PR.ok t [] else .fail l)
  rw [if_neg h1, if_neg h2]
  rfl⟩)
/-- where nothing goes on, ahead of the end -/
theorem wrong_at {s : ByteArray} {p : Int} (h : parseM s 200 = .error (p, 30)) (hp : p < (s.size : Int)) : s.size ≤ 4096 ∧ ∃ l1 t r, lexAll s = .ok (l1 ++ t :: r) ∧ pWhole (l1 ++ t :: r) = .fail (t :: r) ∧ t.f3 = p := by
  unfold parseM at h
  rw [if_neg (by omega)] at h
  split at h
  · cases h
  · rename_i h4
    refine ⟨by omega, ?_⟩
    cases hl : lexAll s with
    | error e =>
      obtain ⟨a, c⟩ := e
      rw [hl] at h
      have := lexAll_err hl
      simp only [Except.error.injEq, Prod.mk.injEq] at h
      omega
    | ok l =>
      rw [hl] at h
      simp only at h
      have hs := suf_whole l
      cases hw : pWhole l with
      | ok t r =>
        rw [hw] at h
        simp only at h
        split at h <;> simp at h
      | fail r =>
        rw [hw] at h hs
        simp only [Except.error.injEq, Prod.mk.injEq, and_true] at h
        obtain ⟨l1, e⟩ := hs
        have e : l1 ++ r = l := e
        cases r with
        | nil => have h' : (s.size : Int) = p := h; omega
        | cons t r =>
          rw [← e] at hw ⊢
          exact ⟨l1, t, r, rfl, hw, h⟩
theorem cat_list (a b : ByteArray) : (a ++ b).data.toList = a.data.toList ++ b.data.toList := by
  rw [ByteArray.data_append]
  simp
theorem cat_size (a b : ByteArray) : (a ++ b).size = a.size + b.size := by
  have : (a ++ b).data.toList.length = a.data.toList.length + b.data.toList.length := by rw [cat_list, List.length_append]
  exact this
theorem sep32 : sep 32 := ⟨by decide, by decide, by decide⟩
theorem prefix_more {s more : ByteArray} {p : Int} (h : parseM s 200 = .error (p, 30)) (hp : p < (s.size : Int)) (hs : s.size ≤ 1000) (hm : more.size ≤ 300) {l : List Tok} (hl : lexAll (s ++ ⟨#[32]⟩ ++ more) = .ok l) :
    parseM (s ++ ⟨#[32]⟩ ++ more) 200 = .error (p, 30) := by
  obtain ⟨_, l1, t, r, h1, h2, h3⟩ := wrong_at h hp
  have hsz : (s ++ ⟨#[32]⟩ ++ more).size = s.size + 1 + more.size := by rw [cat_size, cat_size]; rfl
  have e1 := hl
  rw [lexAll_LT, cat_list, cat_list, List.append_assoc] at e1
  rw [lexAll_LT] at h1
  have e2 := LT_append 32 more.data.toList sep32 _ s.data.toList 0 _ (Nat.le_refl _) h1
  have e3 : s.data.toList ++ ((⟨#[32]⟩ : ByteArray).data.toList ++ more.data.toList) = s.data.toList ++ 32 :: more.data.toList := rfl
  rw [e3, e2] at e1
  have hus : ∃ us, l = l1 ++ t :: r ++ us := by
    cases hq : LT (32 :: more.data.toList) (0 + s.data.toList.length) with
    | error e => rw [hq] at e1; cases e1
    | ok us => rw [hq] at e1; cases e1; exact ⟨us, rfl⟩
  obtain ⟨us, rfl⟩ := hus
  have hx := (ext_whole us).2 (l1 ++ t :: r) (by simp)
  rw [h2] at hx
  have hw : pWhole (l1 ++ t :: r ++ us) = .fail (t :: r ++ us) := hx.elim (fun h => by cases h) (fun h => h)
  unfold parseM
  rw [if_neg (by omega), if_neg (by omega), hl]
  simp only
  rw [hw]
  show Except.error (t.f3, 30) = _
  rw [h3]
/-- it is no text where nothing goes on but at its end -/
def endsOrNot (R : Except (Int × Int) Tree) (p : Int) : Prop := ∀ q, R = .error (q, 30) → q = p
theorem prefix_cut {s : ByteArray} {p : Int} (h : parseM s 200 = .error (p, 30)) (hp : p < (s.size : Int)) : ∃ k : Nat, p = (k : Int) ∧ k < s.size ∧ endsOrNot (parseM (s.extract 0 k) 200) p := by
  obtain ⟨h4, l1, t, r, h1, h2, h3⟩ := wrong_at h hp
  rw [lexAll_LT] at h1
  obtain ⟨k, e, _, hk⟩ := LT_at _ _ _ _ (Nat.le_refl _) h1 t (by simp)
  have hsz0 : s.data.toList.length = s.size := rfl
  refine ⟨k, by omega, by omega, ?_⟩
  intro q hq
  have hc := LT_cut _ _ 0 l1 t r k (Nat.le_refl _) h1 e
  rw [Nat.sub_zero, ← take_list] at hc
  have hl : lexAll (s.extract 0 k) = .ok l1 := by rw [lexAll_LT]; exact hc
  have hsz : (s.extract 0 k).size = k := by rw [ByteArray.size_extract]; omega
  unfold parseM at hq
  rw [if_neg (by omega), if_neg (by omega), hl] at hq
  simp only at hq
  cases hw : pWhole l1 with
  | ok t' r' =>
    rw [hw] at hq
    simp only at hq
    split at hq <;> simp at hq
  | fail r' =>
    rw [hw] at hq
    simp only [Except.error.injEq, Prod.mk.injEq, and_true] at hq
    by_cases hr : r' = []
    · subst hr
      have : (((s.extract 0 k).size : Nat) : Int) = q := hq
      omega
    · exfalso
      by_cases hl1 : l1 = []
      · have := suf_whole l1
        rw [hw, hl1] at this
        exact hr (List.suffix_nil.1 this)
      · have hx := (ext_whole (t :: r)).2 l1 hl1
        rw [hw] at hx
        rcases hx with hx | hx
        · exact hr hx
        · rw [h2] at hx
          have : t :: r = r' ++ t :: r := by injection hx
          have hlen := congrArg List.length this
          rw [List.length_append] at hlen
          have : 0 < r'.length := List.length_pos_iff.2 hr
          omega
end Go.Proofs.YtajcnjdinmgpjaaDoor.X
