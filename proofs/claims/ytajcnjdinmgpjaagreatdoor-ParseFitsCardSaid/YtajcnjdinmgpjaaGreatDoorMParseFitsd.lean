/- ParseFits: the row and its card: for every input the law returns true, and each argument reads as it did; a part of its proof: Qgref02may, Qgref02May, Qglaw03places, Qgref02Depth, Xfit, Xfit2, Xfit3, Xfix3, Xany, Xpf, XrowParseFits. The condition: the listed package-level variables hold what the program's text lays (the card ties that). -/
import Derived.Test.YtajcnjdinmgpjaaGreatDoorMParseFitsc
import Derived.WalkKit
import Derived.OpenShut
import Derived.ShutString
import Derived.ChangeOld
import Derived.Below
import Derived.SizedLaws
set_option linter.unusedVariables false
set_option linter.unusedSimpArgs false
namespace Go.Proofs.YtajcnjdinmgpjaaGreatDoor.P
open Go.RowKit Go.Proofs.YtajcnjdinmgpjaaGreatDoorW.PrintWords Go.Proofs.YtajcnjdinmgpjaaGreatDoorW.PrintLast Go.Proofs.YtajcnjdinmgpjaaGreatDoorW.PrintMore
attribute [local go_sem] max2_int min2_int max_two min_two max_three min_three max_four min_four   -- for this text's walks alone
set_option linter.unusedVariables false
set_option linter.unusedSimpArgs false

/-! ### gossamerref02_may: function 20 -/
mutual
def gossamerref02_may.j0 : Nat → Bool → Int → ByteArray → Int → Int → List (S25) → Option (Bool)
  | 0, _, _, _, _, _, _ => none
  | k + 1, x25, x256000, x256001, x256002, x256003, x256004 => if x25 = true then (some false) else (gossamerref02_may.l0 k 0 x256000 x256001 x256002 x256003 x256004)
def gossamerref02_may.l0 : Nat → Int → Int → ByteArray → Int → Int → List (S25) → Option (Bool)
  | 0, _, _, _, _, _, _ => none
  | k + 1, x5, x256000, x256001, x256002, x256003, x256004 => if x5 < (x256004.length : Int) then (if x256000 = 8 then (if x5 < x256002 then (if 0 ≤ x5 then (gossamerref02_may.j2 k x5 (((rd_T25 x256004 x5).f0) != 1) x256000 x256001 x256002 x256003 x256004) else (none)) else (gossamerref02_may.j2 k x5 false x256000 x256001 x256002 x256003 x256004)) else (gossamerref02_may.j2 k x5 false x256000 x256001 x256002 x256003 x256004)) else (some true)
def gossamerref02_may.j2 : Nat → Int → Bool → Int → ByteArray → Int → Int → List (S25) → Option (Bool)
  | 0, _, _, _, _, _, _, _ => none
  | k + 1, x5, x50, x256000, x256001, x256002, x256003, x256004 => if x50 = true then (some false) else (if 0 ≤ x5 then (if x5 < (x256004.length : Int) then (if x256000 = 7 then ((gossamerref02_may.f k ((rd_T25 x256004 x5).f0) ((rd_T25 x256004 x5).f1) ((rd_T25 x256004 x5).f2) ((rd_T25 x256004 x5).f3) ((rd_T25 x256004 x5).f4) (decide (x5 > 0))).bind fun t260 => (if t260 = true then (gossamerref02_may.l0 k (wrap64 (x5 + 1)) x256000 x256001 x256002 x256003 x256004) else (some false))) else ((gossamerref02_may.f k ((rd_T25 x256004 x5).f0) ((rd_T25 x256004 x5).f1) ((rd_T25 x256004 x5).f2) ((rd_T25 x256004 x5).f3) ((rd_T25 x256004 x5).f4) false).bind fun t261 => (if t261 = true then (gossamerref02_may.l0 k (wrap64 (x5 + 1)) x256000 x256001 x256002 x256003 x256004) else (some false)))) else (none)) else (none))
def gossamerref02_may.f : Nat → Int → ByteArray → Int → Int → List (S25) → Bool → Option (Bool)
  | 0, _, _, _, _, _, _ => none
  | k + 1, a0_0, a0_1, a0_2, a0_3, l0_4, a1 => if ((a0_0 == 8) != a1) = true then (gossamerref02_may.j0 k true a0_0 a0_1 a0_2 a0_3 l0_4) else ((gossamerref02_name.f k a0_0 a0_1 a0_2 a0_3 l0_4).bind fun t256 => (if t256 = true then ((gossamerref02_parts.f k a0_0 a0_1 a0_2 a0_3 l0_4).bind fun t257 => (if t257 = true then (gossamerref02_may.j0 k (decide (a0_3 < 0)) a0_0 a0_1 a0_2 a0_3 l0_4) else (gossamerref02_may.j0 k true a0_0 a0_1 a0_2 a0_3 l0_4))) else (gossamerref02_may.j0 k true a0_0 a0_1 a0_2 a0_3 l0_4)))
end
theorem gossamerref02_may.mono_l : ∀ k, (∀ y0 y1 y2 y3 y4 y5, LeO (gossamerref02_may.f k y0 y1 y2 y3 y4 y5) (gossamerref02_may.f (k + 1) y0 y1 y2 y3 y4 y5)) ∧ (∀ y0 y1 y2 y3 y4 y5, LeO (gossamerref02_may.j0 k y0 y1 y2 y3 y4 y5) (gossamerref02_may.j0 (k + 1) y0 y1 y2 y3 y4 y5)) ∧ (∀ y0 y1 y2 y3 y4 y5, LeO (gossamerref02_may.l0 k y0 y1 y2 y3 y4 y5) (gossamerref02_may.l0 (k + 1) y0 y1 y2 y3 y4 y5)) ∧ (∀ y0 y1 y2 y3 y4 y5 y6, LeO (gossamerref02_may.j2 k y0 y1 y2 y3 y4 y5 y6) (gossamerref02_may.j2 (k + 1) y0 y1 y2 y3 y4 y5 y6))
  | 0 => ⟨fun _ _ _ _ _ _ r h => by simp [gossamerref02_may.f] at h, fun _ _ _ _ _ _ r h => by simp [gossamerref02_may.j0] at h, fun _ _ _ _ _ _ r h => by simp [gossamerref02_may.l0] at h, fun _ _ _ _ _ _ _ r h => by simp [gossamerref02_may.j2] at h⟩
  | k + 1 => by
    obtain ⟨ih0, ih1, ih2, ih3⟩ := gossamerref02_may.mono_l k
    refine ⟨?_, ?_, ?_, ?_⟩
    · intro y0 y1 y2 y3 y4 y5
      unfold gossamerref02_may.f
      repeat' first
      | (with_reducible exact ih0 _ _ _ _ _ _)
      | (with_reducible exact ih1 _ _ _ _ _ _)
      | (with_reducible exact ih2 _ _ _ _ _ _)
      | (with_reducible exact ih3 _ _ _ _ _ _ _)
      | (with_reducible exact gossamerref02_name.mono _ _ _ _ _ _)
      | (with_reducible exact gossamerref02_parts.mono _ _ _ _ _ _)
      | (with_reducible exact LeO.refl _)
      | (with_reducible exact LeO.none _)
      | (with_reducible refine LeO.ite ?_ ?_)
      | (with_reducible refine LeO.bind ?_ (fun _ => ?_))
      | exact ih0 _ _ _ _ _ _
      | exact ih1 _ _ _ _ _ _
      | exact ih2 _ _ _ _ _ _
      | exact ih3 _ _ _ _ _ _ _
      | exact gossamerref02_name.mono _ _ _ _ _ _
      | exact gossamerref02_parts.mono _ _ _ _ _ _
      | exact LeO.none _
      | refine LeO.ite ?_ ?_
      | refine LeO.bind ?_ (fun _ => ?_)
    · intro y0 y1 y2 y3 y4 y5
      unfold gossamerref02_may.j0
      repeat' first
      | (with_reducible exact ih0 _ _ _ _ _ _)
      | (with_reducible exact ih1 _ _ _ _ _ _)
      | (with_reducible exact ih2 _ _ _ _ _ _)
      | (with_reducible exact ih3 _ _ _ _ _ _ _)
      | (with_reducible exact gossamerref02_name.mono _ _ _ _ _ _)
      | (with_reducible exact gossamerref02_parts.mono _ _ _ _ _ _)
      | (with_reducible exact LeO.refl _)
      | (with_reducible exact LeO.none _)
      | (with_reducible refine LeO.ite ?_ ?_)
      | (with_reducible refine LeO.bind ?_ (fun _ => ?_))
      | exact ih0 _ _ _ _ _ _
      | exact ih1 _ _ _ _ _ _
      | exact ih2 _ _ _ _ _ _
      | exact ih3 _ _ _ _ _ _ _
      | exact gossamerref02_name.mono _ _ _ _ _ _
      | exact gossamerref02_parts.mono _ _ _ _ _ _
      | exact LeO.none _
      | refine LeO.ite ?_ ?_
      | refine LeO.bind ?_ (fun _ => ?_)
    · intro y0 y1 y2 y3 y4 y5
      unfold gossamerref02_may.l0
      repeat' first
      | (with_reducible exact ih0 _ _ _ _ _ _)
      | (with_reducible exact ih1 _ _ _ _ _ _)
      | (with_reducible exact ih2 _ _ _ _ _ _)
      | (with_reducible exact ih3 _ _ _ _ _ _ _)
      | (with_reducible exact gossamerref02_name.mono _ _ _ _ _ _)
      | (with_reducible exact gossamerref02_parts.mono _ _ _ _ _ _)
      | (with_reducible exact LeO.refl _)
      | (with_reducible exact LeO.none _)
      | (with_reducible refine LeO.ite ?_ ?_)
      | (with_reducible refine LeO.bind ?_ (fun _ => ?_))
      | exact ih0 _ _ _ _ _ _
      | exact ih1 _ _ _ _ _ _
      | exact ih2 _ _ _ _ _ _
      | exact ih3 _ _ _ _ _ _ _
      | exact gossamerref02_name.mono _ _ _ _ _ _
      | exact gossamerref02_parts.mono _ _ _ _ _ _
      | exact LeO.none _
      | refine LeO.ite ?_ ?_
      | refine LeO.bind ?_ (fun _ => ?_)
    · intro y0 y1 y2 y3 y4 y5 y6
      unfold gossamerref02_may.j2
      repeat' first
      | (with_reducible exact ih0 _ _ _ _ _ _)
      | (with_reducible exact ih1 _ _ _ _ _ _)
      | (with_reducible exact ih2 _ _ _ _ _ _)
      | (with_reducible exact ih3 _ _ _ _ _ _ _)
      | (with_reducible exact gossamerref02_name.mono _ _ _ _ _ _)
      | (with_reducible exact gossamerref02_parts.mono _ _ _ _ _ _)
      | (with_reducible exact LeO.refl _)
      | (with_reducible exact LeO.none _)
      | (with_reducible refine LeO.ite ?_ ?_)
      | (with_reducible refine LeO.bind ?_ (fun _ => ?_))
      | exact ih0 _ _ _ _ _ _
      | exact ih1 _ _ _ _ _ _
      | exact ih2 _ _ _ _ _ _
      | exact ih3 _ _ _ _ _ _ _
      | exact gossamerref02_name.mono _ _ _ _ _ _
      | exact gossamerref02_parts.mono _ _ _ _ _ _
      | exact LeO.none _
      | refine LeO.ite ?_ ?_
      | refine LeO.bind ?_ (fun _ => ?_)
theorem gossamerref02_may.mono : ∀ a0 a1 a2 a3 a4 a5 k, LeO (gossamerref02_may.f k a0 a1 a2 a3 a4 a5) (gossamerref02_may.f (k + 1) a0 a1 a2 a3 a4 a5) := by
  intro a0 a1 a2 a3 a4 a5 k
  obtain ⟨ih0, ih1, ih2, ih3⟩ := gossamerref02_may.mono_l k
  exact ih0 a0 a1 a2 a3 a4 a5
def gossamerref02_may.T8 : Bool × List (List Nat × List Nat) := (true, [([], []), ([0], [0]), ([], []), ([1, 2], [1, 2]), ([3], [3]), ([], []), ([5], [5]), ([6], [6]), ([7], [7]), ([8], [8]), ([9, 8], [8, 9]), ([8, 10], [8, 10]), ([4, 11, 8], [4, 11]), ([12], [12])])
def gossamerref02_may.B8 : List Nat := [0, 1, 0, 7, 15, 0, 32, 96, 224, 480, 992, 2016, 4095, 8191]
theorem gossamerref02_may.tab8 : rtab .any (opsOf Tryz.f20 8) = gossamerref02_may.T8 := by kernel_rfl
theorem gossamerref02_may.bits8 : waitsOk gossamerref02_may.T8.2 gossamerref02_may.B8 = true := by kernel_rfl
set_option maxHeartbeats 8000000 in
set_option maxRecDepth 100000 in
theorem gossamerref02_may.calls (k : Nat) : ∀ (a0_0 : Int) (a0_1 : ByteArray) (a0_2 : Int) (a0_3 : Int) (A0_4 : Option Addr) (c0_4 : Nat) (l0_4 : List (S25)) (a1 : Bool) (r : Bool) (w : World) (hr0_4 : Kd.C k25 w A0_4 l0_4.length l0_4) (hc0_4 : l0_4.length ≤ c0_4) (h : gossamerref02_may.f k a0_0 a0_1 a0_2 a0_3 l0_4 a1 = some r),
    Calls Tryz.prog 20 #[.agg #[.int .i64 a0_0, .string a0_1, .int .i64 a0_2, .int .i64 a0_3, .slice A0_4 l0_4.length c0_4], .bool a1] w fun e w' => e = .returned (.bool r) ∧ Below w.heap.size w w' := by
  induction k using Nat.strongRecOn with
  | _ k ih =>
  intro a0_0 a0_1 a0_2 a0_3 A0_4 c0_4 l0_4 a1 r w hr0_4 hc0_4 h
  cases k with
  | zero => exact absurd h (by simp [gossamerref02_may.f])
  | succ k =>
  simp only [gossamerref02_may.f] at h
  have hu25 := Tryz.underlying25
  have HR0_4 := Aside0.mk hr0_4
  have HC0_4 := Aside0.mk hc0_4
  clear hr0_4 hc0_4
  have HB := Aside0.mk (Below.refl w.heap.size w)
  have H : (if ((a0_0 == 8) != a1) = true then (gossamerref02_may.j0 k true a0_0 a0_1 a0_2 a0_3 l0_4) else ((gossamerref02_name.f k a0_0 a0_1 a0_2 a0_3 l0_4).bind fun t256 => (if t256 = true then ((gossamerref02_parts.f k a0_0 a0_1 a0_2 a0_3 l0_4).bind fun t257 => (if t257 = true then (gossamerref02_may.j0 k (decide (a0_3 < 0)) a0_0 a0_1 a0_2 a0_3 l0_4) else (gossamerref02_may.j0 k true a0_0 a0_1 a0_2 a0_3 l0_4))) else (gossamerref02_may.j0 k true a0_0 a0_1 a0_2 a0_3 l0_4)))) = some r := h
  clear h
  have HC3 := Aside0.mk H
  clear H
  go_enter Tryz.func20, Tryz.ntmps20
  go_upto_region 1 with (first | ((with_reducible refine gate_dst (N := 2) rfl ?_); refine box_event ?hg (N := 2) ?hd (cs := #[.int .i64 a0_0, .string a0_1, .int .i64 a0_2, .int .i64 a0_3, .slice A0_4 l0_4.length c0_4]) (t := 25) ?hr ?_; (case hd => rfl); (case hg => rfl); (case hr => first | (go_simp; done) | (go_simp; rfl)); intro gb255 hg w4 hbox hb; have n0_ := Aside0.mk (below_step (by repeat (first | (with_reducible first | exact HB.out | apply below_alloc | apply pw_below_drewN | apply below_drew1) | exact HB.out)) hb); have n1_ := Aside0.mk (hbox); have n2_ := Aside0.mk ((by rw [hg]; exact (below_size (by repeat (first | (with_reducible first | exact HB.out | apply below_alloc | apply pw_below_drewN | apply below_drew1) | exact HB.out))) : w.heap.size ≤ gb255)); have n3_ := Aside0.mk ((by rw [hg]; exact (below_size (by repeat (first | (with_reducible first | exact HB.out | apply below_alloc | apply pw_below_drewN | apply below_drew1) | exact HB.out))) : w.heap.size ≤ gb255)); clear HB; have HB := n0_; have BK255 := n1_; have GW255 := n2_; have GE255 := n3_; clear n0_ n1_ n2_ n3_; clear hb hbox hg))
  (try simp only [Act.put, List.setIfInBounds_toArray, List.set_cons_zero, List.set_cons_succ])
  go_cut [25] (fun v25 wc => ∃ (kq : Nat) (x25_2 : Bool), v25 = .bool x25_2 ∧ Aside0 (gossamerref02_may.j0 kq x25_2 a0_0 a0_1 a0_2 a0_3 l0_4 = some r) ∧ Aside0 (kq ≤ k) ∧ Aside0 (wc.heap[gb255]? = some (.cells #[.int .i64 a0_0, .string a0_1, .int .i64 a0_2, .int .i64 a0_3, (.slice A0_4 l0_4.length c0_4)] 25 (0, 0))) ∧ Aside0 (Below w.heap.size w wc))
  case first =>
    have H := HC3.out
    clear HC3
    by_cases c5 : ((a0_0 == 8) != a1) = true
    · rw [if_pos c5] at H
      have c5b0 : ((a0_0 == 8) != a1) = true := c5
      (try (have c5b1 : decide ((a0_0 == 8) = a1) = false := by simpa using c5))
      (try (have c5b2 : ((a0_0 == 8) == a1) = false := by simpa using c5))
      (try (have c5b3 : ¬ ((a0_0 == 8) = a1) := by simpa using c5))
      clear c5
      (first | rw [c5b0] | (simp only [i64_w, i32_w]; rw [c5b0]) | skip)
      have H' := Aside0.mk H
      clear H
      have hcz6_0 : w4.cell? ⟨gb255, 0, none⟩ = some (.int .i64 a0_0) := (blk_cell BK255.out 0).trans rfl
      have hcz6_1 : w4.cell? ⟨gb255, 1, none⟩ = some (.string a0_1) := (blk_cell BK255.out 1).trans rfl
      have hcz6_2 : w4.cell? ⟨gb255, 2, none⟩ = some (.int .i64 a0_2) := (blk_cell BK255.out 2).trans rfl
      have hcz6_3 : w4.cell? ⟨gb255, 3, none⟩ = some (.int .i64 a0_3) := (blk_cell BK255.out 3).trans rfl
      have hcz6_4 : w4.cell? ⟨gb255, 4, none⟩ = some (.slice A0_4 l0_4.length c0_4) := (blk_cell BK255.out 4).trans rfl
      have hfz6_0 := blk_frozen BK255.out 0
      have hfz6_1 := blk_frozen BK255.out 1
      have hfz6_2 := blk_frozen BK255.out 2
      have hfz6_3 := blk_frozen BK255.out 3
      have hfz6_4 := blk_frozen BK255.out 4
      go_wp2
      go_meet
      case rel => exact ⟨_, (true), (by first | rfl | (simp; done) | (simp [*]; done)), H', ⟨by first | omega | exact Nat.le_refl _⟩, ⟨by (with_reducible repeat (first | refine blk_drewN ?_ _ | refine blk_drew ?_ | refine blk_alloc ?_ _)); exact BK255.out⟩, ⟨by repeat (first | (with_reducible first | exact HB.out | apply below_alloc | apply pw_below_drewN | apply below_drew1 | refine below_set ?_ GE255.out) | exact HB.out)⟩⟩
    · rw [if_neg c5] at H
      have c5b0 : ((a0_0 == 8) != a1) = false := by simpa using c5
      (try (have c5b1 : decide ((a0_0 == 8) = a1) = true := by simpa using c5))
      (try (have c5b2 : ((a0_0 == 8) == a1) = true := by simpa using c5))
      clear c5
      (first | rw [c5b0] | (simp only [i64_w, i32_w]; rw [c5b0]) | skip)
      replace H := Option.bind_eq_some_iff.mp H
      obtain ⟨t256, A70, H⟩ := H
      replace H : (if t256 = true then ((gossamerref02_parts.f k a0_0 a0_1 a0_2 a0_3 l0_4).bind fun t257 => (if t257 = true then (gossamerref02_may.j0 k (decide (a0_3 < 0)) a0_0 a0_1 a0_2 a0_3 l0_4) else (gossamerref02_may.j0 k true a0_0 a0_1 a0_2 a0_3 l0_4))) else (gossamerref02_may.j0 k true a0_0 a0_1 a0_2 a0_3 l0_4)) = some r := H
      have A7 := Aside0.mk A70
      clear A70
      by_cases c8 : t256 = true
      · subst c8
        have H1 : ((gossamerref02_parts.f k a0_0 a0_1 a0_2 a0_3 l0_4).bind fun t257 => (if t257 = true then (gossamerref02_may.j0 k (decide (a0_3 < 0)) a0_0 a0_1 a0_2 a0_3 l0_4) else (gossamerref02_may.j0 k true a0_0 a0_1 a0_2 a0_3 l0_4))) = some r := by rw [if_pos rfl] at H; exact H
        clear H
        have H := H1
        clear H1
        replace H := Option.bind_eq_some_iff.mp H
        obtain ⟨t257, A90, H⟩ := H
        replace H : (if t257 = true then (gossamerref02_may.j0 k (decide (a0_3 < 0)) a0_0 a0_1 a0_2 a0_3 l0_4) else (gossamerref02_may.j0 k true a0_0 a0_1 a0_2 a0_3 l0_4)) = some r := H
        have A9 := Aside0.mk A90
        clear A90
        by_cases c10 : t257 = true
        · subst c10
          have H1 : (gossamerref02_may.j0 k (decide (a0_3 < 0)) a0_0 a0_1 a0_2 a0_3 l0_4) = some r := by rw [if_pos rfl] at H; exact H
          clear H
          have H := H1
          clear H1
          have H' := Aside0.mk H
          clear H
          have hcz11_0 : w4.cell? ⟨gb255, 0, none⟩ = some (.int .i64 a0_0) := (blk_cell BK255.out 0).trans rfl
          have hcz11_1 : w4.cell? ⟨gb255, 1, none⟩ = some (.string a0_1) := (blk_cell BK255.out 1).trans rfl
          have hcz11_2 : w4.cell? ⟨gb255, 2, none⟩ = some (.int .i64 a0_2) := (blk_cell BK255.out 2).trans rfl
          have hcz11_3 : w4.cell? ⟨gb255, 3, none⟩ = some (.int .i64 a0_3) := (blk_cell BK255.out 3).trans rfl
          have hcz11_4 : w4.cell? ⟨gb255, 4, none⟩ = some (.slice A0_4 l0_4.length c0_4) := (blk_cell BK255.out 4).trans rfl
          have hfz11_0 := blk_frozen BK255.out 0
          have hfz11_1 := blk_frozen BK255.out 1
          have hfz11_2 := blk_frozen BK255.out 2
          have hfz11_3 := blk_frozen BK255.out 3
          have hfz11_4 := blk_frozen BK255.out 4
          go_wp2_with (first | (go_at_call 31; (with_reducible refine (gossamerref02_name.calls k a0_0 a0_1 a0_2 a0_3 _ _ l0_4 true _ ?side1 ?side2 A7.out).mono ?_); (case side1 => repeat (first | exact (Kd.C_below HR0_4.out HB.out) | (with_reducible refine Kd.C_alloc ?_ _) | (with_reducible refine Kd.C_drewN ?_ _) | (with_reducible refine Kd.C_drew ?_))); (case side2 => exact HC0_4.out); rintro e w12 ⟨rfl, hb⟩; have n0_ := Aside0.mk (blk_below (g := gb255) (o := .cells #[.int .i64 a0_0, .string a0_1, .int .i64 a0_2, .int .i64 a0_3, .slice A0_4 l0_4.length c0_4] 25 (0, 0)) (by (with_reducible repeat (first | refine blk_drewN ?_ _ | refine blk_drew ?_ | refine blk_alloc ?_ _)); exact BK255.out) hb); have n1_ := Aside0.mk (below_step (by repeat (first | (with_reducible first | exact HB.out | apply below_alloc | apply pw_below_drewN | apply below_drew1 | refine below_set ?_ GE255.out) | exact HB.out)) hb); clear BK255; clear HB; have BK255 := n0_; have HB := n1_; clear n0_ n1_; (try clear hb); (try clear hb2); (try clear hk); (try clear hi); have hcz13_0 : w12.cell? ⟨gb255, 0, none⟩ = some (.int .i64 a0_0) := (blk_cell BK255.out 0).trans rfl; have hcz13_1 : w12.cell? ⟨gb255, 1, none⟩ = some (.string a0_1) := (blk_cell BK255.out 1).trans rfl; have hcz13_2 : w12.cell? ⟨gb255, 2, none⟩ = some (.int .i64 a0_2) := (blk_cell BK255.out 2).trans rfl; have hcz13_3 : w12.cell? ⟨gb255, 3, none⟩ = some (.int .i64 a0_3) := (blk_cell BK255.out 3).trans rfl; have hcz13_4 : w12.cell? ⟨gb255, 4, none⟩ = some (.slice A0_4 l0_4.length c0_4) := (blk_cell BK255.out 4).trans rfl; have hfz13_0 := blk_frozen BK255.out 0; have hfz13_1 := blk_frozen BK255.out 1; have hfz13_2 := blk_frozen BK255.out 2; have hfz13_3 := blk_frozen BK255.out 3; have hfz13_4 := blk_frozen BK255.out 4) | (go_at_call 32; (with_reducible refine (gossamerref02_parts.calls k a0_0 a0_1 a0_2 a0_3 _ _ l0_4 true _ ?side1 ?side2 A9.out).mono ?_); (case side1 => repeat (first | exact (Kd.C_below HR0_4.out HB.out) | (with_reducible refine Kd.C_alloc ?_ _) | (with_reducible refine Kd.C_drewN ?_ _) | (with_reducible refine Kd.C_drew ?_))); (case side2 => exact HC0_4.out); rintro e w14 ⟨rfl, hb⟩; have n0_ := Aside0.mk (blk_below (g := gb255) (o := .cells #[.int .i64 a0_0, .string a0_1, .int .i64 a0_2, .int .i64 a0_3, .slice A0_4 l0_4.length c0_4] 25 (0, 0)) (by (with_reducible repeat (first | refine blk_drewN ?_ _ | refine blk_drew ?_ | refine blk_alloc ?_ _)); exact BK255.out) hb); have n1_ := Aside0.mk (below_step (by repeat (first | (with_reducible first | exact HB.out | apply below_alloc | apply pw_below_drewN | apply below_drew1 | refine below_set ?_ GE255.out) | exact HB.out)) hb); clear BK255; clear HB; have BK255 := n0_; have HB := n1_; clear n0_ n1_; (try clear hb); (try clear hb2); (try clear hk); (try clear hi); have hcz15_0 : w14.cell? ⟨gb255, 0, none⟩ = some (.int .i64 a0_0) := (blk_cell BK255.out 0).trans rfl; have hcz15_1 : w14.cell? ⟨gb255, 1, none⟩ = some (.string a0_1) := (blk_cell BK255.out 1).trans rfl; have hcz15_2 : w14.cell? ⟨gb255, 2, none⟩ = some (.int .i64 a0_2) := (blk_cell BK255.out 2).trans rfl; have hcz15_3 : w14.cell? ⟨gb255, 3, none⟩ = some (.int .i64 a0_3) := (blk_cell BK255.out 3).trans rfl; have hcz15_4 : w14.cell? ⟨gb255, 4, none⟩ = some (.slice A0_4 l0_4.length c0_4) := (blk_cell BK255.out 4).trans rfl; have hfz15_0 := blk_frozen BK255.out 0; have hfz15_1 := blk_frozen BK255.out 1; have hfz15_2 := blk_frozen BK255.out 2; have hfz15_3 := blk_frozen BK255.out 3; have hfz15_4 := blk_frozen BK255.out 4))
          go_meet
          case rel => exact ⟨_, (decide (a0_3 < 0)), (by first | rfl | (simp; done) | (simp [*]; done)), H', ⟨by first | omega | exact Nat.le_refl _⟩, ⟨by (with_reducible repeat (first | refine blk_drewN ?_ _ | refine blk_drew ?_ | refine blk_alloc ?_ _)); exact BK255.out⟩, ⟨by repeat (first | (with_reducible first | exact HB.out | apply below_alloc | apply pw_below_drewN | apply below_drew1 | refine below_set ?_ GE255.out) | exact HB.out)⟩⟩
        · replace c10 := Bool.eq_false_iff.mpr c10
          subst c10
          have H1 : (gossamerref02_may.j0 k true a0_0 a0_1 a0_2 a0_3 l0_4) = some r := by rw [if_neg (show ¬ (false = true) by decide)] at H; exact H
          clear H
          have H := H1
          clear H1
          have H' := Aside0.mk H
          clear H
          have hcz16_0 : w4.cell? ⟨gb255, 0, none⟩ = some (.int .i64 a0_0) := (blk_cell BK255.out 0).trans rfl
          have hcz16_1 : w4.cell? ⟨gb255, 1, none⟩ = some (.string a0_1) := (blk_cell BK255.out 1).trans rfl
          have hcz16_2 : w4.cell? ⟨gb255, 2, none⟩ = some (.int .i64 a0_2) := (blk_cell BK255.out 2).trans rfl
          have hcz16_3 : w4.cell? ⟨gb255, 3, none⟩ = some (.int .i64 a0_3) := (blk_cell BK255.out 3).trans rfl
          have hcz16_4 : w4.cell? ⟨gb255, 4, none⟩ = some (.slice A0_4 l0_4.length c0_4) := (blk_cell BK255.out 4).trans rfl
          have hfz16_0 := blk_frozen BK255.out 0
          have hfz16_1 := blk_frozen BK255.out 1
          have hfz16_2 := blk_frozen BK255.out 2
          have hfz16_3 := blk_frozen BK255.out 3
          have hfz16_4 := blk_frozen BK255.out 4
          go_wp2_with (first | (go_at_call 31; (with_reducible refine (gossamerref02_name.calls k a0_0 a0_1 a0_2 a0_3 _ _ l0_4 true _ ?side1 ?side2 A7.out).mono ?_); (case side1 => repeat (first | exact (Kd.C_below HR0_4.out HB.out) | (with_reducible refine Kd.C_alloc ?_ _) | (with_reducible refine Kd.C_drewN ?_ _) | (with_reducible refine Kd.C_drew ?_))); (case side2 => exact HC0_4.out); rintro e w17 ⟨rfl, hb⟩; have n0_ := Aside0.mk (blk_below (g := gb255) (o := .cells #[.int .i64 a0_0, .string a0_1, .int .i64 a0_2, .int .i64 a0_3, .slice A0_4 l0_4.length c0_4] 25 (0, 0)) (by (with_reducible repeat (first | refine blk_drewN ?_ _ | refine blk_drew ?_ | refine blk_alloc ?_ _)); exact BK255.out) hb); have n1_ := Aside0.mk (below_step (by repeat (first | (with_reducible first | exact HB.out | apply below_alloc | apply pw_below_drewN | apply below_drew1 | refine below_set ?_ GE255.out) | exact HB.out)) hb); clear BK255; clear HB; have BK255 := n0_; have HB := n1_; clear n0_ n1_; (try clear hb); (try clear hb2); (try clear hk); (try clear hi); have hcz18_0 : w17.cell? ⟨gb255, 0, none⟩ = some (.int .i64 a0_0) := (blk_cell BK255.out 0).trans rfl; have hcz18_1 : w17.cell? ⟨gb255, 1, none⟩ = some (.string a0_1) := (blk_cell BK255.out 1).trans rfl; have hcz18_2 : w17.cell? ⟨gb255, 2, none⟩ = some (.int .i64 a0_2) := (blk_cell BK255.out 2).trans rfl; have hcz18_3 : w17.cell? ⟨gb255, 3, none⟩ = some (.int .i64 a0_3) := (blk_cell BK255.out 3).trans rfl; have hcz18_4 : w17.cell? ⟨gb255, 4, none⟩ = some (.slice A0_4 l0_4.length c0_4) := (blk_cell BK255.out 4).trans rfl; have hfz18_0 := blk_frozen BK255.out 0; have hfz18_1 := blk_frozen BK255.out 1; have hfz18_2 := blk_frozen BK255.out 2; have hfz18_3 := blk_frozen BK255.out 3; have hfz18_4 := blk_frozen BK255.out 4) | (go_at_call 32; (with_reducible refine (gossamerref02_parts.calls k a0_0 a0_1 a0_2 a0_3 _ _ l0_4 false _ ?side1 ?side2 A9.out).mono ?_); (case side1 => repeat (first | exact (Kd.C_below HR0_4.out HB.out) | (with_reducible refine Kd.C_alloc ?_ _) | (with_reducible refine Kd.C_drewN ?_ _) | (with_reducible refine Kd.C_drew ?_))); (case side2 => exact HC0_4.out); rintro e w19 ⟨rfl, hb⟩; have n0_ := Aside0.mk (blk_below (g := gb255) (o := .cells #[.int .i64 a0_0, .string a0_1, .int .i64 a0_2, .int .i64 a0_3, .slice A0_4 l0_4.length c0_4] 25 (0, 0)) (by (with_reducible repeat (first | refine blk_drewN ?_ _ | refine blk_drew ?_ | refine blk_alloc ?_ _)); exact BK255.out) hb); have n1_ := Aside0.mk (below_step (by repeat (first | (with_reducible first | exact HB.out | apply below_alloc | apply pw_below_drewN | apply below_drew1 | refine below_set ?_ GE255.out) | exact HB.out)) hb); clear BK255; clear HB; have BK255 := n0_; have HB := n1_; clear n0_ n1_; (try clear hb); (try clear hb2); (try clear hk); (try clear hi)))
          go_meet
          case rel => exact ⟨_, (true), (by first | rfl | (simp; done) | (simp [*]; done)), H', ⟨by first | omega | exact Nat.le_refl _⟩, ⟨by (with_reducible repeat (first | refine blk_drewN ?_ _ | refine blk_drew ?_ | refine blk_alloc ?_ _)); exact BK255.out⟩, ⟨by repeat (first | (with_reducible first | exact HB.out | apply below_alloc | apply pw_below_drewN | apply below_drew1 | refine below_set ?_ GE255.out) | exact HB.out)⟩⟩
      · replace c8 := Bool.eq_false_iff.mpr c8
        subst c8
        have H1 : (gossamerref02_may.j0 k true a0_0 a0_1 a0_2 a0_3 l0_4) = some r := by rw [if_neg (show ¬ (false = true) by decide)] at H; exact H
        clear H
        have H := H1
        clear H1
        have H' := Aside0.mk H
        clear H
        have hcz20_0 : w4.cell? ⟨gb255, 0, none⟩ = some (.int .i64 a0_0) := (blk_cell BK255.out 0).trans rfl
        have hcz20_1 : w4.cell? ⟨gb255, 1, none⟩ = some (.string a0_1) := (blk_cell BK255.out 1).trans rfl
        have hcz20_2 : w4.cell? ⟨gb255, 2, none⟩ = some (.int .i64 a0_2) := (blk_cell BK255.out 2).trans rfl
        have hcz20_3 : w4.cell? ⟨gb255, 3, none⟩ = some (.int .i64 a0_3) := (blk_cell BK255.out 3).trans rfl
        have hcz20_4 : w4.cell? ⟨gb255, 4, none⟩ = some (.slice A0_4 l0_4.length c0_4) := (blk_cell BK255.out 4).trans rfl
        have hfz20_0 := blk_frozen BK255.out 0
        have hfz20_1 := blk_frozen BK255.out 1
        have hfz20_2 := blk_frozen BK255.out 2
        have hfz20_3 := blk_frozen BK255.out 3
        have hfz20_4 := blk_frozen BK255.out 4
        go_wp2_with (first | (go_at_call 31; (with_reducible refine (gossamerref02_name.calls k a0_0 a0_1 a0_2 a0_3 _ _ l0_4 false _ ?side1 ?side2 A7.out).mono ?_); (case side1 => repeat (first | exact (Kd.C_below HR0_4.out HB.out) | (with_reducible refine Kd.C_alloc ?_ _) | (with_reducible refine Kd.C_drewN ?_ _) | (with_reducible refine Kd.C_drew ?_))); (case side2 => exact HC0_4.out); rintro e w21 ⟨rfl, hb⟩; have n0_ := Aside0.mk (blk_below (g := gb255) (o := .cells #[.int .i64 a0_0, .string a0_1, .int .i64 a0_2, .int .i64 a0_3, .slice A0_4 l0_4.length c0_4] 25 (0, 0)) (by (with_reducible repeat (first | refine blk_drewN ?_ _ | refine blk_drew ?_ | refine blk_alloc ?_ _)); exact BK255.out) hb); have n1_ := Aside0.mk (below_step (by repeat (first | (with_reducible first | exact HB.out | apply below_alloc | apply pw_below_drewN | apply below_drew1 | refine below_set ?_ GE255.out) | exact HB.out)) hb); clear BK255; clear HB; have BK255 := n0_; have HB := n1_; clear n0_ n1_; (try clear hb); (try clear hb2); (try clear hk); (try clear hi)))
        go_meet
        case rel => exact ⟨_, (true), (by first | rfl | (simp; done) | (simp [*]; done)), H', ⟨by first | omega | exact Nat.le_refl _⟩, ⟨by (with_reducible repeat (first | refine blk_drewN ?_ _ | refine blk_drew ?_ | refine blk_alloc ?_ _)); exact BK255.out⟩, ⟨by repeat (first | (with_reducible first | exact HB.out | apply below_alloc | apply pw_below_drewN | apply below_drew1 | refine below_set ?_ GE255.out) | exact HB.out)⟩⟩
  case rest =>
    clear HC3
    try clear c1
    try clear c2
    try clear p2
    try clear c5
    try clear c5b0
    try clear c5b1
    try clear c5b2
    try clear c8
    try clear c10
    try clear c20
    try clear hcz11_0
    try clear hcz11_1
    try clear hcz11_2
    try clear hcz11_3
    try clear hcz11_4
    try clear hcz13_0
    try clear hcz13_1
    try clear hcz13_2
    try clear hcz13_3
    try clear hcz13_4
    try clear hcz15_0
    try clear hcz15_1
    try clear hcz15_2
    try clear hcz15_3
    try clear hcz15_4
    try clear hcz16_0
    try clear hcz16_1
    try clear hcz16_2
    try clear hcz16_3
    try clear hcz16_4
    try clear hcz18_0
    try clear hcz18_1
    try clear hcz18_2
    try clear hcz18_3
    try clear hcz18_4
    try clear hcz20_0
    try clear hcz20_1
    try clear hcz20_2
    try clear hcz20_3
    try clear hcz20_4
    try clear hcz6_0
    try clear hcz6_1
    try clear hcz6_2
    try clear hcz6_3
    try clear hcz6_4
    try clear hfz11_0
    try clear hfz11_1
    try clear hfz11_2
    try clear hfz11_3
    try clear hfz11_4
    try clear hfz13_0
    try clear hfz13_1
    try clear hfz13_2
    try clear hfz13_3
    try clear hfz13_4
    try clear hfz15_0
    try clear hfz15_1
    try clear hfz15_2
    try clear hfz15_3
    try clear hfz15_4
    try clear hfz16_0
    try clear hfz16_1
    try clear hfz16_2
    try clear hfz16_3
    try clear hfz16_4
    try clear hfz18_0
    try clear hfz18_1
    try clear hfz18_2
    try clear hfz18_3
    try clear hfz18_4
    try clear hfz20_0
    try clear hfz20_1
    try clear hfz20_2
    try clear hfz20_3
    try clear hfz20_4
    try clear hfz6_0
    try clear hfz6_1
    try clear hfz6_2
    try clear hfz6_3
    try clear hfz6_4
    obtain ⟨kq, x25_2, rfl, HA, HJ2, BK255, HB⟩ := hcut
    cases kq with
    | zero => exact absurd HA.out (by simp [gossamerref02_may.j0])
    | succ kj2 =>
      have H := HA.out
      clear HA
      simp only [gossamerref02_may.j0] at H
      by_cases c22 : x25_2 = true
      · subst c22
        have H1 : (some false) = some r := by rw [if_pos rfl] at H; exact H
        clear H
        have H := H1
        clear H1
        obtain rfl := Option.some.inj H
        go_wp2
        go_ret
        exact ⟨by first | rfl | (simp [errW_none, errW_some] <;> rfl) | (simp [*, errW_none, errW_some] <;> rfl), by repeat (first | (with_reducible first | exact HB.out | apply below_alloc | apply pw_below_drewN | apply below_drew1 | refine below_set ?_ GE255.out) | exact HB.out)⟩
      · replace c22 := Bool.eq_false_iff.mpr c22
        subst c22
        have H1 : (gossamerref02_may.l0 kj2 0 a0_0 a0_1 a0_2 a0_3 l0_4) = some r := by rw [if_neg (show ¬ (false = true) by decide)] at H; exact H
        clear H
        have H := H1
        clear H1
        have H' := Aside0.mk H
        clear H
        go_wp2
        go_loopg [5] kj2 (fun kq v5 w' => ∃ (x5_2 : Int), v5 = .int .i64 x5_2 ∧ Aside0 (gossamerref02_may.l0 kq x5_2 a0_0 a0_1 a0_2 a0_3 l0_4 = some r) ∧ Aside0 (kq ≤ kj2) ∧ Aside0 (w'.heap[gb255]? = some (.cells #[.int .i64 a0_0, .string a0_1, .int .i64 a0_2, .int .i64 a0_3, (.slice A0_4 l0_4.length c0_4)] 25 (0, 0))) ∧ Aside0 (Below w.heap.size w w'))
        case atStart => exact ⟨(0), (by first | rfl | (simp; done) | (simp [*]; done)), H', ⟨Nat.le_refl _⟩, ⟨by (with_reducible repeat (first | refine blk_drewN ?_ _ | refine blk_drew ?_ | refine blk_alloc ?_ _)); exact BK255.out⟩, ⟨by repeat (first | (with_reducible first | exact HB.out | apply below_alloc | apply pw_below_drewN | apply below_drew1 | refine below_set ?_ GE255.out) | exact HB.out)⟩⟩
        case round =>
          clear H'
          try clear c1
          try clear c2
          try clear p2
          try clear c5
          try clear c5b0
          try clear c5b1
          try clear c5b2
          try clear c8
          try clear c10
          try clear c20
          try clear c22
          try clear hcz11_0
          try clear hcz11_1
          try clear hcz11_2
          try clear hcz11_3
          try clear hcz11_4
          try clear hcz13_0
          try clear hcz13_1
          try clear hcz13_2
          try clear hcz13_3
          try clear hcz13_4
          try clear hcz15_0
          try clear hcz15_1
          try clear hcz15_2
          try clear hcz15_3
          try clear hcz15_4
          try clear hcz16_0
          try clear hcz16_1
          try clear hcz16_2
          try clear hcz16_3
          try clear hcz16_4
          try clear hcz18_0
          try clear hcz18_1
          try clear hcz18_2
          try clear hcz18_3
          try clear hcz18_4
          try clear hcz20_0
          try clear hcz20_1
          try clear hcz20_2
          try clear hcz20_3
          try clear hcz20_4
          try clear hcz6_0
          try clear hcz6_1
          try clear hcz6_2
          try clear hcz6_3
          try clear hcz6_4
          try clear hfz11_0
          try clear hfz11_1
          try clear hfz11_2
          try clear hfz11_3
          try clear hfz11_4
          try clear hfz13_0
          try clear hfz13_1
          try clear hfz13_2
          try clear hfz13_3
          try clear hfz13_4
          try clear hfz15_0
          try clear hfz15_1
          try clear hfz15_2
          try clear hfz15_3
          try clear hfz15_4
          try clear hfz16_0
          try clear hfz16_1
          try clear hfz16_2
          try clear hfz16_3
          try clear hfz16_4
          try clear hfz18_0
          try clear hfz18_1
          try clear hfz18_2
          try clear hfz18_3
          try clear hfz18_4
          try clear hfz20_0
          try clear hfz20_1
          try clear hfz20_2
          try clear hfz20_3
          try clear hfz20_4
          try clear hfz6_0
          try clear hfz6_1
          try clear hfz6_2
          try clear hfz6_3
          try clear hfz6_4
          try clear p2
          obtain ⟨x5_2, rfl, HA, HK2, BK255, HB⟩ := hrel
          cases gk with
          | zero => exact absurd HA.out (by simp [gossamerref02_may.l0])
          | succ k2 =>
            have H := HA.out
            clear HA
            simp only [gossamerref02_may.l0] at H
            by_cases c23 : x5_2 < (l0_4.length : Int)
            · rw [if_pos c23] at H
              have c23b0 : decide (x5_2 < (l0_4.length : Int)) = true := decide_eq_true c23
              clear c23
              have HC24 := Aside0.mk H
              clear H
              have hcz25_0 : wr.cell? ⟨gb255, 0, none⟩ = some (.int .i64 a0_0) := (blk_cell BK255.out 0).trans rfl
              have hcz25_1 : wr.cell? ⟨gb255, 1, none⟩ = some (.string a0_1) := (blk_cell BK255.out 1).trans rfl
              have hcz25_2 : wr.cell? ⟨gb255, 2, none⟩ = some (.int .i64 a0_2) := (blk_cell BK255.out 2).trans rfl
              have hcz25_3 : wr.cell? ⟨gb255, 3, none⟩ = some (.int .i64 a0_3) := (blk_cell BK255.out 3).trans rfl
              have hcz25_4 : wr.cell? ⟨gb255, 4, none⟩ = some (.slice A0_4 l0_4.length c0_4) := (blk_cell BK255.out 4).trans rfl
              have hfz25_0 := blk_frozen BK255.out 0
              have hfz25_1 := blk_frozen BK255.out 1
              have hfz25_2 := blk_frozen BK255.out 2
              have hfz25_3 := blk_frozen BK255.out 3
              have hfz25_4 := blk_frozen BK255.out 4
              go_upto_region 6 with (fail)
              go_cut [50] (fun v50 wc => ∃ (kq : Nat) (x50_23 : Bool), v50 = .bool x50_23 ∧ Aside0 (gossamerref02_may.j2 kq x5_2 x50_23 a0_0 a0_1 a0_2 a0_3 l0_4 = some r) ∧ Aside0 (kq ≤ k2) ∧ Aside0 (wc.heap[gb255]? = some (.cells #[.int .i64 a0_0, .string a0_1, .int .i64 a0_2, .int .i64 a0_3, (.slice A0_4 l0_4.length c0_4)] 25 (0, 0))) ∧ Aside0 (Below w.heap.size w wc))
              case first =>
                have H := HC24.out
                clear HC24
                by_cases c26 : a0_0 = 8
                · rw [if_pos c26] at H
                  have c26b0 : (a0_0 == 8) = true := beq_iff_eq.mpr c26
                  have c26b1 : (a0_0 != 8) = false := bne_eq_false_iff_eq.mpr c26
                  clear c26
                  (first | rw [c26b0] | (simp only [i64_w, i32_w]; rw [c26b0]) | skip)
                  by_cases c27 : x5_2 < a0_2
                  · rw [if_pos c27] at H
                    have c27b0 : decide (x5_2 < a0_2) = true := decide_eq_true c27
                    clear c27
                    by_cases c28 : 0 ≤ x5_2
                    · rw [if_pos c28] at H
                      have c28b0 : decide (0 ≤ x5_2) = true := decide_eq_true c28
                      clear c28
                      have H' := Aside0.mk H
                      clear H
                      have hcz29_0 : wr.cell? ⟨gb255, 0, none⟩ = some (.int .i64 a0_0) := (blk_cell BK255.out 0).trans rfl
                      have hcz29_1 : wr.cell? ⟨gb255, 1, none⟩ = some (.string a0_1) := (blk_cell BK255.out 1).trans rfl
                      have hcz29_2 : wr.cell? ⟨gb255, 2, none⟩ = some (.int .i64 a0_2) := (blk_cell BK255.out 2).trans rfl
                      have hcz29_3 : wr.cell? ⟨gb255, 3, none⟩ = some (.int .i64 a0_3) := (blk_cell BK255.out 3).trans rfl
                      have hcz29_4 : wr.cell? ⟨gb255, 4, none⟩ = some (.slice A0_4 l0_4.length c0_4) := (blk_cell BK255.out 4).trans rfl
                      have hfz29_0 := blk_frozen BK255.out 0
                      have hfz29_1 := blk_frozen BK255.out 1
                      have hfz29_2 := blk_frozen BK255.out 2
                      have hfz29_3 := blk_frozen BK255.out 3
                      have hfz29_4 := blk_frozen BK255.out 4
                      have p258 : 0 ≤ (x5_2 : Int) := of_decide_eq_true (by first | (with_reducible assumption) | assumption)
                      have q258 : x5_2 < (l0_4.length : Int) := of_decide_eq_true (by first | (with_reducible assumption) | assumption)
                      obtain ⟨ad258, A258_4, c258_4, e258, hx258_0, hx258_1, hx258_2, hx258_3, hx258_4, hl258_4, hi258_4⟩ := at_T25 HR0_4.out x5_2 p258 q258
                      cases e258
                      replace hx258_0 := (HB.out.cell (World.block_lt_of_cell? w _ hx258_0)).trans hx258_0
                      replace hx258_1 := (HB.out.cell (World.block_lt_of_cell? w _ hx258_1)).trans hx258_1
                      replace hx258_2 := (HB.out.cell (World.block_lt_of_cell? w _ hx258_2)).trans hx258_2
                      replace hx258_3 := (HB.out.cell (World.block_lt_of_cell? w _ hx258_3)).trans hx258_3
                      replace hx258_4 := (HB.out.cell (World.block_lt_of_cell? w _ hx258_4)).trans hx258_4
                      have HR258_4 := Aside0.mk hi258_4
                      have HC258_4 := Aside0.mk hl258_4
                      clear hi258_4 hl258_4
                      replace p258 := eq_true p258
                      replace q258 := eq_true q258
                      go_wp2
                      go_meet
                      case rel => exact ⟨_, ((((rd_T25 l0_4 x5_2).f0) != 1)), (by first | rfl | (simp; done) | (simp [*]; done)), H', ⟨by have := HJ2.out; have := HK2.out; first | omega | exact Nat.le_refl _⟩, ⟨by (with_reducible repeat (first | refine blk_drewN ?_ _ | refine blk_drew ?_ | refine blk_alloc ?_ _)); exact BK255.out⟩, ⟨by repeat (first | (with_reducible first | exact HB.out | apply below_alloc | apply pw_below_drewN | apply below_drew1 | refine below_set ?_ GE255.out) | exact HB.out)⟩⟩
                    · rw [if_neg c28] at H
                      exact absurd H (by simp)
                  · rw [if_neg c27] at H
                    have c27b0 : decide (x5_2 < a0_2) = false := decide_eq_false c27
                    clear c27
                    have H' := Aside0.mk H
                    clear H
                    have hcz30_0 : wr.cell? ⟨gb255, 0, none⟩ = some (.int .i64 a0_0) := (blk_cell BK255.out 0).trans rfl
                    have hcz30_1 : wr.cell? ⟨gb255, 1, none⟩ = some (.string a0_1) := (blk_cell BK255.out 1).trans rfl
                    have hcz30_2 : wr.cell? ⟨gb255, 2, none⟩ = some (.int .i64 a0_2) := (blk_cell BK255.out 2).trans rfl
                    have hcz30_3 : wr.cell? ⟨gb255, 3, none⟩ = some (.int .i64 a0_3) := (blk_cell BK255.out 3).trans rfl
                    have hcz30_4 : wr.cell? ⟨gb255, 4, none⟩ = some (.slice A0_4 l0_4.length c0_4) := (blk_cell BK255.out 4).trans rfl
                    have hfz30_0 := blk_frozen BK255.out 0
                    have hfz30_1 := blk_frozen BK255.out 1
                    have hfz30_2 := blk_frozen BK255.out 2
                    have hfz30_3 := blk_frozen BK255.out 3
                    have hfz30_4 := blk_frozen BK255.out 4
                    go_wp2
                    go_meet
                    case rel => exact ⟨_, (false), (by first | rfl | (simp; done) | (simp [*]; done)), H', ⟨by have := HJ2.out; have := HK2.out; first | omega | exact Nat.le_refl _⟩, ⟨by (with_reducible repeat (first | refine blk_drewN ?_ _ | refine blk_drew ?_ | refine blk_alloc ?_ _)); exact BK255.out⟩, ⟨by repeat (first | (with_reducible first | exact HB.out | apply below_alloc | apply pw_below_drewN | apply below_drew1 | refine below_set ?_ GE255.out) | exact HB.out)⟩⟩
                · rw [if_neg c26] at H
                  have c26b0 : (a0_0 == 8) = false := beq_eq_false_iff_ne.mpr c26
                  have c26b1 : (a0_0 != 8) = true := bne_iff_ne.mpr c26
                  (first | rw [c26b0] | (simp only [i64_w, i32_w]; rw [c26b0]) | skip)
                  have H' := Aside0.mk H
                  clear H
                  have hcz31_0 : wr.cell? ⟨gb255, 0, none⟩ = some (.int .i64 a0_0) := (blk_cell BK255.out 0).trans rfl
                  have hcz31_1 : wr.cell? ⟨gb255, 1, none⟩ = some (.string a0_1) := (blk_cell BK255.out 1).trans rfl
                  have hcz31_2 : wr.cell? ⟨gb255, 2, none⟩ = some (.int .i64 a0_2) := (blk_cell BK255.out 2).trans rfl
                  have hcz31_3 : wr.cell? ⟨gb255, 3, none⟩ = some (.int .i64 a0_3) := (blk_cell BK255.out 3).trans rfl
                  have hcz31_4 : wr.cell? ⟨gb255, 4, none⟩ = some (.slice A0_4 l0_4.length c0_4) := (blk_cell BK255.out 4).trans rfl
                  have hfz31_0 := blk_frozen BK255.out 0
                  have hfz31_1 := blk_frozen BK255.out 1
                  have hfz31_2 := blk_frozen BK255.out 2
                  have hfz31_3 := blk_frozen BK255.out 3
                  have hfz31_4 := blk_frozen BK255.out 4
                  go_wp2
                  go_meet
                  case rel => exact ⟨_, (false), (by first | rfl | (simp; done) | (simp [*]; done)), H', ⟨by have := HJ2.out; have := HK2.out; first | omega | exact Nat.le_refl _⟩, ⟨by (with_reducible repeat (first | refine blk_drewN ?_ _ | refine blk_drew ?_ | refine blk_alloc ?_ _)); exact BK255.out⟩, ⟨by repeat (first | (with_reducible first | exact HB.out | apply below_alloc | apply pw_below_drewN | apply below_drew1 | refine below_set ?_ GE255.out) | exact HB.out)⟩⟩
              case rest =>
                clear HC24
                try clear c1
                try clear c2
                try clear p2
                try clear q2
                try clear hx2
                try clear c5
                try clear c5b0
                try clear c5b1
                try clear c5b2
                try clear c8
                try clear c10
                try clear c20
                try clear c22
                try clear c23
                try clear c23b0
                try clear c25
                try clear p25
                try clear q25
                try clear hx25
                try clear c26
                try clear c26b0
                try clear c26b1
                try clear c27
                try clear c27b0
                try clear c28
                try clear c28b0
                try clear hcz11_0
                try clear hcz11_1
                try clear hcz11_2
                try clear hcz11_3
                try clear hcz11_4
                try clear hcz13_0
                try clear hcz13_1
                try clear hcz13_2
                try clear hcz13_3
                try clear hcz13_4
                try clear hcz15_0
                try clear hcz15_1
                try clear hcz15_2
                try clear hcz15_3
                try clear hcz15_4
                try clear hcz16_0
                try clear hcz16_1
                try clear hcz16_2
                try clear hcz16_3
                try clear hcz16_4
                try clear hcz18_0
                try clear hcz18_1
                try clear hcz18_2
                try clear hcz18_3
                try clear hcz18_4
                try clear hcz20_0
                try clear hcz20_1
                try clear hcz20_2
                try clear hcz20_3
                try clear hcz20_4
                try clear hcz25_0
                try clear hcz25_1
                try clear hcz25_2
                try clear hcz25_3
                try clear hcz25_4
                try clear hcz29_0
                try clear hcz29_1
                try clear hcz29_2
                try clear hcz29_3
                try clear hcz29_4
                try clear hcz30_0
                try clear hcz30_1
                try clear hcz30_2
                try clear hcz30_3
                try clear hcz30_4
                try clear hcz31_0
                try clear hcz31_1
                try clear hcz31_2
                try clear hcz31_3
                try clear hcz31_4
                try clear hcz6_0
                try clear hcz6_1
                try clear hcz6_2
                try clear hcz6_3
                try clear hcz6_4
                try clear hfz11_0
                try clear hfz11_1
                try clear hfz11_2
                try clear hfz11_3
                try clear hfz11_4
                try clear hfz13_0
                try clear hfz13_1
                try clear hfz13_2
                try clear hfz13_3
                try clear hfz13_4
                try clear hfz15_0
                try clear hfz15_1
                try clear hfz15_2
                try clear hfz15_3
                try clear hfz15_4
                try clear hfz16_0
                try clear hfz16_1
                try clear hfz16_2
                try clear hfz16_3
                try clear hfz16_4
                try clear hfz18_0
                try clear hfz18_1
                try clear hfz18_2
                try clear hfz18_3
                try clear hfz18_4
                try clear hfz20_0
                try clear hfz20_1
                try clear hfz20_2
                try clear hfz20_3
                try clear hfz20_4
                try clear hfz25_0
                try clear hfz25_1
                try clear hfz25_2
                try clear hfz25_3
                try clear hfz25_4
                try clear hfz29_0
                try clear hfz29_1
                try clear hfz29_2
                try clear hfz29_3
                try clear hfz29_4
                try clear hfz30_0
                try clear hfz30_1
                try clear hfz30_2
                try clear hfz30_3
                try clear hfz30_4
                try clear hfz31_0
                try clear hfz31_1
                try clear hfz31_2
                try clear hfz31_3
                try clear hfz31_4
                try clear hfz6_0
                try clear hfz6_1
                try clear hfz6_2
                try clear hfz6_3
                try clear hfz6_4
                try clear hx258_0
                try clear hx258_1
                try clear hx258_2
                try clear hx258_3
                try clear hx258_4
                try clear p2
                try clear p258
                try clear q258
                obtain ⟨kq, x50_23, rfl, HA, HJ23, BK255, HB⟩ := hcut
                cases kq with
                | zero => exact absurd HA.out (by simp [gossamerref02_may.j2])
                | succ kj23 =>
                  have H := HA.out
                  clear HA
                  simp only [gossamerref02_may.j2] at H
                  by_cases c32 : x50_23 = true
                  · subst c32
                    have H1 : (some false) = some r := by rw [if_pos rfl] at H; exact H
                    clear H
                    have H := H1
                    clear H1
                    obtain rfl := Option.some.inj H
                    go_wp2
                    go_ret
                    exact ⟨by first | rfl | (simp [errW_none, errW_some] <;> rfl) | (simp [*, errW_none, errW_some] <;> rfl), by repeat (first | (with_reducible first | exact HB.out | apply below_alloc | apply pw_below_drewN | apply below_drew1 | refine below_set ?_ GE255.out) | exact HB.out)⟩
                  · replace c32 := Bool.eq_false_iff.mpr c32
                    subst c32
                    have H1 : (if 0 ≤ x5_2 then (if x5_2 < (l0_4.length : Int) then (if a0_0 = 7 then ((gossamerref02_may.f kj23 ((rd_T25 l0_4 x5_2).f0) ((rd_T25 l0_4 x5_2).f1) ((rd_T25 l0_4 x5_2).f2) ((rd_T25 l0_4 x5_2).f3) ((rd_T25 l0_4 x5_2).f4) (decide (x5_2 > 0))).bind fun t260 => (if t260 = true then (gossamerref02_may.l0 kj23 (wrap64 (x5_2 + 1)) a0_0 a0_1 a0_2 a0_3 l0_4) else (some false))) else ((gossamerref02_may.f kj23 ((rd_T25 l0_4 x5_2).f0) ((rd_T25 l0_4 x5_2).f1) ((rd_T25 l0_4 x5_2).f2) ((rd_T25 l0_4 x5_2).f3) ((rd_T25 l0_4 x5_2).f4) false).bind fun t261 => (if t261 = true then (gossamerref02_may.l0 kj23 (wrap64 (x5_2 + 1)) a0_0 a0_1 a0_2 a0_3 l0_4) else (some false)))) else (none)) else (none)) = some r := by rw [if_neg (show ¬ (false = true) by decide)] at H; exact H
                    clear H
                    have H := H1
                    clear H1
                    by_cases c33 : 0 ≤ x5_2
                    · rw [if_pos c33] at H
                      have c33b0 : decide (0 ≤ x5_2) = true := decide_eq_true c33
                      clear c33
                      by_cases c34 : x5_2 < (l0_4.length : Int)
                      · rw [if_pos c34] at H
                        have c34b0 : decide (x5_2 < (l0_4.length : Int)) = true := decide_eq_true c34
                        clear c34
                        by_cases c35 : a0_0 = 7
                        · rw [if_pos c35] at H
                          have c35b0 : (a0_0 == 7) = true := beq_iff_eq.mpr c35
                          have c35b1 : (a0_0 != 7) = false := bne_eq_false_iff_eq.mpr c35
                          clear c35
                          replace H := Option.bind_eq_some_iff.mp H
                          obtain ⟨t260, A360, H⟩ := H
                          replace H : (if t260 = true then (gossamerref02_may.l0 kj23 (wrap64 (x5_2 + 1)) a0_0 a0_1 a0_2 a0_3 l0_4) else (some false)) = some r := H
                          have A36 := Aside0.mk A360
                          clear A360
                          by_cases c37 : t260 = true
                          · subst c37
                            have H1 : (gossamerref02_may.l0 kj23 (wrap64 (x5_2 + 1)) a0_0 a0_1 a0_2 a0_3 l0_4) = some r := by rw [if_pos rfl] at H; exact H
                            clear H
                            have H := H1
                            clear H1
                            have H' := Aside0.mk H
                            clear H
                            try go_wp2
                            have n0_ := Aside0.mk (blk_drew BK255.out)
                            have n1_ := Aside0.mk (below_drew1 HB.out)
                            clear BK255
                            clear HB
                            have BK255 := n0_
                            have HB := n1_
                            clear n0_ n1_
                            have p259 : 0 ≤ (x5_2 : Int) := of_decide_eq_true (by first | (with_reducible assumption) | assumption)
                            have q259 : x5_2 < (l0_4.length : Int) := of_decide_eq_true (by first | (with_reducible assumption) | assumption)
                            obtain ⟨ad259, A259_4, c259_4, e259, hx259_0, hx259_1, hx259_2, hx259_3, hx259_4, hl259_4, hi259_4⟩ := at_T25 HR0_4.out x5_2 p259 q259
                            have hw259_4 := hx259_4
                            have hw259_3 := hx259_3
                            have hw259_2 := hx259_2
                            have hw259_1 := hx259_1
                            have hw259_0 := hx259_0
                            cases e259
                            replace hx259_0 := (HB.out.cell (World.block_lt_of_cell? w _ hx259_0)).trans hx259_0
                            replace hx259_1 := (HB.out.cell (World.block_lt_of_cell? w _ hx259_1)).trans hx259_1
                            replace hx259_2 := (HB.out.cell (World.block_lt_of_cell? w _ hx259_2)).trans hx259_2
                            replace hx259_3 := (HB.out.cell (World.block_lt_of_cell? w _ hx259_3)).trans hx259_3
                            replace hx259_4 := (HB.out.cell (World.block_lt_of_cell? w _ hx259_4)).trans hx259_4
                            have HR259_4 := Aside0.mk hi259_4
                            have HC259_4 := Aside0.mk hl259_4
                            clear hi259_4 hl259_4
                            replace p259 := eq_true p259
                            replace q259 := eq_true q259
                            refine start_ (n := 14) (S := fun w' => w'.cell? ⟨gb255, 0, none⟩ = some (.int .i64 a0_0) ∧ w'.cell? ⟨gb255, 1, none⟩ = some (.string a0_1) ∧ w'.cell? ⟨gb255, 2, none⟩ = some (.int .i64 a0_2) ∧ w'.cell? ⟨gb255, 3, none⟩ = some (.int .i64 a0_3) ∧ w'.cell? ⟨gb255, 4, none⟩ = some (.slice (some ad259) l0_4.length c0_4) ∧ w'.cell? (ad259.add ((x5_2).toNat * 5)) = some (.int .i64 ((rd_T25 l0_4 x5_2).f0)) ∧ w'.cell? ⟨(ad259.add ((x5_2).toNat * 5)).block, (ad259.add ((x5_2).toNat * 5)).off + 1, none⟩ = some (.string ((rd_T25 l0_4 x5_2).f1)) ∧ w'.cell? ⟨(ad259.add ((x5_2).toNat * 5)).block, (ad259.add ((x5_2).toNat * 5)).off + 2, none⟩ = some (.int .i64 ((rd_T25 l0_4 x5_2).f2)) ∧ w'.cell? ⟨(ad259.add ((x5_2).toNat * 5)).block, (ad259.add ((x5_2).toNat * 5)).off + 3, none⟩ = some (.int .i64 ((rd_T25 l0_4 x5_2).f3)) ∧ w'.cell? ⟨(ad259.add ((x5_2).toNat * 5)).block, (ad259.add ((x5_2).toNat * 5)).off + 4, none⟩ = some (.slice A259_4 ((rd_T25 l0_4 x5_2).f4).length c259_4)) (ds := []) #[false, false, false, false, false, false, false, false, false, false, false, false, false, false] (by kernel_rfl) rfl rfl ⟨(blk_cell BK255.out 0).trans rfl, (blk_cell BK255.out 1).trans rfl, (blk_cell BK255.out 2).trans rfl, (blk_cell BK255.out 3).trans rfl, (blk_cell BK255.out 4).trans rfl, ((HB.out.cell (World.block_lt_of_cell? w _ hw259_0)).trans hw259_0), ((HB.out.cell (World.block_lt_of_cell? w _ hw259_1)).trans hw259_1), ((HB.out.cell (World.block_lt_of_cell? w _ hw259_2)).trans hw259_2), ((HB.out.cell (World.block_lt_of_cell? w _ hw259_3)).trans hw259_3), ((HB.out.cell (World.block_lt_of_cell? w _ hw259_4)).trans hw259_4)⟩ (fun hHeld => ?_); refine with_tabW gossamerref02_may.tab8 gossamerref02_may.bits8 (fun HT_ HW_ => ?_)
                            generalize wc.drew = w38 at BK255 HB HR259_4 hx259_0 hx259_1 hx259_2 hx259_3 hx259_4 hHeld ⊢
                            refine pure_ (i := 0) (N := some 51) (v := ?_) (a' := ?_) #[true, false, false, false, false, false, false, false, false, false, false, false, false, false] rfl rfl (any_of HT_.out (by kernel_rfl)) (fun _ _ _ h => h) (Or.inl ⟨by rfl, ?_⟩) ?_ ?_
                            rotate_left
                            · intro w'
                              go_simp
                              with_reducible rfl
                            rotate_left
                            · simp only [Act.put, List.setIfInBounds_toArray, List.set_cons_zero, List.set_cons_succ, i64_w, i32_w]
                              rfl
                            refine pure_ (i := 2) (N := some 53) (v := ?_) (a' := ?_) #[true, false, true, false, false, false, false, false, false, false, false, false, false, false] rfl rfl (any_of HT_.out (by kernel_rfl)) (fun _ _ _ h => h) (Or.inl ⟨by rfl, ?_⟩) ?_ ?_
                            rotate_left
                            · intro w'
                              go_simp
                              with_reducible rfl
                            rotate_left
                            · simp only [Act.put, List.setIfInBounds_toArray, List.set_cons_zero, List.set_cons_succ, i64_w, i32_w]
                              rfl
                            refine pure_ (i := 5) (N := some 56) (v := ?_) (a' := ?_) #[true, false, true, false, false, true, false, false, false, false, false, false, false, false] rfl rfl (any_of HT_.out (by kernel_rfl)) (fun _ _ _ h => h) (Or.inl ⟨by rfl, ?_⟩) ?_ ?_
                            rotate_left
                            · intro w'
                              go_simp
                              with_reducible rfl
                            rotate_left
                            · simp only [Act.put, List.setIfInBounds_toArray, List.set_cons_zero, List.set_cons_succ, i64_w, i32_w]
                              rfl
                            refine take_ (i := 1) (N := some 52) (v := ?_) (a' := ?_) #[true, true, true, false, false, true, false, false, false, false, false, false, false, false] rfl rfl (take_ofW HT_.out HW_.out (by kernel_rfl)) (fun _ _ _ h => h) (Or.inl ⟨by rfl, ?_⟩) hHeld ?_ ?_
                            rotate_left
                            · rintro w' ⟨s0, s1, s2, s3, s4, s5, s6, s7, s8, s9⟩
                              go_simp
                              with_reducible rfl
                            rotate_left
                            · simp only [Act.put, List.setIfInBounds_toArray, List.set_cons_zero, List.set_cons_succ, i64_w, i32_w]
                              rfl
                            refine pure_ (i := 3) (N := some 54) (v := ?_) (a' := ?_) #[true, true, true, true, false, true, false, false, false, false, false, false, false, false] rfl rfl (any_of HT_.out (by kernel_rfl)) (fun _ _ _ h => h) (Or.inl ⟨by rfl, ?_⟩) ?_ ?_
                            rotate_left
                            · intro w'
                              go_simp
                              with_reducible rfl
                            rotate_left
                            · simp only [Act.put, List.setIfInBounds_toArray, List.set_cons_zero, List.set_cons_succ, i64_w, i32_w]
                              rfl
                            refine take_ (i := 4) (N := some 55) (v := ?_) (a' := ?_) #[true, true, true, true, true, true, false, false, false, false, false, false, false, false] rfl rfl (take_ofW HT_.out HW_.out (by kernel_rfl)) (fun _ _ _ h => h) (Or.inl ⟨by rfl, ?_⟩) hHeld ?_ ?_
                            rotate_left
                            · rintro w' ⟨s0, s1, s2, s3, s4, s5, s6, s7, s8, s9⟩
                              go_simp
                              with_reducible rfl
                            rotate_left
                            · simp only [Act.put, List.setIfInBounds_toArray, List.set_cons_zero, List.set_cons_succ, i64_w, i32_w]
                              rfl
                            refine take_ (i := 6) (N := some 57) (v := ?_) (a' := ?_) #[true, true, true, true, true, true, true, false, false, false, false, false, false, false] rfl rfl (take_ofW HT_.out HW_.out (by kernel_rfl)) (fun _ _ _ h => h) (Or.inl ⟨by rfl, ?_⟩) hHeld ?_ ?_
                            rotate_left
                            · rintro w' ⟨s0, s1, s2, s3, s4, s5, s6, s7, s8, s9⟩
                              go_simp
                              with_reducible rfl
                            rotate_left
                            · simp only [Act.put, List.setIfInBounds_toArray, List.set_cons_zero, List.set_cons_succ, i64_w, i32_w]
                              rfl
                            refine pure_ (i := 7) (N := some 58) (v := ?_) (a' := ?_) #[true, true, true, true, true, true, true, true, false, false, false, false, false, false] rfl rfl (any_of HT_.out (by kernel_rfl)) (fun _ _ _ h => h) (Or.inl ⟨by rfl, ?_⟩) ?_ ?_
                            rotate_left
                            · intro w'
                              go_simp
                              with_reducible rfl
                            rotate_left
                            · simp only [Act.put, List.setIfInBounds_toArray, List.set_cons_zero, List.set_cons_succ, i64_w, i32_w]
                              rfl
                            refine pure_ (i := 8) (N := some 59) (v := ?_) (a' := ?_) #[true, true, true, true, true, true, true, true, true, false, false, false, false, false] rfl rfl (any_of HT_.out (by kernel_rfl)) (fun _ _ _ h => h) (Or.inl ⟨by rfl, ?_⟩) ?_ ?_
                            rotate_left
                            · intro w'
                              go_simp
                              with_reducible rfl
                            rotate_left
                            · simp only [Act.put, List.setIfInBounds_toArray, List.set_cons_zero, List.set_cons_succ, i64_w, i32_w]
                              rfl
                            refine pure_ (i := 9) (N := some 60) (v := ?_) (a' := ?_) #[true, true, true, true, true, true, true, true, true, true, false, false, false, false] rfl rfl (any_of HT_.out (by kernel_rfl)) (fun _ _ _ h => h) (Or.inl ⟨by rfl, ?_⟩) ?_ ?_
                            rotate_left
                            · intro w'
                              go_simp
                              with_reducible rfl
                            rotate_left
                            · simp only [Act.put, List.setIfInBounds_toArray, List.set_cons_zero, List.set_cons_succ, i64_w, i32_w]
                              rfl
                            refine pure_ (i := 10) (N := some 61) (v := ?_) (a' := ?_) #[true, true, true, true, true, true, true, true, true, true, true, false, false, false] rfl rfl (any_of HT_.out (by kernel_rfl)) (fun _ _ _ h => h) (Or.inl ⟨by rfl, ?_⟩) ?_ ?_
                            rotate_left
                            · intro w'
                              go_simp
                              with_reducible rfl
                            rotate_left
                            · simp only [Act.put, List.setIfInBounds_toArray, List.set_cons_zero, List.set_cons_succ, i64_w, i32_w]
                              rfl
                            refine pure_ (i := 11) (N := some 62) (v := ?_) (a' := ?_) #[true, true, true, true, true, true, true, true, true, true, true, true, false, false] rfl rfl (any_of HT_.out (by kernel_rfl)) (fun _ _ _ h => h) (Or.inl ⟨by rfl, ?_⟩) ?_ ?_
                            rotate_left
                            · intro w'
                              go_simp
                              with_reducible rfl
                            rotate_left
                            · simp only [Act.put, List.setIfInBounds_toArray, List.set_cons_zero, List.set_cons_succ, i64_w, i32_w]
                              rfl
                            refine one_ (i := 12) (N := some 63) #[true, true, true, true, true, true, true, true, true, true, true, true, true, false] rfl rfl (one_of HT_.out (by kernel_rfl)) (by decide) (fun K hK => ?_)
                            refine goes_ Tryz.func20 (by kernel_rfl) rfl #[.agg #[.int .i64 ((rd_T25 l0_4 x5_2).f0), .string ((rd_T25 l0_4 x5_2).f1), .int .i64 ((rd_T25 l0_4 x5_2).f2), .int .i64 ((rd_T25 l0_4 x5_2).f3), .slice A259_4 ((rd_T25 l0_4 x5_2).f4).length c259_4], .bool (decide (x5_2 > 0))] (by rfl) rfl rfl (by (try simp only [List.map_toArray, List.map_cons, List.map_nil]); first | done | rfl | (simp only [List.length_drop, List.length_take]; rfl)) ?_
                            with_reducible refine (ih kj23 (by have := HJ2.out; have := HK2.out; have := HJ23.out; omega) ((rd_T25 l0_4 x5_2).f0) ((rd_T25 l0_4 x5_2).f1) ((rd_T25 l0_4 x5_2).f2) ((rd_T25 l0_4 x5_2).f3) _ _ ((rd_T25 l0_4 x5_2).f4) (decide (x5_2 > 0)) true _ ?side1 ?side2 A36.out).mono ?_
                            (case side1 => repeat (first | exact (Kd.C_below HR259_4.out HB.out) | (with_reducible refine Kd.C_alloc ?_ _) | (with_reducible refine Kd.C_drewN ?_ _) | (with_reducible refine Kd.C_drew ?_)))
                            (case side2 => exact HC259_4.out)
                            rintro e w39 ⟨rfl, hb⟩
                            refine ⟨_, rfl, ?_⟩
                            have n0_ := Aside0.mk (blk_below (g := gb255) (o := .cells #[.int .i64 a0_0, .string a0_1, .int .i64 a0_2, .int .i64 a0_3, .slice (some ad259) l0_4.length c0_4] 25 (0, 0)) (by (with_reducible repeat (first | refine blk_drewN ?_ _ | refine blk_drew ?_ | refine blk_alloc ?_ _)); exact BK255.out) hb)
                            have n1_ := Aside0.mk (below_step (by repeat (first | (with_reducible first | exact HB.out | apply below_alloc | apply pw_below_drewN | apply below_drew1 | refine below_set ?_ GE255.out) | exact HB.out)) hb)
                            clear BK255
                            clear HB
                            have BK255 := n0_
                            have HB := n1_
                            clear n0_ n1_
                            (try clear hb)
                            (try clear hb2)
                            (try clear hk)
                            (try clear hi)
                            refine hK.out _ _ ⟨(blk_cell BK255.out 0).trans rfl, (blk_cell BK255.out 1).trans rfl, (blk_cell BK255.out 2).trans rfl, (blk_cell BK255.out 3).trans rfl, (blk_cell BK255.out 4).trans rfl, ((HB.out.cell (World.block_lt_of_cell? w _ hw259_0)).trans hw259_0), ((HB.out.cell (World.block_lt_of_cell? w _ hw259_1)).trans hw259_1), ((HB.out.cell (World.block_lt_of_cell? w _ hw259_2)).trans hw259_2), ((HB.out.cell (World.block_lt_of_cell? w _ hw259_3)).trans hw259_3), ((HB.out.cell (World.block_lt_of_cell? w _ hw259_4)).trans hw259_4)⟩ (fun hHeld => ?_)
                            clear hK K
                            refine norm_ (a' := ?_) ?_ ?_
                            rotate_left
                            · show Act.put _ (some 63) _ = _
                              simp only [Act.put, List.setIfInBounds_toArray, List.set_cons_zero, List.set_cons_succ, i64_w, i32_w]
                              rfl
                            refine pure_ (i := 13) (N := some 64) (v := ?_) (a' := ?_) #[true, true, true, true, true, true, true, true, true, true, true, true, true, true] rfl rfl (any_of HT_.out (by kernel_rfl)) (fun _ _ _ h => h) (Or.inl ⟨by rfl, ?_⟩) ?_ ?_
                            rotate_left
                            · intro w'
                              go_simp
                              with_reducible rfl
                            rotate_left
                            · simp only [Act.put, List.setIfInBounds_toArray, List.set_cons_zero, List.set_cons_succ, i64_w, i32_w]
                              rfl
                            refine done_ (done_of HT_.out (by kernel_rfl)) ?_
                            try go_wp2
                            go_roundg kj23
                            case measure => have := HJ2.out; have := HK2.out; have := HJ23.out; omega
                            case rel => exact ⟨(wrap64 (x5_2 + 1)), (by first | rfl | (simp; done) | (simp [*]; done)), H', ⟨by have := HJ2.out; have := HK2.out; have := HJ23.out; omega⟩, ⟨by (with_reducible repeat (first | refine blk_drewN ?_ _ | refine blk_drew ?_ | refine blk_alloc ?_ _)); exact BK255.out⟩, ⟨by repeat (first | (with_reducible first | exact HB.out | apply below_alloc | apply pw_below_drewN | apply below_drew1 | refine below_set ?_ GE255.out) | exact HB.out)⟩⟩
                          · replace c37 := Bool.eq_false_iff.mpr c37
                            subst c37
                            have H1 : (some false) = some r := by rw [if_neg (show ¬ (false = true) by decide)] at H; exact H
                            clear H
                            have H := H1
                            clear H1
                            obtain rfl := Option.some.inj H
                            try go_wp2
                            have n0_ := Aside0.mk (blk_drew BK255.out)
                            have n1_ := Aside0.mk (below_drew1 HB.out)
                            clear BK255
                            clear HB
                            have BK255 := n0_
                            have HB := n1_
                            clear n0_ n1_
                            have p259 : 0 ≤ (x5_2 : Int) := of_decide_eq_true (by first | (with_reducible assumption) | assumption)
                            have q259 : x5_2 < (l0_4.length : Int) := of_decide_eq_true (by first | (with_reducible assumption) | assumption)
                            obtain ⟨ad259, A259_4, c259_4, e259, hx259_0, hx259_1, hx259_2, hx259_3, hx259_4, hl259_4, hi259_4⟩ := at_T25 HR0_4.out x5_2 p259 q259
                            have hw259_4 := hx259_4
                            have hw259_3 := hx259_3
                            have hw259_2 := hx259_2
                            have hw259_1 := hx259_1
                            have hw259_0 := hx259_0
                            cases e259
                            replace hx259_0 := (HB.out.cell (World.block_lt_of_cell? w _ hx259_0)).trans hx259_0
                            replace hx259_1 := (HB.out.cell (World.block_lt_of_cell? w _ hx259_1)).trans hx259_1
                            replace hx259_2 := (HB.out.cell (World.block_lt_of_cell? w _ hx259_2)).trans hx259_2
                            replace hx259_3 := (HB.out.cell (World.block_lt_of_cell? w _ hx259_3)).trans hx259_3
                            replace hx259_4 := (HB.out.cell (World.block_lt_of_cell? w _ hx259_4)).trans hx259_4
                            have HR259_4 := Aside0.mk hi259_4
                            have HC259_4 := Aside0.mk hl259_4
                            clear hi259_4 hl259_4
                            replace p259 := eq_true p259
                            replace q259 := eq_true q259
                            refine start_ (n := 14) (S := fun w' => w'.cell? ⟨gb255, 0, none⟩ = some (.int .i64 a0_0) ∧ w'.cell? ⟨gb255, 1, none⟩ = some (.string a0_1) ∧ w'.cell? ⟨gb255, 2, none⟩ = some (.int .i64 a0_2) ∧ w'.cell? ⟨gb255, 3, none⟩ = some (.int .i64 a0_3) ∧ w'.cell? ⟨gb255, 4, none⟩ = some (.slice (some ad259) l0_4.length c0_4) ∧ w'.cell? (ad259.add ((x5_2).toNat * 5)) = some (.int .i64 ((rd_T25 l0_4 x5_2).f0)) ∧ w'.cell? ⟨(ad259.add ((x5_2).toNat * 5)).block, (ad259.add ((x5_2).toNat * 5)).off + 1, none⟩ = some (.string ((rd_T25 l0_4 x5_2).f1)) ∧ w'.cell? ⟨(ad259.add ((x5_2).toNat * 5)).block, (ad259.add ((x5_2).toNat * 5)).off + 2, none⟩ = some (.int .i64 ((rd_T25 l0_4 x5_2).f2)) ∧ w'.cell? ⟨(ad259.add ((x5_2).toNat * 5)).block, (ad259.add ((x5_2).toNat * 5)).off + 3, none⟩ = some (.int .i64 ((rd_T25 l0_4 x5_2).f3)) ∧ w'.cell? ⟨(ad259.add ((x5_2).toNat * 5)).block, (ad259.add ((x5_2).toNat * 5)).off + 4, none⟩ = some (.slice A259_4 ((rd_T25 l0_4 x5_2).f4).length c259_4)) (ds := []) #[false, false, false, false, false, false, false, false, false, false, false, false, false, false] (by kernel_rfl) rfl rfl ⟨(blk_cell BK255.out 0).trans rfl, (blk_cell BK255.out 1).trans rfl, (blk_cell BK255.out 2).trans rfl, (blk_cell BK255.out 3).trans rfl, (blk_cell BK255.out 4).trans rfl, ((HB.out.cell (World.block_lt_of_cell? w _ hw259_0)).trans hw259_0), ((HB.out.cell (World.block_lt_of_cell? w _ hw259_1)).trans hw259_1), ((HB.out.cell (World.block_lt_of_cell? w _ hw259_2)).trans hw259_2), ((HB.out.cell (World.block_lt_of_cell? w _ hw259_3)).trans hw259_3), ((HB.out.cell (World.block_lt_of_cell? w _ hw259_4)).trans hw259_4)⟩ (fun hHeld => ?_); refine with_tabW gossamerref02_may.tab8 gossamerref02_may.bits8 (fun HT_ HW_ => ?_)
                            generalize wc.drew = w40 at BK255 HB HR259_4 hx259_0 hx259_1 hx259_2 hx259_3 hx259_4 hHeld ⊢
                            refine pure_ (i := 0) (N := some 51) (v := ?_) (a' := ?_) #[true, false, false, false, false, false, false, false, false, false, false, false, false, false] rfl rfl (any_of HT_.out (by kernel_rfl)) (fun _ _ _ h => h) (Or.inl ⟨by rfl, ?_⟩) ?_ ?_
                            rotate_left
                            · intro w'
                              go_simp
                              with_reducible rfl
                            rotate_left
                            · simp only [Act.put, List.setIfInBounds_toArray, List.set_cons_zero, List.set_cons_succ, i64_w, i32_w]
                              rfl
                            refine pure_ (i := 2) (N := some 53) (v := ?_) (a' := ?_) #[true, false, true, false, false, false, false, false, false, false, false, false, false, false] rfl rfl (any_of HT_.out (by kernel_rfl)) (fun _ _ _ h => h) (Or.inl ⟨by rfl, ?_⟩) ?_ ?_
                            rotate_left
                            · intro w'
                              go_simp
                              with_reducible rfl
                            rotate_left
                            · simp only [Act.put, List.setIfInBounds_toArray, List.set_cons_zero, List.set_cons_succ, i64_w, i32_w]
                              rfl
                            refine pure_ (i := 5) (N := some 56) (v := ?_) (a' := ?_) #[true, false, true, false, false, true, false, false, false, false, false, false, false, false] rfl rfl (any_of HT_.out (by kernel_rfl)) (fun _ _ _ h => h) (Or.inl ⟨by rfl, ?_⟩) ?_ ?_
                            rotate_left
                            · intro w'
                              go_simp
                              with_reducible rfl
                            rotate_left
                            · simp only [Act.put, List.setIfInBounds_toArray, List.set_cons_zero, List.set_cons_succ, i64_w, i32_w]
                              rfl
                            refine take_ (i := 1) (N := some 52) (v := ?_) (a' := ?_) #[true, true, true, false, false, true, false, false, false, false, false, false, false, false] rfl rfl (take_ofW HT_.out HW_.out (by kernel_rfl)) (fun _ _ _ h => h) (Or.inl ⟨by rfl, ?_⟩) hHeld ?_ ?_
                            rotate_left
                            · rintro w' ⟨s0, s1, s2, s3, s4, s5, s6, s7, s8, s9⟩
                              go_simp
                              with_reducible rfl
                            rotate_left
                            · simp only [Act.put, List.setIfInBounds_toArray, List.set_cons_zero, List.set_cons_succ, i64_w, i32_w]
                              rfl
                            refine pure_ (i := 3) (N := some 54) (v := ?_) (a' := ?_) #[true, true, true, true, false, true, false, false, false, false, false, false, false, false] rfl rfl (any_of HT_.out (by kernel_rfl)) (fun _ _ _ h => h) (Or.inl ⟨by rfl, ?_⟩) ?_ ?_
                            rotate_left
                            · intro w'
                              go_simp
                              with_reducible rfl
                            rotate_left
                            · simp only [Act.put, List.setIfInBounds_toArray, List.set_cons_zero, List.set_cons_succ, i64_w, i32_w]
                              rfl
                            refine take_ (i := 4) (N := some 55) (v := ?_) (a' := ?_) #[true, true, true, true, true, true, false, false, false, false, false, false, false, false] rfl rfl (take_ofW HT_.out HW_.out (by kernel_rfl)) (fun _ _ _ h => h) (Or.inl ⟨by rfl, ?_⟩) hHeld ?_ ?_
                            rotate_left
                            · rintro w' ⟨s0, s1, s2, s3, s4, s5, s6, s7, s8, s9⟩
                              go_simp
                              with_reducible rfl
                            rotate_left
                            · simp only [Act.put, List.setIfInBounds_toArray, List.set_cons_zero, List.set_cons_succ, i64_w, i32_w]
                              rfl
                            refine take_ (i := 6) (N := some 57) (v := ?_) (a' := ?_) #[true, true, true, true, true, true, true, false, false, false, false, false, false, false] rfl rfl (take_ofW HT_.out HW_.out (by kernel_rfl)) (fun _ _ _ h => h) (Or.inl ⟨by rfl, ?_⟩) hHeld ?_ ?_
                            rotate_left
                            · rintro w' ⟨s0, s1, s2, s3, s4, s5, s6, s7, s8, s9⟩
                              go_simp
                              with_reducible rfl
                            rotate_left
                            · simp only [Act.put, List.setIfInBounds_toArray, List.set_cons_zero, List.set_cons_succ, i64_w, i32_w]
                              rfl
                            refine pure_ (i := 7) (N := some 58) (v := ?_) (a' := ?_) #[true, true, true, true, true, true, true, true, false, false, false, false, false, false] rfl rfl (any_of HT_.out (by kernel_rfl)) (fun _ _ _ h => h) (Or.inl ⟨by rfl, ?_⟩) ?_ ?_
                            rotate_left
                            · intro w'
                              go_simp
                              with_reducible rfl
                            rotate_left
                            · simp only [Act.put, List.setIfInBounds_toArray, List.set_cons_zero, List.set_cons_succ, i64_w, i32_w]
                              rfl
                            refine pure_ (i := 8) (N := some 59) (v := ?_) (a' := ?_) #[true, true, true, true, true, true, true, true, true, false, false, false, false, false] rfl rfl (any_of HT_.out (by kernel_rfl)) (fun _ _ _ h => h) (Or.inl ⟨by rfl, ?_⟩) ?_ ?_
                            rotate_left
                            · intro w'
                              go_simp
                              with_reducible rfl
                            rotate_left
                            · simp only [Act.put, List.setIfInBounds_toArray, List.set_cons_zero, List.set_cons_succ, i64_w, i32_w]
                              rfl
                            refine pure_ (i := 9) (N := some 60) (v := ?_) (a' := ?_) #[true, true, true, true, true, true, true, true, true, true, false, false, false, false] rfl rfl (any_of HT_.out (by kernel_rfl)) (fun _ _ _ h => h) (Or.inl ⟨by rfl, ?_⟩) ?_ ?_
                            rotate_left
                            · intro w'
                              go_simp
                              with_reducible rfl
                            rotate_left
                            · simp only [Act.put, List.setIfInBounds_toArray, List.set_cons_zero, List.set_cons_succ, i64_w, i32_w]
                              rfl
                            refine pure_ (i := 10) (N := some 61) (v := ?_) (a' := ?_) #[true, true, true, true, true, true, true, true, true, true, true, false, false, false] rfl rfl (any_of HT_.out (by kernel_rfl)) (fun _ _ _ h => h) (Or.inl ⟨by rfl, ?_⟩) ?_ ?_
                            rotate_left
                            · intro w'
                              go_simp
                              with_reducible rfl
                            rotate_left
                            · simp only [Act.put, List.setIfInBounds_toArray, List.set_cons_zero, List.set_cons_succ, i64_w, i32_w]
                              rfl
                            refine pure_ (i := 11) (N := some 62) (v := ?_) (a' := ?_) #[true, true, true, true, true, true, true, true, true, true, true, true, false, false] rfl rfl (any_of HT_.out (by kernel_rfl)) (fun _ _ _ h => h) (Or.inl ⟨by rfl, ?_⟩) ?_ ?_
                            rotate_left
                            · intro w'
                              go_simp
                              with_reducible rfl
                            rotate_left
                            · simp only [Act.put, List.setIfInBounds_toArray, List.set_cons_zero, List.set_cons_succ, i64_w, i32_w]
                              rfl
                            refine one_ (i := 12) (N := some 63) #[true, true, true, true, true, true, true, true, true, true, true, true, true, false] rfl rfl (one_of HT_.out (by kernel_rfl)) (by decide) (fun K hK => ?_)
                            refine goes_ Tryz.func20 (by kernel_rfl) rfl #[.agg #[.int .i64 ((rd_T25 l0_4 x5_2).f0), .string ((rd_T25 l0_4 x5_2).f1), .int .i64 ((rd_T25 l0_4 x5_2).f2), .int .i64 ((rd_T25 l0_4 x5_2).f3), .slice A259_4 ((rd_T25 l0_4 x5_2).f4).length c259_4], .bool (decide (x5_2 > 0))] (by rfl) rfl rfl (by (try simp only [List.map_toArray, List.map_cons, List.map_nil]); first | done | rfl | (simp only [List.length_drop, List.length_take]; rfl)) ?_
                            with_reducible refine (ih kj23 (by have := HJ2.out; have := HK2.out; have := HJ23.out; omega) ((rd_T25 l0_4 x5_2).f0) ((rd_T25 l0_4 x5_2).f1) ((rd_T25 l0_4 x5_2).f2) ((rd_T25 l0_4 x5_2).f3) _ _ ((rd_T25 l0_4 x5_2).f4) (decide (x5_2 > 0)) false _ ?side1 ?side2 A36.out).mono ?_
                            (case side1 => repeat (first | exact (Kd.C_below HR259_4.out HB.out) | (with_reducible refine Kd.C_alloc ?_ _) | (with_reducible refine Kd.C_drewN ?_ _) | (with_reducible refine Kd.C_drew ?_)))
                            (case side2 => exact HC259_4.out)
                            rintro e w41 ⟨rfl, hb⟩
                            refine ⟨_, rfl, ?_⟩
                            have n0_ := Aside0.mk (blk_below (g := gb255) (o := .cells #[.int .i64 a0_0, .string a0_1, .int .i64 a0_2, .int .i64 a0_3, .slice (some ad259) l0_4.length c0_4] 25 (0, 0)) (by (with_reducible repeat (first | refine blk_drewN ?_ _ | refine blk_drew ?_ | refine blk_alloc ?_ _)); exact BK255.out) hb)
                            have n1_ := Aside0.mk (below_step (by repeat (first | (with_reducible first | exact HB.out | apply below_alloc | apply pw_below_drewN | apply below_drew1 | refine below_set ?_ GE255.out) | exact HB.out)) hb)
                            clear BK255
                            clear HB
                            have BK255 := n0_
                            have HB := n1_
                            clear n0_ n1_
                            (try clear hb)
                            (try clear hb2)
                            (try clear hk)
                            (try clear hi)
                            refine hK.out _ _ ⟨(blk_cell BK255.out 0).trans rfl, (blk_cell BK255.out 1).trans rfl, (blk_cell BK255.out 2).trans rfl, (blk_cell BK255.out 3).trans rfl, (blk_cell BK255.out 4).trans rfl, ((HB.out.cell (World.block_lt_of_cell? w _ hw259_0)).trans hw259_0), ((HB.out.cell (World.block_lt_of_cell? w _ hw259_1)).trans hw259_1), ((HB.out.cell (World.block_lt_of_cell? w _ hw259_2)).trans hw259_2), ((HB.out.cell (World.block_lt_of_cell? w _ hw259_3)).trans hw259_3), ((HB.out.cell (World.block_lt_of_cell? w _ hw259_4)).trans hw259_4)⟩ (fun hHeld => ?_)
                            clear hK K
                            refine norm_ (a' := ?_) ?_ ?_
                            rotate_left
                            · show Act.put _ (some 63) _ = _
                              simp only [Act.put, List.setIfInBounds_toArray, List.set_cons_zero, List.set_cons_succ, i64_w, i32_w]
                              rfl
                            refine pure_ (i := 13) (N := some 64) (v := ?_) (a' := ?_) #[true, true, true, true, true, true, true, true, true, true, true, true, true, true] rfl rfl (any_of HT_.out (by kernel_rfl)) (fun _ _ _ h => h) (Or.inl ⟨by rfl, ?_⟩) ?_ ?_
                            rotate_left
                            · intro w'
                              go_simp
                              with_reducible rfl
                            rotate_left
                            · simp only [Act.put, List.setIfInBounds_toArray, List.set_cons_zero, List.set_cons_succ, i64_w, i32_w]
                              rfl
                            refine done_ (done_of HT_.out (by kernel_rfl)) ?_
                            try go_wp2
                            go_ret
                            exact ⟨by first | rfl | (simp [errW_none, errW_some] <;> rfl) | (simp [*, errW_none, errW_some] <;> rfl), by repeat (first | (with_reducible first | exact HB.out | apply below_alloc | apply pw_below_drewN | apply below_drew1 | refine below_set ?_ GE255.out) | exact HB.out)⟩
                        · rw [if_neg c35] at H
                          have c35b0 : (a0_0 == 7) = false := beq_eq_false_iff_ne.mpr c35
                          have c35b1 : (a0_0 != 7) = true := bne_iff_ne.mpr c35
                          replace H := Option.bind_eq_some_iff.mp H
                          obtain ⟨t261, A420, H⟩ := H
                          replace H : (if t261 = true then (gossamerref02_may.l0 kj23 (wrap64 (x5_2 + 1)) a0_0 a0_1 a0_2 a0_3 l0_4) else (some false)) = some r := H
                          have A42 := Aside0.mk A420
                          clear A420
                          by_cases c43 : t261 = true
                          · subst c43
                            have H1 : (gossamerref02_may.l0 kj23 (wrap64 (x5_2 + 1)) a0_0 a0_1 a0_2 a0_3 l0_4) = some r := by rw [if_pos rfl] at H; exact H
                            clear H
                            have H := H1
                            clear H1
                            have H' := Aside0.mk H
                            clear H
                            try go_wp2
                            have n0_ := Aside0.mk (blk_drew BK255.out)
                            have n1_ := Aside0.mk (below_drew1 HB.out)
                            clear BK255
                            clear HB
                            have BK255 := n0_
                            have HB := n1_
                            clear n0_ n1_
                            have p259 : 0 ≤ (x5_2 : Int) := of_decide_eq_true (by first | (with_reducible assumption) | assumption)
                            have q259 : x5_2 < (l0_4.length : Int) := of_decide_eq_true (by first | (with_reducible assumption) | assumption)
                            obtain ⟨ad259, A259_4, c259_4, e259, hx259_0, hx259_1, hx259_2, hx259_3, hx259_4, hl259_4, hi259_4⟩ := at_T25 HR0_4.out x5_2 p259 q259
                            have hw259_4 := hx259_4
                            have hw259_3 := hx259_3
                            have hw259_2 := hx259_2
                            have hw259_1 := hx259_1
                            have hw259_0 := hx259_0
                            cases e259
                            replace hx259_0 := (HB.out.cell (World.block_lt_of_cell? w _ hx259_0)).trans hx259_0
                            replace hx259_1 := (HB.out.cell (World.block_lt_of_cell? w _ hx259_1)).trans hx259_1
                            replace hx259_2 := (HB.out.cell (World.block_lt_of_cell? w _ hx259_2)).trans hx259_2
                            replace hx259_3 := (HB.out.cell (World.block_lt_of_cell? w _ hx259_3)).trans hx259_3
                            replace hx259_4 := (HB.out.cell (World.block_lt_of_cell? w _ hx259_4)).trans hx259_4
                            have HR259_4 := Aside0.mk hi259_4
                            have HC259_4 := Aside0.mk hl259_4
                            clear hi259_4 hl259_4
                            replace p259 := eq_true p259
                            replace q259 := eq_true q259
                            refine start_ (n := 14) (S := fun w' => w'.cell? ⟨gb255, 0, none⟩ = some (.int .i64 a0_0) ∧ w'.cell? ⟨gb255, 1, none⟩ = some (.string a0_1) ∧ w'.cell? ⟨gb255, 2, none⟩ = some (.int .i64 a0_2) ∧ w'.cell? ⟨gb255, 3, none⟩ = some (.int .i64 a0_3) ∧ w'.cell? ⟨gb255, 4, none⟩ = some (.slice (some ad259) l0_4.length c0_4) ∧ w'.cell? (ad259.add ((x5_2).toNat * 5)) = some (.int .i64 ((rd_T25 l0_4 x5_2).f0)) ∧ w'.cell? ⟨(ad259.add ((x5_2).toNat * 5)).block, (ad259.add ((x5_2).toNat * 5)).off + 1, none⟩ = some (.string ((rd_T25 l0_4 x5_2).f1)) ∧ w'.cell? ⟨(ad259.add ((x5_2).toNat * 5)).block, (ad259.add ((x5_2).toNat * 5)).off + 2, none⟩ = some (.int .i64 ((rd_T25 l0_4 x5_2).f2)) ∧ w'.cell? ⟨(ad259.add ((x5_2).toNat * 5)).block, (ad259.add ((x5_2).toNat * 5)).off + 3, none⟩ = some (.int .i64 ((rd_T25 l0_4 x5_2).f3)) ∧ w'.cell? ⟨(ad259.add ((x5_2).toNat * 5)).block, (ad259.add ((x5_2).toNat * 5)).off + 4, none⟩ = some (.slice A259_4 ((rd_T25 l0_4 x5_2).f4).length c259_4)) (ds := []) #[false, false, false, false, false, false, false, false, false, false, false, false, false, false] (by kernel_rfl) rfl rfl ⟨(blk_cell BK255.out 0).trans rfl, (blk_cell BK255.out 1).trans rfl, (blk_cell BK255.out 2).trans rfl, (blk_cell BK255.out 3).trans rfl, (blk_cell BK255.out 4).trans rfl, ((HB.out.cell (World.block_lt_of_cell? w _ hw259_0)).trans hw259_0), ((HB.out.cell (World.block_lt_of_cell? w _ hw259_1)).trans hw259_1), ((HB.out.cell (World.block_lt_of_cell? w _ hw259_2)).trans hw259_2), ((HB.out.cell (World.block_lt_of_cell? w _ hw259_3)).trans hw259_3), ((HB.out.cell (World.block_lt_of_cell? w _ hw259_4)).trans hw259_4)⟩ (fun hHeld => ?_); refine with_tabW gossamerref02_may.tab8 gossamerref02_may.bits8 (fun HT_ HW_ => ?_)
                            generalize wc.drew = w44 at BK255 HB HR259_4 hx259_0 hx259_1 hx259_2 hx259_3 hx259_4 hHeld ⊢
                            refine pure_ (i := 0) (N := some 51) (v := ?_) (a' := ?_) #[true, false, false, false, false, false, false, false, false, false, false, false, false, false] rfl rfl (any_of HT_.out (by kernel_rfl)) (fun _ _ _ h => h) (Or.inl ⟨by rfl, ?_⟩) ?_ ?_
                            rotate_left
                            · intro w'
                              go_simp
                              with_reducible rfl
                            rotate_left
                            · simp only [Act.put, List.setIfInBounds_toArray, List.set_cons_zero, List.set_cons_succ, i64_w, i32_w]
                              rfl
                            refine pure_ (i := 2) (N := some 53) (v := ?_) (a' := ?_) #[true, false, true, false, false, false, false, false, false, false, false, false, false, false] rfl rfl (any_of HT_.out (by kernel_rfl)) (fun _ _ _ h => h) (Or.inl ⟨by rfl, ?_⟩) ?_ ?_
                            rotate_left
                            · intro w'
                              go_simp
                              with_reducible rfl
                            rotate_left
                            · simp only [Act.put, List.setIfInBounds_toArray, List.set_cons_zero, List.set_cons_succ, i64_w, i32_w]
                              rfl
                            refine pure_ (i := 5) (N := some 56) (v := ?_) (a' := ?_) #[true, false, true, false, false, true, false, false, false, false, false, false, false, false] rfl rfl (any_of HT_.out (by kernel_rfl)) (fun _ _ _ h => h) (Or.inl ⟨by rfl, ?_⟩) ?_ ?_
                            rotate_left
                            · intro w'
                              go_simp
                              with_reducible rfl
                            rotate_left
                            · simp only [Act.put, List.setIfInBounds_toArray, List.set_cons_zero, List.set_cons_succ, i64_w, i32_w]
                              rfl
                            refine take_ (i := 1) (N := some 52) (v := ?_) (a' := ?_) #[true, true, true, false, false, true, false, false, false, false, false, false, false, false] rfl rfl (take_ofW HT_.out HW_.out (by kernel_rfl)) (fun _ _ _ h => h) (Or.inl ⟨by rfl, ?_⟩) hHeld ?_ ?_
                            rotate_left
                            · rintro w' ⟨s0, s1, s2, s3, s4, s5, s6, s7, s8, s9⟩
                              go_simp
                              with_reducible rfl
                            rotate_left
                            · simp only [Act.put, List.setIfInBounds_toArray, List.set_cons_zero, List.set_cons_succ, i64_w, i32_w]
                              rfl
                            refine pure_ (i := 3) (N := some 54) (v := ?_) (a' := ?_) #[true, true, true, true, false, true, false, false, false, false, false, false, false, false] rfl rfl (any_of HT_.out (by kernel_rfl)) (fun _ _ _ h => h) (Or.inl ⟨by rfl, ?_⟩) ?_ ?_
                            rotate_left
                            · intro w'
                              go_simp
                              with_reducible rfl
                            rotate_left
                            · simp only [Act.put, List.setIfInBounds_toArray, List.set_cons_zero, List.set_cons_succ, i64_w, i32_w]
                              rfl
                            refine take_ (i := 4) (N := some 55) (v := ?_) (a' := ?_) #[true, true, true, true, true, true, false, false, false, false, false, false, false, false] rfl rfl (take_ofW HT_.out HW_.out (by kernel_rfl)) (fun _ _ _ h => h) (Or.inl ⟨by rfl, ?_⟩) hHeld ?_ ?_
                            rotate_left
                            · rintro w' ⟨s0, s1, s2, s3, s4, s5, s6, s7, s8, s9⟩
                              go_simp
                              with_reducible rfl
                            rotate_left
                            · simp only [Act.put, List.setIfInBounds_toArray, List.set_cons_zero, List.set_cons_succ, i64_w, i32_w]
                              rfl
                            refine take_ (i := 6) (N := some 57) (v := ?_) (a' := ?_) #[true, true, true, true, true, true, true, false, false, false, false, false, false, false] rfl rfl (take_ofW HT_.out HW_.out (by kernel_rfl)) (fun _ _ _ h => h) (Or.inl ⟨by rfl, ?_⟩) hHeld ?_ ?_
                            rotate_left
                            · rintro w' ⟨s0, s1, s2, s3, s4, s5, s6, s7, s8, s9⟩
                              go_simp
                              with_reducible rfl
                            rotate_left
                            · simp only [Act.put, List.setIfInBounds_toArray, List.set_cons_zero, List.set_cons_succ, i64_w, i32_w]
                              rfl
                            refine pure_ (i := 7) (N := some 58) (v := ?_) (a' := ?_) #[true, true, true, true, true, true, true, true, false, false, false, false, false, false] rfl rfl (any_of HT_.out (by kernel_rfl)) (fun _ _ _ h => h) (Or.inl ⟨by rfl, ?_⟩) ?_ ?_
                            rotate_left
                            · intro w'
                              go_simp
                              with_reducible rfl
                            rotate_left
                            · simp only [Act.put, List.setIfInBounds_toArray, List.set_cons_zero, List.set_cons_succ, i64_w, i32_w]
                              rfl
                            refine pure_ (i := 8) (N := some 59) (v := ?_) (a' := ?_) #[true, true, true, true, true, true, true, true, true, false, false, false, false, false] rfl rfl (any_of HT_.out (by kernel_rfl)) (fun _ _ _ h => h) (Or.inl ⟨by rfl, ?_⟩) ?_ ?_
                            rotate_left
                            · intro w'
                              go_simp
                              with_reducible rfl
                            rotate_left
                            · simp only [Act.put, List.setIfInBounds_toArray, List.set_cons_zero, List.set_cons_succ, i64_w, i32_w]
                              rfl
                            refine pure_ (i := 9) (N := some 60) (v := undef) (a' := ?_) #[true, true, true, true, true, true, true, true, true, true, false, false, false, false] rfl rfl (any_of HT_.out (by kernel_rfl)) (fun _ _ _ h => h) (Or.inr ⟨by rfl, rfl⟩) ?_ ?_
                            rotate_left
                            · simp only [Act.put, List.setIfInBounds_toArray, List.set_cons_zero, List.set_cons_succ, i64_w, i32_w]
                              rfl
                            refine pure_ (i := 10) (N := some 61) (v := undef) (a' := ?_) #[true, true, true, true, true, true, true, true, true, true, true, false, false, false] rfl rfl (any_of HT_.out (by kernel_rfl)) (fun _ _ _ h => h) (Or.inr ⟨by rfl, rfl⟩) ?_ ?_
                            rotate_left
                            · simp only [Act.put, List.setIfInBounds_toArray, List.set_cons_zero, List.set_cons_succ, i64_w, i32_w]
                              rfl
                            refine pure_ (i := 11) (N := some 62) (v := ?_) (a' := ?_) #[true, true, true, true, true, true, true, true, true, true, true, true, false, false] rfl rfl (any_of HT_.out (by kernel_rfl)) (fun _ _ _ h => h) (Or.inl ⟨by rfl, ?_⟩) ?_ ?_
                            rotate_left
                            · intro w'
                              go_simp
                              with_reducible rfl
                            rotate_left
                            · simp only [Act.put, List.setIfInBounds_toArray, List.set_cons_zero, List.set_cons_succ, i64_w, i32_w]
                              rfl
                            refine one_ (i := 12) (N := some 63) #[true, true, true, true, true, true, true, true, true, true, true, true, true, false] rfl rfl (one_of HT_.out (by kernel_rfl)) (by decide) (fun K hK => ?_)
                            refine goes_ Tryz.func20 (by kernel_rfl) rfl #[.agg #[.int .i64 ((rd_T25 l0_4 x5_2).f0), .string ((rd_T25 l0_4 x5_2).f1), .int .i64 ((rd_T25 l0_4 x5_2).f2), .int .i64 ((rd_T25 l0_4 x5_2).f3), .slice A259_4 ((rd_T25 l0_4 x5_2).f4).length c259_4], .bool false] (by rfl) rfl rfl (by (try simp only [List.map_toArray, List.map_cons, List.map_nil]); first | done | rfl | (simp only [List.length_drop, List.length_take]; rfl)) ?_
                            with_reducible refine (ih kj23 (by have := HJ2.out; have := HK2.out; have := HJ23.out; omega) ((rd_T25 l0_4 x5_2).f0) ((rd_T25 l0_4 x5_2).f1) ((rd_T25 l0_4 x5_2).f2) ((rd_T25 l0_4 x5_2).f3) _ _ ((rd_T25 l0_4 x5_2).f4) false true _ ?side1 ?side2 A42.out).mono ?_
                            (case side1 => repeat (first | exact (Kd.C_below HR259_4.out HB.out) | (with_reducible refine Kd.C_alloc ?_ _) | (with_reducible refine Kd.C_drewN ?_ _) | (with_reducible refine Kd.C_drew ?_)))
                            (case side2 => exact HC259_4.out)
                            rintro e w45 ⟨rfl, hb⟩
                            refine ⟨_, rfl, ?_⟩
                            have n0_ := Aside0.mk (blk_below (g := gb255) (o := .cells #[.int .i64 a0_0, .string a0_1, .int .i64 a0_2, .int .i64 a0_3, .slice (some ad259) l0_4.length c0_4] 25 (0, 0)) (by (with_reducible repeat (first | refine blk_drewN ?_ _ | refine blk_drew ?_ | refine blk_alloc ?_ _)); exact BK255.out) hb)
                            have n1_ := Aside0.mk (below_step (by repeat (first | (with_reducible first | exact HB.out | apply below_alloc | apply pw_below_drewN | apply below_drew1 | refine below_set ?_ GE255.out) | exact HB.out)) hb)
                            clear BK255
                            clear HB
                            have BK255 := n0_
                            have HB := n1_
                            clear n0_ n1_
                            (try clear hb)
                            (try clear hb2)
                            (try clear hk)
                            (try clear hi)
                            refine hK.out _ _ ⟨(blk_cell BK255.out 0).trans rfl, (blk_cell BK255.out 1).trans rfl, (blk_cell BK255.out 2).trans rfl, (blk_cell BK255.out 3).trans rfl, (blk_cell BK255.out 4).trans rfl, ((HB.out.cell (World.block_lt_of_cell? w _ hw259_0)).trans hw259_0), ((HB.out.cell (World.block_lt_of_cell? w _ hw259_1)).trans hw259_1), ((HB.out.cell (World.block_lt_of_cell? w _ hw259_2)).trans hw259_2), ((HB.out.cell (World.block_lt_of_cell? w _ hw259_3)).trans hw259_3), ((HB.out.cell (World.block_lt_of_cell? w _ hw259_4)).trans hw259_4)⟩ (fun hHeld => ?_)
                            clear hK K
                            refine norm_ (a' := ?_) ?_ ?_
                            rotate_left
                            · show Act.put _ (some 63) _ = _
                              simp only [Act.put, List.setIfInBounds_toArray, List.set_cons_zero, List.set_cons_succ, i64_w, i32_w]
                              rfl
                            refine pure_ (i := 13) (N := some 64) (v := ?_) (a' := ?_) #[true, true, true, true, true, true, true, true, true, true, true, true, true, true] rfl rfl (any_of HT_.out (by kernel_rfl)) (fun _ _ _ h => h) (Or.inl ⟨by rfl, ?_⟩) ?_ ?_
                            rotate_left
                            · intro w'
                              go_simp
                              with_reducible rfl
                            rotate_left
                            · simp only [Act.put, List.setIfInBounds_toArray, List.set_cons_zero, List.set_cons_succ, i64_w, i32_w]
                              rfl
                            refine done_ (done_of HT_.out (by kernel_rfl)) ?_
                            try go_wp2
                            go_roundg kj23
                            case measure => have := HJ2.out; have := HK2.out; have := HJ23.out; omega
                            case rel => exact ⟨(wrap64 (x5_2 + 1)), (by first | rfl | (simp; done) | (simp [*]; done)), H', ⟨by have := HJ2.out; have := HK2.out; have := HJ23.out; omega⟩, ⟨by (with_reducible repeat (first | refine blk_drewN ?_ _ | refine blk_drew ?_ | refine blk_alloc ?_ _)); exact BK255.out⟩, ⟨by repeat (first | (with_reducible first | exact HB.out | apply below_alloc | apply pw_below_drewN | apply below_drew1 | refine below_set ?_ GE255.out) | exact HB.out)⟩⟩
                          · replace c43 := Bool.eq_false_iff.mpr c43
                            subst c43
                            have H1 : (some false) = some r := by rw [if_neg (show ¬ (false = true) by decide)] at H; exact H
                            clear H
                            have H := H1
                            clear H1
                            obtain rfl := Option.some.inj H
                            try go_wp2
                            have n0_ := Aside0.mk (blk_drew BK255.out)
                            have n1_ := Aside0.mk (below_drew1 HB.out)
                            clear BK255
                            clear HB
                            have BK255 := n0_
                            have HB := n1_
                            clear n0_ n1_
                            have p259 : 0 ≤ (x5_2 : Int) := of_decide_eq_true (by first | (with_reducible assumption) | assumption)
                            have q259 : x5_2 < (l0_4.length : Int) := of_decide_eq_true (by first | (with_reducible assumption) | assumption)
                            obtain ⟨ad259, A259_4, c259_4, e259, hx259_0, hx259_1, hx259_2, hx259_3, hx259_4, hl259_4, hi259_4⟩ := at_T25 HR0_4.out x5_2 p259 q259
                            have hw259_4 := hx259_4
                            have hw259_3 := hx259_3
                            have hw259_2 := hx259_2
                            have hw259_1 := hx259_1
                            have hw259_0 := hx259_0
                            cases e259
                            replace hx259_0 := (HB.out.cell (World.block_lt_of_cell? w _ hx259_0)).trans hx259_0
                            replace hx259_1 := (HB.out.cell (World.block_lt_of_cell? w _ hx259_1)).trans hx259_1
                            replace hx259_2 := (HB.out.cell (World.block_lt_of_cell? w _ hx259_2)).trans hx259_2
                            replace hx259_3 := (HB.out.cell (World.block_lt_of_cell? w _ hx259_3)).trans hx259_3
                            replace hx259_4 := (HB.out.cell (World.block_lt_of_cell? w _ hx259_4)).trans hx259_4
                            have HR259_4 := Aside0.mk hi259_4
                            have HC259_4 := Aside0.mk hl259_4
                            clear hi259_4 hl259_4
                            replace p259 := eq_true p259
                            replace q259 := eq_true q259
                            refine start_ (n := 14) (S := fun w' => w'.cell? ⟨gb255, 0, none⟩ = some (.int .i64 a0_0) ∧ w'.cell? ⟨gb255, 1, none⟩ = some (.string a0_1) ∧ w'.cell? ⟨gb255, 2, none⟩ = some (.int .i64 a0_2) ∧ w'.cell? ⟨gb255, 3, none⟩ = some (.int .i64 a0_3) ∧ w'.cell? ⟨gb255, 4, none⟩ = some (.slice (some ad259) l0_4.length c0_4) ∧ w'.cell? (ad259.add ((x5_2).toNat * 5)) = some (.int .i64 ((rd_T25 l0_4 x5_2).f0)) ∧ w'.cell? ⟨(ad259.add ((x5_2).toNat * 5)).block, (ad259.add ((x5_2).toNat * 5)).off + 1, none⟩ = some (.string ((rd_T25 l0_4 x5_2).f1)) ∧ w'.cell? ⟨(ad259.add ((x5_2).toNat * 5)).block, (ad259.add ((x5_2).toNat * 5)).off + 2, none⟩ = some (.int .i64 ((rd_T25 l0_4 x5_2).f2)) ∧ w'.cell? ⟨(ad259.add ((x5_2).toNat * 5)).block, (ad259.add ((x5_2).toNat * 5)).off + 3, none⟩ = some (.int .i64 ((rd_T25 l0_4 x5_2).f3)) ∧ w'.cell? ⟨(ad259.add ((x5_2).toNat * 5)).block, (ad259.add ((x5_2).toNat * 5)).off + 4, none⟩ = some (.slice A259_4 ((rd_T25 l0_4 x5_2).f4).length c259_4)) (ds := []) #[false, false, false, false, false, false, false, false, false, false, false, false, false, false] (by kernel_rfl) rfl rfl ⟨(blk_cell BK255.out 0).trans rfl, (blk_cell BK255.out 1).trans rfl, (blk_cell BK255.out 2).trans rfl, (blk_cell BK255.out 3).trans rfl, (blk_cell BK255.out 4).trans rfl, ((HB.out.cell (World.block_lt_of_cell? w _ hw259_0)).trans hw259_0), ((HB.out.cell (World.block_lt_of_cell? w _ hw259_1)).trans hw259_1), ((HB.out.cell (World.block_lt_of_cell? w _ hw259_2)).trans hw259_2), ((HB.out.cell (World.block_lt_of_cell? w _ hw259_3)).trans hw259_3), ((HB.out.cell (World.block_lt_of_cell? w _ hw259_4)).trans hw259_4)⟩ (fun hHeld => ?_); refine with_tabW gossamerref02_may.tab8 gossamerref02_may.bits8 (fun HT_ HW_ => ?_)
                            generalize wc.drew = w46 at BK255 HB HR259_4 hx259_0 hx259_1 hx259_2 hx259_3 hx259_4 hHeld ⊢
                            refine pure_ (i := 0) (N := some 51) (v := ?_) (a' := ?_) #[true, false, false, false, false, false, false, false, false, false, false, false, false, false] rfl rfl (any_of HT_.out (by kernel_rfl)) (fun _ _ _ h => h) (Or.inl ⟨by rfl, ?_⟩) ?_ ?_
                            rotate_left
                            · intro w'
                              go_simp
                              with_reducible rfl
                            rotate_left
                            · simp only [Act.put, List.setIfInBounds_toArray, List.set_cons_zero, List.set_cons_succ, i64_w, i32_w]
                              rfl
                            refine pure_ (i := 2) (N := some 53) (v := ?_) (a' := ?_) #[true, false, true, false, false, false, false, false, false, false, false, false, false, false] rfl rfl (any_of HT_.out (by kernel_rfl)) (fun _ _ _ h => h) (Or.inl ⟨by rfl, ?_⟩) ?_ ?_
                            rotate_left
                            · intro w'
                              go_simp
                              with_reducible rfl
                            rotate_left
                            · simp only [Act.put, List.setIfInBounds_toArray, List.set_cons_zero, List.set_cons_succ, i64_w, i32_w]
                              rfl
                            refine pure_ (i := 5) (N := some 56) (v := ?_) (a' := ?_) #[true, false, true, false, false, true, false, false, false, false, false, false, false, false] rfl rfl (any_of HT_.out (by kernel_rfl)) (fun _ _ _ h => h) (Or.inl ⟨by rfl, ?_⟩) ?_ ?_
                            rotate_left
                            · intro w'
                              go_simp
                              with_reducible rfl
                            rotate_left
                            · simp only [Act.put, List.setIfInBounds_toArray, List.set_cons_zero, List.set_cons_succ, i64_w, i32_w]
                              rfl
                            refine take_ (i := 1) (N := some 52) (v := ?_) (a' := ?_) #[true, true, true, false, false, true, false, false, false, false, false, false, false, false] rfl rfl (take_ofW HT_.out HW_.out (by kernel_rfl)) (fun _ _ _ h => h) (Or.inl ⟨by rfl, ?_⟩) hHeld ?_ ?_
                            rotate_left
                            · rintro w' ⟨s0, s1, s2, s3, s4, s5, s6, s7, s8, s9⟩
                              go_simp
                              with_reducible rfl
                            rotate_left
                            · simp only [Act.put, List.setIfInBounds_toArray, List.set_cons_zero, List.set_cons_succ, i64_w, i32_w]
                              rfl
                            refine pure_ (i := 3) (N := some 54) (v := ?_) (a' := ?_) #[true, true, true, true, false, true, false, false, false, false, false, false, false, false] rfl rfl (any_of HT_.out (by kernel_rfl)) (fun _ _ _ h => h) (Or.inl ⟨by rfl, ?_⟩) ?_ ?_
                            rotate_left
                            · intro w'
                              go_simp
                              with_reducible rfl
                            rotate_left
                            · simp only [Act.put, List.setIfInBounds_toArray, List.set_cons_zero, List.set_cons_succ, i64_w, i32_w]
                              rfl
                            refine take_ (i := 4) (N := some 55) (v := ?_) (a' := ?_) #[true, true, true, true, true, true, false, false, false, false, false, false, false, false] rfl rfl (take_ofW HT_.out HW_.out (by kernel_rfl)) (fun _ _ _ h => h) (Or.inl ⟨by rfl, ?_⟩) hHeld ?_ ?_
                            rotate_left
                            · rintro w' ⟨s0, s1, s2, s3, s4, s5, s6, s7, s8, s9⟩
                              go_simp
                              with_reducible rfl
                            rotate_left
                            · simp only [Act.put, List.setIfInBounds_toArray, List.set_cons_zero, List.set_cons_succ, i64_w, i32_w]
                              rfl
                            refine take_ (i := 6) (N := some 57) (v := ?_) (a' := ?_) #[true, true, true, true, true, true, true, false, false, false, false, false, false, false] rfl rfl (take_ofW HT_.out HW_.out (by kernel_rfl)) (fun _ _ _ h => h) (Or.inl ⟨by rfl, ?_⟩) hHeld ?_ ?_
                            rotate_left
                            · rintro w' ⟨s0, s1, s2, s3, s4, s5, s6, s7, s8, s9⟩
                              go_simp
                              with_reducible rfl
                            rotate_left
                            · simp only [Act.put, List.setIfInBounds_toArray, List.set_cons_zero, List.set_cons_succ, i64_w, i32_w]
                              rfl
                            refine pure_ (i := 7) (N := some 58) (v := ?_) (a' := ?_) #[true, true, true, true, true, true, true, true, false, false, false, false, false, false] rfl rfl (any_of HT_.out (by kernel_rfl)) (fun _ _ _ h => h) (Or.inl ⟨by rfl, ?_⟩) ?_ ?_
                            rotate_left
                            · intro w'
                              go_simp
                              with_reducible rfl
                            rotate_left
                            · simp only [Act.put, List.setIfInBounds_toArray, List.set_cons_zero, List.set_cons_succ, i64_w, i32_w]
                              rfl
                            refine pure_ (i := 8) (N := some 59) (v := ?_) (a' := ?_) #[true, true, true, true, true, true, true, true, true, false, false, false, false, false] rfl rfl (any_of HT_.out (by kernel_rfl)) (fun _ _ _ h => h) (Or.inl ⟨by rfl, ?_⟩) ?_ ?_
                            rotate_left
                            · intro w'
                              go_simp
                              with_reducible rfl
                            rotate_left
                            · simp only [Act.put, List.setIfInBounds_toArray, List.set_cons_zero, List.set_cons_succ, i64_w, i32_w]
                              rfl
                            refine pure_ (i := 9) (N := some 60) (v := undef) (a' := ?_) #[true, true, true, true, true, true, true, true, true, true, false, false, false, false] rfl rfl (any_of HT_.out (by kernel_rfl)) (fun _ _ _ h => h) (Or.inr ⟨by rfl, rfl⟩) ?_ ?_
                            rotate_left
                            · simp only [Act.put, List.setIfInBounds_toArray, List.set_cons_zero, List.set_cons_succ, i64_w, i32_w]
                              rfl
                            refine pure_ (i := 10) (N := some 61) (v := undef) (a' := ?_) #[true, true, true, true, true, true, true, true, true, true, true, false, false, false] rfl rfl (any_of HT_.out (by kernel_rfl)) (fun _ _ _ h => h) (Or.inr ⟨by rfl, rfl⟩) ?_ ?_
                            rotate_left
                            · simp only [Act.put, List.setIfInBounds_toArray, List.set_cons_zero, List.set_cons_succ, i64_w, i32_w]
                              rfl
                            refine pure_ (i := 11) (N := some 62) (v := ?_) (a' := ?_) #[true, true, true, true, true, true, true, true, true, true, true, true, false, false] rfl rfl (any_of HT_.out (by kernel_rfl)) (fun _ _ _ h => h) (Or.inl ⟨by rfl, ?_⟩) ?_ ?_
                            rotate_left
                            · intro w'
                              go_simp
                              with_reducible rfl
                            rotate_left
                            · simp only [Act.put, List.setIfInBounds_toArray, List.set_cons_zero, List.set_cons_succ, i64_w, i32_w]
                              rfl
                            refine one_ (i := 12) (N := some 63) #[true, true, true, true, true, true, true, true, true, true, true, true, true, false] rfl rfl (one_of HT_.out (by kernel_rfl)) (by decide) (fun K hK => ?_)
                            refine goes_ Tryz.func20 (by kernel_rfl) rfl #[.agg #[.int .i64 ((rd_T25 l0_4 x5_2).f0), .string ((rd_T25 l0_4 x5_2).f1), .int .i64 ((rd_T25 l0_4 x5_2).f2), .int .i64 ((rd_T25 l0_4 x5_2).f3), .slice A259_4 ((rd_T25 l0_4 x5_2).f4).length c259_4], .bool false] (by rfl) rfl rfl (by (try simp only [List.map_toArray, List.map_cons, List.map_nil]); first | done | rfl | (simp only [List.length_drop, List.length_take]; rfl)) ?_
                            with_reducible refine (ih kj23 (by have := HJ2.out; have := HK2.out; have := HJ23.out; omega) ((rd_T25 l0_4 x5_2).f0) ((rd_T25 l0_4 x5_2).f1) ((rd_T25 l0_4 x5_2).f2) ((rd_T25 l0_4 x5_2).f3) _ _ ((rd_T25 l0_4 x5_2).f4) false false _ ?side1 ?side2 A42.out).mono ?_
                            (case side1 => repeat (first | exact (Kd.C_below HR259_4.out HB.out) | (with_reducible refine Kd.C_alloc ?_ _) | (with_reducible refine Kd.C_drewN ?_ _) | (with_reducible refine Kd.C_drew ?_)))
                            (case side2 => exact HC259_4.out)
                            rintro e w47 ⟨rfl, hb⟩
                            refine ⟨_, rfl, ?_⟩
                            have n0_ := Aside0.mk (blk_below (g := gb255) (o := .cells #[.int .i64 a0_0, .string a0_1, .int .i64 a0_2, .int .i64 a0_3, .slice (some ad259) l0_4.length c0_4] 25 (0, 0)) (by (with_reducible repeat (first | refine blk_drewN ?_ _ | refine blk_drew ?_ | refine blk_alloc ?_ _)); exact BK255.out) hb)
                            have n1_ := Aside0.mk (below_step (by repeat (first | (with_reducible first | exact HB.out | apply below_alloc | apply pw_below_drewN | apply below_drew1 | refine below_set ?_ GE255.out) | exact HB.out)) hb)
                            clear BK255
                            clear HB
                            have BK255 := n0_
                            have HB := n1_
                            clear n0_ n1_
                            (try clear hb)
                            (try clear hb2)
                            (try clear hk)
                            (try clear hi)
                            refine hK.out _ _ ⟨(blk_cell BK255.out 0).trans rfl, (blk_cell BK255.out 1).trans rfl, (blk_cell BK255.out 2).trans rfl, (blk_cell BK255.out 3).trans rfl, (blk_cell BK255.out 4).trans rfl, ((HB.out.cell (World.block_lt_of_cell? w _ hw259_0)).trans hw259_0), ((HB.out.cell (World.block_lt_of_cell? w _ hw259_1)).trans hw259_1), ((HB.out.cell (World.block_lt_of_cell? w _ hw259_2)).trans hw259_2), ((HB.out.cell (World.block_lt_of_cell? w _ hw259_3)).trans hw259_3), ((HB.out.cell (World.block_lt_of_cell? w _ hw259_4)).trans hw259_4)⟩ (fun hHeld => ?_)
                            clear hK K
                            refine norm_ (a' := ?_) ?_ ?_
                            rotate_left
                            · show Act.put _ (some 63) _ = _
                              simp only [Act.put, List.setIfInBounds_toArray, List.set_cons_zero, List.set_cons_succ, i64_w, i32_w]
                              rfl
                            refine pure_ (i := 13) (N := some 64) (v := ?_) (a' := ?_) #[true, true, true, true, true, true, true, true, true, true, true, true, true, true] rfl rfl (any_of HT_.out (by kernel_rfl)) (fun _ _ _ h => h) (Or.inl ⟨by rfl, ?_⟩) ?_ ?_
                            rotate_left
                            · intro w'
                              go_simp
                              with_reducible rfl
                            rotate_left
                            · simp only [Act.put, List.setIfInBounds_toArray, List.set_cons_zero, List.set_cons_succ, i64_w, i32_w]
                              rfl
                            refine done_ (done_of HT_.out (by kernel_rfl)) ?_
                            try go_wp2
                            go_ret
                            exact ⟨by first | rfl | (simp [errW_none, errW_some] <;> rfl) | (simp [*, errW_none, errW_some] <;> rfl), by repeat (first | (with_reducible first | exact HB.out | apply below_alloc | apply pw_below_drewN | apply below_drew1 | refine below_set ?_ GE255.out) | exact HB.out)⟩
                      · rw [if_neg c34] at H
                        exact absurd H (by simp)
                    · rw [if_neg c33] at H
                      exact absurd H (by simp)
            · rw [if_neg c23] at H
              have c23b0 : decide (x5_2 < (l0_4.length : Int)) = false := decide_eq_false c23
              clear c23
              obtain rfl := Option.some.inj H
              have hcz48_0 : wr.cell? ⟨gb255, 0, none⟩ = some (.int .i64 a0_0) := (blk_cell BK255.out 0).trans rfl
              have hcz48_1 : wr.cell? ⟨gb255, 1, none⟩ = some (.string a0_1) := (blk_cell BK255.out 1).trans rfl
              have hcz48_2 : wr.cell? ⟨gb255, 2, none⟩ = some (.int .i64 a0_2) := (blk_cell BK255.out 2).trans rfl
              have hcz48_3 : wr.cell? ⟨gb255, 3, none⟩ = some (.int .i64 a0_3) := (blk_cell BK255.out 3).trans rfl
              have hcz48_4 : wr.cell? ⟨gb255, 4, none⟩ = some (.slice A0_4 l0_4.length c0_4) := (blk_cell BK255.out 4).trans rfl
              have hfz48_0 := blk_frozen BK255.out 0
              have hfz48_1 := blk_frozen BK255.out 1
              have hfz48_2 := blk_frozen BK255.out 2
              have hfz48_3 := blk_frozen BK255.out 3
              have hfz48_4 := blk_frozen BK255.out 4
              go_wp2
              go_ret
              exact ⟨by first | rfl | (simp [errW_none, errW_some] <;> rfl) | (simp [*, errW_none, errW_some] <;> rfl), by repeat (first | (with_reducible first | exact HB.out | apply below_alloc | apply pw_below_drewN | apply below_drew1 | refine below_set ?_ GE255.out) | exact HB.out)⟩

end Go.Proofs.YtajcnjdinmgpjaaGreatDoor.P
namespace Go.Proofs.YtajcnjdinmgpjaaGreatDoor.P
open Go.RowKit Go.Proofs.YtajcnjdinmgpjaaGreatDoorW.PrintWords Go.Proofs.YtajcnjdinmgpjaaGreatDoorW.PrintLast Go.Proofs.YtajcnjdinmgpjaaGreatDoorW.PrintMore
attribute [local go_sem] max2_int min2_int max_two min_two max_three min_three max_four min_four   -- for this text's walks alone
set_option linter.unusedVariables false
set_option linter.unusedSimpArgs false

/-! ### gossamerref02_May: function 10 -/
def gossamerref02_May.f (k : Nat) (a0_0 : Int) (a0_1 : ByteArray) (a0_2 : Int) (a0_3 : Int) (l0_4 : List (S25)) : Option (Bool) := (gossamerref02_may.f k a0_0 a0_1 a0_2 a0_3 l0_4 false).bind fun t263 => (some t263)
theorem gossamerref02_May.mono : ∀ a0 a1 a2 a3 a4 k, LeO (gossamerref02_May.f k a0 a1 a2 a3 a4) (gossamerref02_May.f (k + 1) a0 a1 a2 a3 a4) := by
  intro a0 a1 a2 a3 a4 k
  unfold gossamerref02_May.f
  repeat' first
      | (with_reducible exact gossamerref02_may.mono _ _ _ _ _ _ _)
      | (with_reducible exact LeO.refl _)
      | (with_reducible exact LeO.none _)
      | (with_reducible refine LeO.ite ?_ ?_)
      | (with_reducible refine LeO.bind ?_ (fun _ => ?_))
      | exact gossamerref02_may.mono _ _ _ _ _ _ _
      | exact LeO.none _
      | refine LeO.ite ?_ ?_
      | refine LeO.bind ?_ (fun _ => ?_)
set_option maxHeartbeats 8000000 in
set_option maxRecDepth 100000 in
theorem gossamerref02_May.calls (k : Nat) (a0_0 : Int) (a0_1 : ByteArray) (a0_2 : Int) (a0_3 : Int) (A0_4 : Option Addr) (c0_4 : Nat) (l0_4 : List (S25)) (r : Bool) (w : World) (hr0_4 : Kd.C k25 w A0_4 l0_4.length l0_4) (hc0_4 : l0_4.length ≤ c0_4) (h : gossamerref02_May.f k a0_0 a0_1 a0_2 a0_3 l0_4 = some r) :
    Calls Tryz.prog 10 #[.agg #[.int .i64 a0_0, .string a0_1, .int .i64 a0_2, .int .i64 a0_3, .slice A0_4 l0_4.length c0_4]] w fun e w' => e = .returned (.bool r) ∧ Below w.heap.size w w' := by
  have hu25 := Tryz.underlying25
  have HR0_4 := Aside0.mk hr0_4
  have HC0_4 := Aside0.mk hc0_4
  clear hr0_4 hc0_4
  have HB := Aside0.mk (Below.refl w.heap.size w)
  have H : ((gossamerref02_may.f k a0_0 a0_1 a0_2 a0_3 l0_4 false).bind fun t263 => (some t263)) = some r := h
  clear h
  replace H := Option.bind_eq_some_iff.mp H
  obtain ⟨t263, A20, H⟩ := H
  replace H : (some t263) = some r := H
  have A2 := Aside0.mk A20
  clear A20
  obtain rfl := Option.some.inj H
  go_enter Tryz.func10, Tryz.ntmps10
  go_wp2_with (first | ((with_reducible refine gate_dst (N := 1) rfl ?_); refine box_event ?hg (N := 1) ?hd (cs := #[.int .i64 a0_0, .string a0_1, .int .i64 a0_2, .int .i64 a0_3, .slice A0_4 l0_4.length c0_4]) (t := 25) ?hr ?_; (case hd => rfl); (case hg => rfl); (case hr => first | (go_simp; done) | (go_simp; rfl)); intro gb262 hg w3 hbox hb; have n0_ := Aside0.mk (below_step (by repeat (first | (with_reducible first | exact HB.out | apply below_alloc | apply pw_below_drewN | apply below_drew1) | exact HB.out)) hb); have n1_ := Aside0.mk (hbox); have n2_ := Aside0.mk ((by rw [hg]; exact (below_size (by repeat (first | (with_reducible first | exact HB.out | apply below_alloc | apply pw_below_drewN | apply below_drew1) | exact HB.out))) : w.heap.size ≤ gb262)); have n3_ := Aside0.mk ((by rw [hg]; exact (below_size (by repeat (first | (with_reducible first | exact HB.out | apply below_alloc | apply pw_below_drewN | apply below_drew1) | exact HB.out))) : w.heap.size ≤ gb262)); clear HB; have HB := n0_; have BK262 := n1_; have GW262 := n2_; have GE262 := n3_; clear n0_ n1_ n2_ n3_; clear hb hbox hg; have hcz4_0 : w3.cell? ⟨gb262, 0, none⟩ = some (.int .i64 a0_0) := (blk_cell BK262.out 0).trans rfl; have hcz4_1 : w3.cell? ⟨gb262, 1, none⟩ = some (.string a0_1) := (blk_cell BK262.out 1).trans rfl; have hcz4_2 : w3.cell? ⟨gb262, 2, none⟩ = some (.int .i64 a0_2) := (blk_cell BK262.out 2).trans rfl; have hcz4_3 : w3.cell? ⟨gb262, 3, none⟩ = some (.int .i64 a0_3) := (blk_cell BK262.out 3).trans rfl; have hcz4_4 : w3.cell? ⟨gb262, 4, none⟩ = some (.slice A0_4 l0_4.length c0_4) := (blk_cell BK262.out 4).trans rfl; have hfz4_0 := blk_frozen BK262.out 0; have hfz4_1 := blk_frozen BK262.out 1; have hfz4_2 := blk_frozen BK262.out 2; have hfz4_3 := blk_frozen BK262.out 3; have hfz4_4 := blk_frozen BK262.out 4) | ((with_reducible refine gate_callee (f := 20) rfl ?_); refine goesL_ (some 4) rfl rfl Tryz.func20 (by kernel_rfl) rfl #[.agg #[.int .i64 a0_0, .string a0_1, .int .i64 a0_2, .int .i64 a0_3, .slice A0_4 l0_4.length c0_4], .bool false] rfl (by (try simp only [List.map_toArray, List.map_cons, List.map_nil]); first | done | rfl | (simp only [List.length_drop, List.length_take]; rfl)) ?_; (with_reducible refine (gossamerref02_may.calls k a0_0 a0_1 a0_2 a0_3 _ _ l0_4 false t263 _ ?side1 ?side2 A2.out).mono ?_); (case side1 => repeat (first | exact (Kd.C_below HR0_4.out HB.out) | (with_reducible refine Kd.C_alloc ?_ _) | (with_reducible refine Kd.C_drewN ?_ _) | (with_reducible refine Kd.C_drew ?_))); (case side2 => exact HC0_4.out); rintro e w5 ⟨rfl, hb⟩; refine ⟨_, rfl, ?_⟩; have n0_ := Aside0.mk (blk_below (g := gb262) (o := .cells #[.int .i64 a0_0, .string a0_1, .int .i64 a0_2, .int .i64 a0_3, .slice A0_4 l0_4.length c0_4] 25 (0, 0)) (by (with_reducible repeat (first | refine blk_drewN ?_ _ | refine blk_drew ?_ | refine blk_alloc ?_ _)); exact BK262.out) hb); have n1_ := Aside0.mk (below_step (by repeat (first | (with_reducible first | exact HB.out | apply below_alloc | apply pw_below_drewN | apply below_drew1 | refine below_set ?_ GE262.out) | exact HB.out)) hb); clear BK262; clear HB; have BK262 := n0_; have HB := n1_; clear n0_ n1_; (try clear hb); (try clear hb2); (try clear hk); (try clear hi)))
  go_ret
  exact ⟨by first | rfl | (simp [errW_none, errW_some] <;> rfl) | (simp [*, errW_none, errW_some] <;> rfl), by repeat (first | (with_reducible first | exact HB.out | apply below_alloc | apply pw_below_drewN | apply below_drew1 | refine below_set ?_ GE262.out) | exact HB.out)⟩

end Go.Proofs.YtajcnjdinmgpjaaGreatDoor.P
namespace Go.Proofs.YtajcnjdinmgpjaaGreatDoor.P
open Go.RowKit Go.Proofs.YtajcnjdinmgpjaaGreatDoorW.PrintWords Go.Proofs.YtajcnjdinmgpjaaGreatDoorW.PrintLast Go.Proofs.YtajcnjdinmgpjaaGreatDoorW.PrintMore
attribute [local go_sem] max2_int min2_int max_two min_two max_three min_three max_four min_four   -- for this text's walks alone
set_option linter.unusedVariables false
set_option linter.unusedSimpArgs false

/-! ### gossamerlaw03_places: function 11 -/
mutual
def gossamerlaw03_places.l0 : Nat → List (S46) → Bool → Int → Int → ByteArray → Int → Int → List (S25) → Option (Bool)
  | 0, _, _, _, _, _, _, _, _ => none
  | k + 1, x1, x5, x6, x265000, x265001, x265002, x265003, x265004 => if x6 < (x1.length : Int) then (if x5 = true then (gossamerlaw03_places.l0 k x1 true (wrap64 (x6 + 1)) x265000 x265001 x265002 x265003 x265004) else (if 0 ≤ x6 then (gossamerlaw03_places.l0 k x1 (((rd_T46 x1 x6).f3) == x265003) (wrap64 (x6 + 1)) x265000 x265001 x265002 x265003 x265004) else (none))) else (gossamerlaw03_places.l1 k x1 x5 0 x265000 x265001 x265002 x265003 x265004)
def gossamerlaw03_places.l1 : Nat → List (S46) → Bool → Int → Int → ByteArray → Int → Int → List (S25) → Option (Bool)
  | 0, _, _, _, _, _, _, _, _ => none
  | k + 1, x1, x5, x7, x265000, x265001, x265002, x265003, x265004 => if x7 < (x265004.length : Int) then (if x5 = true then (if 0 ≤ x7 then ((gossamerlaw03_places.f k ((rd_T25 x265004 x7).f0) ((rd_T25 x265004 x7).f1) ((rd_T25 x265004 x7).f2) ((rd_T25 x265004 x7).f3) ((rd_T25 x265004 x7).f4) x1).bind fun t267 => (gossamerlaw03_places.l1 k x1 t267 (wrap64 (x7 + 1)) x265000 x265001 x265002 x265003 x265004)) else (none)) else (gossamerlaw03_places.l1 k x1 false (wrap64 (x7 + 1)) x265000 x265001 x265002 x265003 x265004)) else (some x5)
def gossamerlaw03_places.f : Nat → Int → ByteArray → Int → Int → List (S25) → List (S46) → Option (Bool)
  | 0, _, _, _, _, _, _ => none
  | k + 1, a0_0, a0_1, a0_2, a0_3, l0_4, l1 => gossamerlaw03_places.l0 k l1 false 0 a0_0 a0_1 a0_2 a0_3 l0_4
end
theorem gossamerlaw03_places.mono_l : ∀ k, (∀ y0 y1 y2 y3 y4 y5, LeO (gossamerlaw03_places.f k y0 y1 y2 y3 y4 y5) (gossamerlaw03_places.f (k + 1) y0 y1 y2 y3 y4 y5)) ∧ (∀ y0 y1 y2 y3 y4 y5 y6 y7, LeO (gossamerlaw03_places.l0 k y0 y1 y2 y3 y4 y5 y6 y7) (gossamerlaw03_places.l0 (k + 1) y0 y1 y2 y3 y4 y5 y6 y7)) ∧ (∀ y0 y1 y2 y3 y4 y5 y6 y7, LeO (gossamerlaw03_places.l1 k y0 y1 y2 y3 y4 y5 y6 y7) (gossamerlaw03_places.l1 (k + 1) y0 y1 y2 y3 y4 y5 y6 y7))
  | 0 => ⟨fun _ _ _ _ _ _ r h => by simp [gossamerlaw03_places.f] at h, fun _ _ _ _ _ _ _ _ r h => by simp [gossamerlaw03_places.l0] at h, fun _ _ _ _ _ _ _ _ r h => by simp [gossamerlaw03_places.l1] at h⟩
  | k + 1 => by
    obtain ⟨ih0, ih1, ih2⟩ := gossamerlaw03_places.mono_l k
    refine ⟨?_, ?_, ?_⟩
    · intro y0 y1 y2 y3 y4 y5
      unfold gossamerlaw03_places.f
      repeat' first
      | (with_reducible exact ih0 _ _ _ _ _ _)
      | (with_reducible exact ih1 _ _ _ _ _ _ _ _)
      | (with_reducible exact ih2 _ _ _ _ _ _ _ _)
      | (with_reducible exact LeO.refl _)
      | (with_reducible exact LeO.none _)
      | (with_reducible refine LeO.ite ?_ ?_)
      | (with_reducible refine LeO.bind ?_ (fun _ => ?_))
      | exact ih0 _ _ _ _ _ _
      | exact ih1 _ _ _ _ _ _ _ _
      | exact ih2 _ _ _ _ _ _ _ _
      | exact LeO.none _
      | refine LeO.ite ?_ ?_
      | refine LeO.bind ?_ (fun _ => ?_)
    · intro y0 y1 y2 y3 y4 y5 y6 y7
      unfold gossamerlaw03_places.l0
      repeat' first
      | (with_reducible exact ih0 _ _ _ _ _ _)
      | (with_reducible exact ih1 _ _ _ _ _ _ _ _)
      | (with_reducible exact ih2 _ _ _ _ _ _ _ _)
      | (with_reducible exact LeO.refl _)
      | (with_reducible exact LeO.none _)
      | (with_reducible refine LeO.ite ?_ ?_)
      | (with_reducible refine LeO.bind ?_ (fun _ => ?_))
      | exact ih0 _ _ _ _ _ _
      | exact ih1 _ _ _ _ _ _ _ _
      | exact ih2 _ _ _ _ _ _ _ _
      | exact LeO.none _
      | refine LeO.ite ?_ ?_
      | refine LeO.bind ?_ (fun _ => ?_)
    · intro y0 y1 y2 y3 y4 y5 y6 y7
      unfold gossamerlaw03_places.l1
      repeat' first
      | (with_reducible exact ih0 _ _ _ _ _ _)
      | (with_reducible exact ih1 _ _ _ _ _ _ _ _)
      | (with_reducible exact ih2 _ _ _ _ _ _ _ _)
      | (with_reducible exact LeO.refl _)
      | (with_reducible exact LeO.none _)
      | (with_reducible refine LeO.ite ?_ ?_)
      | (with_reducible refine LeO.bind ?_ (fun _ => ?_))
      | exact ih0 _ _ _ _ _ _
      | exact ih1 _ _ _ _ _ _ _ _
      | exact ih2 _ _ _ _ _ _ _ _
      | exact LeO.none _
      | refine LeO.ite ?_ ?_
      | refine LeO.bind ?_ (fun _ => ?_)
theorem gossamerlaw03_places.mono : ∀ a0 a1 a2 a3 a4 a5 k, LeO (gossamerlaw03_places.f k a0 a1 a2 a3 a4 a5) (gossamerlaw03_places.f (k + 1) a0 a1 a2 a3 a4 a5) := by
  intro a0 a1 a2 a3 a4 a5 k
  obtain ⟨ih0, ih1, ih2⟩ := gossamerlaw03_places.mono_l k
  exact ih0 a0 a1 a2 a3 a4 a5
set_option maxHeartbeats 8000000 in
set_option maxRecDepth 100000 in
theorem gossamerlaw03_places.calls (k : Nat) : ∀ (a0_0 : Int) (a0_1 : ByteArray) (a0_2 : Int) (a0_3 : Int) (A0_4 : Option Addr) (c0_4 : Nat) (l0_4 : List (S25)) (A1 : Option Addr) (c1 : Nat) (l1 : List (S46)) (r : Bool) (w : World) (hr0_4 : Kd.C k25 w A0_4 l0_4.length l0_4) (hc0_4 : l0_4.length ≤ c0_4) (hr1 : Kd.C k46 w A1 l1.length l1) (hc1 : l1.length ≤ c1) (h : gossamerlaw03_places.f k a0_0 a0_1 a0_2 a0_3 l0_4 l1 = some r),
    Calls Tryz.prog 11 #[.agg #[.int .i64 a0_0, .string a0_1, .int .i64 a0_2, .int .i64 a0_3, .slice A0_4 l0_4.length c0_4], .slice A1 l1.length c1] w fun e w' => e = .returned (.bool r) ∧ Below w.heap.size w w' := by
  induction k using Nat.strongRecOn with
  | _ k ih =>
  intro a0_0 a0_1 a0_2 a0_3 A0_4 c0_4 l0_4 A1 c1 l1 r w hr0_4 hc0_4 hr1 hc1 h
  cases k with
  | zero => exact absurd h (by simp [gossamerlaw03_places.f])
  | succ k =>
  simp only [gossamerlaw03_places.f] at h
  have hu25 := Tryz.underlying25
  have HR0_4 := Aside0.mk hr0_4
  have HC0_4 := Aside0.mk hc0_4
  clear hr0_4 hc0_4
  have HR1 := Aside0.mk hr1
  have HC1 := Aside0.mk hc1
  clear hr1 hc1
  have HB := Aside0.mk (Below.refl w.heap.size w)
  have H : (gossamerlaw03_places.l0 k l1 false 0 a0_0 a0_1 a0_2 a0_3 l0_4) = some r := h
  clear h
  have H' := Aside0.mk H
  clear H
  go_enter Tryz.func11, Tryz.ntmps11
  go_wp2_with (first | ((with_reducible refine gate_dst (N := 2) rfl ?_); refine box_event ?hg (N := 2) ?hd (cs := #[.int .i64 a0_0, .string a0_1, .int .i64 a0_2, .int .i64 a0_3, .slice A0_4 l0_4.length c0_4]) (t := 25) ?hr ?_; (case hd => rfl); (case hg => rfl); (case hr => first | (go_simp; done) | (go_simp; rfl)); intro gb264 hg w3 hbox hb; have n0_ := Aside0.mk (below_step (by repeat (first | (with_reducible first | exact HB.out | apply below_alloc | apply pw_below_drewN | apply below_drew1) | exact HB.out)) hb); have n1_ := Aside0.mk (hbox); have n2_ := Aside0.mk ((by rw [hg]; exact (below_size (by repeat (first | (with_reducible first | exact HB.out | apply below_alloc | apply pw_below_drewN | apply below_drew1) | exact HB.out))) : w.heap.size ≤ gb264)); have n3_ := Aside0.mk ((by rw [hg]; exact (below_size (by repeat (first | (with_reducible first | exact HB.out | apply below_alloc | apply pw_below_drewN | apply below_drew1) | exact HB.out))) : w.heap.size ≤ gb264)); clear HB; have HB := n0_; have BK264 := n1_; have GW264 := n2_; have GE264 := n3_; clear n0_ n1_ n2_ n3_; clear hb hbox hg))
  repeat (go_quiet (first | ((with_reducible refine gate_dst (N := 2) rfl ?_); refine box_event ?hg (N := 2) ?hd (cs := #[.int .i64 a0_0, .string a0_1, .int .i64 a0_2, .int .i64 a0_3, .slice A0_4 l0_4.length c0_4]) (t := 25) ?hr ?_; (case hd => rfl); (case hg => rfl); (case hr => first | (go_simp; done) | (go_simp; rfl)); intro gb264 hg w3 hbox hb; have n0_ := Aside0.mk (below_step (by repeat (first | (with_reducible first | exact HB.out | apply below_alloc | apply pw_below_drewN | apply below_drew1) | exact HB.out)) hb); have n1_ := Aside0.mk (hbox); have n2_ := Aside0.mk ((by rw [hg]; exact (below_size (by repeat (first | (with_reducible first | exact HB.out | apply below_alloc | apply pw_below_drewN | apply below_drew1) | exact HB.out))) : w.heap.size ≤ gb264)); have n3_ := Aside0.mk ((by rw [hg]; exact (below_size (by repeat (first | (with_reducible first | exact HB.out | apply below_alloc | apply pw_below_drewN | apply below_drew1) | exact HB.out))) : w.heap.size ≤ gb264)); clear HB; have HB := n0_; have BK264 := n1_; have GW264 := n2_; have GE264 := n3_; clear n0_ n1_ n2_ n3_; clear hb hbox hg)); try go_wp2_with (first | ((with_reducible refine gate_dst (N := 2) rfl ?_); refine box_event ?hg (N := 2) ?hd (cs := #[.int .i64 a0_0, .string a0_1, .int .i64 a0_2, .int .i64 a0_3, .slice A0_4 l0_4.length c0_4]) (t := 25) ?hr ?_; (case hd => rfl); (case hg => rfl); (case hr => first | (go_simp; done) | (go_simp; rfl)); intro gb264 hg w3 hbox hb; have n0_ := Aside0.mk (below_step (by repeat (first | (with_reducible first | exact HB.out | apply below_alloc | apply pw_below_drewN | apply below_drew1) | exact HB.out)) hb); have n1_ := Aside0.mk (hbox); have n2_ := Aside0.mk ((by rw [hg]; exact (below_size (by repeat (first | (with_reducible first | exact HB.out | apply below_alloc | apply pw_below_drewN | apply below_drew1) | exact HB.out))) : w.heap.size ≤ gb264)); have n3_ := Aside0.mk ((by rw [hg]; exact (below_size (by repeat (first | (with_reducible first | exact HB.out | apply below_alloc | apply pw_below_drewN | apply below_drew1) | exact HB.out))) : w.heap.size ≤ gb264)); clear HB; have HB := n0_; have BK264 := n1_; have GW264 := n2_; have GE264 := n3_; clear n0_ n1_ n2_ n3_; clear hb hbox hg)))
  go_loopg [5, 6] k (fun kq v5 v6 w' => ∃ (x5_1 : Bool) (x6_1 : Int), v5 = .bool x5_1 ∧ v6 = .int .i64 x6_1 ∧ Aside0 (gossamerlaw03_places.l0 kq l1 x5_1 x6_1 a0_0 a0_1 a0_2 a0_3 l0_4 = some r) ∧ Aside0 (kq ≤ k) ∧ Aside0 (w'.heap[gb264]? = some (.cells #[.int .i64 a0_0, .string a0_1, .int .i64 a0_2, .int .i64 a0_3, (.slice A0_4 l0_4.length c0_4)] 25 (0, 0))) ∧ Aside0 (Below w.heap.size w w'))
  case atStart => exact ⟨(false), (0), (by first | rfl | (simp; done) | (simp [*]; done)), (by first | rfl | (simp; done) | (simp [*]; done)), H', ⟨Nat.le_refl _⟩, ⟨by (with_reducible repeat (first | refine blk_drewN ?_ _ | refine blk_drew ?_ | refine blk_alloc ?_ _)); exact BK264.out⟩, ⟨by repeat (first | (with_reducible first | exact HB.out | apply below_alloc | apply pw_below_drewN | apply below_drew1 | refine below_set ?_ GE264.out) | exact HB.out)⟩⟩
  case round =>
    clear H'
    try clear c1
    try clear p2
    obtain ⟨x5_1, x6_1, rfl, rfl, HA, HK1, BK264, HB⟩ := hrel
    cases gk with
    | zero => exact absurd HA.out (by simp [gossamerlaw03_places.l0])
    | succ k1 =>
      have H := HA.out
      clear HA
      simp only [gossamerlaw03_places.l0] at H
      by_cases c4 : x6_1 < (l1.length : Int)
      · rw [if_pos c4] at H
        have c4b0 : decide (x6_1 < (l1.length : Int)) = true := decide_eq_true c4
        clear c4
        by_cases c5 : x5_1 = true
        · subst c5
          have H1 : (gossamerlaw03_places.l0 k1 l1 true (wrap64 (x6_1 + 1)) a0_0 a0_1 a0_2 a0_3 l0_4) = some r := by rw [if_pos rfl] at H; exact H
          clear H
          have H := H1
          clear H1
          have H' := Aside0.mk H
          clear H
          go_wp2
          repeat (go_quiet (fail); try go_wp2)
          go_roundg k1
          case measure => have := HK1.out; omega
          case rel => exact ⟨(true), (wrap64 (x6_1 + 1)), (by first | rfl | (simp; done) | (simp [*]; done)), (by first | rfl | (simp; done) | (simp [*]; done)), H', ⟨by have := HK1.out; omega⟩, ⟨by (with_reducible repeat (first | refine blk_drewN ?_ _ | refine blk_drew ?_ | refine blk_alloc ?_ _)); exact BK264.out⟩, ⟨by repeat (first | (with_reducible first | exact HB.out | apply below_alloc | apply pw_below_drewN | apply below_drew1 | refine below_set ?_ GE264.out) | exact HB.out)⟩⟩
        · replace c5 := Bool.eq_false_iff.mpr c5
          subst c5
          have H1 : (if 0 ≤ x6_1 then (gossamerlaw03_places.l0 k1 l1 (((rd_T46 l1 x6_1).f3) == a0_3) (wrap64 (x6_1 + 1)) a0_0 a0_1 a0_2 a0_3 l0_4) else (none)) = some r := by rw [if_neg (show ¬ (false = true) by decide)] at H; exact H
          clear H
          have H := H1
          clear H1
          by_cases c6 : 0 ≤ x6_1
          · rw [if_pos c6] at H
            have c6b0 : decide (0 ≤ x6_1) = true := decide_eq_true c6
            clear c6
            have H' := Aside0.mk H
            clear H
            have p265 : 0 ≤ (x6_1 : Int) := of_decide_eq_true (by first | (with_reducible assumption) | assumption)
            have q265 : x6_1 < (l1.length : Int) := of_decide_eq_true (by first | (with_reducible assumption) | assumption)
            obtain ⟨ad265, e265, hx265_0, hx265_1, hx265_2, hx265_3⟩ := at_T46 HR1.out x6_1 p265 q265
            cases e265
            replace hx265_0 := (HB.out.cell (World.block_lt_of_cell? w _ hx265_0)).trans hx265_0
            replace hx265_1 := (HB.out.cell (World.block_lt_of_cell? w _ hx265_1)).trans hx265_1
            replace hx265_2 := (HB.out.cell (World.block_lt_of_cell? w _ hx265_2)).trans hx265_2
            replace hx265_3 := (HB.out.cell (World.block_lt_of_cell? w _ hx265_3)).trans hx265_3
            replace p265 := eq_true p265
            replace q265 := eq_true q265
            have hcz7_0 : wr.cell? ⟨gb264, 0, none⟩ = some (.int .i64 a0_0) := (blk_cell BK264.out 0).trans rfl
            have hcz7_1 : wr.cell? ⟨gb264, 1, none⟩ = some (.string a0_1) := (blk_cell BK264.out 1).trans rfl
            have hcz7_2 : wr.cell? ⟨gb264, 2, none⟩ = some (.int .i64 a0_2) := (blk_cell BK264.out 2).trans rfl
            have hcz7_3 : wr.cell? ⟨gb264, 3, none⟩ = some (.int .i64 a0_3) := (blk_cell BK264.out 3).trans rfl
            have hcz7_4 : wr.cell? ⟨gb264, 4, none⟩ = some (.slice A0_4 l0_4.length c0_4) := (blk_cell BK264.out 4).trans rfl
            have hfz7_0 := blk_frozen BK264.out 0
            have hfz7_1 := blk_frozen BK264.out 1
            have hfz7_2 := blk_frozen BK264.out 2
            have hfz7_3 := blk_frozen BK264.out 3
            have hfz7_4 := blk_frozen BK264.out 4
            go_wp2
            repeat (go_quiet (fail); try go_wp2)
            go_roundg k1
            case measure => have := HK1.out; omega
            case rel => exact ⟨((((rd_T46 l1 x6_1).f3) == a0_3)), (wrap64 (x6_1 + 1)), (by first | rfl | (simp; done) | (simp [*]; done)), (by first | rfl | (simp; done) | (simp [*]; done)), H', ⟨by have := HK1.out; omega⟩, ⟨by (with_reducible repeat (first | refine blk_drewN ?_ _ | refine blk_drew ?_ | refine blk_alloc ?_ _)); exact BK264.out⟩, ⟨by repeat (first | (with_reducible first | exact HB.out | apply below_alloc | apply pw_below_drewN | apply below_drew1 | refine below_set ?_ GE264.out) | exact HB.out)⟩⟩
          · rw [if_neg c6] at H
            exact absurd H (by simp)
      · rw [if_neg c4] at H
        have c4b0 : decide (x6_1 < (l1.length : Int)) = false := decide_eq_false c4
        clear c4
        have H' := Aside0.mk H
        clear H
        go_wp2
        repeat (go_quiet (fail); try go_wp2)
        go_loopg [5, 7] k1 (fun kq v5 v7 w' => ∃ (x5_2 : Bool) (x7_2 : Int), v5 = .bool x5_2 ∧ v7 = .int .i64 x7_2 ∧ Aside0 (gossamerlaw03_places.l1 kq l1 x5_2 x7_2 a0_0 a0_1 a0_2 a0_3 l0_4 = some r) ∧ Aside0 (kq ≤ k1) ∧ Aside0 (w'.heap[gb264]? = some (.cells #[.int .i64 a0_0, .string a0_1, .int .i64 a0_2, .int .i64 a0_3, (.slice A0_4 l0_4.length c0_4)] 25 (0, 0))) ∧ Aside0 (Below w.heap.size w w'))
        case atStart => exact ⟨(x5_1), (0), (by first | rfl | (simp; done) | (simp [*]; done)), (by first | rfl | (simp; done) | (simp [*]; done)), H', ⟨Nat.le_refl _⟩, ⟨by (with_reducible repeat (first | refine blk_drewN ?_ _ | refine blk_drew ?_ | refine blk_alloc ?_ _)); exact BK264.out⟩, ⟨by repeat (first | (with_reducible first | exact HB.out | apply below_alloc | apply pw_below_drewN | apply below_drew1 | refine below_set ?_ GE264.out) | exact HB.out)⟩⟩
        case round =>
          clear H'
          try clear c1
          try clear p2
          try clear q2
          try clear hx2
          try clear c4
          try clear c4b0
          try clear c5
          try clear c6
          try clear c6b0
          try clear p6
          try clear hcz7_0
          try clear hcz7_1
          try clear hcz7_2
          try clear hcz7_3
          try clear hcz7_4
          try clear hfz7_0
          try clear hfz7_1
          try clear hfz7_2
          try clear hfz7_3
          try clear hfz7_4
          try clear hx265_0
          try clear hx265_1
          try clear hx265_2
          try clear hx265_3
          try clear p2
          try clear p265
          try clear q265
          obtain ⟨x5_2, x7_2, rfl, rfl, HA, HK2, BK264, HB⟩ := hrel
          cases gk with
          | zero => exact absurd HA.out (by simp [gossamerlaw03_places.l1])
          | succ k2 =>
            have H := HA.out
            clear HA
            simp only [gossamerlaw03_places.l1] at H
            by_cases c8 : x7_2 < (l0_4.length : Int)
            · rw [if_pos c8] at H
              have c8b0 : decide (x7_2 < (l0_4.length : Int)) = true := decide_eq_true c8
              clear c8
              by_cases c9 : x5_2 = true
              · subst c9
                have H1 : (if 0 ≤ x7_2 then ((gossamerlaw03_places.f k2 ((rd_T25 l0_4 x7_2).f0) ((rd_T25 l0_4 x7_2).f1) ((rd_T25 l0_4 x7_2).f2) ((rd_T25 l0_4 x7_2).f3) ((rd_T25 l0_4 x7_2).f4) l1).bind fun t267 => (gossamerlaw03_places.l1 k2 l1 t267 (wrap64 (x7_2 + 1)) a0_0 a0_1 a0_2 a0_3 l0_4)) else (none)) = some r := by rw [if_pos rfl] at H; exact H
                clear H
                have H := H1
                clear H1
                by_cases c10 : 0 ≤ x7_2
                · rw [if_pos c10] at H
                  have c10b0 : decide (0 ≤ x7_2) = true := decide_eq_true c10
                  clear c10
                  replace H := Option.bind_eq_some_iff.mp H
                  obtain ⟨t267, A110, H⟩ := H
                  replace H : (gossamerlaw03_places.l1 k2 l1 t267 (wrap64 (x7_2 + 1)) a0_0 a0_1 a0_2 a0_3 l0_4) = some r := H
                  have A11 := Aside0.mk A110
                  clear A110
                  have H' := Aside0.mk H
                  clear H
                  have hcz12_0 : wr.cell? ⟨gb264, 0, none⟩ = some (.int .i64 a0_0) := (blk_cell BK264.out 0).trans rfl
                  have hcz12_1 : wr.cell? ⟨gb264, 1, none⟩ = some (.string a0_1) := (blk_cell BK264.out 1).trans rfl
                  have hcz12_2 : wr.cell? ⟨gb264, 2, none⟩ = some (.int .i64 a0_2) := (blk_cell BK264.out 2).trans rfl
                  have hcz12_3 : wr.cell? ⟨gb264, 3, none⟩ = some (.int .i64 a0_3) := (blk_cell BK264.out 3).trans rfl
                  have hcz12_4 : wr.cell? ⟨gb264, 4, none⟩ = some (.slice A0_4 l0_4.length c0_4) := (blk_cell BK264.out 4).trans rfl
                  have hfz12_0 := blk_frozen BK264.out 0
                  have hfz12_1 := blk_frozen BK264.out 1
                  have hfz12_2 := blk_frozen BK264.out 2
                  have hfz12_3 := blk_frozen BK264.out 3
                  have hfz12_4 := blk_frozen BK264.out 4
                  have p266 : 0 ≤ (x7_2 : Int) := of_decide_eq_true (by first | (with_reducible assumption) | assumption)
                  have q266 : x7_2 < (l0_4.length : Int) := of_decide_eq_true (by first | (with_reducible assumption) | assumption)
                  obtain ⟨ad266, A266_4, c266_4, e266, hx266_0, hx266_1, hx266_2, hx266_3, hx266_4, hl266_4, hi266_4⟩ := at_T25 HR0_4.out x7_2 p266 q266
                  cases e266
                  replace hx266_0 := (HB.out.cell (World.block_lt_of_cell? w _ hx266_0)).trans hx266_0
                  replace hx266_1 := (HB.out.cell (World.block_lt_of_cell? w _ hx266_1)).trans hx266_1
                  replace hx266_2 := (HB.out.cell (World.block_lt_of_cell? w _ hx266_2)).trans hx266_2
                  replace hx266_3 := (HB.out.cell (World.block_lt_of_cell? w _ hx266_3)).trans hx266_3
                  replace hx266_4 := (HB.out.cell (World.block_lt_of_cell? w _ hx266_4)).trans hx266_4
                  have HR266_4 := Aside0.mk hi266_4
                  have HC266_4 := Aside0.mk hl266_4
                  clear hi266_4 hl266_4
                  replace p266 := eq_true p266
                  replace q266 := eq_true q266
                  go_wp2_with (first | (go_at_call 11; (with_reducible refine (ih k2 (by have := HK1.out; have := HK2.out; omega) ((rd_T25 l0_4 x7_2).f0) ((rd_T25 l0_4 x7_2).f1) ((rd_T25 l0_4 x7_2).f2) ((rd_T25 l0_4 x7_2).f3) _ _ ((rd_T25 l0_4 x7_2).f4) _ _ l1 t267 _ ?side1 ?side2 ?side3 ?side4 A11.out).mono ?_); (case side1 => repeat (first | exact (Kd.C_below HR266_4.out HB.out) | (with_reducible refine Kd.C_alloc ?_ _) | (with_reducible refine Kd.C_drewN ?_ _) | (with_reducible refine Kd.C_drew ?_))); (case side2 => exact HC266_4.out); (case side3 => repeat (first | exact (Kd.C_below HR1.out HB.out) | (with_reducible refine Kd.C_alloc ?_ _) | (with_reducible refine Kd.C_drewN ?_ _) | (with_reducible refine Kd.C_drew ?_))); (case side4 => exact HC1.out); rintro e w13 ⟨rfl, hb⟩; have n0_ := Aside0.mk (blk_below (g := gb264) (o := .cells #[.int .i64 a0_0, .string a0_1, .int .i64 a0_2, .int .i64 a0_3, .slice (some ad266) l0_4.length c0_4] 25 (0, 0)) (by (with_reducible repeat (first | refine blk_drewN ?_ _ | refine blk_drew ?_ | refine blk_alloc ?_ _)); exact BK264.out) hb); have n1_ := Aside0.mk (below_step (by repeat (first | (with_reducible first | exact HB.out | apply below_alloc | apply pw_below_drewN | apply below_drew1 | refine below_set ?_ GE264.out) | exact HB.out)) hb); clear BK264; clear HB; have BK264 := n0_; have HB := n1_; clear n0_ n1_; (try clear hb); (try clear hb2); (try clear hk); (try clear hi)))
                  repeat (go_quiet (first | (go_at_call 11; (with_reducible refine (ih k2 (by have := HK1.out; have := HK2.out; omega) ((rd_T25 l0_4 x7_2).f0) ((rd_T25 l0_4 x7_2).f1) ((rd_T25 l0_4 x7_2).f2) ((rd_T25 l0_4 x7_2).f3) _ _ ((rd_T25 l0_4 x7_2).f4) _ _ l1 t267 _ ?side1 ?side2 ?side3 ?side4 A11.out).mono ?_); (case side1 => repeat (first | exact (Kd.C_below HR266_4.out HB.out) | (with_reducible refine Kd.C_alloc ?_ _) | (with_reducible refine Kd.C_drewN ?_ _) | (with_reducible refine Kd.C_drew ?_))); (case side2 => exact HC266_4.out); (case side3 => repeat (first | exact (Kd.C_below HR1.out HB.out) | (with_reducible refine Kd.C_alloc ?_ _) | (with_reducible refine Kd.C_drewN ?_ _) | (with_reducible refine Kd.C_drew ?_))); (case side4 => exact HC1.out); rintro e w13 ⟨rfl, hb⟩; have n0_ := Aside0.mk (blk_below (g := gb264) (o := .cells #[.int .i64 a0_0, .string a0_1, .int .i64 a0_2, .int .i64 a0_3, .slice (some ad266) l0_4.length c0_4] 25 (0, 0)) (by (with_reducible repeat (first | refine blk_drewN ?_ _ | refine blk_drew ?_ | refine blk_alloc ?_ _)); exact BK264.out) hb); have n1_ := Aside0.mk (below_step (by repeat (first | (with_reducible first | exact HB.out | apply below_alloc | apply pw_below_drewN | apply below_drew1 | refine below_set ?_ GE264.out) | exact HB.out)) hb); clear BK264; clear HB; have BK264 := n0_; have HB := n1_; clear n0_ n1_; (try clear hb); (try clear hb2); (try clear hk); (try clear hi))); try go_wp2_with (first | (go_at_call 11; (with_reducible refine (ih k2 (by have := HK1.out; have := HK2.out; omega) ((rd_T25 l0_4 x7_2).f0) ((rd_T25 l0_4 x7_2).f1) ((rd_T25 l0_4 x7_2).f2) ((rd_T25 l0_4 x7_2).f3) _ _ ((rd_T25 l0_4 x7_2).f4) _ _ l1 t267 _ ?side1 ?side2 ?side3 ?side4 A11.out).mono ?_); (case side1 => repeat (first | exact (Kd.C_below HR266_4.out HB.out) | (with_reducible refine Kd.C_alloc ?_ _) | (with_reducible refine Kd.C_drewN ?_ _) | (with_reducible refine Kd.C_drew ?_))); (case side2 => exact HC266_4.out); (case side3 => repeat (first | exact (Kd.C_below HR1.out HB.out) | (with_reducible refine Kd.C_alloc ?_ _) | (with_reducible refine Kd.C_drewN ?_ _) | (with_reducible refine Kd.C_drew ?_))); (case side4 => exact HC1.out); rintro e w13 ⟨rfl, hb⟩; have n0_ := Aside0.mk (blk_below (g := gb264) (o := .cells #[.int .i64 a0_0, .string a0_1, .int .i64 a0_2, .int .i64 a0_3, .slice (some ad266) l0_4.length c0_4] 25 (0, 0)) (by (with_reducible repeat (first | refine blk_drewN ?_ _ | refine blk_drew ?_ | refine blk_alloc ?_ _)); exact BK264.out) hb); have n1_ := Aside0.mk (below_step (by repeat (first | (with_reducible first | exact HB.out | apply below_alloc | apply pw_below_drewN | apply below_drew1 | refine below_set ?_ GE264.out) | exact HB.out)) hb); clear BK264; clear HB; have BK264 := n0_; have HB := n1_; clear n0_ n1_; (try clear hb); (try clear hb2); (try clear hk); (try clear hi))))
                  go_roundg k2
                  case measure => have := HK1.out; have := HK2.out; omega
                  case rel => exact ⟨(t267), (wrap64 (x7_2 + 1)), (by first | rfl | (simp; done) | (simp [*]; done)), (by first | rfl | (simp; done) | (simp [*]; done)), H', ⟨by have := HK1.out; have := HK2.out; omega⟩, ⟨by (with_reducible repeat (first | refine blk_drewN ?_ _ | refine blk_drew ?_ | refine blk_alloc ?_ _)); exact BK264.out⟩, ⟨by repeat (first | (with_reducible first | exact HB.out | apply below_alloc | apply pw_below_drewN | apply below_drew1 | refine below_set ?_ GE264.out) | exact HB.out)⟩⟩
                · rw [if_neg c10] at H
                  exact absurd H (by simp)
              · replace c9 := Bool.eq_false_iff.mpr c9
                subst c9
                have H1 : (gossamerlaw03_places.l1 k2 l1 false (wrap64 (x7_2 + 1)) a0_0 a0_1 a0_2 a0_3 l0_4) = some r := by rw [if_neg (show ¬ (false = true) by decide)] at H; exact H
                clear H
                have H := H1
                clear H1
                have H' := Aside0.mk H
                clear H
                have hcz14_0 : wr.cell? ⟨gb264, 0, none⟩ = some (.int .i64 a0_0) := (blk_cell BK264.out 0).trans rfl
                have hcz14_1 : wr.cell? ⟨gb264, 1, none⟩ = some (.string a0_1) := (blk_cell BK264.out 1).trans rfl
                have hcz14_2 : wr.cell? ⟨gb264, 2, none⟩ = some (.int .i64 a0_2) := (blk_cell BK264.out 2).trans rfl
                have hcz14_3 : wr.cell? ⟨gb264, 3, none⟩ = some (.int .i64 a0_3) := (blk_cell BK264.out 3).trans rfl
                have hcz14_4 : wr.cell? ⟨gb264, 4, none⟩ = some (.slice A0_4 l0_4.length c0_4) := (blk_cell BK264.out 4).trans rfl
                have hfz14_0 := blk_frozen BK264.out 0
                have hfz14_1 := blk_frozen BK264.out 1
                have hfz14_2 := blk_frozen BK264.out 2
                have hfz14_3 := blk_frozen BK264.out 3
                have hfz14_4 := blk_frozen BK264.out 4
                go_wp2
                repeat (go_quiet (fail); try go_wp2)
                go_roundg k2
                case measure => have := HK1.out; have := HK2.out; omega
                case rel => exact ⟨(false), (wrap64 (x7_2 + 1)), (by first | rfl | (simp; done) | (simp [*]; done)), (by first | rfl | (simp; done) | (simp [*]; done)), H', ⟨by have := HK1.out; have := HK2.out; omega⟩, ⟨by (with_reducible repeat (first | refine blk_drewN ?_ _ | refine blk_drew ?_ | refine blk_alloc ?_ _)); exact BK264.out⟩, ⟨by repeat (first | (with_reducible first | exact HB.out | apply below_alloc | apply pw_below_drewN | apply below_drew1 | refine below_set ?_ GE264.out) | exact HB.out)⟩⟩
            · rw [if_neg c8] at H
              have c8b0 : decide (x7_2 < (l0_4.length : Int)) = false := decide_eq_false c8
              clear c8
              obtain rfl := Option.some.inj H
              have hcz15_0 : wr.cell? ⟨gb264, 0, none⟩ = some (.int .i64 a0_0) := (blk_cell BK264.out 0).trans rfl
              have hcz15_1 : wr.cell? ⟨gb264, 1, none⟩ = some (.string a0_1) := (blk_cell BK264.out 1).trans rfl
              have hcz15_2 : wr.cell? ⟨gb264, 2, none⟩ = some (.int .i64 a0_2) := (blk_cell BK264.out 2).trans rfl
              have hcz15_3 : wr.cell? ⟨gb264, 3, none⟩ = some (.int .i64 a0_3) := (blk_cell BK264.out 3).trans rfl
              have hcz15_4 : wr.cell? ⟨gb264, 4, none⟩ = some (.slice A0_4 l0_4.length c0_4) := (blk_cell BK264.out 4).trans rfl
              have hfz15_0 := blk_frozen BK264.out 0
              have hfz15_1 := blk_frozen BK264.out 1
              have hfz15_2 := blk_frozen BK264.out 2
              have hfz15_3 := blk_frozen BK264.out 3
              have hfz15_4 := blk_frozen BK264.out 4
              go_wp2
              repeat (go_quiet (fail); try go_wp2)
              go_ret
              exact ⟨by first | rfl | (simp [errW_none, errW_some] <;> rfl) | (simp [*, errW_none, errW_some] <;> rfl), by repeat (first | (with_reducible first | exact HB.out | apply below_alloc | apply pw_below_drewN | apply below_drew1 | refine below_set ?_ GE264.out) | exact HB.out)⟩

end Go.Proofs.YtajcnjdinmgpjaaGreatDoor.P
namespace Go.Proofs.YtajcnjdinmgpjaaGreatDoor.P
open Go.RowKit Go.Proofs.YtajcnjdinmgpjaaGreatDoorW.PrintWords Go.Proofs.YtajcnjdinmgpjaaGreatDoorW.PrintLast Go.Proofs.YtajcnjdinmgpjaaGreatDoorW.PrintMore
attribute [local go_sem] max2_int min2_int max_two min_two max_three min_three max_four min_four   -- for this text's walks alone
set_option linter.unusedVariables false
set_option linter.unusedSimpArgs false

/-! ### gossamerref02_Depth: function 9 -/
mutual
def gossamerref02_Depth.l0 : Nat → Int → Int → Int → ByteArray → Int → Int → List (S25) → Option (Int)
  | 0, _, _, _, _, _, _, _ => none
  | k + 1, x3, x4, x243000, x243001, x243002, x243003, x243004 => if x4 < (x243004.length : Int) then (if 0 ≤ x4 then ((gossamerref02_Depth.f k ((rd_T25 x243004 x4).f0) ((rd_T25 x243004 x4).f1) ((rd_T25 x243004 x4).f2) ((rd_T25 x243004 x4).f3) ((rd_T25 x243004 x4).f4)).bind fun t244 => (gossamerref02_Depth.l0 k (mx x3 t244) (wrap64 (x4 + 1)) x243000 x243001 x243002 x243003 x243004)) else (none)) else (some (wrap64 (x3 + 1)))
def gossamerref02_Depth.f : Nat → Int → ByteArray → Int → Int → List (S25) → Option (Int)
  | 0, _, _, _, _, _ => none
  | k + 1, a0_0, a0_1, a0_2, a0_3, l0_4 => gossamerref02_Depth.l0 k 0 0 a0_0 a0_1 a0_2 a0_3 l0_4
end
theorem gossamerref02_Depth.mono_l : ∀ k, (∀ y0 y1 y2 y3 y4, LeO (gossamerref02_Depth.f k y0 y1 y2 y3 y4) (gossamerref02_Depth.f (k + 1) y0 y1 y2 y3 y4)) ∧ (∀ y0 y1 y2 y3 y4 y5 y6, LeO (gossamerref02_Depth.l0 k y0 y1 y2 y3 y4 y5 y6) (gossamerref02_Depth.l0 (k + 1) y0 y1 y2 y3 y4 y5 y6))
  | 0 => ⟨fun _ _ _ _ _ r h => by simp [gossamerref02_Depth.f] at h, fun _ _ _ _ _ _ _ r h => by simp [gossamerref02_Depth.l0] at h⟩
  | k + 1 => by
    obtain ⟨ih0, ih1⟩ := gossamerref02_Depth.mono_l k
    refine ⟨?_, ?_⟩
    · intro y0 y1 y2 y3 y4
      unfold gossamerref02_Depth.f
      repeat' first
      | (with_reducible exact ih0 _ _ _ _ _)
      | (with_reducible exact ih1 _ _ _ _ _ _ _)
      | (with_reducible exact LeO.refl _)
      | (with_reducible exact LeO.none _)
      | (with_reducible refine LeO.ite ?_ ?_)
      | (with_reducible refine LeO.bind ?_ (fun _ => ?_))
      | exact ih0 _ _ _ _ _
      | exact ih1 _ _ _ _ _ _ _
      | exact LeO.none _
      | refine LeO.ite ?_ ?_
      | refine LeO.bind ?_ (fun _ => ?_)
    · intro y0 y1 y2 y3 y4 y5 y6
      unfold gossamerref02_Depth.l0
      repeat' first
      | (with_reducible exact ih0 _ _ _ _ _)
      | (with_reducible exact ih1 _ _ _ _ _ _ _)
      | (with_reducible exact LeO.refl _)
      | (with_reducible exact LeO.none _)
      | (with_reducible refine LeO.ite ?_ ?_)
      | (with_reducible refine LeO.bind ?_ (fun _ => ?_))
      | exact ih0 _ _ _ _ _
      | exact ih1 _ _ _ _ _ _ _
      | exact LeO.none _
      | refine LeO.ite ?_ ?_
      | refine LeO.bind ?_ (fun _ => ?_)
theorem gossamerref02_Depth.mono : ∀ a0 a1 a2 a3 a4 k, LeO (gossamerref02_Depth.f k a0 a1 a2 a3 a4) (gossamerref02_Depth.f (k + 1) a0 a1 a2 a3 a4) := by
  intro a0 a1 a2 a3 a4 k
  obtain ⟨ih0, ih1⟩ := gossamerref02_Depth.mono_l k
  exact ih0 a0 a1 a2 a3 a4
set_option maxHeartbeats 8000000 in
set_option maxRecDepth 100000 in
theorem gossamerref02_Depth.calls (k : Nat) : ∀ (a0_0 : Int) (a0_1 : ByteArray) (a0_2 : Int) (a0_3 : Int) (A0_4 : Option Addr) (c0_4 : Nat) (l0_4 : List (S25)) (r : Int) (w : World) (hr0_4 : Kd.C k25 w A0_4 l0_4.length l0_4) (hc0_4 : l0_4.length ≤ c0_4) (h : gossamerref02_Depth.f k a0_0 a0_1 a0_2 a0_3 l0_4 = some r),
    Calls Tryz.prog 9 #[.agg #[.int .i64 a0_0, .string a0_1, .int .i64 a0_2, .int .i64 a0_3, .slice A0_4 l0_4.length c0_4]] w fun e w' => e = .returned (.int .i64 r) ∧ Below w.heap.size w w' := by
  induction k using Nat.strongRecOn with
  | _ k ih =>
  intro a0_0 a0_1 a0_2 a0_3 A0_4 c0_4 l0_4 r w hr0_4 hc0_4 h
  cases k with
  | zero => exact absurd h (by simp [gossamerref02_Depth.f])
  | succ k =>
  simp only [gossamerref02_Depth.f] at h
  have hu25 := Tryz.underlying25
  have HR0_4 := Aside0.mk hr0_4
  have HC0_4 := Aside0.mk hc0_4
  clear hr0_4 hc0_4
  have HB := Aside0.mk (Below.refl w.heap.size w)
  have H : (gossamerref02_Depth.l0 k 0 0 a0_0 a0_1 a0_2 a0_3 l0_4) = some r := h
  clear h
  have H' := Aside0.mk H
  clear H
  go_enter Tryz.func9, Tryz.ntmps9
  go_wp2_with (first | ((with_reducible refine gate_dst (N := 1) rfl ?_); refine box_event ?hg (N := 1) ?hd (cs := #[.int .i64 a0_0, .string a0_1, .int .i64 a0_2, .int .i64 a0_3, .slice A0_4 l0_4.length c0_4]) (t := 25) ?hr ?_; (case hd => rfl); (case hg => rfl); (case hr => first | (go_simp; done) | (go_simp; rfl)); intro gb242 hg w2 hbox hb; have n0_ := Aside0.mk (below_step (by repeat (first | (with_reducible first | exact HB.out | apply below_alloc | apply pw_below_drewN | apply below_drew1) | exact HB.out)) hb); have n1_ := Aside0.mk (hbox); have n2_ := Aside0.mk ((by rw [hg]; exact (below_size (by repeat (first | (with_reducible first | exact HB.out | apply below_alloc | apply pw_below_drewN | apply below_drew1) | exact HB.out))) : w.heap.size ≤ gb242)); have n3_ := Aside0.mk ((by rw [hg]; exact (below_size (by repeat (first | (with_reducible first | exact HB.out | apply below_alloc | apply pw_below_drewN | apply below_drew1) | exact HB.out))) : w.heap.size ≤ gb242)); clear HB; have HB := n0_; have BK242 := n1_; have GW242 := n2_; have GE242 := n3_; clear n0_ n1_ n2_ n3_; clear hb hbox hg))
  go_loopg [3, 4] k (fun kq v3 v4 w' => ∃ (x3_1 : Int) (x4_1 : Int), v3 = .int .i64 x3_1 ∧ v4 = .int .i64 x4_1 ∧ Aside0 (gossamerref02_Depth.l0 kq x3_1 x4_1 a0_0 a0_1 a0_2 a0_3 l0_4 = some r) ∧ Aside0 (kq ≤ k) ∧ Aside0 (w'.heap[gb242]? = some (.cells #[.int .i64 a0_0, .string a0_1, .int .i64 a0_2, .int .i64 a0_3, (.slice A0_4 l0_4.length c0_4)] 25 (0, 0))) ∧ Aside0 (Below w.heap.size w w'))
  case atStart => exact ⟨(0), (0), (by first | rfl | (simp; done) | (simp [*]; done)), (by first | rfl | (simp; done) | (simp [*]; done)), H', ⟨Nat.le_refl _⟩, ⟨by (with_reducible repeat (first | refine blk_drewN ?_ _ | refine blk_drew ?_ | refine blk_alloc ?_ _)); exact BK242.out⟩, ⟨by repeat (first | (with_reducible first | exact HB.out | apply below_alloc | apply pw_below_drewN | apply below_drew1 | refine below_set ?_ GE242.out) | exact HB.out)⟩⟩
  case round =>
    clear H'
    try clear p2
    obtain ⟨x3_1, x4_1, rfl, rfl, HA, HK1, BK242, HB⟩ := hrel
    cases gk with
    | zero => exact absurd HA.out (by simp [gossamerref02_Depth.l0])
    | succ k1 =>
      have H := HA.out
      clear HA
      simp only [gossamerref02_Depth.l0] at H
      by_cases c3 : x4_1 < (l0_4.length : Int)
      · rw [if_pos c3] at H
        have c3b0 : decide (x4_1 < (l0_4.length : Int)) = true := decide_eq_true c3
        clear c3
        by_cases c4 : 0 ≤ x4_1
        · rw [if_pos c4] at H
          have c4b0 : decide (0 ≤ x4_1) = true := decide_eq_true c4
          clear c4
          replace H := Option.bind_eq_some_iff.mp H
          obtain ⟨t244, A50, H⟩ := H
          replace H : (gossamerref02_Depth.l0 k1 (mx x3_1 t244) (wrap64 (x4_1 + 1)) a0_0 a0_1 a0_2 a0_3 l0_4) = some r := H
          have A5 := Aside0.mk A50
          clear A50
          obtain ⟨ji6, hji6⟩ : ∃ j_ : Int, (mx x3_1 t244) = j_ := ⟨_, rfl⟩
          replace H : (gossamerref02_Depth.l0 k1 ji6 (wrap64 (x4_1 + 1)) a0_0 a0_1 a0_2 a0_3 l0_4) = some r := by first | (rw [hji6] at H; exact H) | (simp only [hji6] at H ⊢; exact H)
          (try rw [hji6] at A5)
          have hji6_ : (if x3_1 < t244 then t244 else x3_1) = ji6 := hji6
          have H' := Aside0.mk H
          clear H
          have hcz7_0 : wr.cell? ⟨gb242, 0, none⟩ = some (.int .i64 a0_0) := (blk_cell BK242.out 0).trans rfl
          have hcz7_1 : wr.cell? ⟨gb242, 1, none⟩ = some (.string a0_1) := (blk_cell BK242.out 1).trans rfl
          have hcz7_2 : wr.cell? ⟨gb242, 2, none⟩ = some (.int .i64 a0_2) := (blk_cell BK242.out 2).trans rfl
          have hcz7_3 : wr.cell? ⟨gb242, 3, none⟩ = some (.int .i64 a0_3) := (blk_cell BK242.out 3).trans rfl
          have hcz7_4 : wr.cell? ⟨gb242, 4, none⟩ = some (.slice A0_4 l0_4.length c0_4) := (blk_cell BK242.out 4).trans rfl
          have hfz7_0 := blk_frozen BK242.out 0
          have hfz7_1 := blk_frozen BK242.out 1
          have hfz7_2 := blk_frozen BK242.out 2
          have hfz7_3 := blk_frozen BK242.out 3
          have hfz7_4 := blk_frozen BK242.out 4
          have p243 : 0 ≤ (x4_1 : Int) := of_decide_eq_true (by first | (with_reducible assumption) | assumption)
          have q243 : x4_1 < (l0_4.length : Int) := of_decide_eq_true (by first | (with_reducible assumption) | assumption)
          obtain ⟨ad243, A243_4, c243_4, e243, hx243_0, hx243_1, hx243_2, hx243_3, hx243_4, hl243_4, hi243_4⟩ := at_T25 HR0_4.out x4_1 p243 q243
          cases e243
          replace hx243_0 := (HB.out.cell (World.block_lt_of_cell? w _ hx243_0)).trans hx243_0
          replace hx243_1 := (HB.out.cell (World.block_lt_of_cell? w _ hx243_1)).trans hx243_1
          replace hx243_2 := (HB.out.cell (World.block_lt_of_cell? w _ hx243_2)).trans hx243_2
          replace hx243_3 := (HB.out.cell (World.block_lt_of_cell? w _ hx243_3)).trans hx243_3
          replace hx243_4 := (HB.out.cell (World.block_lt_of_cell? w _ hx243_4)).trans hx243_4
          have HR243_4 := Aside0.mk hi243_4
          have HC243_4 := Aside0.mk hl243_4
          clear hi243_4 hl243_4
          replace p243 := eq_true p243
          replace q243 := eq_true q243
          go_wp2_with (first | ((with_reducible refine gate_callee (f := 9) rfl ?_); refine goesL_ (some 18) rfl rfl Tryz.func9 (by kernel_rfl) rfl #[.agg #[.int .i64 ((rd_T25 l0_4 x4_1).f0), .string ((rd_T25 l0_4 x4_1).f1), .int .i64 ((rd_T25 l0_4 x4_1).f2), .int .i64 ((rd_T25 l0_4 x4_1).f3), .slice A243_4 ((rd_T25 l0_4 x4_1).f4).length c243_4]] rfl (by (try simp only [List.map_toArray, List.map_cons, List.map_nil]); first | done | rfl | (simp only [List.length_drop, List.length_take]; rfl)) ?_; (with_reducible refine (ih k1 (by have := HK1.out; omega) ((rd_T25 l0_4 x4_1).f0) ((rd_T25 l0_4 x4_1).f1) ((rd_T25 l0_4 x4_1).f2) ((rd_T25 l0_4 x4_1).f3) _ _ ((rd_T25 l0_4 x4_1).f4) t244 _ ?side1 ?side2 A5.out).mono ?_); (case side1 => repeat (first | exact (Kd.C_below HR243_4.out HB.out) | (with_reducible refine Kd.C_alloc ?_ _) | (with_reducible refine Kd.C_drewN ?_ _) | (with_reducible refine Kd.C_drew ?_))); (case side2 => exact HC243_4.out); rintro e w8 ⟨rfl, hb⟩; refine ⟨_, rfl, ?_⟩; have n0_ := Aside0.mk (blk_below (g := gb242) (o := .cells #[.int .i64 a0_0, .string a0_1, .int .i64 a0_2, .int .i64 a0_3, .slice (some ad243) l0_4.length c0_4] 25 (0, 0)) (by (with_reducible repeat (first | refine blk_drewN ?_ _ | refine blk_drew ?_ | refine blk_alloc ?_ _)); exact BK242.out) hb); have n1_ := Aside0.mk (below_step (by repeat (first | (with_reducible first | exact HB.out | apply below_alloc | apply pw_below_drewN | apply below_drew1 | refine below_set ?_ GE242.out) | exact HB.out)) hb); clear BK242; clear HB; have BK242 := n0_; have HB := n1_; clear n0_ n1_; (try clear hb); (try clear hb2); (try clear hk); (try clear hi)))
          go_roundg k1
          case measure => have := HK1.out; omega
          case rel => exact ⟨(ji6), (wrap64 (x4_1 + 1)), (by first | rfl | (simp; done) | (simp only [← hji6] <;> (first | rfl | simp)) | (simp [*]; done)), (by first | rfl | (simp; done) | (simp [*]; done)), H', ⟨by have := HK1.out; omega⟩, ⟨by (with_reducible repeat (first | refine blk_drewN ?_ _ | refine blk_drew ?_ | refine blk_alloc ?_ _)); exact BK242.out⟩, ⟨by repeat (first | (with_reducible first | exact HB.out | apply below_alloc | apply pw_below_drewN | apply below_drew1 | refine below_set ?_ GE242.out) | exact HB.out)⟩⟩
        · rw [if_neg c4] at H
          exact absurd H (by simp)
      · rw [if_neg c3] at H
        have c3b0 : decide (x4_1 < (l0_4.length : Int)) = false := decide_eq_false c3
        clear c3
        obtain rfl := Option.some.inj H
        have hcz9_0 : wr.cell? ⟨gb242, 0, none⟩ = some (.int .i64 a0_0) := (blk_cell BK242.out 0).trans rfl
        have hcz9_1 : wr.cell? ⟨gb242, 1, none⟩ = some (.string a0_1) := (blk_cell BK242.out 1).trans rfl
        have hcz9_2 : wr.cell? ⟨gb242, 2, none⟩ = some (.int .i64 a0_2) := (blk_cell BK242.out 2).trans rfl
        have hcz9_3 : wr.cell? ⟨gb242, 3, none⟩ = some (.int .i64 a0_3) := (blk_cell BK242.out 3).trans rfl
        have hcz9_4 : wr.cell? ⟨gb242, 4, none⟩ = some (.slice A0_4 l0_4.length c0_4) := (blk_cell BK242.out 4).trans rfl
        have hfz9_0 := blk_frozen BK242.out 0
        have hfz9_1 := blk_frozen BK242.out 1
        have hfz9_2 := blk_frozen BK242.out 2
        have hfz9_3 := blk_frozen BK242.out 3
        have hfz9_4 := blk_frozen BK242.out 4
        go_wp2
        go_ret
        exact ⟨by first | rfl | (simp [errW_none, errW_some] <;> rfl) | (simp [*, errW_none, errW_some] <;> rfl), by repeat (first | (with_reducible first | exact HB.out | apply below_alloc | apply pw_below_drewN | apply below_drew1 | refine below_set ?_ GE242.out) | exact HB.out)⟩

end Go.Proofs.YtajcnjdinmgpjaaGreatDoor.P
/- ParseFits: what is read may be, and lies where tokens do. -/
namespace Go.Proofs.YtajcnjdinmgpjaaGreatDoor.X
open Go.RowKit Go.Proofs.YtajcnjdinmgpjaaGreatDoorW.PrintWords Go.Proofs.YtajcnjdinmgpjaaGreatDoorW.PrintLast Go.Proofs.YtajcnjdinmgpjaaGreatDoorW.PrintMore Go.Proofs.YtajcnjdinmgpjaaGreatDoor.P
set_option linter.unusedVariables false
/-- a text is one token, of a kind -/
def tk (s : ByteArray) (k : Int) : Prop := s.size ≤ 1000000000 ∧ ∃ v, specF s.data.toList = .ok (k, s.data.toList.length, v)
def opsL : List (List UInt8) := [[43], [45], [42], [47], [60], [61, 61]]
def HT (S : Int → Prop) (alt : Bool) (t : Tree) : Prop := S t.f3 ∧ 0 ≤ t.f3 ∧
  ((alt = false ∧ t.f0 = 1 ∧ tk t.f1 1 ∧ t.f2 = 0 ∧ t.f4.length = 0) ∨ (alt = false ∧ t.f0 = 2 ∧ tk t.f1 1 ∧ t.f2 = 0 ∧ t.f4.length = 1) ∨ (alt = false ∧ t.f0 = 3 ∧ t.f1.data.toList = [] ∧ t.f2 = 0 ∧ t.f4.length = 2) ∨
    (alt = false ∧ t.f0 = 4 ∧ tk t.f1 1 ∧ t.f2 = 0 ∧ t.f4.length = 2) ∨ (alt = false ∧ t.f0 = 5 ∧ tk t.f1 1 ∧ t.f2 = 0 ∧ t.f4.length = 2) ∨ (alt = false ∧ t.f0 = 6 ∧ tk t.f1 2 ∧ t.f2 = 0 ∧ t.f4.length ≤ 8) ∨
    (alt = false ∧ t.f0 = 7 ∧ t.f1.data.toList = [] ∧ t.f2 = 0 ∧ 2 ≤ t.f4.length ∧ t.f4.length ≤ 9) ∨ (alt = true ∧ t.f0 = 8 ∧ tk t.f1 2 ∧ 0 ≤ t.f2 ∧ t.f2 ≤ 8 ∧ (t.f4.length : Int) = t.f2 + 1) ∨
    (alt = false ∧ t.f0 = 9 ∧ t.f1.data.toList = [] ∧ 0 ≤ t.f2 ∧ t.f2 < 1000000000000000000 ∧ t.f4.length = 0) ∨ (alt = false ∧ t.f0 = 10 ∧ t.f1.data.toList ∈ opsL ∧ t.f2 = 0 ∧ t.f4.length = 2))
mutual
inductive WT (S : Int → Prop) : Bool → Tree → Prop
  | mk (alt : Bool) (t : Tree) : HT S alt t → WL S t.f0 t.f2 0 t.f4 → WT S alt t
inductive WL (S : Int → Prop) : Int → Int → Nat → List Tree → Prop
  | nil (k n : Int) (i : Nat) : WL S k n i []
  | cons (k n : Int) (i : Nat) (x : Tree) (l : List Tree) : (k = 8 → (i : Int) < n → x.f0 = 1) → WT S (k == 7 && decide (0 < i)) x → WL S k n (i + 1) l → WL S k n i (x :: l)
end
variable {S : Int → Prop}
theorem WL.drop : ∀ {k n : Int} {i : Nat} {l : List Tree} (j : Nat), WL S k n i l → WL S k n (i + j) (l.drop j)
  | _, _, _, _, 0, h => h
  | _, _, _, _, j + 1, .nil k n i => .nil k n _
  | k, n, i, _, j + 1, .cons _ _ _ x l _ _ h => by
    have := h.drop j
    rw [show i + 1 + j = i + (j + 1) by omega] at this
    exact this
theorem WL.head {k n : Int} {i : Nat} {x : Tree} {l : List Tree} (h : WL S k n i (x :: l)) : (k = 8 → (i : Int) < n → x.f0 = 1) ∧ WT S (k == 7 && decide (0 < i)) x := by
  cases h with
  | cons _ _ _ _ _ a b _ => exact ⟨a, b⟩
theorem WL.snoc {k n : Int} {a : Tree} : ∀ {i : Nat} {l : List Tree}, WL S k n i l → (k = 8 → ((i + l.length : Nat) : Int) < n → a.f0 = 1) → WT S (k == 7 && decide (0 < i + l.length)) a → WL S k n i (l ++ [a])
  | i, _, .nil _ _ _, h1, h2 => .cons k n i a [] h1 h2 (.nil _ _ _)
  | i, _, .cons _ _ _ x l c w h, h1, h2 => by
    refine .cons k n i x (l ++ [a]) c w (h.snoc ?_ ?_)
    · intro hk hlt
      exact h1 hk (by simp at hlt ⊢; omega)
    · have e : i + 1 + l.length = i + (x :: l).length := by simp; omega
      rw [e]
      exact h2
theorem WT.head {alt : Bool} {t : Tree} (h : WT S alt t) : HT S alt t := by
  cases h with
  | mk _ _ a _ => exact a
theorem WT.parts {alt : Bool} {t : Tree} (h : WT S alt t) : WL S t.f0 t.f2 0 t.f4 := by
  cases h with
  | mk _ _ _ b => exact b
/-! ### the printed functions -/
theorem token_f {s : ByteArray} {kd : Int} (h : tk s kd) (k : Nat) : gossamerref02_token.f k s kd = some true := by
  obtain ⟨hs, v, hv⟩ := h
  have hsz := specF_size hv
  have hl : s.data.toList.length = s.size := rfl
  unfold gossamerref02_token.f
  rw [ByteArray.toList_eq, if_neg (by intro e; rw [e] at hsz; simp at hsz)]
  unfold gossamerref01_One.f
  rw [if_pos ⟨by decide, by omega, hs, rfl⟩, show (0 : Int).toNat = 0 from rfl, List.drop_zero, hv]
  show (if (0 : Int) = 0 then (if kd = kd then some ((s.extract 0 (0 + s.data.toList.length)).toList == s.data.toList) else some false) else some false) = some true
  rw [if_pos rfl, if_pos rfl, Nat.zero_add, hl, extract_all, ByteArray.toList_eq]
  simp
theorem name_j0 (k : Nat) (x4 : Int) (x5 : Bool) (b0 : Int) (b1 : ByteArray) (b2 b3 : Int) (b4 : List Tree) : gossamerref02_name.j0 (k + 1) x4 x5 b0 b1 b2 b3 b4 = if x5 = true then ((gossamerref02_token.f k b1 1).bind fun t => (some t)) else (if x4 = 6 then (gossamerref02_name.j1 k x4 (x4 == 6) b0 b1 b2 b3 b4) else (gossamerref02_name.j1 k x4 (x4 == 8) b0 b1 b2 b3 b4)) := rfl
theorem name_j1 (k : Nat) (x4 : Int) (x13 : Bool) (b0 : Int) (b1 : ByteArray) (b2 b3 : Int) (b4 : List Tree) : gossamerref02_name.j1 (k + 1) x4 x13 b0 b1 b2 b3 b4 = if x13 = true then ((gossamerref02_token.f k b1 2).bind fun t => (some t)) else (if x4 = 10 then (if b1.toList = ([43] : List UInt8) then (some true) else (if b1.toList = ([45] : List UInt8) then (some true) else (if b1.toList = ([42] : List UInt8) then (some true) else (if b1.toList = ([47] : List UInt8) then (some true) else (if b1.toList = ([60] : List UInt8) then (some true) else (some (b1.toList == ([61, 61] : List UInt8)))))))) else (some (b1.toList == ([] : List UInt8)))) := rfl
theorem name_f {alt : Bool} {t : Tree} (h : HT S alt t) (k : Nat) (hk : 2 ≤ k) : gossamerref02_name.f k t.f0 t.f1 t.f2 t.f3 t.f4 = some true := by
  obtain ⟨k, rfl⟩ : ∃ j, k = j + 1 + 1 := ⟨k - 2, by omega⟩
  obtain ⟨_, _, h⟩ := h
  unfold gossamerref02_name.f
  rw [name_j0, name_j0, name_j0, name_j0, name_j1, name_j1]
  rcases h with ⟨_, e, h, _⟩ | ⟨_, e, h, _⟩ | ⟨_, e, h, _⟩ | ⟨_, e, h, _⟩ | ⟨_, e, h, _⟩ | ⟨_, e, h, _⟩ | ⟨_, e, h, _⟩ | ⟨_, e, h, _⟩ | ⟨_, e, h, _⟩ | ⟨_, e, h, _⟩
  · simp [e, token_f h]
  · simp [e, token_f h]
  · simp [e, ByteArray.toList_eq, h]
  · simp [e, token_f h]
  · simp [e, token_f h]
  · simp [e, token_f h]
  · simp [e, ByteArray.toList_eq, h]
  · simp [e, token_f h]
  · simp [e, ByteArray.toList_eq, h]
  · simp [opsL] at h
    rcases h with h | h | h | h | h | h <;> simp [e, ByteArray.toList_eq, h]
theorem parts_j0 (k : Nat) (x3 x8 : Int) (x27 : Bool) (b0 : Int) (b1 : ByteArray) (b2 b3 : Int) (b4 : List Tree) : gossamerref02_parts.j0 (k + 1) x3 x8 x27 b0 b1 b2 b3 b4 = if x27 = true then (if x3 = 2 then (some (b2 == 0)) else (some false)) else (if x8 = 6 then (if x3 ≤ 8 then (some (b2 == 0)) else (some false)) else (if x8 = 7 then (if x3 ≥ 2 then (if x3 ≤ 9 then (some (b2 == 0)) else (some false)) else (some false)) else (if x8 = 8 then (if b2 ≥ 0 then (if b2 ≤ 8 then (some (x3 == (wrap64 (b2 + 1)))) else (some false)) else (some false)) else (if x8 = 9 then (if x3 = 0 then (if b2 ≥ 0 then (some (decide (b2 < 1000000000000000000))) else (some false)) else (some false)) else (some false))))) := rfl
theorem parts_f {alt : Bool} {t : Tree} (h : HT S alt t) (k : Nat) (hk : 1 ≤ k) : gossamerref02_parts.f k t.f0 t.f1 t.f2 t.f3 t.f4 = some true := by
  obtain ⟨k, rfl⟩ : ∃ j, k = j + 1 := ⟨k - 1, by omega⟩
  obtain ⟨_, _, h⟩ := h
  unfold gossamerref02_parts.f
  simp only [parts_j0]
  rcases h with ⟨_, e, _, n, l⟩ | ⟨_, e, _, n, l⟩ | ⟨_, e, _, n, l⟩ | ⟨_, e, _, n, l⟩ | ⟨_, e, _, n, l⟩ | ⟨_, e, _, n, l⟩ | ⟨_, e, _, n, l, l2⟩ | ⟨_, e, _, n, n2, l⟩ | ⟨_, e, _, n, n2, l⟩ | ⟨_, e, _, n, l⟩
  · simp [e, n, l]
  · simp [e, n, l]
  · simp [e, n, l]
  · simp [e, n, l]
  · simp [e, n, l]
  · have l' : (t.f4.length : Int) ≤ 8 := by omega
    simp [e, n, l']
  · have l' : (2 : Int) ≤ (t.f4.length : Int) := by omega
    have l2' : (t.f4.length : Int) ≤ 9 := by omega
    simp [e, n, l', l2']
  · have hw : wrap64 (t.f2 + 1) = t.f2 + 1 := wrap_small _ (by omega) (by omega)
    simp [e, n, n2, l, hw]
  · simp [e, n, n2, l]
  · simp [e, n, l]
theorem may_j0 (k : Nat) (x : Bool) (b0 : Int) (b1 : ByteArray) (b2 b3 : Int) (b4 : List Tree) : gossamerref02_may.j0 (k + 1) x b0 b1 b2 b3 b4 = if x = true then (some false) else (gossamerref02_may.l0 k 0 b0 b1 b2 b3 b4) := by rw [gossamerref02_may.j0]
theorem may_j2 (k : Nat) (x5 : Int) (x50 : Bool) (b0 : Int) (b1 : ByteArray) (b2 b3 : Int) (b4 : List Tree) : gossamerref02_may.j2 (k + 1) x5 x50 b0 b1 b2 b3 b4 = if x50 = true then (some false) else (if 0 ≤ x5 then (if x5 < (b4.length : Int) then (if b0 = 7 then ((gossamerref02_may.f k ((rd_T25 b4 x5).f0) ((rd_T25 b4 x5).f1) ((rd_T25 b4 x5).f2) ((rd_T25 b4 x5).f3) ((rd_T25 b4 x5).f4) (decide (x5 > 0))).bind fun t => (if t = true then (gossamerref02_may.l0 k (wrap64 (x5 + 1)) b0 b1 b2 b3 b4) else (some false))) else ((gossamerref02_may.f k ((rd_T25 b4 x5).f0) ((rd_T25 b4 x5).f1) ((rd_T25 b4 x5).f2) ((rd_T25 b4 x5).f3) ((rd_T25 b4 x5).f4) false).bind fun t => (if t = true then (gossamerref02_may.l0 k (wrap64 (x5 + 1)) b0 b1 b2 b3 b4) else (some false)))) else (none)) else (none)) := by rw [gossamerref02_may.j2]
theorem may_l0 (n : Nat) (ih : ∀ alt (t : Tree), WT S alt t → tsz t ≤ n → ∀ k, 4 * tsz t + 4 ≤ k → gossamerref02_may.f k t.f0 t.f1 t.f2 t.f3 t.f4 alt = some true) (b0 : Int) (b1 : ByteArray) (b2 b3 : Int) (xs : List Tree) (hsz : tszL xs ≤ n) (hn : n ≤ 1000000000000) (hW : WL S b0 b2 0 xs) :
    ∀ (m i : Nat) (k : Nat), xs.length - i = m → i ≤ xs.length → 4 * tszL (xs.drop i) + 6 ≤ k → gossamerref02_may.l0 k (i : Int) b0 b1 b2 b3 xs = some true
  | 0, i, k, hm, hi, hk => by
    obtain ⟨k, rfl⟩ : ∃ j, k = j + 1 := ⟨k - 1, by omega⟩
    unfold gossamerref02_may.l0
    rw [if_neg (by omega)]
  | m + 1, i, k, hm, hi, hk => by
    obtain ⟨k, rfl⟩ : ∃ j, k = j + 1 + 1 := ⟨k - 2, by omega⟩
    have hd := rd_drop xs i (by omega)
    have hWd := hW.drop i
    rw [hd, Nat.zero_add] at hWd
    obtain ⟨hv, hWx⟩ := hWd.head
    rw [hd, tszL_cons] at hk
    have hle : tszL (xs.drop i) ≤ tszL xs := by
      have := tszL_append (xs.take i) (xs.drop i)
      rw [List.take_append_drop] at this
      omega
    rw [hd, tszL_cons] at hle
    have h1 := tsz_pos (rd_T25 xs (i : Int))
    have hlen : (xs.length : Int) ≤ 1000000000000 := by have := tszL_len xs; omega
    have hgo : gossamerref02_may.j2 (k + 1) (i : Int) false b0 b1 b2 b3 xs = some true := by
      rw [may_j2, if_neg (by decide), if_pos (by omega), if_pos (by omega), wrap_small _ (by omega) (by omega), show ((i : Int) + 1) = ((i + 1 : Nat) : Int) by omega, may_l0 n ih b0 b1 b2 b3 xs hsz hn hW m (i + 1) k (by omega) (by omega) (by omega)]
      have hf := ih _ _ hWx (by omega) k (by omega)
      by_cases h7 : b0 = 7
      · have e : (b0 == 7 && decide (0 < i)) = decide ((i : Int) > 0) := by
          simp [h7]
        rw [e] at hf
        rw [if_pos h7, hf]
        rfl
      · have e : (b0 == 7 && decide (0 < i)) = false := by simp [h7]
        rw [e] at hf
        rw [if_neg h7, hf]
        rfl
    unfold gossamerref02_may.l0
    rw [if_pos (by omega)]
    by_cases h8 : b0 = 8
    · rw [if_pos h8]
      by_cases hlt : (i : Int) < b2
      · have e : ((rd_T25 xs (i : Int)).f0 != 1) = false := by rw [hv h8 hlt]; rfl
        rw [if_pos hlt, if_pos (by omega), e]
        exact hgo
      · rw [if_neg hlt]
        exact hgo
    · rw [if_neg h8]
      exact hgo
theorem HT.alt {alt : Bool} {t : Tree} (h : HT S alt t) : ((t.f0 == 8) != alt) = false := by
  obtain ⟨_, _, h⟩ := h
  rcases h with ⟨a, e, _⟩ | ⟨a, e, _⟩ | ⟨a, e, _⟩ | ⟨a, e, _⟩ | ⟨a, e, _⟩ | ⟨a, e, _⟩ | ⟨a, e, _⟩ | ⟨a, e, _⟩ | ⟨a, e, _⟩ | ⟨a, e, _⟩ <;> simp [a, e]
theorem may_f : ∀ (n : Nat) (alt : Bool) (t : Tree), WT S alt t → tsz t ≤ n → n ≤ 1000000000000 → ∀ k, 4 * tsz t + 4 ≤ k → gossamerref02_may.f k t.f0 t.f1 t.f2 t.f3 t.f4 alt = some true
  | 0, alt, t, _, h, _, _, _ => by have := tsz_pos t; omega
  | n + 1, alt, t, hW, h, hn, k, hk => by
    rw [tsz_eq] at h hk
    obtain ⟨k, rfl⟩ : ∃ j, k = j + 1 + 1 := ⟨k - 2, by omega⟩
    have hH := hW.head
    have h3 : decide (t.f3 < 0) = false := decide_eq_false (by have := hH.2.1; omega)
    unfold gossamerref02_may.f
    rw [hH.alt, if_neg (by decide), name_f hH (k + 1) (by omega)]
    show (if true = true then ((gossamerref02_parts.f (k + 1) t.f0 t.f1 t.f2 t.f3 t.f4).bind fun t257 => (if t257 = true then (gossamerref02_may.j0 (k + 1) (decide (t.f3 < 0)) t.f0 t.f1 t.f2 t.f3 t.f4) else (gossamerref02_may.j0 (k + 1) true t.f0 t.f1 t.f2 t.f3 t.f4))) else gossamerref02_may.j0 (k + 1) true t.f0 t.f1 t.f2 t.f3 t.f4) = some true
    rw [if_pos rfl, parts_f hH (k + 1) (by omega)]
    show (if true = true then gossamerref02_may.j0 (k + 1) (decide (t.f3 < 0)) t.f0 t.f1 t.f2 t.f3 t.f4 else gossamerref02_may.j0 (k + 1) true t.f0 t.f1 t.f2 t.f3 t.f4) = some true
    rw [if_pos rfl, h3, may_j0, if_neg (by decide)]
    exact may_l0 n (fun alt t hW ht k hk => may_f n alt t hW ht (by omega) k hk) _ _ _ _ t.f4 (by omega) (by omega) hW.parts t.f4.length 0 k (by omega) (by omega) (by simp; omega)
theorem places_l0 (l : List Tok) (hl : l.length ≤ 1000000000) (b0 : Int) (b1 : ByteArray) (b2 b3 : Int) (b4 : List Tree) : ∀ (m i k : Nat) (x : Bool), l.length - i = m → i ≤ l.length → m + 1 ≤ k → (x = true ∨ ∃ y ∈ l.drop i, y.f3 = b3) → gossamerlaw03_places.l0 k l x (i : Int) b0 b1 b2 b3 b4 = gossamerlaw03_places.l1 (k - m - 1) l true 0 b0 b1 b2 b3 b4
  | 0, i, k, x, hm, hi, hk, hx => by
    obtain ⟨k, rfl⟩ : ∃ j, k = j + 1 := ⟨k - 1, by omega⟩
    rw [List.drop_eq_nil_of_le (by omega)] at hx
    have hx' : x = true := by
      rcases hx with hx | ⟨y, hy, _⟩
      · exact hx
      · cases hy
    unfold gossamerlaw03_places.l0
    rw [if_neg (by omega), hx']
    rfl
  | m + 1, i, k, x, hm, hi, hk, hx => by
    obtain ⟨k, rfl⟩ : ∃ j, k = j + 1 := ⟨k - 1, by omega⟩
    have hd : l.drop i = rd_T46 l (i : Int) :: l.drop (i + 1) := by
      rw [List.drop_eq_getElem_cons (show i < l.length by omega)]
      congr 1
      simp [rd_T46, show i < l.length by omega]
    have e : k + 1 - (m + 1) - 1 = k - m - 1 := by omega
    unfold gossamerlaw03_places.l0
    rw [if_pos (by omega), wrap_small _ (by omega) (by omega), show ((i : Int) + 1) = ((i + 1 : Nat) : Int) by omega, e]
    by_cases hxt : x = true
    · rw [if_pos hxt]
      exact places_l0 l hl b0 b1 b2 b3 b4 m (i + 1) k true (by omega) (by omega) (by omega) (.inl rfl)
    · rw [if_neg hxt, if_pos (by omega)]
      refine places_l0 l hl b0 b1 b2 b3 b4 m (i + 1) k _ (by omega) (by omega) (by omega) ?_
      rcases hx with hx | ⟨y, hy, h3⟩
      · exact absurd hx hxt
      · rw [hd] at hy
        rcases List.mem_cons.1 hy with rfl | hy
        · left; simpa using h3
        · right; exact ⟨y, hy, h3⟩
theorem places_l1 (n : Nat) (l : List Tok) (ih : ∀ alt (t : Tree), WT (fun p => ∃ y ∈ l, y.f3 = p) alt t → tsz t ≤ n → ∀ k, (l.length + 3) * tsz t ≤ k → gossamerlaw03_places.f k t.f0 t.f1 t.f2 t.f3 t.f4 l = some true) (b0 : Int) (b1 : ByteArray) (b2 b3 : Int) (xs : List Tree) (kk nn : Int) (hsz : tszL xs ≤ n) (hn : n ≤ 1000000000000) (hW : WL (fun p => ∃ y ∈ l, y.f3 = p) kk nn 0 xs) :
    ∀ (m i : Nat) (k : Nat), xs.length - i = m → i ≤ xs.length → (l.length + 3) * tszL (xs.drop i) + 1 ≤ k → gossamerlaw03_places.l1 k l true (i : Int) b0 b1 b2 b3 xs = some true
  | 0, i, k, hm, hi, hk => by
    obtain ⟨k, rfl⟩ : ∃ j, k = j + 1 := ⟨k - 1, by omega⟩
    unfold gossamerlaw03_places.l1
    rw [if_neg (by omega)]
  | m + 1, i, k, hm, hi, hk => by
    obtain ⟨k, rfl⟩ : ∃ j, k = j + 1 := ⟨k - 1, by omega⟩
    have hd := rd_drop xs i (by omega)
    have hWd := hW.drop i
    rw [hd, Nat.zero_add] at hWd
    obtain ⟨_, hWx⟩ := hWd.head
    rw [hd, tszL_cons, Nat.mul_add] at hk
    have hle : tszL (xs.drop i) ≤ tszL xs := by
      have := tszL_append (xs.take i) (xs.drop i)
      rw [List.take_append_drop] at this
      omega
    rw [hd, tszL_cons] at hle
    have h1 := tsz_pos (rd_T25 xs (i : Int))
    have h2 : l.length + 3 ≤ (l.length + 3) * tsz (rd_T25 xs (i : Int)) := Nat.le_mul_of_pos_right _ h1
    have hlen : (xs.length : Int) ≤ 1000000000000 := by have := tszL_len xs; omega
    unfold gossamerlaw03_places.l1
    rw [if_pos (by omega), if_pos rfl, if_pos (by omega), ih _ _ hWx (by omega) k (by omega), wrap_small _ (by omega) (by omega), show ((i : Int) + 1) = ((i + 1 : Nat) : Int) by omega]
    exact places_l1 n l ih b0 b1 b2 b3 xs kk nn hsz hn hW m (i + 1) k (by omega) (by omega) (by omega)
theorem places_f (l : List Tok) (hl : l.length ≤ 1000000000) : ∀ (n : Nat) (alt : Bool) (t : Tree), WT (fun p => ∃ y ∈ l, y.f3 = p) alt t → tsz t ≤ n → n ≤ 1000000000000 → ∀ k, (l.length + 3) * tsz t ≤ k → gossamerlaw03_places.f k t.f0 t.f1 t.f2 t.f3 t.f4 l = some true
  | 0, alt, t, _, h, _, _, _ => by have := tsz_pos t; omega
  | n + 1, alt, t, hW, h, hn, k, hk => by
    rw [tsz_eq] at h hk
    rw [Nat.mul_add] at hk
    obtain ⟨k, rfl⟩ : ∃ j, k = j + 1 := ⟨k - 1, by omega⟩
    unfold gossamerlaw03_places.f
    have h0 := places_l0 l hl t.f0 t.f1 t.f2 t.f3 t.f4 l.length 0 k false (by omega) (by omega) (by omega) (.inr (by rw [List.drop_zero]; exact hW.head.1))
    have h1 := places_l1 n l (fun alt t hW ht k hk => places_f l hl n alt t hW ht (by omega) k hk) t.f0 t.f1 t.f2 t.f3 t.f4 _ _ (by omega) (by omega) hW.parts t.f4.length 0 (k - l.length - 1) (by omega) (by omega) (by rw [List.drop_zero]; omega)
    exact h0.trans h1
end Go.Proofs.YtajcnjdinmgpjaaGreatDoor.X
/- ParseFits: what is read of tokens may be. -/
namespace Go.Proofs.YtajcnjdinmgpjaaGreatDoor.X
open Go.Proofs.YtajcnjdinmgpjaaGreatDoor.P
set_option linter.unusedVariables false
variable {S : Int → Prop}
/-- a token that stands where it may -/
def gt (S : Int → Prop) (t : Tok) : Prop := vt t ∧ S t.f3 ∧ 0 ≤ t.f3 ∧ t.f1.size ≤ 1000000000
theorem gt.tk {t : Tok} (h : gt S t) : tk t.f1 t.f0 := ⟨h.2.2.2, t.f2, h.1⟩
theorem step_text' {t : Tok} {s : ByteArray} (h : isT t s = true) : t.f1.data.toList = s.data.toList := by
  unfold isT at h
  simp at h
  rw [← ByteArray.toList_eq, ← ByteArray.toList_eq]
  exact h.2
theorem dec_lt : ∀ (l : List UInt8) (acc n : Nat), Lib.decFrom acc l = some n → n < (acc + 1) * 10 ^ l.length
  | [], acc, n, h => by
    cases h
    simp
  | b :: r, acc, n, h => by
    unfold Lib.decFrom at h
    cases hd : Lib.digitVal b with
    | none => rw [hd] at h; cases h
    | some d =>
      rw [hd] at h
      have hdd : d ≤ 9 := by
        unfold Lib.digitVal at hd
        split at hd
        · cases hd; omega
        · cases hd
      have ih := dec_lt r (acc * 10 + d) n h
      have h1 : (acc * 10 + d + 1) * 10 ^ r.length ≤ (acc + 1) * 10 ^ (r.length + 1) := by
        rw [Nat.pow_succ, show (acc + 1) * (10 ^ r.length * 10) = ((acc + 1) * 10) * 10 ^ r.length by rw [Nat.mul_comm (10 ^ r.length) 10, ← Nat.mul_assoc]]
        exact Nat.mul_le_mul_right _ (by omega)
      exact Nat.lt_of_lt_of_le ih h1
theorem int_bound {t : Tok} (h : vt t) (h3 : t.f0 = 3) : 0 ≤ t.f2 ∧ t.f2 < 1000000000000000000 := by
  unfold vt at h
  have hsz := specF_size h
  unfold specF at h
  split at h
  · split at h
    · cases h
    · injection h with h
      injection h with h
      omega
  · rename_i hz
    cases hw : specW (t.f1.data.toList.take (wl t.f1.data.toList)) with
    | error c => rw [hw] at h; cases h
    | ok p =>
      obtain ⟨a, b⟩ := p
      rw [hw] at h
      injection h with h
      injection h with e1 e2
      injection e2 with e2 e3
      subst e3
      rw [h3] at e1
      subst e1
      unfold specW at hw
      split at hw
      · rename_i hdg
        split at hw
        · cases hw
        · split at hw
          · cases hw
          · rename_i hb hl
            have hlen : (t.f1.data.toList.take (wl t.f1.data.toList)).length ≤ 18 := by omega
            injection hw with hw
            injection hw with _ hw
            rw [← hw]
            clear hw
            cases hL : t.f1.data.toList.take (wl t.f1.data.toList) with
            | nil => simp [Lib.atoi]
            | cons x r =>
              rw [hL] at hdg hlen
              have hx : 48 ≤ x.toNat ∧ x.toNat ≤ 57 := by
                simp only [h0, digI, Bool.and_eq_true] at hdg
                have g1 : (48 : Int) ≤ (x.toNat : Int) := of_decide_eq_true hdg.1
                have g2 : (x.toNat : Int) ≤ 57 := of_decide_eq_true hdg.2
                omega
              have e1 : (x == 45) = false := by simp; rintro rfl; simp at hx
              have e2 : (x == 43) = false := by simp; rintro rfl; simp at hx
              have e : Lib.atoi (x :: r) = (Lib.decNat (x :: r)).map (fun (m : Nat) => (m : Int)) := by
                show (if (x == 45) = true then (Lib.decNat r).map (fun (m : Nat) => -(m : Int)) else if (x == 43) = true then (Lib.decNat r).map (fun (m : Nat) => (m : Int)) else (Lib.decNat (x :: r)).map (fun (m : Nat) => (m : Int))) = _
                rw [e1, e2]
                rfl
              rw [e]
              cases hn : Lib.decNat (x :: r) with
              | none => simp
              | some n =>
                have hdf : Lib.decFrom 0 (x :: r) = some n := by simpa [Lib.decNat] using hn
                have hlt := dec_lt _ _ _ hdf
                have hp : 10 ^ (x :: r).length ≤ 10 ^ 18 := Nat.pow_le_pow_right (by decide) hlen
                have : n < 1000000000000000000 := by omega
                simp
                omega
      · split at hw
        · cases hw
        · split at hw
          · cases hw
          · split at hw <;> cases hw
/-- the accumulators may be -/
def accT (S : Int → Prop) : N → Prop
  | .args true t => WT S false t ∧ t.f0 = 6
  | .args false t => WT S false t
  | .ops _ t => WT S false t
  | .alts a ts => S a ∧ 0 ≤ a ∧ 2 ≤ ts.length ∧ ts.length ≤ 9 ∧ WL S 7 0 0 ts
  | _ => True
def isAlt : N → Bool
  | .alt => true
  | _ => false
theorem accT_sub (b : Bool) : accT S (sub b) := by cases b <;> trivial
theorem isAlt_sub (b : Bool) : isAlt (sub b) = false := by cases b <;> rfl
theorem WL1 {k n : Int} {x : Tree} (h : WT S false x) (hk : k ≠ 8) : WL S k n 0 [x] := .cons k n 0 x [] (fun e => absurd e hk) (by simpa using h) (.nil _ _ _)
theorem WL2 {k n : Int} {x y : Tree} (h : WT S false x) (g : WT S false y) (hk : k ≠ 8) (h7 : k ≠ 7) : WL S k n 0 [x, y] := .cons k n 0 x [y] (fun e => absurd e hk) (by simpa using h) (.cons k n 1 y [] (fun e => absurd e hk) (by rw [show ((k == 7) && decide (0 < 0 + 1)) = false by simp [h7]]; exact g) (.nil _ _ _))
theorem op_WT {o : Tok} {t b : Tree} (ho : o.f1.data.toList ∈ opsL) (h : WT S false t) (g : WT S false b) : WT S false (opT o.f1 t b) :=
  .mk false _ ⟨h.head.1, h.head.2.1, .inr (.inr (.inr (.inr (.inr (.inr (.inr (.inr (.inr ⟨rfl, rfl, ho, rfl, rfl⟩))))))))⟩ (WL2 h g (by show (10 : Int) ≠ 8; decide) (by show (10 : Int) ≠ 7; decide))
theorem vars_WL : ∀ (vs : List Tok) (i : Nat) (n : Int) (b : Tree), (∀ v ∈ vs, v.f0 = 1) → (∀ v ∈ vs, gt S v) → n = ((i + vs.length : Nat) : Int) → WT S false b → WL S 8 n i (vs.map varT ++ [b])
  | [], i, n, b, _, _, hn, hb => .cons 8 n i b [] (fun _ hlt => absurd hlt (by rw [hn]; simp)) (by simpa using hb) (.nil _ _ _)
  | v :: vs, i, n, b, h1, hg, hn, hb => by
    have hv := hg v (by simp)
    have h1v := h1 v (by simp)
    have hk := hv.tk
    rw [h1v] at hk
    refine .cons 8 n i (varT v) _ (fun _ _ => rfl) ?_ (vars_WL vs (i + 1) n b (fun x hx => h1 x (by simp [hx])) (fun x hx => hg x (by simp [hx])) (by rw [hn]; simp; omega) hb)
    show WT S false (varT v)
    exact .mk false _ ⟨hv.2.1, hv.2.2.1, .inl ⟨rfl, rfl, hk, rfl, rfl⟩⟩ (.nil _ _ _)
theorem con_kind {l : List Tok} {t : Tree} {r : List Tok} (h : Der .atom l t r) (hk : kd l = 2) : t.f0 = 6 := by
  cases h with
  | paren a q l t r ha _ _ => have := isT_kind ha; have hk : a.f0 = 2 := hk; omega
  | var x r h => have hk : x.f0 = 2 := hk; omega
  | con x r h => rfl
  | int x r h => have hk : x.f0 = 2 := hk; omega
theorem der_WT {nt : N} {l : List Tok} {t : Tree} {r : List Tok} (h : Der nt l t r) : (∀ x ∈ l, gt S x) → accT S nt → WT S (isAlt nt) t := by
  induction h with
  | lam a x d l b r ha hx hd_ hb ih =>
    intro hg _
    have hga := hg a (by simp)
    have hk := (hg x (by simp)).tk
    rw [hx] at hk
    exact .mk false _ ⟨hga.2.1, hga.2.2.1, .inr (.inl ⟨rfl, rfl, hk, rfl, rfl⟩)⟩ (WL1 (ih (fun y hy => hg y (by simp [hy])) trivial) (by show (2 : Int) ≠ 8; decide))
  | let_ k a x e i l l2 v b r hk hx he hv hi hb ih1 ih2 =>
    intro hg _
    have hga := hg a (by simp)
    have hkx := (hg x (by simp)).tk
    rw [hx] at hkx
    have hl : ∀ y ∈ l, gt S y := fun y hy => hg y (by simp [hy])
    have hl2 : ∀ y ∈ l2, gt S y := by
      obtain ⟨l1, e, _⟩ := der_suffix hv
      exact fun y hy => hl y (by rw [e]; simp [hy])
    have w1 := ih1 hl trivial
    have w2 := ih2 hl2 trivial
    rcases hk with ⟨_, rfl⟩ | ⟨_, rfl⟩
    · exact .mk false _ ⟨hga.2.1, hga.2.2.1, .inr (.inr (.inr (.inl ⟨rfl, rfl, hkx, rfl, rfl⟩)))⟩ (WL2 w1 w2 (by show (4 : Int) ≠ 8; decide) (by show (4 : Int) ≠ 7; decide))
    · exact .mk false _ ⟨hga.2.1, hga.2.2.1, .inr (.inr (.inr (.inr (.inl ⟨rfl, rfl, hkx, rfl, rfl⟩))))⟩ (WL2 w1 w2 (by show (5 : Int) ≠ 8; decide) (by show (5 : Int) ≠ 7; decide))
  | case_ a o c l l2 l3 v b t r ha hv ho hc hb ht ih1 ih2 ih3 =>
    intro hg _
    have hga := hg a (by simp)
    have hl : ∀ y ∈ l, gt S y := fun y hy => hg y (by simp [hy])
    have hl2 : ∀ y ∈ l2, gt S y := by
      obtain ⟨l1, e, _⟩ := der_suffix hv
      exact fun y hy => hl y (by rw [e]; simp [hy])
    have hl3 : ∀ y ∈ l3, gt S y := by
      obtain ⟨l1, e, _⟩ := der_suffix hb
      exact fun y hy => hl2 y (by rw [e]; simp [hy])
    have w1 := ih1 hl trivial
    have w2 := ih2 hl2 trivial
    exact ih3 hl3 ⟨hga.2.1, hga.2.2.1, by simp, by simp, .cons 7 0 0 v [b] (fun e => by cases e) w1 (.cons 7 0 1 b [] (fun e => by cases e) w2 (.nil _ _ _))⟩
  | altsMore at_ ts p l a r t r' hp hlen ha ht ih1 ih2 =>
    intro hg hacc
    obtain ⟨h1, h2, h3, h4, h5⟩ := hacc
    have hl : ∀ y ∈ l, gt S y := fun y hy => hg y (by simp [hy])
    have hr : ∀ y ∈ r, gt S y := by
      obtain ⟨l1, e, _⟩ := der_suffix ha
      exact fun y hy => hl y (by rw [e]; simp [hy])
    have w1 := ih1 hl trivial
    have e7 : ((7 : Int) == 7 && decide (0 < 0 + ts.length)) = true := by simp; omega
    exact ih2 hr ⟨h1, h2, by simp; omega, by simp; omega, h5.snoc (fun e => by cases e) (by rw [e7]; exact w1)⟩
  | altsEnd at_ ts q r hq =>
    intro hg hacc
    obtain ⟨h1, h2, h3, h4, h5⟩ := hacc
    exact .mk false _ ⟨h1, h2, .inr (.inr (.inr (.inr (.inr (.inr (.inl ⟨rfl, rfl, rfl, rfl, h3, h4⟩))))))⟩ h5
  | alt_ c vs a l b r hc hv hlen ha hb ih =>
    intro hg _
    have hgc := hg c (by simp)
    have hk := hgc.tk
    rw [hc] at hk
    have w := ih (fun y hy => hg y (by simp [hy])) trivial
    refine .mk true _ ⟨hgc.2.1, hgc.2.2.1, .inr (.inr (.inr (.inr (.inr (.inr (.inr (.inl ⟨rfl, rfl, hk, ?_, ?_, ?_⟩)))))))⟩ (vars_WL vs 0 _ b hv (fun y hy => hg y (by simp [hy])) (by simp) w)
    · show (0 : Int) ≤ (vs.length : Int); omega
    · show (vs.length : Int) ≤ 8; omega
    · show (((vs.map varT ++ [b]).length : Nat) : Int) = (vs.length : Int) + 1
      simp
  | cmpE l t r hc ih => exact ih
  | cmp0 l t r hs h1 h2 ih => exact ih
  | cmp1 l t o r1 b r hs ho hb ih1 ih2 =>
    intro hg _
    have hl : ∀ y ∈ o :: r1, gt S y := by
      obtain ⟨l1, e, _⟩ := der_suffix hs
      exact fun y hy => hg y (by rw [e]; exact List.mem_append_right _ hy)
    have hop : o.f1.data.toList ∈ opsL := by
      rcases ho with h | h <;> (rw [step_text' h]; decide)
    exact op_WT hop (ih1 hg trivial) (ih2 (fun y hy => hl y (by simp [hy])) trivial)
  | lev b l t r1 t' r hs ho ih1 ih2 =>
    intro hg _
    have hl : ∀ y ∈ r1, gt S y := by
      obtain ⟨l1, e, _⟩ := der_suffix hs
      exact fun y hy => hg y (by rw [e]; exact List.mem_append_right _ hy)
    have w1 := ih1 hg (accT_sub b)
    rw [isAlt_sub] at w1
    exact ih2 hl w1
  | ops0 b t r h1 h2 => exact fun _ h => h
  | ops1 b t o l x r t' r' ho hx ht ih1 ih2 =>
    intro hg hacc
    have hl : ∀ y ∈ l, gt S y := fun y hy => hg y (by simp [hy])
    have hr : ∀ y ∈ r, gt S y := by
      obtain ⟨l1, e, _⟩ := der_suffix hx
      exact fun y hy => hl y (by rw [e]; exact List.mem_append_right _ hy)
    have w1 := ih1 hl (accT_sub b)
    rw [isAlt_sub] at w1
    have hop : o.f1.data.toList ∈ opsL := by
      cases b <;> (rcases ho with h | h <;> (rw [step_text' h]; decide))
    exact ih2 hr (op_WT hop hacc w1)
  | app l t r1 t' r ha ht ih1 ih2 =>
    intro hg _
    have hl : ∀ y ∈ r1, gt S y := by
      obtain ⟨l1, e, _⟩ := der_suffix ha
      exact fun y hy => hg y (by rw [e]; exact List.mem_append_right _ hy)
    have w1 := ih1 hg trivial
    refine ih2 hl ?_
    by_cases hk : kd l = 2
    · have e : (kd l == 2) = true := by simpa using hk
      rw [e]
      exact ⟨w1, con_kind ha hk⟩
    · have e : (kd l == 2) = false := by simpa using hk
      rw [e]
      exact w1
  | args0 c t r h =>
    intro _ hacc
    cases c
    · exact hacc
    · exact hacc.1
  | argsC t l a r t' r' hlen ha ht ih1 ih2 =>
    intro hg hacc
    have hr : ∀ y ∈ r, gt S y := by
      obtain ⟨l1, e, _⟩ := der_suffix ha
      exact fun y hy => hg y (by rw [e]; exact List.mem_append_right _ hy)
    have w1 := ih1 hg trivial
    obtain ⟨wt, h6⟩ := hacc
    refine ih2 hr ⟨?_, h6⟩
    have hH := wt.head
    have hP := wt.parts
    rw [h6] at hP
    obtain ⟨s1, s2, hh⟩ := hH
    rcases hh with ⟨_, e, _⟩ | ⟨_, e, _⟩ | ⟨_, e, _⟩ | ⟨_, e, _⟩ | ⟨_, e, _⟩ | ⟨_, e, hk, hn, hl8⟩ | ⟨_, e, _⟩ | ⟨_, e, _⟩ | ⟨_, e, _⟩ | ⟨_, e, _⟩
    all_goals first | (exfalso; omega) | skip
    refine .mk false _ ⟨s1, s2, .inr (.inr (.inr (.inr (.inr (.inl ⟨rfl, e, hk, hn, by simp; omega⟩)))))⟩ ?_
    show WL S t.f0 t.f2 0 (t.f4 ++ [a])
    rw [h6]
    exact hP.snoc (fun e => by cases e) w1
  | argsA t l a r t' r' ha ht ih1 ih2 =>
    intro hg hacc
    have hr : ∀ y ∈ r, gt S y := by
      obtain ⟨l1, e, _⟩ := der_suffix ha
      exact fun y hy => hg y (by rw [e]; exact List.mem_append_right _ hy)
    have w1 := ih1 hg trivial
    have wt : WT S false t := hacc
    exact ih2 hr (.mk false _ ⟨wt.head.1, wt.head.2.1, .inr (.inr (.inl ⟨rfl, rfl, rfl, rfl, rfl⟩))⟩ (WL2 wt w1 (by show (3 : Int) ≠ 8; decide) (by show (3 : Int) ≠ 7; decide)))
  | paren a q l t r ha ht hq ih => exact fun hg _ => ih (fun y hy => hg y (by simp [hy])) trivial
  | var x r h =>
    intro hg _
    have hx := hg x (by simp)
    have hk := hx.tk
    rw [h] at hk
    exact .mk false _ ⟨hx.2.1, hx.2.2.1, .inl ⟨rfl, rfl, hk, rfl, rfl⟩⟩ (.nil _ _ _)
  | con x r h =>
    intro hg _
    have hx := hg x (by simp)
    have hk := hx.tk
    rw [h] at hk
    exact .mk false _ ⟨hx.2.1, hx.2.2.1, .inr (.inr (.inr (.inr (.inr (.inl ⟨rfl, rfl, hk, rfl, by simp⟩)))))⟩ (.nil _ _ _)
  | int x r h =>
    intro hg _
    have hx := hg x (by simp)
    have hb := int_bound hx.1 h
    exact .mk false _ ⟨hx.2.1, hx.2.2.1, .inr (.inr (.inr (.inr (.inr (.inr (.inr (.inr (.inl ⟨rfl, rfl, rfl, hb.1, hb.2, rfl⟩))))))))⟩ (.nil _ _ _)
end Go.Proofs.YtajcnjdinmgpjaaGreatDoor.X
/- ParseFits: the plain law. -/
namespace Go.Proofs.YtajcnjdinmgpjaaGreatDoor.X
open Go.RowKit Go.Proofs.YtajcnjdinmgpjaaGreatDoorW.PrintWords Go.Proofs.YtajcnjdinmgpjaaGreatDoorW.PrintLast Go.Proofs.YtajcnjdinmgpjaaGreatDoorW.PrintMore Go.Proofs.YtajcnjdinmgpjaaGreatDoor.P
set_option linter.unusedVariables false
theorem RDepth_l0 (n : Nat) (ih : ∀ t, tsz t ≤ n → ∀ k, 2 * tsz t ≤ k → gossamerref02_Depth.f k t.f0 t.f1 t.f2 t.f3 t.f4 = some ((tdp t : Nat) : Int)) (b0 : Int) (b1 : ByteArray) (b2 b3 : Int) (xs : List Tree) (hsz : tszL xs ≤ n) (hn : n ≤ 1000000000000) :
    ∀ (m i : Nat) (x : Nat) (k : Nat), xs.length - i = m → i ≤ xs.length → 2 * tszL (xs.drop i) + 1 ≤ k → x ≤ n → gossamerref02_Depth.l0 k (x : Int) (i : Int) b0 b1 b2 b3 xs = some ((max x (tdpL (xs.drop i)) + 1 : Nat) : Int)
  | 0, i, x, k, hm, hi, hk, hx => by
    obtain ⟨k, rfl⟩ : ∃ j, k = j + 1 := ⟨k - 1, by omega⟩
    unfold gossamerref02_Depth.l0
    rw [if_neg (by omega), List.drop_eq_nil_of_le (by omega), tdpL_nil, wrap_small _ (by omega) (by omega)]
    congr 1
    omega
  | m + 1, i, x, k, hm, hi, hk, hx => by
    obtain ⟨k, rfl⟩ : ∃ j, k = j + 1 := ⟨k - 1, by omega⟩
    have hd := rd_drop xs i (by omega)
    rw [hd, tszL_cons] at hk
    have hle : tszL (xs.drop i) ≤ tszL xs := by
      have := tszL_append (xs.take i) (xs.drop i)
      rw [List.take_append_drop] at this
      omega
    rw [hd, tszL_cons] at hle
    have h1 := tsz_pos (rd_T25 xs (i : Int))
    have h2 := tdp_tsz (rd_T25 xs (i : Int))
    unfold gossamerref02_Depth.l0
    rw [if_pos (by omega), if_pos (by omega), ih _ (by omega) k (by omega)]
    show gossamerref02_Depth.l0 k (mx (x : Int) _) (wrap64 ((i : Int) + 1)) _ _ _ _ xs = _
    have hlen : (xs.length : Int) ≤ 1000000000000 := by have := tszL_len xs; omega
    have hmx : mx (x : Int) ((tdp (rd_T25 xs (i : Int)) : Nat) : Int) = ((max x (tdp (rd_T25 xs (i : Int))) : Nat) : Int) := by unfold mx; omega
    rw [wrap_small _ (by omega) (by omega), hmx, show ((i : Int) + 1) = ((i + 1 : Nat) : Int) by omega, RDepth_l0 n ih b0 b1 b2 b3 xs hsz hn m (i + 1) _ k (by omega) (by omega) (by omega) (by omega), hd, tdpL_cons]
    congr 2
    omega
theorem RDepth_f : ∀ (n : Nat) (t : Tree), tsz t ≤ n → n ≤ 1000000000000 → ∀ k, 2 * tsz t ≤ k → gossamerref02_Depth.f k t.f0 t.f1 t.f2 t.f3 t.f4 = some ((tdp t : Nat) : Int)
  | 0, t, h, _, _, _ => by have := tsz_pos t; omega
  | n + 1, t, h, hn, k, hk => by
    obtain ⟨k, rfl⟩ : ∃ j, k = j + 1 := ⟨k - 1, by have := tsz_pos t; omega⟩
    rw [tsz_eq] at h hk
    unfold gossamerref02_Depth.f
    have := RDepth_l0 n (fun t ht k hk => RDepth_f n t ht (by omega) k hk) t.f0 t.f1 t.f2 t.f3 t.f4 (by omega) (by omega) t.f4.length 0 0 k (by omega) (by omega) (by simp; omega) (by omega)
    simp only [List.drop_zero, Nat.zero_max] at this
    rw [tdp_eq]
    exact this
theorem RMay_f {S : Int → Prop} {t : Tree} (h : WT S false t) (hn : tsz t ≤ 1000000000000) : gossamerref02_May.f (4 * tsz t + 4) t.f0 t.f1 t.f2 t.f3 t.f4 = some true := by
  unfold gossamerref02_May.f
  rw [may_f (tsz t) false t h (Nat.le_refl _) hn _ (Nat.le_refl _)]
  rfl
theorem lexLoop_place (s : ByteArray) : ∀ (m a : Nat) (xs : List Tok) (p : Nat) (c : Int), a ≤ s.size → lexLoop s m a xs = .error (p, c) → p ≤ s.size
  | 0, a, xs, p, c, ha, h => by cases h
  | m + 1, a, xs, p, c, ha, h => by
    unfold lexLoop at h
    have hsk := skip_ge s a ha
    split at h
    · cases h
    · split at h
      · cases h
        exact hsk.2
      · rename_i t ht
        have hpos : 0 < (s.extract (skip s a) s.size).size := by rw [extract_size _ _ hsk.2]; omega
        have hts := lexFirst_size hpos ht
        rw [extract_size _ _ hsk.2] at hts
        exact lexLoop_place s m _ _ p c (by omega) h
theorem LT_txtF : ∀ (N : Nat) (s : List UInt8) (off : Nat) (ts : List Tok), s.length ≤ N → LT s off = .ok ts → ∀ t ∈ ts, t.f1.data.toList.length ≤ s.length
  | N, s, off, ts, hN, h => by
    rcases LT_cases h with ⟨h1, rfl⟩ | ⟨k, n, v, ts', h1, h2, h3, rfl⟩
    · intro t ht; cases ht
    · have hns := specF_size h2
      have hle := dw_le s
      have hdl : ((s.dropWhile isBlank).drop n).length = (s.dropWhile isBlank).length - n := List.length_drop
      intro t ht
      rcases List.mem_cons.1 ht with rfl | ht
      · show ((s.dropWhile isBlank).take n).length ≤ _
        rw [List.length_take]
        omega
      · cases N with
        | zero => omega
        | succ N =>
          have := LT_txtF N _ _ ts' (by omega) h3 t ht
          omega
theorem parseM_place {s : ByteArray} {d p c : Int} (h : parseM s d = .error (p, c)) : 0 ≤ p ∧ p ≤ (s.size : Int) := by
  unfold parseM at h
  split at h
  · cases h; omega
  · split at h
    · cases h; omega
    · cases hl : lexAll s with
      | error e =>
        obtain ⟨a, c'⟩ := e
        rw [hl] at h
        have := lexLoop_place s _ 0 [] a c' (by omega) hl
        cases h
        omega
      | ok l =>
        rw [hl] at h
        simp only at h
        have hLT : LT s.data.toList 0 = .ok l := by rw [← lexAll_LT]; exact hl
        have hsz : s.data.toList.length = s.size := rfl
        cases hw : pWhole l with
        | fail r =>
          rw [hw] at h
          cases h
          have hs := suf_whole l
          rw [hw] at hs
          cases r with
          | nil => show 0 ≤ (s.size : Int) ∧ (s.size : Int) ≤ (s.size : Int); omega
          | cons x r =>
            obtain ⟨q, e, h1, h2⟩ := LT_at _ _ _ _ (Nat.le_refl _) hLT x (hs.subset (List.mem_cons_self ..))
            show 0 ≤ x.f3 ∧ x.f3 ≤ (s.size : Int)
            omega
        | ok t r =>
          rw [hw] at h
          simp only at h
          split at h
          · cases h; omega
          · cases h
theorem parse_deep {s : ByteArray} {l : List Tok} {t : Tree} {d : Int} (hs : s.size ≤ 4096) (hl : lexAll s = .ok l) (hd : Der .expr l t []) (h1 : 1 ≤ d) (h2 : d ≤ 200) (ht : d < ((tdp t : Nat) : Int)) : parseM s d = .error (0, 31) := by
  have hlen := lexAll_len hl
  have hw : pWhole l = .ok t [] := by
    unfold pWhole
    rw [(expr_iff 5000 l t [] (by omega)).2 hd, PR.bind_ok]
    rfl
  unfold parseM
  rw [if_neg (by omega), if_neg (by omega), hl]
  simp only
  rw [hw]
  show (if d < ((tdp t : Nat) : Int) then _ else _) = _
  rw [if_pos ht]
/-- a tree that was read -/
theorem fits {s : ByteArray} {t : Tree} {d : Int} (hs : s.size ≤ 1500) (h : parseM s d = .ok t) : ∃ l, lexAll s = .ok l ∧ WT (fun p => ∃ y ∈ l, y.f3 = p) false t ∧ l.length ≤ 1500 ∧ tsz t ≤ 1000000000000 ∧ ((tdp t : Nat) : Int) ≤ d ∧
    parseM s 200 = .ok t ∧ parseM s ((tdp t : Nat) : Int) = .ok t ∧ 1 ≤ tdp t ∧ tdp t ≤ 200 ∧ (tdp t ≠ 1 → parseM s (((tdp t : Nat) : Int) - 1) = .error (0, 31)) := by
  obtain ⟨h4, h1, h2, hdp, l, hl, hd⟩ := parse_inv h
  have hlen := lexAll_len hl
  have hLT : LT s.data.toList 0 = .ok l := by rw [← lexAll_LT]; exact hl
  have hsz : s.data.toList.length = s.size := rfl
  have hv := LT_vt _ _ _ _ (Nat.le_refl _) hLT
  have ha := LT_at _ _ _ _ (Nat.le_refl _) hLT
  have hx := LT_txtF _ _ _ _ (Nat.le_refl _) hLT
  have hts : tsz t ≤ 2 * l.length := by
    have := der_tsz hd
    simp [base] at this
    omega
  have h0 : 1 ≤ tdp t := by rw [tdp_eq]; omega
  refine ⟨l, hl, ?_, by omega, by omega, hdp, parse_of_der h4 hl hd (by omega) (by omega) (by omega), parse_of_der h4 hl hd (by omega) (by omega) (by omega), h0, by omega, fun hne => parse_deep h4 hl hd (by omega) (by omega) (by omega)⟩
  refine der_WT hd (fun x hm => ?_) trivial
  obtain ⟨q, e, _, _⟩ := ha x hm
  have hz : x.f1.data.toList.length = x.f1.size := rfl
  have := hx x hm
  exact ⟨hv x hm, ⟨x, hm, rfl⟩, by omega, by omega⟩
end Go.Proofs.YtajcnjdinmgpjaaGreatDoor.X
/- The calls whose answers the document fixes, of layer 3. -/
namespace Go.Proofs.YtajcnjdinmgpjaaGreatDoor.X
open Go.RowKit Go.Proofs.YtajcnjdinmgpjaaGreatDoorW.PrintWords Go.Proofs.YtajcnjdinmgpjaaGreatDoorW.PrintLast Go.Proofs.YtajcnjdinmgpjaaGreatDoorW.PrintMore Go.Proofs.YtajcnjdinmgpjaaGreatDoor.P
def fxT : Tree := ⟨10, ⟨#[43]⟩, 0, 0, [⟨3, ⟨#[]⟩, 0, 0, [⟨1, ⟨#[102]⟩, 0, 0, []⟩, ⟨1, ⟨#[120]⟩, 0, 2, []⟩]⟩, ⟨9, ⟨#[]⟩, 1, 6, []⟩]⟩
def fxU : Tree := ⟨10, ⟨#[45]⟩, 0, 0, [⟨10, ⟨#[45]⟩, 0, 0, [⟨9, ⟨#[]⟩, 1, 0, []⟩, ⟨9, ⟨#[]⟩, 2, 4, []⟩]⟩, ⟨9, ⟨#[]⟩, 3, 8, []⟩]⟩
def fxV : Tree := ⟨6, ⟨#[65]⟩, 0, 0, [⟨6, ⟨#[66]⟩, 0, 3, []⟩, ⟨1, ⟨#[99]⟩, 0, 6, []⟩]⟩
theorem fx1 : parseM ⟨#[102, 32, 120, 32, 43, 32, 49]⟩ 9 = .ok fxT := by kernel_rfl
theorem fx2 : parseM ⟨#[102, 32, 120, 32, 43, 32, 49]⟩ 2 = .error (0, 31) := by kernel_rfl
theorem fx3 : parseM ⟨#[108, 101, 116, 32, 120, 32, 61, 32, 49]⟩ 9 = .error (9, 30) := by kernel_rfl
theorem fx4 : parseM ⟨#[99, 97, 115, 101, 32, 120, 32, 111, 102, 32, 123, 65, 32, 45, 62, 32, 49, 32, 124, 32, 125]⟩ 9 = .error (20, 30) := by kernel_rfl
theorem fx5 : parseM ⟨#[49, 32, 45, 32, 50, 32, 45, 32, 51]⟩ 9 = .ok fxU := by kernel_rfl
theorem fx6 : parseM ⟨#[49, 32, 60, 32, 50, 32, 60, 32, 51]⟩ 9 = .error (6, 30) := by kernel_rfl
theorem fx7 : parseM ⟨#[65, 32, 40, 66, 41, 32, 99]⟩ 9 = .ok fxV := by kernel_rfl
theorem fx8 : parseM ⟨#[120]⟩ 0 = .error (0, 1) := by kernel_rfl
/-- a tree lies in a block, and what it has -/
def At (w : World) (b : Nat) (t : Tree) (A : Option Addr) (c : Nat) : Prop := w.heap[b]? = some (.cells (cellsT t A c).toArray 25 (0, 0)) ∧ TAt w (fun _ => True) t A c
theorem At.below {w w1 : World} {b : Nat} {t : Tree} {A : Option Addr} {c : Nat} (h : At w b t A c) (hb : Below w.heap.size w w1) : At w1 b t A c := ⟨blk_below h.1 hb, h.2.below hb⟩
theorem At.alloc {w : World} {b : Nat} {t : Tree} {A : Option Addr} {c : Nat} (h : At w b t A c) (o : Obj) : At (w.alloc o) b t A c := h.below (below_alloc (Below.refl _ _) o)
theorem At.new {w : World} {ok : Nat → Prop} {t : Tree} {A : Option Addr} {c : Nat} (h : TAt w ok t A c) : At (w.alloc (.cells (cellsT t A c).toArray 25)) w.heap.size t A c := ⟨blk_new w _, (h.mono (fun _ _ => trivial)).below (below_alloc (Below.refl _ _) _)⟩
theorem errRel {w : World} {s : ByteArray} {d p c : Int} (h : parseM s d = .error (p, c)) : Calls Tryz.prog 6 #[.string s, .int .i64 d] w fun e w' => e = .returned (.tuple #[treeZ, .int .i64 p, .int .i64 c]) ∧ Below w.heap.size w w' := by
  have := Parse_calls s d w
  rw [h] at this
  exact this
theorem okRel {w : World} {s : ByteArray} {d : Int} {t : Tree} (h : parseM s d = .ok t) : Calls Tryz.prog 6 #[.string s, .int .i64 d] w fun e w' => ∃ A c, e = .returned (.tuple #[treeV t A c, .int .i64 0, .int .i64 0]) ∧ TAt w' (Iv w.heap.size w'.heap.size) t A c ∧ Below w.heap.size w w' := by
  have := Parse_calls s d w
  rw [h] at this
  exact this
theorem One_calls (t : Tree) (A A' : Option Addr) (c c' : Nat) (ok ok' : Nat → Prop) (w : World) (h : TAt w ok t A c) (h' : TAt w ok' t A' c') (hs : tsz t ≤ 1000000000000) :
    Calls Tryz.prog 7 #[treeV t A c, treeV t A' c'] w fun e w' => e = .returned (.bool true) ∧ Below w.heap.size w w' :=
  gossamerref02_One.calls (3 * tsz t) t.f0 t.f1 t.f2 t.f3 A c t.f4 t.f0 t.f1 t.f2 t.f3 A' c' t.f4 true w (Kd.F_now h.2.1) h.1 (Kd.F_now h'.2.1) h'.1 (One_f (tsz t) t (Nat.le_refl _) hs _ (Nat.le_refl _))
theorem want_at (W : World) : At (((W.alloc (.cells #[.int .i64 1, .string ⟨#[102]⟩, .int .i64 0, .int .i64 0, .slice none 0 0, .int .i64 1, .string ⟨#[120]⟩, .int .i64 0, .int .i64 2, .slice none 0 0] 25)).alloc
      (.cells #[.int .i64 3, .string ⟨#[]⟩, .int .i64 0, .int .i64 0, .slice (some ⟨W.heap.size, 0, none⟩) 2 2, .int .i64 9, .string ⟨#[]⟩, .int .i64 1, .int .i64 6, .slice none 0 0] 25)).alloc
      (.cells #[.int .i64 10, .string ⟨#[43]⟩, .int .i64 0, .int .i64 0, .slice (some ⟨W.heap.size + 1, 0, none⟩) 2 2] 25)) (W.heap.size + 1 + 1) fxT (some ⟨W.heap.size + 1, 0, none⟩) 2 := by
  have b1 := blk_alloc (blk_alloc (blk_new W (.cells #[.int .i64 1, .string ⟨#[102]⟩, .int .i64 0, .int .i64 0, .slice none 0 0, .int .i64 1, .string ⟨#[120]⟩, .int .i64 0, .int .i64 2, .slice none 0 0] 25)) (.cells #[.int .i64 3, .string ⟨#[]⟩, .int .i64 0, .int .i64 0, .slice (some ⟨W.heap.size, 0, none⟩) 2 2, .int .i64 9, .string ⟨#[]⟩, .int .i64 1, .int .i64 6, .slice none 0 0] 25)) (.cells #[.int .i64 10, .string ⟨#[43]⟩, .int .i64 0, .int .i64 0, .slice (some ⟨W.heap.size + 1, 0, none⟩) 2 2] 25)
  have b2 := blk_alloc (blk_new (W.alloc (.cells #[.int .i64 1, .string ⟨#[102]⟩, .int .i64 0, .int .i64 0, .slice none 0 0, .int .i64 1, .string ⟨#[120]⟩, .int .i64 0, .int .i64 2, .slice none 0 0] 25)) (.cells #[.int .i64 3, .string ⟨#[]⟩, .int .i64 0, .int .i64 0, .slice (some ⟨W.heap.size, 0, none⟩) 2 2, .int .i64 9, .string ⟨#[]⟩, .int .i64 1, .int .i64 6, .slice none 0 0] 25)) (.cells #[.int .i64 10, .string ⟨#[43]⟩, .int .i64 0, .int .i64 0, .slice (some ⟨W.heap.size + 1, 0, none⟩) 2 2] 25)
  have b3 := blk_new ((W.alloc (.cells #[.int .i64 1, .string ⟨#[102]⟩, .int .i64 0, .int .i64 0, .slice none 0 0, .int .i64 1, .string ⟨#[120]⟩, .int .i64 0, .int .i64 2, .slice none 0 0] 25)).alloc (.cells #[.int .i64 3, .string ⟨#[]⟩, .int .i64 0, .int .i64 0, .slice (some ⟨W.heap.size, 0, none⟩) 2 2, .int .i64 9, .string ⟨#[]⟩, .int .i64 1, .int .i64 6, .slice none 0 0] 25)) (.cells #[.int .i64 10, .string ⟨#[43]⟩, .int .i64 0, .int .i64 0, .slice (some ⟨W.heap.size + 1, 0, none⟩) 2 2] 25)
  simp only [World.size_alloc] at b2 b3
  generalize ((W.alloc (.cells #[.int .i64 1, .string ⟨#[102]⟩, .int .i64 0, .int .i64 0, .slice none 0 0, .int .i64 1, .string ⟨#[120]⟩, .int .i64 0, .int .i64 2, .slice none 0 0] 25)).alloc (.cells #[.int .i64 3, .string ⟨#[]⟩, .int .i64 0, .int .i64 0, .slice (some ⟨W.heap.size, 0, none⟩) 2 2, .int .i64 9, .string ⟨#[]⟩, .int .i64 1, .int .i64 6, .slice none 0 0] 25)).alloc (.cells #[.int .i64 10, .string ⟨#[43]⟩, .int .i64 0, .int .i64 0, .slice (some ⟨W.heap.size + 1, 0, none⟩) 2 2] 25) = V at b1 b2 b3 ⊢
  have f1 : TAt V (fun _ => True) ⟨3, ⟨#[]⟩, 0, 0, [⟨1, ⟨#[102]⟩, 0, 0, []⟩, ⟨1, ⟨#[120]⟩, 0, 2, []⟩]⟩ (some ⟨W.heap.size, 0, none⟩) 2 :=
    TAt.with 3 ⟨#[]⟩ 0 0 (l := [⟨1, ⟨#[102]⟩, 0, 0, []⟩, ⟨1, ⟨#[120]⟩, 0, 2, []⟩]) (by decide) (F_two (x := ⟨1, ⟨#[102]⟩, 0, 0, []⟩) (y := ⟨1, ⟨#[120]⟩, 0, 2, []⟩) (A := none) (A' := none) (c := 0) (c' := 0) b1 trivial (TAt.nil _ _ _ _ _ _) (TAt.nil _ _ _ _ _ _)) (by simp)
  exact ⟨b3, TAt.with 10 ⟨#[43]⟩ 0 0 (l := [⟨3, ⟨#[]⟩, 0, 0, [⟨1, ⟨#[102]⟩, 0, 0, []⟩, ⟨1, ⟨#[120]⟩, 0, 2, []⟩]⟩, ⟨9, ⟨#[]⟩, 1, 6, []⟩]) (by decide) (F_two (x := ⟨3, ⟨#[]⟩, 0, 0, [⟨1, ⟨#[102]⟩, 0, 0, []⟩, ⟨1, ⟨#[120]⟩, 0, 2, []⟩]⟩) (y := ⟨9, ⟨#[]⟩, 1, 6, []⟩) (A := some ⟨W.heap.size, 0, none⟩) (A' := none) (c := 2) (c' := 0) b2 trivial f1 (TAt.nil _ _ _ _ _ _)) (by simp)⟩
abbrev fxW (W : World) (N : Nat) : World := ((W.alloc (.cells #[.int .i64 1, .string ⟨#[102]⟩, .int .i64 0, .int .i64 0, .slice none 0 0, .int .i64 1, .string ⟨#[120]⟩, .int .i64 0, .int .i64 2, .slice none 0 0] 25)).alloc
      (.cells #[.int .i64 3, .string ⟨#[]⟩, .int .i64 0, .int .i64 0, .slice (some ⟨N, 0, none⟩) 2 2, .int .i64 9, .string ⟨#[]⟩, .int .i64 1, .int .i64 6, .slice none 0 0] 25)).alloc
      (.cells #[.int .i64 10, .string ⟨#[43]⟩, .int .i64 0, .int .i64 0, .slice (some ⟨N + 1, 0, none⟩) 2 2] 25)
theorem below_end {w W V : World} (hB : Below w.heap.size w W) (h : Below W.heap.size W V) : Below w.heap.size w V := hB.trans (h.mono hB.size)
theorem fixA {w W : World} {b : Nat} {t : Tree} {A : Option Addr} {c : Nat} (h : At W b t A c) (hB : Below w.heap.size w W) {N : Nat} (hN : W.heap.size = N) : At (fxW W N) b t A c ∧ At (fxW W N) (N + 1 + 1) fxT (some ⟨N + 1, 0, none⟩) 2 ∧ Below w.heap.size w (fxW W N) := by
  subst hN
  exact ⟨((h.alloc _).alloc _).alloc _, want_at W, below_end hB (below_alloc (below_alloc (below_alloc (Below.refl _ _) _) _) _)⟩
/-- a tree that is no answer is stored -/
def objZ : Obj := .cells #[.int .i64 0, .string ⟨#[]⟩, .int .i64 0, .int .i64 0, .slice none 0 0] 25
abbrev objT (t : Tree) (A : Option Addr) (c : Nat) : Obj := .cells (cellsT t A c).toArray 25
/-- a call behind which an answer is stored -/
theorem At.step {w w1 : World} {b : Nat} {t : Tree} {A : Option Addr} {c : Nat} (h : At w b t A c) (hb : Below w.heap.size w w1) (o : Obj) : At (w1.alloc o) b t A c := (h.below hb).alloc o
theorem below_next {w W W1 : World} (hB : Below w.heap.size w W) (h : Below W.heap.size W W1) (o : Obj) : Below w.heap.size w (W1.alloc o) := below_end (below_end hB h) (below_alloc (Below.refl _ _) o)
set_option maxRecDepth 100000 in
set_option maxHeartbeats 4000000 in
theorem fixed_calls (w : World) : Calls Tryz.prog 5 #[] w fun e w' => e = .returned (.bool true) ∧ Below w.heap.size w w' := by
  go_enter Tryz.func5, Tryz.ntmps5
  go_wp2_with fail
  refine (okRel fx1).mono ?_
  rintro e w1 ⟨A1, c1, rfl, hT1, hB1⟩
  have H := Lib.hid (fixA (At.new hT1) (below_alloc hB1 (objT fxT A1 c1)) (N := w1.heap.size + 1) (World.size_alloc _ _))
  clear hT1 hB1
  have e1 : treeV fxT A1 c1 = .agg #[.int .i64 10, .string ⟨#[43]⟩, .int .i64 0, .int .i64 0, .slice A1 2 c1] := rfl
  rw [e1]
  clear e1
  go_wp2_with fail
  refine (errRel fx2).mono ?_
  rintro e w2 ⟨rfl, hB2⟩
  have H2 := Lib.hid (And.intro (H.out.1.step hB2 objZ) (And.intro (H.out.2.1.step hB2 objZ) (below_next H.out.2.2 hB2 objZ)))
  clear hB2 H
  unfold treeZ
  go_wp2_with fail
  refine (errRel fx3).mono ?_
  rintro e w3 ⟨rfl, hB3⟩
  have H3 := Lib.hid (And.intro (H2.out.1.step hB3 objZ) (And.intro (H2.out.2.1.step hB3 objZ) (below_next H2.out.2.2 hB3 objZ)))
  clear hB3 H2
  unfold treeZ
  go_wp2_with fail
  refine (errRel fx4).mono ?_
  rintro e w4 ⟨rfl, hB4⟩
  have H4 := Lib.hid (And.intro (H3.out.1.step hB4 objZ) (And.intro (H3.out.2.1.step hB4 objZ) (below_next H3.out.2.2 hB4 objZ)))
  clear hB4 H3
  unfold treeZ
  go_wp2_with fail
  refine (okRel fx5).mono ?_
  rintro e w5 ⟨A5, c5, rfl, hT5, hB5⟩
  have H5 := Lib.hid (And.intro (H4.out.1.step hB5 (objT fxU A5 c5)) (And.intro (H4.out.2.1.step hB5 (objT fxU A5 c5)) (And.intro (At.new hT5) (below_next H4.out.2.2 hB5 (objT fxU A5 c5)))))
  clear hT5 hB5 H4
  have e5 : treeV fxU A5 c5 = .agg #[.int .i64 10, .string ⟨#[45]⟩, .int .i64 0, .int .i64 0, .slice A5 2 c5] := rfl
  rw [e5]
  clear e5
  go_wp2_with fail
  refine (errRel fx6).mono ?_
  rintro e w6 ⟨rfl, hB6⟩
  have H6 := Lib.hid (And.intro (H5.out.1.step hB6 objZ) (And.intro (H5.out.2.1.step hB6 objZ) (And.intro (H5.out.2.2.1.step hB6 objZ) (below_next H5.out.2.2.2 hB6 objZ))))
  clear hB6 H5
  unfold treeZ
  go_wp2_with fail
  refine (okRel fx7).mono ?_
  rintro e w7 ⟨A7, c7, rfl, hT7, hB7⟩
  have H7 := Lib.hid (And.intro (H6.out.1.step hB7 (objT fxV A7 c7)) (And.intro (H6.out.2.1.step hB7 (objT fxV A7 c7)) (And.intro (H6.out.2.2.1.step hB7 (objT fxV A7 c7)) (And.intro (At.new hT7) (below_next H6.out.2.2.2 hB7 (objT fxV A7 c7))))))
  clear hT7 hB7 H6
  have e7 : treeV fxV A7 c7 = .agg #[.int .i64 6, .string ⟨#[65]⟩, .int .i64 0, .int .i64 0, .slice A7 2 c7] := rfl
  rw [e7]
  clear e7
  go_wp2_with fail
  refine (errRel fx8).mono ?_
  rintro e w8 ⟨rfl, hB8⟩
  have H8 := Lib.hid (And.intro (H7.out.1.step hB8 objZ) (And.intro (H7.out.2.1.step hB8 objZ) (And.intro (H7.out.2.2.1.step hB8 objZ) (And.intro (H7.out.2.2.2.1.step hB8 objZ) (below_next H7.out.2.2.2.2 hB8 objZ)))))
  clear hB8 H7
  unfold treeZ
  have b1 : (w8.alloc objZ).heap[w1.heap.size]? = some (.cells #[.int .i64 10, .string ⟨#[43]⟩, .int .i64 0, .int .i64 0, .slice A1 2 c1] 25 (0, 0)) := H8.out.1.1
  have b4 : (w8.alloc objZ).heap[w1.heap.size + 1 + 1 + 1]? = some (.cells #[.int .i64 10, .string ⟨#[43]⟩, .int .i64 0, .int .i64 0, .slice (some ⟨w1.heap.size + 1 + 1, 0, none⟩) 2 2] 25 (0, 0)) := H8.out.2.1.1
  have b5 : (w8.alloc objZ).heap[w5.heap.size]? = some (.cells #[.int .i64 10, .string ⟨#[45]⟩, .int .i64 0, .int .i64 0, .slice A5 2 c5] 25 (0, 0)) := H8.out.2.2.1.1
  have b7 : (w8.alloc objZ).heap[w7.heap.size]? = some (.cells #[.int .i64 6, .string ⟨#[65]⟩, .int .i64 0, .int .i64 0, .slice A7 2 c7] 25 (0, 0)) := H8.out.2.2.2.1.1
  have hc5 := H8.out.2.2.1.2.1
  obtain ⟨ad, A4, c4, rfl, _, _, g2, _⟩ := at_T25 (Kd.F_now H8.out.2.2.1.2.2.1) 1 (by decide) (by decide)
  have g2' : (w8.alloc objZ).cell? ⟨(ad.add 5).block, (ad.add 5).off + 2, none⟩ = some (.int .i64 3) := g2
  clear g2
  obtain ⟨x0, x1, x2, x3, x4, xf, xl⟩ := open5 b1
  obtain ⟨y0, y1, y2, y3, y4, yf, yl⟩ := open5 b4
  have HB := Lib.hid (And.intro b5 (And.intro b7 g2'))
  clear b1 b4 b5 b7 g2'
  unfold objZ at *
  go_wp2_with fail
  refine (One_calls fxT A1 (some ⟨w1.heap.size + 1 + 1, 0, none⟩) c1 2 _ _ _ H8.out.1.2 H8.out.2.1.2 (by decide)).mono ?_
  rintro e w9 ⟨rfl, hB9⟩
  obtain ⟨b5, b7, g2⟩ := HB.out
  have b5' := blk_below b5 hB9
  have b7' := blk_below b7 hB9
  have g3 := (hB9.cell (World.block_lt_of_cell? _ _ g2)).trans g2
  have g4 : w9.cell? ⟨ad.block, ad.off + 5 + 2, none⟩ = some (.int .i64 3) := g3
  have lt3 := World.block_lt_of_cell? _ _ g4
  clear g3
  have hBB := below_end H8.out.2.2.2.2 hB9
  clear b5 b7 g2 hB9 x0 x1 x2 x3 x4 xf xl y0 y1 y2 y3 y4 yf yl HB H8
  obtain ⟨x0, x1, x2, x3, x4, xf, xl⟩ := open5 b5'
  obtain ⟨y0, y1, y2, y3, y4, yf, yl⟩ := open5 b7'
  clear b5' b7' x0 x1 x2 x3 y1 y2 y3
  go_wp2
  go_ret
  exact ⟨rfl, hBB⟩
end Go.Proofs.YtajcnjdinmgpjaaGreatDoor.X
/- Contracts in one form. -/
namespace Go.Proofs.YtajcnjdinmgpjaaGreatDoor.X
open Go.RowKit Go.Proofs.YtajcnjdinmgpjaaGreatDoorW.PrintWords Go.Proofs.YtajcnjdinmgpjaaGreatDoorW.PrintLast Go.Proofs.YtajcnjdinmgpjaaGreatDoorW.PrintMore Go.Proofs.YtajcnjdinmgpjaaGreatDoor.P
theorem parseM_err {s : ByteArray} {d p c : Int} (h : parseM s d = .error (p, c)) : c ≠ 0 := by
  unfold parseM at h
  split at h
  · cases h; decide
  · split at h
    · cases h; decide
    · cases hl : lexAll s with
      | error e =>
        obtain ⟨a, c'⟩ := e
        rw [hl] at h
        have := lexAll_err hl
        cases h
        omega
      | ok l =>
        rw [hl] at h
        simp only at h
        cases hw : pWhole l with
        | fail r => rw [hw] at h; cases h; decide
        | ok t r =>
          rw [hw] at h
          simp only at h
          split at h
          · cases h; decide
          · cases h
theorem At.cells {w : World} {b : Nat} {t : Tree} {A : Option Addr} {c : Nat} (h : At w b t A c) : w.heap[b]? = some (.cells #[.int .i64 t.f0, .string t.f1, .int .i64 t.f2, .int .i64 t.f3, .slice A t.f4.length c] 25 (0, 0)) := h.1
end Go.Proofs.YtajcnjdinmgpjaaGreatDoor.X
/- ParseFits: the walk. -/
namespace Go.Proofs.YtajcnjdinmgpjaaGreatDoor.X
open Go.RowKit Go.Proofs.YtajcnjdinmgpjaaGreatDoorW.PrintWords Go.Proofs.YtajcnjdinmgpjaaGreatDoorW.PrintLast Go.Proofs.YtajcnjdinmgpjaaGreatDoorW.PrintMore Go.Proofs.YtajcnjdinmgpjaaGreatDoor.P
theorem RAll_okF {s : ByteArray} {l : List Tok} (hs : s.size ≤ 1000000000) (h : lexAll s = .ok l) (w : World) : Calls Tryz.prog 8 #[.string s] w fun e w' => ∃ A c, e = .returned (.tuple #[.slice A l.length c, .int .i64 0, .int .i64 0]) ∧ l.length ≤ c ∧ Kd.C k46 w' A l.length l ∧ Below w.heap.size w w' := by
  have := RAll_calls s hs w
  rw [h] at this
  exact this
theorem RDepth_calls (t : Tree) (A : Option Addr) (c : Nat) (ok : Nat → Prop) (w : World) (h : TAt w ok t A c) (hs : tsz t ≤ 1000000000000) :
    Calls Tryz.prog 9 #[treeV t A c] w fun e w' => e = .returned (.int .i64 ((tdp t : Nat) : Int)) ∧ Below w.heap.size w w' :=
  (gossamerref02_Depth.calls (2 * tsz t) t.f0 t.f1 t.f2 t.f3 A c t.f4 _ w (Kd.F_now h.2.1) h.1 (RDepth_f (tsz t) t (Nat.le_refl _) hs _ (Nat.le_refl _)))
theorem RMay_calls {S : Int → Prop} (t : Tree) (hW : WT S false t) (A : Option Addr) (c : Nat) (ok : Nat → Prop) (w : World) (h : TAt w ok t A c) (hs : tsz t ≤ 1000000000000) :
    Calls Tryz.prog 10 #[treeV t A c] w fun e w' => e = .returned (.bool true) ∧ Below w.heap.size w w' :=
  (gossamerref02_May.calls (4 * tsz t + 4) t.f0 t.f1 t.f2 t.f3 A c t.f4 _ w (Kd.F_now h.2.1) h.1 (RMay_f hW hs))
theorem places_calls (t : Tree) (l : List Tok) (hl : l.length ≤ 1500) (hW : WT (fun p => ∃ y ∈ l, y.f3 = p) false t) (A L : Option Addr) (c lc : Nat) (ok : Nat → Prop) (w : World) (h : TAt w ok t A c) (hs : tsz t ≤ 1000000000000) (hC : Kd.C k46 w L l.length l) (hc : l.length ≤ lc) :
    Calls Tryz.prog 11 #[treeV t A c, .slice L l.length lc] w fun e w' => e = .returned (.bool true) ∧ Below w.heap.size w w' :=
  (gossamerlaw03_places.calls ((l.length + 3) * tsz t) t.f0 t.f1 t.f2 t.f3 A c t.f4 L lc l _ w (Kd.F_now h.2.1) h.1 hC hc (places_f l (by omega) (tsz t) false t hW (Nat.le_refl _) hs _ (Nat.le_refl _)))
def zT : Tree := ⟨0, ⟨#[]⟩, 0, 0, []⟩
theorem One_zero (w : World) : Calls Tryz.prog 7 #[treeZ, treeZ] w fun e w' => e = .returned (.bool true) ∧ Below w.heap.size w w' :=
  One_calls zT none none 0 0 (fun _ => True) (fun _ => True) w (TAt.nil _ _ _ _ _ _) (TAt.nil _ _ _ _ _ _) (by decide)
set_option maxRecDepth 100000 in
set_option maxHeartbeats 4000000 in
theorem parseFits_walk (a0 : ByteArray) (a1 : Int) (w : World) (h0 : a0.size ≤ 140737488351232) (hwf : (Lit.int .i64 a1).wf = true) : Calls Tryz.prog 3 #[.string a0, .int .i64 a1] w fun e w' => e = .returned (.bool true) ∧ Below w.heap.size w w' := by
  by_cases hbig : 1500 < a0.size ∨ a1 < 1 ∨ 200 < a1
  · by_cases hb1 : 1500 < a0.size
    · have d0 : decide ((1500 : Int) < (a0.size : Int)) = true := decide_eq_true (by omega)
      clear hbig
      go_enter Tryz.func3, Tryz.ntmps3
      go_wp2_with fail
      refine (fixed_calls _).mono ?_
      rintro e w1 ⟨rfl, hB1⟩
      go_wp2_with fail
      refine (fixed_calls _).mono ?_
      rintro e w2 ⟨rfl, hB2⟩
      go_wp2
      exact bodyPost_ret (results_tmp rfl _ _ _) rfl ⟨rfl, below_step hB1 hB2⟩
    · have d0 : decide ((1500 : Int) < (a0.size : Int)) = false := decide_eq_false (by omega)
      by_cases hb2 : a1 < 1
      · have d1 : decide (a1 < (1 : Int)) = true := decide_eq_true (by omega)
        clear hbig
        go_enter Tryz.func3, Tryz.ntmps3
        go_wp2_with fail
        refine (fixed_calls _).mono ?_
        rintro e w1 ⟨rfl, hB1⟩
        go_wp2_with fail
        refine (fixed_calls _).mono ?_
        rintro e w2 ⟨rfl, hB2⟩
        go_wp2
        exact bodyPost_ret (results_tmp rfl _ _ _) rfl ⟨rfl, below_step hB1 hB2⟩
      · have d1 : decide (a1 < (1 : Int)) = false := decide_eq_false (by omega)
        have d2 : decide ((200 : Int) < a1) = true := decide_eq_true (by omega)
        clear hbig
        go_enter Tryz.func3, Tryz.ntmps3
        go_wp2_with fail
        refine (fixed_calls _).mono ?_
        rintro e w1 ⟨rfl, hB1⟩
        go_wp2_with fail
        refine (fixed_calls _).mono ?_
        rintro e w2 ⟨rfl, hB2⟩
        go_wp2
        exact bodyPost_ret (results_tmp rfl _ _ _) rfl ⟨rfl, below_step hB1 hB2⟩
  have d0 : decide ((1500 : Int) < (a0.size : Int)) = false := decide_eq_false (by omega)
  have d1 : decide (a1 < (1 : Int)) = false := decide_eq_false (by omega)
  have d2 : decide ((200 : Int) < a1) = false := decide_eq_false (by omega)
  cases hp : parseM a0 a1 with
  | error pc =>
    obtain ⟨p, c⟩ := pc
    have hc := parseM_err hp
    have hpl := parseM_place hp
    have e1 : (c != 0) = true := by simpa using hc
    have d3 : decide ((0 : Int) ≤ p) = true := decide_eq_true (by omega)
    have d4 : decide (p ≤ (a0.size : Int)) = true := decide_eq_true (by omega)
    have HP := Lib.hid (fun w => errRel (w := w) hp)
    clear hp hc hpl
    go_enter Tryz.func3, Tryz.ntmps3
    go_wp2_with fail
    refine (fixed_calls _).mono ?_
    rintro e w1 ⟨rfl, hB1⟩
    go_wp2_with fail
    refine (HP.out _).mono ?_
    rintro e w2 ⟨rfl, hB2⟩
    have hBB := Lib.hid (below_next hB1 hB2 objZ)
    clear hB1 hB2
    unfold treeZ
    go_wp2_with fail
    refine (One_zero _).mono ?_
    rintro e w3 ⟨rfl, hB3⟩
    have hBB3 := Lib.hid (below_end hBB.out hB3)
    clear hB3 hBB
    go_wp2
    go_ret
    exact ⟨rfl, hBB3.out⟩
  | ok t =>
    obtain ⟨l, hl, hW, hl5, hts, hdp, hp2, hp3, hd1, hd2, hp4⟩ := fits (by omega) hp
    have d3 : decide (a1 < ((tdp t : Nat) : Int)) = false := decide_eq_false (by omega)
    have HA := Lib.hid (RAll_okF (by omega) hl)
    have HP := Lib.hid (fun w => okRel (w := w) hp)
    have HP2 := Lib.hid (fun w => okRel (w := w) hp2)
    have HP3 := Lib.hid (fun w => okRel (w := w) hp3)
    have HP4 := Lib.hid hp4
    have HW := Lib.hid hW
    have hdn : ((tdp t : Nat) : Int) ≤ 200 := by omega
    clear hl hW hdp hp hp2 hp3 hp4
    go_enter Tryz.func3, Tryz.ntmps3
    go_wp2_with fail
    refine (fixed_calls _).mono ?_
    rintro e w1 ⟨rfl, hB1⟩
    go_wp2_with fail
    refine (HP.out _).mono ?_
    rintro e w2 ⟨A, c, rfl, hT, hB2⟩
    have H2 := Lib.hid (And.intro (At.new hT) (below_next hB1 hB2 (objT t A c)))
    clear hB1 hB2 hT
    unfold treeV
    go_wp2_with fail
    refine (HA.out _).mono ?_
    rintro e w3 ⟨L, lc, rfl, hlc, hC, hB3⟩
    have H3 := Lib.hid (And.intro (H2.out.1.below hB3) (And.intro (below_end H2.out.2 hB3) hC))
    clear hB3 H2 hC
    obtain ⟨p0, p1, p2, p3, p4, pf, pl⟩ := open5 (At.cells (t := t) (A := A) (c := c) H3.out.1)
    go_wp2_with fail
    refine (RDepth_calls t A c _ _ H3.out.1.2 hts).mono ?_
    rintro e w4 ⟨rfl, hB4⟩
    have H4 := Lib.hid (And.intro (H3.out.1.below hB4) (And.intro (below_end H3.out.2.1 hB4) (Kd.C_below H3.out.2.2 hB4)))
    clear hB4 H3 p0 p1 p2 p3 p4 pf pl
    go_wp2_with fail
    refine (HP2.out _).mono ?_
    rintro e w5 ⟨A5, c5, rfl, hT5, hB5⟩
    have H5 := Lib.hid (And.intro (H4.out.1.step hB5 (objT t A5 c5)) (And.intro (At.new hT5) (And.intro (below_next H4.out.2.1 hB5 (objT t A5 c5)) (Kd.C_below (Kd.C_below H4.out.2.2 hB5) (below_alloc (Below.refl _ _) (objT t A5 c5))))))
    clear H4 hB5 hT5
    unfold treeV
    go_wp2_with fail
    with_reducible refine (HP3.out _).mono ?_
    rintro e w6 ⟨A6, c6, rfl, hT6, hB6⟩
    have H6 := Lib.hid (And.intro (H5.out.1.step hB6 (objT t A6 c6)) (And.intro (H5.out.2.1.step hB6 (objT t A6 c6)) (And.intro (At.new hT6) (And.intro (below_next H5.out.2.2.1 hB6 (objT t A6 c6)) (Kd.C_below (Kd.C_below H5.out.2.2.2 hB6) (below_alloc (Below.refl _ _) (objT t A6 c6)))))))
    clear H5 hB6 hT6
    unfold treeV
    obtain ⟨p0, p1, p2, p3, p4, pf, pl⟩ := open5 H6.out.1.cells
    have e1 : objT t A6 c6 = .cells #[.int .i64 t.f0, .string t.f1, .int .i64 t.f2, .int .i64 t.f3, .slice A6 t.f4.length c6] 25 := rfl
    rw [e1] at p0 p1 p2 p3 p4 pf pl
    go_wp2_with fail
    refine (RMay_calls t HW.out A c _ _ H6.out.1.2 hts).mono ?_
    rintro e w7 ⟨rfl, hB7⟩
    have H7 := Lib.hid (And.intro (H6.out.1.below hB7) (And.intro (H6.out.2.1.below hB7) (And.intro (H6.out.2.2.1.below hB7) (And.intro (below_end H6.out.2.2.2.1 hB7) (Kd.C_below H6.out.2.2.2.2 hB7)))))
    clear H6 hB7 p0 p1 p2 p3 p4 pf pl e1
    obtain ⟨p0, p1, p2, p3, p4, pf, pl⟩ := open5 H7.out.1.cells
    obtain ⟨q0, q1, q2, q3, q4, qf, ql⟩ := open5 H7.out.2.1.cells
    go_wp2_with fail
    refine (One_calls t A A5 c c5 _ _ _ H7.out.1.2 H7.out.2.1.2 hts).mono ?_
    rintro e w8 ⟨rfl, hB8⟩
    have H8 := Lib.hid (And.intro (H7.out.1.below hB8) (And.intro (H7.out.2.2.1.below hB8) (And.intro (below_end H7.out.2.2.2.1 hB8) (Kd.C_below H7.out.2.2.2.2 hB8))))
    clear H7 hB8 p0 p1 p2 p3 p4 pf pl q0 q1 q2 q3 q4 qf ql
    obtain ⟨p0, p1, p2, p3, p4, pf, pl⟩ := open5 H8.out.1.cells
    obtain ⟨q0, q1, q2, q3, q4, qf, ql⟩ := open5 H8.out.2.1.cells
    go_wp2_with fail
    refine (One_calls t A A6 c c6 _ _ _ H8.out.1.2 H8.out.2.1.2 hts).mono ?_
    rintro e w9 ⟨rfl, hB9⟩
    have H9 := Lib.hid (And.intro (H8.out.1.below hB9) (And.intro (below_end H8.out.2.2.1 hB9) (Kd.C_below H8.out.2.2.2 hB9)))
    clear H8 hB9 p0 p1 p2 p3 p4 pf pl q0 q1 q2 q3 q4 qf ql
    obtain ⟨p0, p1, p2, p3, p4, pf, pl⟩ := open5 H9.out.1.cells
    go_wp2_with fail
    refine (places_calls t l hl5 HW.out A L c lc _ _ H9.out.1.2 hts H9.out.2.2 hlc).mono ?_
    rintro e w10 ⟨rfl, hB10⟩
    have H10 := Lib.hid (below_end H9.out.2.1 hB10)
    clear H9 hB10 p0 p1 p2 p3 p4 pf pl
    by_cases h1 : tdp t = 1
    · have e1 : (((tdp t : Nat) : Int) == 1) = true := by rw [h1]; rfl
      go_wp2
      go_ret
      exact ⟨rfl, H10.out⟩
    · have e1 : (((tdp t : Nat) : Int) == 1) = false := by simp; omega
      have hw1 : wrap64 (((tdp t : Nat) : Int) - 1) = ((tdp t : Nat) : Int) - 1 := wrap_small _ (by omega) (by omega)
      have HP5 := Lib.hid (fun w => errRel (w := w) (HP4.out h1))
      go_wp2_with fail
      refine (HP5.out _).mono ?_
      rintro e w11 ⟨rfl, hB11⟩
      unfold treeZ
      have H11 := Lib.hid (below_next H10.out hB11 objZ)
      clear hB11 H10
      go_wp2
      go_ret
      exact ⟨rfl, H11.out⟩
end Go.Proofs.YtajcnjdinmgpjaaGreatDoor.X
/- ParseFits: the row and its card: for every input the law returns true, and each argument reads as it did. The condition: the listed package-level variables hold what the program's text lays (the card ties that). -/
namespace Go.Proofs.YtajcnjdinmgpjaaGreatDoor.parseFits
open Go Go.ChangeShapes Go.WideShapes Go.ChangeAt Go.RowKit Go.Proofs.YtajcnjdinmgpjaaGreatDoor.X
open Go.ChangeMaps (open_string shut_string)
set_option linter.unusedVariables false
theorem own : ownKnob Tryz.prog.godebug = none := by kernel_rfl
set_option maxRecDepth 1000000 in
theorem laid_met (os : Os) (args : Array Value) : laidMet Tryz.prog Rows.parseFitsRow.laid ((laidWorld os).forCall (fun _ _ => 0) ⟨#[], args, []⟩).memory :=
  laidMet_of_run' 10 (by kernel_rfl) (by kernel_rfl)
theorem reads (os : Os) {H : Type} (enc : TypeId × Value → H) : ∃ places, DataW.whole enc Tryz.prog ((laidWorld os).forCall (fun _ _ => 0) ⟨#[], #[.string ByteArray.empty, .int .i64 0], []⟩).memory Tryz.f3.params.toList Rows.parseFitsSpec.vars false (#[.string ByteArray.empty, .int .i64 0] : Array Value).toList 8 = some ([.lit (.string []), .lit (.int .i64 0)], [], places) :=
  ⟨[], by kernel_rfl⟩
set_option maxRecDepth 1000000 in
theorem contract (H : Type) (enc : TypeId × Value → H) (W : World) (base : Nat) (args : Array Value) (ds gs : List (DataW H)) (before : List MemPlace)
    (hval0 : ∀ (j : Nat) t v, Tryz.f3.params[j]? = some t → args[j]? = some v → Value.okWide Tryz.prog W .any base t v)
    (hW : DataW.Whole enc Tryz.prog Tryz.f3.params.toList Rows.parseFitsSpec.vars false W args.toList ds gs before)
    (hsz0 : (DataW.weightsEach Tryz.prog (Tryz.f3.params.toList ++ (OpenSpec.ofChange Rows.parseFitsSpec).bare.plain.varTypes Tryz.prog) (ds ++ gs)).all (· ≤ reachBytes) = true) :
    Calls Tryz.prog 3 args W fun e W' => ∃ v, e = .returned v ∧ Rows.parseFitsSpec.post enc Tryz.prog Tryz.f3 false true false false W args v W' := by
  have hsz : (DataW.weightsEach Tryz.prog (Tryz.f3.params.toList ++ (OpenSpec.ofChange Rows.parseFitsSpec).bare.plain.varTypes Tryz.prog) (ds ++ gs)).all (· ≤ reachBytes) = true := hsz0
  have hval : ∀ (j : Nat) t v, Tryz.f3.params[j]? = some t → args[j]? = some v → Value.okWide Tryz.prog W .any base t v := hval0
  have hW' := hW
  obtain ⟨p, q, hA0, hV, rfl, hfz, hnd⟩ := hW
  have hA : DataW.TrodAll enc Tryz.prog W 0 (fun _ => true) true Tryz.f3.params.toList args.toList ds p := hA0
  rw [Tryz.params3] at hA hval hsz
  obtain ⟨v0, vs0, d0, ds0, p0, q0, hargs, rfl, rfl, h0, r0⟩ := trodAll_cons hA
  obtain ⟨v1, vs1, d1, ds1, p1, q1, rfl, rfl, rfl, h1, r1⟩ := trodAll_cons r0
  obtain ⟨rfl, rfl, rfl⟩ := trodAll_nil r1
  obtain rfl : args = #[v0, v1] := Array.toList_inj.1 hargs
  obtain ⟨rfl, rfl⟩ := trodVars_none hV
  obtain ⟨a0, rfl, rfl, rfl, y0⟩ := open_string Tryz.underlying9 (hval 0 9 v0 rfl rfl) h0
  have w0 : a0.size ≤ 140737488351232 := by
    have z := sized_string hsz (j := 0) (t := 9) rfl rfl
    rw [Array.length_toList] at z
    exact z
  obtain ⟨a1, rfl, rfl, rfl, w1⟩ := open_int Tryz.underlying3 (hval 1 3 v1 rfl rfl) h1
  clear hA0 hval0 hsz0 hsz
  refine (X.parseFits_walk a0 a1 W w0 w1).mono fun e W' ⟨he, bel⟩ => ?_
  subst he
  exact ⟨_, rfl, _, _, _, [], _, [], hW', trodAll_mk1 (shut_bool Tryz.underlying4 _), (trodAll_cons_mk (shut_string Tryz.underlying9 y0) (trodAll_cons_mk (shut_int Tryz.underlying3 w1) trodAll_mk0)), rfl, bel.frame _, fun h => by cases h⟩
set_option maxRecDepth 100000 in
theorem lifted (os : Os) (started : os.Started) (H : Type) (enc : TypeId × Value → H) (F : Stop.Interp) :
    ReturnsInHanded {} Tryz.checked os 3 .any ((OpenSpec.ofChange Rows.parseFitsSpec).preRow enc Tryz.prog Tryz.f3 Rows.parseFitsRow.domain false Rows.parseFitsRow.laid) (((OpenSpec.ofChange Rows.parseFitsSpec).at F).post enc Tryz.prog Tryz.f3 false true false false) := by
  obtain ⟨places, hx⟩ := reads os enc
  refine returnsInHanded_of_row (C := Tryz.checked) (s := OpenSpec.ofChange Rows.parseFitsSpec) own started (by kernel_rfl) Tryz.func3
    (witness_row_atRef (enc := enc) (C := Tryz.checked) false (laidWorld os) #[.string ByteArray.empty, .int .i64 0] rfl (by kernel_rfl) (by kernel_rfl) (by kernel_rfl)
      (OpenSpec.preRow_of_cond 8 hx (by kernel_rfl) (fun k hk => by cases hk) (by kernel_rfl) (laid_met os _))) ?_
  intro W base args ds gs before hval hW _ _ hsz _ _ _
  exact contract H enc W base args ds gs before hval hW hsz
theorem said : Rows.ParseFitsSaid :=
  OpenClaim.holds_of_cond 3 Tryz.f3 rfl rfl rfl rfl rfl rfl rfl ⟨rfl, rfl, rfl, rfl, rfl⟩ rfl rfl rfl rfl rfl (by kernel_rfl) Tryz.func3 (by kernel_rfl)
    (of_decide_eq_true (by kernel_rfl)) (by unfold Func.isWrapper; first | (rw [if_pos (by decide +kernel)]; kernel_rfl) | (rw [if_neg (by decide +kernel)]; exact ⟨rfl, rfl⟩))
    (fun os started H enc _ F => by rw [OpenClaim.pre_eq_preRow]; exact lifted os started H enc F)
theorem plain (f : FuncId) (fn : Func) (hf : Tryz.pinned.checked.prog.funcNamed "gossamer/gossamerlaw03.ParseFits" = some f) (hfn : Tryz.pinned.checked.prog.funcs[f]? = some fn) :
    true = Tryz.pinned.checked.prog.looks [] ∧ ∀ (j : Nat) t, fn.params[j]? = some t → Tryz.pinned.checked.prog.wantsStandIn t = false := by
  obtain rfl : f = 3 := Option.some.inj ((show Tryz.prog.funcNamed "gossamer/gossamerlaw03.ParseFits" = some 3 by kernel_rfl).symm.trans hf) |>.symm
  obtain rfl : fn = Tryz.f3 := (Option.some.inj (Tryz.func3.symm.trans hfn)).symm
  refine ⟨by kernel_rfl, fun j t ht => ?_⟩
  rw [Tryz.params3] at ht
  have hm := Array.mem_of_getElem? ht
  have ho : t = 9 ∨ t = 3 := by simpa using hm
  rcases ho with rfl | rfl
  · exact (show Tryz.prog.wantsStandIn 9 = false by kernel_rfl)
  · exact (show Tryz.prog.wantsStandIn 3 = false by kernel_rfl)
theorem card : Rows.ParseFitsCardSaid :=
  Claim7.holds_tied_plain_at .later [] _ _ _ _ said (fun _ h => by cases h) (by kernel_rfl) (fun _ h => by cases h) parseFits_row_tie rfl ⟨rfl, rfl⟩ (by kernel_rfl) rfl plain (by kernel_rfl)
#print axioms card
end Go.Proofs.YtajcnjdinmgpjaaGreatDoor.parseFits
namespace Go.Proofs.YtajcnjdinmgpjaaGreatDoor
/-- The card, under a short name, for the claim. -/
theorem parseFits_card : Rows.ParseFitsCardSaid := parseFits.card
end Go.Proofs.YtajcnjdinmgpjaaGreatDoor
