/- A part of the proof of ParseFits's card: walks of the functions that it calls, and plain lemmas: Qgref01run, Qgref01sign, Qgref01number, Qgref01Word, Xref2, Xref3, Xref4, Xext, Xlaw1, Xlaw2, Xsim, Xlay, Qgref01One, Qgref02token, Qgref02name, Qgref02parts. No condition of its own. -/
import Derived.Test.YtajcnjdinmgpjaaGreatDoorMParseFitsb
set_option linter.unusedVariables false
set_option linter.unusedSimpArgs false
namespace Go.Proofs.YtajcnjdinmgpjaaGreatDoor.P
open Go.RowKit Go.Proofs.YtajcnjdinmgpjaaGreatDoorW.PrintWords Go.Proofs.YtajcnjdinmgpjaaGreatDoorW.PrintLast Go.Proofs.YtajcnjdinmgpjaaGreatDoorW.PrintMore
attribute [local go_sem] max2_int min2_int max_two min_two max_three min_three max_four min_four   -- for this text's walks alone
set_option linter.unusedVariables false
set_option linter.unusedSimpArgs false

/-! ### gossamerref01_run: function 27 -/
def gossamerref01_run.l0 : Nat → ByteArray → Int → Int → Bool → Option (Int × Bool)
  | 0, _, _, _, _ => none
  | k + 1, x0, x1, x6, x7 => if (wrap64 (x1 + x6)) < (x0.size : Int) then (if 0 ≤ (wrap64 (x1 + x6)) then ((gossamerref01_class.f k (bt x0 (wrap64 (x1 + x6)))).bind fun t219 => (if t219 < 1 then (some (x6, x7)) else (if t219 > 3 then (some (x6, x7)) else (if x7 = true then (gossamerref01_run.l0 k x0 x1 (wrap64 (x6 + 1)) true) else (gossamerref01_run.l0 k x0 x1 (wrap64 (x6 + 1)) (decide (t219 < 3))))))) else (none)) else (some (x6, x7))
def gossamerref01_run.f (k : Nat) (a0 : ByteArray) (a1 : Int) : Option (Int × Bool) := gossamerref01_run.l0 k a0 a1 0 false
theorem gossamerref01_run.mono_l : ∀ k, (∀ y0 y1 y2 y3, LeO (gossamerref01_run.l0 k y0 y1 y2 y3) (gossamerref01_run.l0 (k + 1) y0 y1 y2 y3))
  | 0 => fun _ _ _ _ r h => by simp [gossamerref01_run.l0] at h
  | k + 1 => by
    have ih0 := gossamerref01_run.mono_l k
    · intro y0 y1 y2 y3
      unfold gossamerref01_run.l0
      repeat' first
      | (with_reducible exact ih0 _ _ _ _)
      | (with_reducible exact gossamerref01_class.mono _ _)
      | (with_reducible exact LeO.refl _)
      | (with_reducible exact LeO.none _)
      | (with_reducible refine LeO.ite ?_ ?_)
      | (with_reducible refine LeO.bind ?_ (fun _ => ?_))
      | exact ih0 _ _ _ _
      | exact gossamerref01_class.mono _ _
      | exact LeO.none _
      | refine LeO.ite ?_ ?_
      | refine LeO.bind ?_ (fun _ => ?_)
theorem gossamerref01_run.mono : ∀ a0 a1 k, LeO (gossamerref01_run.f k a0 a1) (gossamerref01_run.f (k + 1) a0 a1) := by
  intro a0 a1 k
  have ih0 := gossamerref01_run.mono_l k
  unfold gossamerref01_run.f
  repeat' first
      | (with_reducible exact ih0 _ _ _ _)
      | (with_reducible exact gossamerref01_class.mono _ _)
      | (with_reducible exact LeO.refl _)
      | (with_reducible exact LeO.none _)
      | (with_reducible refine LeO.ite ?_ ?_)
      | (with_reducible refine LeO.bind ?_ (fun _ => ?_))
      | exact ih0 _ _ _ _
      | exact gossamerref01_class.mono _ _
      | exact LeO.none _
      | refine LeO.ite ?_ ?_
      | refine LeO.bind ?_ (fun _ => ?_)
set_option maxHeartbeats 8000000 in
set_option maxRecDepth 100000 in
theorem gossamerref01_run.calls (k : Nat) (a0 : ByteArray) (a1 : Int) (r1 : Int) (r2 : Bool) (w : World) (h : gossamerref01_run.f k a0 a1 = some (r1, r2)) :
    Calls Tryz.prog 27 #[.string a0, .int .i64 a1] w fun e w' => e = .returned (.tuple #[.int .i64 r1, .bool r2]) ∧ Drawn0 w w' := by
  have H : (gossamerref01_run.l0 k a0 a1 0 false) = some (r1, r2) := h
  clear h
  have H' := Aside0.mk H
  clear H
  go_enter Tryz.func27, Tryz.ntmps27
  go_wp2
  go_loopg [6, 7] k (fun kq v6 v7 w' => ∃ (x6_1 : Int) (x7_1 : Bool), v6 = .int .i64 x6_1 ∧ v7 = .bool x7_1 ∧ Aside0 (gossamerref01_run.l0 kq a0 a1 x6_1 x7_1 = some (r1, r2)) ∧ Aside0 (kq ≤ k) ∧ Drawn0 w w')
  case atStart => exact ⟨(0), (false), (by first | rfl | (simp; done) | (simp [*]; done)), (by first | rfl | (simp; done) | (simp [*]; done)), H', ⟨Nat.le_refl _⟩, by repeat (first | exact Drawn0.refl _ | apply Drawn0.step)⟩
  case round =>
    clear H'
    try clear c2
    try clear p2
    obtain ⟨x6_1, x7_1, rfl, rfl, HA, HK1, ⟨m1, rfl⟩⟩ := hrel
    cases gk with
    | zero => exact absurd HA.out (by simp [gossamerref01_run.l0])
    | succ k1 =>
      have H := HA.out
      clear HA
      simp only [gossamerref01_run.l0] at H
      by_cases c3 : (wrap64 (a1 + x6_1)) < (a0.size : Int)
      · rw [if_pos c3] at H
        have c3b0 : decide ((wrap64 (a1 + x6_1)) < (a0.size : Int)) = true := decide_eq_true c3
        clear c3
        obtain ⟨ji4, hji4⟩ : ∃ j_ : Int, (wrap64 (a1 + x6_1)) = j_ := ⟨_, rfl⟩
        replace H : (if 0 ≤ (ji4) then ((gossamerref01_class.f k1 (bt a0 (ji4))).bind fun t219 => (if t219 < 1 then (some (x6_1, x7_1)) else (if t219 > 3 then (some (x6_1, x7_1)) else (if x7_1 = true then (gossamerref01_run.l0 k1 a0 a1 (wrap64 (x6_1 + 1)) true) else (gossamerref01_run.l0 k1 a0 a1 (wrap64 (x6_1 + 1)) (decide (t219 < 3))))))) else (none)) = some (r1, r2) := by first | (rw [hji4] at H; exact H) | (simp only [hji4] at H ⊢; exact H)
        (try rw [hji4] at c3b0)
        have hji4w : (IntKind.i64.wrap (a1 + x6_1)) = ji4 := (i64_w _).trans hji4
        by_cases c5 : 0 ≤ (ji4)
        · rw [if_pos c5] at H
          have c5b0 : decide (0 ≤ (ji4)) = true := decide_eq_true c5
          clear c5
          replace H := Option.bind_eq_some_iff.mp H
          obtain ⟨t219, A70, H⟩ := H
          replace H : (if t219 < 1 then (some (x6_1, x7_1)) else (if t219 > 3 then (some (x6_1, x7_1)) else (if x7_1 = true then (gossamerref01_run.l0 k1 a0 a1 (wrap64 (x6_1 + 1)) true) else (gossamerref01_run.l0 k1 a0 a1 (wrap64 (x6_1 + 1)) (decide (t219 < 3)))))) = some (r1, r2) := H
          have A7 := Aside0.mk A70
          clear A70
          by_cases c8 : t219 < 1
          · rw [if_pos c8] at H
            have c8b0 : decide (t219 < 1) = true := decide_eq_true c8
            clear c8
            simp only [Option.some.injEq, Prod.mk.injEq] at H
            obtain ⟨rfl, rfl⟩ := H
            have p6 : 0 ≤ ((ji4) : Int) := of_decide_eq_true (by first | (with_reducible assumption) | assumption)
            have q6 : (ji4) < (a0.size : Int) := of_decide_eq_true (by first | (with_reducible assumption) | assumption)
            have hx6 := bt_at a0 (ji4)
            replace p6 := eq_true p6
            replace q6 := eq_true q6
            go_wp2_with (first | ((with_reducible refine gate_callee (f := 18) rfl ?_); refine goesL_ (some 20) rfl rfl Tryz.func18 (by kernel_rfl) rfl #[.int .u8 (bt a0 (ji4))] rfl (by (try simp only [List.map_toArray, List.map_cons, List.map_nil]); first | done | (simp only [hji4]; rfl) | rfl | (simp only [List.length_drop, List.length_take]; rfl)) ?_; (with_reducible refine (gossamerref01_class.calls k1 (bt a0 (ji4)) t219 _ A7.out).mono ?_); rintro e w' ⟨rfl, ⟨nd, rfl⟩⟩; refine ⟨_, rfl, ?_⟩))
            go_ret2
            exact ⟨by first | rfl | (simp; done) | (simp only [← hji4] <;> (first | rfl | simp)) | (simp [*]; done), by repeat (first | exact Drawn0.refl _ | apply Drawn0.step)⟩
          · rw [if_neg c8] at H
            have c8b0 : decide (t219 < 1) = false := decide_eq_false c8
            clear c8
            by_cases c9 : t219 > 3
            · rw [if_pos c9] at H
              have c9b0 : decide (3 < t219) = true := decide_eq_true c9
              clear c9
              simp only [Option.some.injEq, Prod.mk.injEq] at H
              obtain ⟨rfl, rfl⟩ := H
              have p6 : 0 ≤ ((ji4) : Int) := of_decide_eq_true (by first | (with_reducible assumption) | assumption)
              have q6 : (ji4) < (a0.size : Int) := of_decide_eq_true (by first | (with_reducible assumption) | assumption)
              have hx6 := bt_at a0 (ji4)
              replace p6 := eq_true p6
              replace q6 := eq_true q6
              go_wp2_with (first | ((with_reducible refine gate_callee (f := 18) rfl ?_); refine goesL_ (some 20) rfl rfl Tryz.func18 (by kernel_rfl) rfl #[.int .u8 (bt a0 (ji4))] rfl (by (try simp only [List.map_toArray, List.map_cons, List.map_nil]); first | done | (simp only [hji4]; rfl) | rfl | (simp only [List.length_drop, List.length_take]; rfl)) ?_; (with_reducible refine (gossamerref01_class.calls k1 (bt a0 (ji4)) t219 _ A7.out).mono ?_); rintro e w' ⟨rfl, ⟨nd, rfl⟩⟩; refine ⟨_, rfl, ?_⟩))
              go_ret2
              exact ⟨by first | rfl | (simp; done) | (simp only [← hji4] <;> (first | rfl | simp)) | (simp [*]; done), by repeat (first | exact Drawn0.refl _ | apply Drawn0.step)⟩
            · rw [if_neg c9] at H
              have c9b0 : decide (3 < t219) = false := decide_eq_false c9
              clear c9
              by_cases c10 : x7_1 = true
              · subst c10
                have H1 : (gossamerref01_run.l0 k1 a0 a1 (wrap64 (x6_1 + 1)) true) = some (r1, r2) := by rw [if_pos rfl] at H; exact H
                clear H
                have H := H1
                clear H1
                have H' := Aside0.mk H
                clear H
                have p6 : 0 ≤ ((ji4) : Int) := of_decide_eq_true (by first | (with_reducible assumption) | assumption)
                have q6 : (ji4) < (a0.size : Int) := of_decide_eq_true (by first | (with_reducible assumption) | assumption)
                have hx6 := bt_at a0 (ji4)
                replace p6 := eq_true p6
                replace q6 := eq_true q6
                go_wp2_with (first | ((with_reducible refine gate_callee (f := 18) rfl ?_); refine goesL_ (some 20) rfl rfl Tryz.func18 (by kernel_rfl) rfl #[.int .u8 (bt a0 (ji4))] rfl (by (try simp only [List.map_toArray, List.map_cons, List.map_nil]); first | done | (simp only [hji4]; rfl) | rfl | (simp only [List.length_drop, List.length_take]; rfl)) ?_; (with_reducible refine (gossamerref01_class.calls k1 (bt a0 (ji4)) t219 _ A7.out).mono ?_); rintro e w' ⟨rfl, ⟨nd, rfl⟩⟩; refine ⟨_, rfl, ?_⟩))
                go_roundg k1
                case measure => have := HK1.out; omega
                case rel => exact ⟨(wrap64 (x6_1 + 1)), (true), (by first | rfl | (simp; done) | (simp [*]; done)), (by first | rfl | (simp; done) | (simp [*]; done)), H', ⟨by have := HK1.out; omega⟩, by repeat (first | exact Drawn0.refl _ | apply Drawn0.step)⟩
              · replace c10 := Bool.eq_false_iff.mpr c10
                subst c10
                have H1 : (gossamerref01_run.l0 k1 a0 a1 (wrap64 (x6_1 + 1)) (decide (t219 < 3))) = some (r1, r2) := by rw [if_neg (show ¬ (false = true) by decide)] at H; exact H
                clear H
                have H := H1
                clear H1
                have H' := Aside0.mk H
                clear H
                have p6 : 0 ≤ ((ji4) : Int) := of_decide_eq_true (by first | (with_reducible assumption) | assumption)
                have q6 : (ji4) < (a0.size : Int) := of_decide_eq_true (by first | (with_reducible assumption) | assumption)
                have hx6 := bt_at a0 (ji4)
                replace p6 := eq_true p6
                replace q6 := eq_true q6
                go_wp2_with (first | ((with_reducible refine gate_callee (f := 18) rfl ?_); refine goesL_ (some 20) rfl rfl Tryz.func18 (by kernel_rfl) rfl #[.int .u8 (bt a0 (ji4))] rfl (by (try simp only [List.map_toArray, List.map_cons, List.map_nil]); first | done | (simp only [hji4]; rfl) | rfl | (simp only [List.length_drop, List.length_take]; rfl)) ?_; (with_reducible refine (gossamerref01_class.calls k1 (bt a0 (ji4)) t219 _ A7.out).mono ?_); rintro e w' ⟨rfl, ⟨nd, rfl⟩⟩; refine ⟨_, rfl, ?_⟩))
                go_roundg k1
                case measure => have := HK1.out; omega
                case rel => exact ⟨(wrap64 (x6_1 + 1)), (decide (t219 < 3)), (by first | rfl | (simp; done) | (simp [*]; done)), (by first | rfl | (simp; done) | (simp [*]; done)), H', ⟨by have := HK1.out; omega⟩, by repeat (first | exact Drawn0.refl _ | apply Drawn0.step)⟩
        · rw [if_neg c5] at H
          exact absurd H (by simp)
      · rw [if_neg c3] at H
        have c3b0 : decide ((wrap64 (a1 + x6_1)) < (a0.size : Int)) = false := decide_eq_false c3
        clear c3
        simp only [Option.some.injEq, Prod.mk.injEq] at H
        obtain ⟨rfl, rfl⟩ := H
        go_wp2
        go_ret2
        exact ⟨by first | rfl | (simp; done) | (simp [*]; done), by repeat (first | exact Drawn0.refl _ | apply Drawn0.step)⟩

end Go.Proofs.YtajcnjdinmgpjaaGreatDoor.P
namespace Go.Proofs.YtajcnjdinmgpjaaGreatDoor.P
open Go.RowKit Go.Proofs.YtajcnjdinmgpjaaGreatDoorW.PrintWords Go.Proofs.YtajcnjdinmgpjaaGreatDoorW.PrintLast Go.Proofs.YtajcnjdinmgpjaaGreatDoorW.PrintMore
attribute [local go_sem] max2_int min2_int max_two min_two max_three min_three max_four min_four   -- for this text's walks alone
set_option linter.unusedVariables false
set_option linter.unusedSimpArgs false

/-! ### gossamerref01_sign: function 28 -/
mutual
def gossamerref01_sign.j0 : Nat → ByteArray → Int → Bool → Option (Int)
  | 0, _, _, _ => none
  | k + 1, x0, x1, x26 => if x26 = true then (some 2) else (gossamerref01_sign.l0 k x0 x1 0)
def gossamerref01_sign.l0 : Nat → ByteArray → Int → Int → Option (Int)
  | 0, _, _, _ => none
  | k + 1, x0, x1, x5 => if x5 < 13 then (if 0 ≤ x5 then (if 0 ≤ x1 then (if x1 < (x0.size : Int) then (if (bt (⟨#[92, 46, 40, 41, 61, 123, 125, 124, 43, 45, 42, 47, 60]⟩ : ByteArray) x5) = (bt x0 x1) then (some 1) else (gossamerref01_sign.l0 k x0 x1 (wrap64 (x5 + 1)))) else (none)) else (none)) else (none)) else (some 0)
end
def gossamerref01_sign.f (k : Nat) (a0 : ByteArray) (a1 : Int) : Option (Int) := if (wrap64 (a1 + 1)) < (a0.size : Int) then (if 0 ≤ a1 then (if a1 ≤ (wrap64 (a1 + 2)) then (if (wrap64 (a1 + 2)) ≤ (a0.size : Int) then (if (a0.extract (a1 : Int).toNat ((wrap64 (a1 + 2)) : Int).toNat).toList = ([45, 62] : List UInt8) then (gossamerref01_sign.j0 k a0 a1 true) else (gossamerref01_sign.j0 k a0 a1 ((a0.extract (a1 : Int).toNat ((wrap64 (a1 + 2)) : Int).toNat).toList == ([61, 61] : List UInt8)))) else (none)) else (none)) else (none)) else (gossamerref01_sign.j0 k a0 a1 false)
theorem gossamerref01_sign.mono_l : ∀ k, (∀ y0 y1 y2, LeO (gossamerref01_sign.j0 k y0 y1 y2) (gossamerref01_sign.j0 (k + 1) y0 y1 y2)) ∧ (∀ y0 y1 y2, LeO (gossamerref01_sign.l0 k y0 y1 y2) (gossamerref01_sign.l0 (k + 1) y0 y1 y2))
  | 0 => ⟨fun _ _ _ r h => by simp [gossamerref01_sign.j0] at h, fun _ _ _ r h => by simp [gossamerref01_sign.l0] at h⟩
  | k + 1 => by
    obtain ⟨ih0, ih1⟩ := gossamerref01_sign.mono_l k
    refine ⟨?_, ?_⟩
    · intro y0 y1 y2
      unfold gossamerref01_sign.j0
      repeat' first
      | (with_reducible exact ih0 _ _ _)
      | (with_reducible exact ih1 _ _ _)
      | (with_reducible exact LeO.refl _)
      | (with_reducible exact LeO.none _)
      | (with_reducible refine LeO.ite ?_ ?_)
      | (with_reducible refine LeO.bind ?_ (fun _ => ?_))
      | exact ih0 _ _ _
      | exact ih1 _ _ _
      | exact LeO.none _
      | refine LeO.ite ?_ ?_
      | refine LeO.bind ?_ (fun _ => ?_)
    · intro y0 y1 y2
      unfold gossamerref01_sign.l0
      repeat' first
      | (with_reducible exact ih0 _ _ _)
      | (with_reducible exact ih1 _ _ _)
      | (with_reducible exact LeO.refl _)
      | (with_reducible exact LeO.none _)
      | (with_reducible refine LeO.ite ?_ ?_)
      | (with_reducible refine LeO.bind ?_ (fun _ => ?_))
      | exact ih0 _ _ _
      | exact ih1 _ _ _
      | exact LeO.none _
      | refine LeO.ite ?_ ?_
      | refine LeO.bind ?_ (fun _ => ?_)
theorem gossamerref01_sign.mono : ∀ a0 a1 k, LeO (gossamerref01_sign.f k a0 a1) (gossamerref01_sign.f (k + 1) a0 a1) := by
  intro a0 a1 k
  obtain ⟨ih0, ih1⟩ := gossamerref01_sign.mono_l k
  unfold gossamerref01_sign.f
  repeat' first
      | (with_reducible exact ih0 _ _ _)
      | (with_reducible exact ih1 _ _ _)
      | (with_reducible exact LeO.refl _)
      | (with_reducible exact LeO.none _)
      | (with_reducible refine LeO.ite ?_ ?_)
      | (with_reducible refine LeO.bind ?_ (fun _ => ?_))
      | exact ih0 _ _ _
      | exact ih1 _ _ _
      | exact LeO.none _
      | refine LeO.ite ?_ ?_
      | refine LeO.bind ?_ (fun _ => ?_)
set_option maxHeartbeats 8000000 in
set_option maxRecDepth 100000 in
theorem gossamerref01_sign.calls (k : Nat) (a0 : ByteArray) (a1 : Int) (r : Int) (w : World) (h : gossamerref01_sign.f k a0 a1 = some r) :
    Calls Tryz.prog 28 #[.string a0, .int .i64 a1] w fun e w' => e = .returned (.int .i64 r) ∧ Drawn0 w w' := by
  have H : (if (wrap64 (a1 + 1)) < (a0.size : Int) then (if 0 ≤ a1 then (if a1 ≤ (wrap64 (a1 + 2)) then (if (wrap64 (a1 + 2)) ≤ (a0.size : Int) then (if (a0.extract (a1 : Int).toNat ((wrap64 (a1 + 2)) : Int).toNat).toList = ([45, 62] : List UInt8) then (gossamerref01_sign.j0 k a0 a1 true) else (gossamerref01_sign.j0 k a0 a1 ((a0.extract (a1 : Int).toNat ((wrap64 (a1 + 2)) : Int).toNat).toList == ([61, 61] : List UInt8)))) else (none)) else (none)) else (none)) else (gossamerref01_sign.j0 k a0 a1 false)) = some r := h
  clear h
  have HC3 := Aside0.mk H
  clear H
  go_enter Tryz.func28, Tryz.ntmps28
  go_upto_region 1 with (fail)
  repeat (go_quiet (fail); go_upto_region 1 with (fail))
  go_cut [26] (fun v26 wc => ∃ (kq : Nat) (x26_2 : Bool), v26 = .bool x26_2 ∧ Aside0 (gossamerref01_sign.j0 kq a0 a1 x26_2 = some r) ∧ Aside0 (kq ≤ k) ∧ Drawn0 w wc)
  case first =>
    have H := HC3.out
    clear HC3
    by_cases c4 : (wrap64 (a1 + 1)) < (a0.size : Int)
    · rw [if_pos c4] at H
      have c4b0 : decide ((wrap64 (a1 + 1)) < (a0.size : Int)) = true := decide_eq_true c4
      clear c4
      (first | rw [c4b0] | (simp only [i64_w, i32_w]; rw [c4b0]) | skip)
      by_cases c5 : 0 ≤ a1
      · rw [if_pos c5] at H
        have c5b0 := eq_true c5
        have c5b1 : decide (0 ≤ a1) = true := decide_eq_true c5
        clear c5
        by_cases c6 : a1 ≤ (wrap64 (a1 + 2))
        · rw [if_pos c6] at H
          have c6b0 := eq_true c6
          have c6b1 : decide (a1 ≤ (wrap64 (a1 + 2))) = true := decide_eq_true c6
          by_cases c7 : (wrap64 (a1 + 2)) ≤ (a0.size : Int)
          · rw [if_pos c7] at H
            have c7b0 := eq_true c7
            have c7b1 : decide ((wrap64 (a1 + 2)) ≤ (a0.size : Int)) = true := decide_eq_true c7
            by_cases c8 : (a0.extract (a1 : Int).toNat ((wrap64 (a1 + 2)) : Int).toNat).toList = ([45, 62] : List UInt8)
            · rw [if_pos c8] at H
              have c8b0 : ((a0.extract (a1 : Int).toNat ((wrap64 (a1 + 2)) : Int).toNat).toList == ([45, 62] : List UInt8)) = true := beq_iff_eq.mpr c8
              have c8b1 : ((a0.extract (a1 : Int).toNat ((wrap64 (a1 + 2)) : Int).toNat).toList != ([45, 62] : List UInt8)) = false := bne_eq_false_iff_eq.mpr c8
              clear c8
              have H' := Aside0.mk H
              clear H
              go_wp2
              repeat (go_quiet (fail); try go_wp2)
              go_meet
              case rel => exact ⟨_, (true), (by first | rfl | (simp; done) | (simp [*]; done)), H', ⟨by first | omega | exact Nat.le_refl _⟩, by repeat (first | exact Drawn0.refl _ | apply Drawn0.step)⟩
            · rw [if_neg c8] at H
              have c8b0 : ((a0.extract (a1 : Int).toNat ((wrap64 (a1 + 2)) : Int).toNat).toList == ([45, 62] : List UInt8)) = false := beq_eq_false_iff_ne.mpr c8
              have c8b1 : ((a0.extract (a1 : Int).toNat ((wrap64 (a1 + 2)) : Int).toNat).toList != ([45, 62] : List UInt8)) = true := bne_iff_ne.mpr c8
              have c9b0 := eq_true (of_decide_eq_true (by first | (with_reducible assumption) | assumption) : 0 ≤ a1)
              have c10b0 := eq_true (of_decide_eq_true (by first | (with_reducible assumption) | assumption) : a1 ≤ (wrap64 (a1 + 2)))
              have c11b0 := eq_true (of_decide_eq_true (by first | (with_reducible assumption) | assumption) : (wrap64 (a1 + 2)) ≤ (a0.size : Int))
              have H' := Aside0.mk H
              clear H
              go_wp2
              repeat (go_quiet (fail); try go_wp2)
              go_meet
              case rel => exact ⟨_, (((a0.extract (a1 : Int).toNat ((wrap64 (a1 + 2)) : Int).toNat).toList == ([61, 61] : List UInt8))), (by first | rfl | (simp; done) | (simp [*]; done)), H', ⟨by first | omega | exact Nat.le_refl _⟩, by repeat (first | exact Drawn0.refl _ | apply Drawn0.step)⟩
          · rw [if_neg c7] at H
            exact absurd H (by simp)
        · rw [if_neg c6] at H
          exact absurd H (by simp)
      · rw [if_neg c5] at H
        exact absurd H (by simp)
    · rw [if_neg c4] at H
      have c4b0 : decide ((wrap64 (a1 + 1)) < (a0.size : Int)) = false := decide_eq_false c4
      clear c4
      (first | rw [c4b0] | (simp only [i64_w, i32_w]; rw [c4b0]) | skip)
      have H' := Aside0.mk H
      clear H
      go_wp2
      repeat (go_quiet (fail); try go_wp2)
      go_meet
      case rel => exact ⟨_, (false), (by first | rfl | (simp; done) | (simp [*]; done)), H', ⟨by first | omega | exact Nat.le_refl _⟩, by repeat (first | exact Drawn0.refl _ | apply Drawn0.step)⟩
  case rest =>
    clear HC3
    try clear c1
    try clear c2
    try clear p2
    try clear c4
    try clear c4b0
    try clear c5
    try clear c5b0
    try clear c5b1
    try clear c6
    try clear c6b0
    try clear c6b1
    try clear p6
    try clear c7
    try clear c7b0
    try clear c7b1
    try clear c8
    try clear c8b0
    try clear c8b1
    try clear c9
    try clear c9b0
    try clear c10
    try clear c10b0
    try clear c11
    try clear c11b0
    obtain ⟨kq, x26_2, rfl, HA, HJ2, ⟨mc2, rfl⟩⟩ := hcut
    cases kq with
    | zero => exact absurd HA.out (by simp [gossamerref01_sign.j0])
    | succ kj2 =>
      have H := HA.out
      clear HA
      simp only [gossamerref01_sign.j0] at H
      by_cases c12 : x26_2 = true
      · subst c12
        have H1 : (some 2) = some r := by rw [if_pos rfl] at H; exact H
        clear H
        have H := H1
        clear H1
        obtain rfl := Option.some.inj H
        go_wp2
        repeat (go_quiet (fail); try go_wp2)
        go_ret
        exact ⟨by first | rfl | (simp; done) | (simp [*]; done), by repeat (first | exact Drawn0.refl _ | apply Drawn0.step)⟩
      · replace c12 := Bool.eq_false_iff.mpr c12
        subst c12
        have H1 : (gossamerref01_sign.l0 kj2 a0 a1 0) = some r := by rw [if_neg (show ¬ (false = true) by decide)] at H; exact H
        clear H
        have H := H1
        clear H1
        have H' := Aside0.mk H
        clear H
        go_wp2
        repeat (go_quiet (fail); try go_wp2)
        go_loopg [5] kj2 (fun kq v5 w' => ∃ (x5_2 : Int), v5 = .int .i64 x5_2 ∧ Aside0 (gossamerref01_sign.l0 kq a0 a1 x5_2 = some r) ∧ Aside0 (kq ≤ kj2) ∧ Drawn0 w w')
        case atStart => exact ⟨(0), (by first | rfl | (simp; done) | (simp [*]; done)), H', ⟨Nat.le_refl _⟩, by repeat (first | exact Drawn0.refl _ | apply Drawn0.step)⟩
        case round =>
          clear H'
          try clear c1
          try clear c2
          try clear p2
          try clear c4
          try clear c4b0
          try clear c5
          try clear c5b0
          try clear c5b1
          try clear c6
          try clear c6b0
          try clear c6b1
          try clear p6
          try clear c7
          try clear c7b0
          try clear c7b1
          try clear c8
          try clear c8b0
          try clear c8b1
          try clear c9
          try clear c9b0
          try clear c10
          try clear c10b0
          try clear c11
          try clear c11b0
          try clear c12
          try clear p2
          try clear p6
          obtain ⟨x5_2, rfl, HA, HK2, ⟨m2, rfl⟩⟩ := hrel
          cases gk with
          | zero => exact absurd HA.out (by simp [gossamerref01_sign.l0])
          | succ k2 =>
            have H := HA.out
            clear HA
            simp only [gossamerref01_sign.l0] at H
            by_cases c13 : x5_2 < 13
            · rw [if_pos c13] at H
              have c13b0 : decide (x5_2 < 13) = true := decide_eq_true c13
              clear c13
              by_cases c14 : 0 ≤ x5_2
              · rw [if_pos c14] at H
                have c14b0 : decide (0 ≤ x5_2) = true := decide_eq_true c14
                clear c14
                by_cases c16 : 0 ≤ a1
                · rw [if_pos c16] at H
                  have c16b0 : decide (0 ≤ a1) = true := decide_eq_true c16
                  clear c16
                  by_cases c17 : a1 < (a0.size : Int)
                  · rw [if_pos c17] at H
                    have c17b0 : decide (a1 < (a0.size : Int)) = true := decide_eq_true c17
                    clear c17
                    by_cases c19 : (bt (⟨#[92, 46, 40, 41, 61, 123, 125, 124, 43, 45, 42, 47, 60]⟩ : ByteArray) x5_2) = (bt a0 a1)
                    · rw [if_pos c19] at H
                      have c19b0 : ((bt (⟨#[92, 46, 40, 41, 61, 123, 125, 124, 43, 45, 42, 47, 60]⟩ : ByteArray) x5_2) == (bt a0 a1)) = true := beq_iff_eq.mpr c19
                      have c19b1 : ((bt (⟨#[92, 46, 40, 41, 61, 123, 125, 124, 43, 45, 42, 47, 60]⟩ : ByteArray) x5_2) != (bt a0 a1)) = false := bne_eq_false_iff_eq.mpr c19
                      clear c19
                      obtain rfl := Option.some.inj H
                      have p15 : 0 ≤ (x5_2 : Int) := of_decide_eq_true (by first | (with_reducible assumption) | assumption)
                      have q15 : x5_2 < (13 : Int) := of_decide_eq_true (by first | (with_reducible assumption) | assumption)
                      have hx15 := bt_at (⟨#[92, 46, 40, 41, 61, 123, 125, 124, 43, 45, 42, 47, 60]⟩ : ByteArray) x5_2
                      replace p15 := eq_true p15
                      replace q15 := eq_true q15
                      have p18 : 0 ≤ (a1 : Int) := of_decide_eq_true (by first | (with_reducible assumption) | assumption)
                      have q18 : a1 < (a0.size : Int) := of_decide_eq_true (by first | (with_reducible assumption) | assumption)
                      have hx18 := bt_at a0 a1
                      replace p18 := eq_true p18
                      replace q18 := eq_true q18
                      go_wp2
                      repeat (go_quiet (fail); try go_wp2)
                      go_ret
                      exact ⟨by first | rfl | (simp; done) | (simp [*]; done), by repeat (first | exact Drawn0.refl _ | apply Drawn0.step)⟩
                    · rw [if_neg c19] at H
                      have c19b0 : ((bt (⟨#[92, 46, 40, 41, 61, 123, 125, 124, 43, 45, 42, 47, 60]⟩ : ByteArray) x5_2) == (bt a0 a1)) = false := beq_eq_false_iff_ne.mpr c19
                      have c19b1 : ((bt (⟨#[92, 46, 40, 41, 61, 123, 125, 124, 43, 45, 42, 47, 60]⟩ : ByteArray) x5_2) != (bt a0 a1)) = true := bne_iff_ne.mpr c19
                      have H' := Aside0.mk H
                      clear H
                      have p15 : 0 ≤ (x5_2 : Int) := of_decide_eq_true (by first | (with_reducible assumption) | assumption)
                      have q15 : x5_2 < (13 : Int) := of_decide_eq_true (by first | (with_reducible assumption) | assumption)
                      have hx15 := bt_at (⟨#[92, 46, 40, 41, 61, 123, 125, 124, 43, 45, 42, 47, 60]⟩ : ByteArray) x5_2
                      replace p15 := eq_true p15
                      replace q15 := eq_true q15
                      have p18 : 0 ≤ (a1 : Int) := of_decide_eq_true (by first | (with_reducible assumption) | assumption)
                      have q18 : a1 < (a0.size : Int) := of_decide_eq_true (by first | (with_reducible assumption) | assumption)
                      have hx18 := bt_at a0 a1
                      replace p18 := eq_true p18
                      replace q18 := eq_true q18
                      go_wp2
                      repeat (go_quiet (fail); try go_wp2)
                      go_roundg k2
                      case measure => have := HJ2.out; have := HK2.out; omega
                      case rel => exact ⟨(wrap64 (x5_2 + 1)), (by first | rfl | (simp; done) | (simp [*]; done)), H', ⟨by have := HJ2.out; have := HK2.out; omega⟩, by repeat (first | exact Drawn0.refl _ | apply Drawn0.step)⟩
                  · rw [if_neg c17] at H
                    exact absurd H (by simp)
                · rw [if_neg c16] at H
                  exact absurd H (by simp)
              · rw [if_neg c14] at H
                exact absurd H (by simp)
            · rw [if_neg c13] at H
              have c13b0 : decide (x5_2 < 13) = false := decide_eq_false c13
              clear c13
              obtain rfl := Option.some.inj H
              go_wp2
              repeat (go_quiet (fail); try go_wp2)
              go_ret
              exact ⟨by first | rfl | (simp; done) | (simp [*]; done), by repeat (first | exact Drawn0.refl _ | apply Drawn0.step)⟩

end Go.Proofs.YtajcnjdinmgpjaaGreatDoor.P
namespace Go.Proofs.YtajcnjdinmgpjaaGreatDoor.P
open Go.RowKit Go.Proofs.YtajcnjdinmgpjaaGreatDoorW.PrintWords Go.Proofs.YtajcnjdinmgpjaaGreatDoorW.PrintLast Go.Proofs.YtajcnjdinmgpjaaGreatDoorW.PrintMore
attribute [local go_sem] max2_int min2_int max_two min_two max_three min_three max_four min_four   -- for this text's walks alone
set_option linter.unusedVariables false
set_option linter.unusedSimpArgs false

/-! ### gossamerref01_number: function 29 -/
def gossamerref01_number.l0 : Nat → ByteArray → Int → Int → Option (Int)
  | 0, _, _, _ => none
  | k + 1, x0, x3, x4 => if x4 < (x0.size : Int) then (if 0 ≤ x4 then (gossamerref01_number.l0 k x0 (wrap64 ((wrap64 ((wrap64 (10 * x3)) + (wrap64 (bt x0 x4)))) - 48)) (wrap64 (x4 + 1))) else (none)) else (some x3)
def gossamerref01_number.f (k : Nat) (a0 : ByteArray) : Option (Int) := gossamerref01_number.l0 k a0 0 0
theorem gossamerref01_number.mono_l : ∀ k, (∀ y0 y1 y2, LeO (gossamerref01_number.l0 k y0 y1 y2) (gossamerref01_number.l0 (k + 1) y0 y1 y2))
  | 0 => fun _ _ _ r h => by simp [gossamerref01_number.l0] at h
  | k + 1 => by
    have ih0 := gossamerref01_number.mono_l k
    · intro y0 y1 y2
      unfold gossamerref01_number.l0
      repeat' first
      | (with_reducible exact ih0 _ _ _)
      | (with_reducible exact LeO.refl _)
      | (with_reducible exact LeO.none _)
      | (with_reducible refine LeO.ite ?_ ?_)
      | (with_reducible refine LeO.bind ?_ (fun _ => ?_))
      | exact ih0 _ _ _
      | exact LeO.none _
      | refine LeO.ite ?_ ?_
      | refine LeO.bind ?_ (fun _ => ?_)
theorem gossamerref01_number.mono : ∀ a0 k, LeO (gossamerref01_number.f k a0) (gossamerref01_number.f (k + 1) a0) := by
  intro a0 k
  have ih0 := gossamerref01_number.mono_l k
  unfold gossamerref01_number.f
  repeat' first
      | (with_reducible exact ih0 _ _ _)
      | (with_reducible exact LeO.refl _)
      | (with_reducible exact LeO.none _)
      | (with_reducible refine LeO.ite ?_ ?_)
      | (with_reducible refine LeO.bind ?_ (fun _ => ?_))
      | exact ih0 _ _ _
      | exact LeO.none _
      | refine LeO.ite ?_ ?_
      | refine LeO.bind ?_ (fun _ => ?_)
set_option maxHeartbeats 8000000 in
set_option maxRecDepth 100000 in
theorem gossamerref01_number.calls (k : Nat) (a0 : ByteArray) (r : Int) (w : World) (h : gossamerref01_number.f k a0 = some r) :
    Calls Tryz.prog 29 #[.string a0] w fun e w' => e = .returned (.int .i64 r) ∧ Drawn0 w w' := by
  have H : (gossamerref01_number.l0 k a0 0 0) = some r := h
  clear h
  have H' := Aside0.mk H
  clear H
  go_enter Tryz.func29, Tryz.ntmps29
  go_wp2
  go_loopg [3, 4] k (fun kq v3 v4 w' => ∃ (x3_1 : Int) (x4_1 : Int), v3 = .int .i64 x3_1 ∧ v4 = .int .i64 x4_1 ∧ Aside0 (gossamerref01_number.l0 kq a0 x3_1 x4_1 = some r) ∧ Aside0 (kq ≤ k) ∧ Drawn0 w w')
  case atStart => exact ⟨(0), (0), (by first | rfl | (simp; done) | (simp [*]; done)), (by first | rfl | (simp; done) | (simp [*]; done)), H', ⟨Nat.le_refl _⟩, by repeat (first | exact Drawn0.refl _ | apply Drawn0.step)⟩
  case round =>
    clear H'
    obtain ⟨x3_1, x4_1, rfl, rfl, HA, HK1, ⟨m1, rfl⟩⟩ := hrel
    cases gk with
    | zero => exact absurd HA.out (by simp [gossamerref01_number.l0])
    | succ k1 =>
      have H := HA.out
      clear HA
      simp only [gossamerref01_number.l0] at H
      by_cases c2 : x4_1 < (a0.size : Int)
      · rw [if_pos c2] at H
        have c2b0 : decide (x4_1 < (a0.size : Int)) = true := decide_eq_true c2
        clear c2
        by_cases c3 : 0 ≤ x4_1
        · rw [if_pos c3] at H
          have c3b0 : decide (0 ≤ x4_1) = true := decide_eq_true c3
          clear c3
          have H' := Aside0.mk H
          clear H
          have p4 : 0 ≤ (x4_1 : Int) := of_decide_eq_true (by first | (with_reducible assumption) | assumption)
          have q4 : x4_1 < (a0.size : Int) := of_decide_eq_true (by first | (with_reducible assumption) | assumption)
          have hx4 := bt_at a0 x4_1
          replace p4 := eq_true p4
          replace q4 := eq_true q4
          go_wp2
          go_roundg k1
          case measure => have := HK1.out; omega
          case rel => exact ⟨(wrap64 ((wrap64 ((wrap64 (10 * x3_1)) + (wrap64 (bt a0 x4_1)))) - 48)), (wrap64 (x4_1 + 1)), (by first | rfl | (simp; done) | (simp [*]; done)), (by first | rfl | (simp; done) | (simp [*]; done)), H', ⟨by have := HK1.out; omega⟩, by repeat (first | exact Drawn0.refl _ | apply Drawn0.step)⟩
        · rw [if_neg c3] at H
          exact absurd H (by simp)
      · rw [if_neg c2] at H
        have c2b0 : decide (x4_1 < (a0.size : Int)) = false := decide_eq_false c2
        clear c2
        obtain rfl := Option.some.inj H
        go_wp2
        go_ret
        exact ⟨by first | rfl | (simp; done) | (simp [*]; done), by repeat (first | exact Drawn0.refl _ | apply Drawn0.step)⟩

end Go.Proofs.YtajcnjdinmgpjaaGreatDoor.P
namespace Go.Proofs.YtajcnjdinmgpjaaGreatDoor.P
open Go.RowKit Go.Proofs.YtajcnjdinmgpjaaGreatDoorW.PrintWords Go.Proofs.YtajcnjdinmgpjaaGreatDoorW.PrintLast Go.Proofs.YtajcnjdinmgpjaaGreatDoorW.PrintMore
attribute [local go_sem] max2_int min2_int max_two min_two max_three min_three max_four min_four   -- for this text's walks alone
set_option linter.unusedVariables false
set_option linter.unusedSimpArgs false

/-! ### gossamerref01_Word: function 30 -/
def gossamerref01_Word.f (a0 : ByteArray) : Option (Bool) := if a0.toList = ([108, 101, 116] : List UInt8) then (some true) else (if a0.toList = ([108, 101, 116, 114, 101, 99] : List UInt8) then (some true) else (if a0.toList = ([105, 110] : List UInt8) then (some true) else (if a0.toList = ([99, 97, 115, 101] : List UInt8) then (some true) else (some (a0.toList == ([111, 102] : List UInt8))))))
set_option maxHeartbeats 8000000 in
set_option maxRecDepth 100000 in
theorem gossamerref01_Word.calls (a0 : ByteArray) (r : Bool) (w : World) (h : gossamerref01_Word.f a0 = some r) :
    Calls Tryz.prog 30 #[.string a0] w fun e w' => e = .returned (.bool r) ∧ Drawn0 w w' := by
  have H : (if a0.toList = ([108, 101, 116] : List UInt8) then (some true) else (if a0.toList = ([108, 101, 116, 114, 101, 99] : List UInt8) then (some true) else (if a0.toList = ([105, 110] : List UInt8) then (some true) else (if a0.toList = ([99, 97, 115, 101] : List UInt8) then (some true) else (some (a0.toList == ([111, 102] : List UInt8))))))) = some r := h
  clear h
  by_cases c2 : a0.toList = ([108, 101, 116] : List UInt8)
  · rw [if_pos c2] at H
    have c2b0 : (a0.toList == ([108, 101, 116] : List UInt8)) = true := beq_iff_eq.mpr c2
    have c2b1 : (a0.toList != ([108, 101, 116] : List UInt8)) = false := bne_eq_false_iff_eq.mpr c2
    clear c2
    obtain rfl := Option.some.inj H
    go_enter Tryz.func30, Tryz.ntmps30
    go_wp2
    go_ret
    exact ⟨by first | rfl | (simp; done) | (simp [*]; done), by repeat (first | exact Drawn0.refl _ | apply Drawn0.step)⟩
  · rw [if_neg c2] at H
    have c2b0 : (a0.toList == ([108, 101, 116] : List UInt8)) = false := beq_eq_false_iff_ne.mpr c2
    have c2b1 : (a0.toList != ([108, 101, 116] : List UInt8)) = true := bne_iff_ne.mpr c2
    by_cases c3 : a0.toList = ([108, 101, 116, 114, 101, 99] : List UInt8)
    · rw [if_pos c3] at H
      have c3b0 : (a0.toList == ([108, 101, 116, 114, 101, 99] : List UInt8)) = true := beq_iff_eq.mpr c3
      have c3b1 : (a0.toList != ([108, 101, 116, 114, 101, 99] : List UInt8)) = false := bne_eq_false_iff_eq.mpr c3
      clear c3
      obtain rfl := Option.some.inj H
      go_enter Tryz.func30, Tryz.ntmps30
      go_wp2
      go_ret
      exact ⟨by first | rfl | (simp; done) | (simp [*]; done), by repeat (first | exact Drawn0.refl _ | apply Drawn0.step)⟩
    · rw [if_neg c3] at H
      have c3b0 : (a0.toList == ([108, 101, 116, 114, 101, 99] : List UInt8)) = false := beq_eq_false_iff_ne.mpr c3
      have c3b1 : (a0.toList != ([108, 101, 116, 114, 101, 99] : List UInt8)) = true := bne_iff_ne.mpr c3
      by_cases c4 : a0.toList = ([105, 110] : List UInt8)
      · rw [if_pos c4] at H
        have c4b0 : (a0.toList == ([105, 110] : List UInt8)) = true := beq_iff_eq.mpr c4
        have c4b1 : (a0.toList != ([105, 110] : List UInt8)) = false := bne_eq_false_iff_eq.mpr c4
        clear c4
        obtain rfl := Option.some.inj H
        go_enter Tryz.func30, Tryz.ntmps30
        go_wp2
        go_ret
        exact ⟨by first | rfl | (simp; done) | (simp [*]; done), by repeat (first | exact Drawn0.refl _ | apply Drawn0.step)⟩
      · rw [if_neg c4] at H
        have c4b0 : (a0.toList == ([105, 110] : List UInt8)) = false := beq_eq_false_iff_ne.mpr c4
        have c4b1 : (a0.toList != ([105, 110] : List UInt8)) = true := bne_iff_ne.mpr c4
        by_cases c5 : a0.toList = ([99, 97, 115, 101] : List UInt8)
        · rw [if_pos c5] at H
          have c5b0 : (a0.toList == ([99, 97, 115, 101] : List UInt8)) = true := beq_iff_eq.mpr c5
          have c5b1 : (a0.toList != ([99, 97, 115, 101] : List UInt8)) = false := bne_eq_false_iff_eq.mpr c5
          clear c5
          obtain rfl := Option.some.inj H
          go_enter Tryz.func30, Tryz.ntmps30
          go_wp2
          go_ret
          exact ⟨by first | rfl | (simp; done) | (simp [*]; done), by repeat (first | exact Drawn0.refl _ | apply Drawn0.step)⟩
        · rw [if_neg c5] at H
          have c5b0 : (a0.toList == ([99, 97, 115, 101] : List UInt8)) = false := beq_eq_false_iff_ne.mpr c5
          have c5b1 : (a0.toList != ([99, 97, 115, 101] : List UInt8)) = true := bne_iff_ne.mpr c5
          obtain rfl := Option.some.inj H
          go_enter Tryz.func30, Tryz.ntmps30
          go_wp2
          go_ret
          exact ⟨by first | rfl | (simp; done) | (simp [*]; done), by repeat (first | exact Drawn0.refl _ | apply Drawn0.step)⟩

end Go.Proofs.YtajcnjdinmgpjaaGreatDoor.P
/- The reference's words are the same. -/
namespace Go.Proofs.YtajcnjdinmgpjaaGreatDoor.X
open Go.RowKit Go.Proofs.YtajcnjdinmgpjaaGreatDoorW.PrintWords Go.Proofs.YtajcnjdinmgpjaaGreatDoorW.PrintLast Go.Proofs.YtajcnjdinmgpjaaGreatDoorW.PrintMore Go.Proofs.YtajcnjdinmgpjaaGreatDoor.P
def isBlank (b : UInt8) : Bool := blanks.contains b
/-- a byte's class -/
def cls (c : Int) : Int := if lowI c then 1 else if upI c then 2 else if digI c then 3 else if c = 32 ∨ c = 10 ∨ c = 9 then 4 else 0
theorem class_f (c : Int) (k : Nat) (hk : 3 ≤ k) : gossamerref01_class.f k c = some (cls c) := by
  obtain ⟨k, rfl⟩ : ∃ j, k = j + 1 + 1 + 1 := ⟨k - 3, by omega⟩
  unfold gossamerref01_class.f gossamerref01_class.j0 gossamerref01_class.j1 gossamerref01_class.j2 cls lowI upI digI
  by_cases h1 : 97 ≤ c <;> by_cases h2 : c ≤ 122 <;> by_cases h3 : 65 ≤ c <;> by_cases h4 : c ≤ 90 <;> by_cases h5 : 48 ≤ c <;> by_cases h6 : c ≤ 57 <;> simp [h1, h2, h3, h4, h5, h6]
  all_goals first | omega | (by_cases h7 : c = 32 <;> by_cases h8 : c = 10 <;> by_cases h9 : c = 9 <;> simp [h7, h8, h9])
theorem wordI_cls (c : Int) : wordI c = true ↔ (1 ≤ cls c ∧ cls c ≤ 3) := by
  unfold wordI cls
  by_cases h1 : lowI c = true <;> by_cases h2 : upI c = true <;> by_cases h3 : digI c = true <;> simp [h1, h2, h3]
  split <;> omega
theorem bt_drop (s : ByteArray) (i : Nat) (h : i < s.size) : ∃ b, s.data.toList.drop i = b :: s.data.toList.drop (i + 1) ∧ bt s (i : Int) = (b.toNat : Int) := by
  refine ⟨s[i]'h, at_drop s i h, ?_⟩
  have := bt_at s (i : Int) (by simpa using h)
  rw [← this]
  rfl
theorem big_word {b : UInt8} (h : wB b = true) : big b = decide (cls (b.toNat : Int) < 3) := by
  unfold wB at h
  unfold big cls
  simp [wordI, lowI, upI, digI] at h ⊢
  by_cases h1 : 97 ≤ (b.toNat : Int) ∧ (b.toNat : Int) ≤ 122
  · rw [if_pos h1]; simp; omega
  · rw [if_neg h1]
    by_cases h2 : 65 ≤ (b.toNat : Int) ∧ (b.toNat : Int) ≤ 90
    · rw [if_pos h2]; simp; omega
    · rw [if_neg h2, if_pos (by omega)]; simp; omega
theorem run_l0 (s : ByteArray) (a : Nat) (hs : s.size ≤ 1000000000) : ∀ (m n k : Nat) (x : Bool), s.size - (a + n) = m → a + n ≤ s.size → m + 5 ≤ k →
    gossamerref01_run.l0 k s (a : Int) (n : Int) x = some (((n + wl (s.data.toList.drop (a + n)) : Nat) : Int), x || ((s.data.toList.drop (a + n)).takeWhile wB).any big)
  | 0, n, k, x, hm, hn, hk => by
    obtain ⟨k, rfl⟩ : ∃ j, k = j + 1 := ⟨k - 1, by omega⟩
    unfold gossamerref01_run.l0
    rw [wrap_small _ (by omega) (by omega), if_neg (by omega), List.drop_eq_nil_of_le (by have : s.data.toList.length = s.size := rfl; omega)]
    simp [wl]
  | m + 1, n, k, x, hm, hn, hk => by
    obtain ⟨k, rfl⟩ : ∃ j, k = j + 1 := ⟨k - 1, by omega⟩
    obtain ⟨b, hd, hb⟩ := bt_drop s (a + n) (by omega)
    unfold gossamerref01_run.l0
    rw [wrap_small _ (by omega) (by omega), if_pos (by omega), if_pos (by omega), show ((a : Int) + (n : Int)) = ((a + n : Nat) : Int) by omega, hb, class_f _ k (by omega)]
    show (if cls (b.toNat : Int) < 1 then _ else _) = _
    by_cases hw : wB b = true
    · have hc := (wordI_cls (b.toNat : Int)).1 hw
      have ih := fun x => run_l0 s a hs m (n + 1) k x (by omega) (by omega) (by omega)
      rw [if_neg (by omega), if_neg (by omega), wrap_small _ (by omega) (by omega), show ((n : Int) + 1) = ((n + 1 : Nat) : Int) by omega]
      have e : wl (s.data.toList.drop (a + n)) = 1 + wl (s.data.toList.drop (a + (n + 1))) := by
        rw [hd]
        unfold wl
        rw [List.takeWhile_cons, if_pos hw, List.length_cons]
        show _ = 1 + ((s.data.toList.drop (a + n + 1)).takeWhile wB).length
        omega
      have e2 : ((s.data.toList.drop (a + n)).takeWhile wB).any big = (big b || ((s.data.toList.drop (a + (n + 1))).takeWhile wB).any big) := by
        rw [hd, List.takeWhile_cons, if_pos hw, List.any_cons]
        rfl
      rw [e, e2, big_word hw]
      cases x with
      | true =>
        rw [if_pos rfl, ih true]
        simp
        omega
      | false =>
        rw [if_neg (by decide), ih]
        simp
        omega
    · have hc : ¬ (1 ≤ cls (b.toNat : Int) ∧ cls (b.toNat : Int) ≤ 3) := fun h => hw ((wordI_cls _).2 h)
      have e : wl (s.data.toList.drop (a + n)) = 0 := by rw [hd]; unfold wl; rw [List.takeWhile_cons, if_neg hw]; rfl
      have e2 : ((s.data.toList.drop (a + n)).takeWhile wB).any big = false := by rw [hd, List.takeWhile_cons, if_neg hw]; rfl
      rw [e, e2]
      by_cases h1 : cls (b.toNat : Int) < 1
      · rw [if_pos h1]; simp
      · rw [if_neg h1, if_pos (by omega)]; simp
theorem run_f (s : ByteArray) (a k : Nat) (hs : s.size ≤ 1000000000) (ha : a ≤ s.size) (hk : s.size + 5 ≤ k) : gossamerref01_run.f k s (a : Int) = some (((wl (s.data.toList.drop a) : Nat) : Int), ((s.data.toList.drop a).take (wl (s.data.toList.drop a))).any big) := by
  have h := run_l0 s a hs (s.size - a) 0 k false (by omega) (by omega) (by omega)
  have e : (s.data.toList.drop a).take (wl (s.data.toList.drop a)) = (s.data.toList.drop a).takeWhile wB := by
    unfold wl
    exact List.prefix_iff_eq_take.1 (List.takeWhile_prefix _) |>.symm
  rw [e]
  unfold gossamerref01_run.f
  simpa using h
/-! ### signs -/
theorem sign_j0 (k : Nat) (s : ByteArray) (a : Int) (x : Bool) : gossamerref01_sign.j0 (k + 1) s a x = if x = true then some 2 else gossamerref01_sign.l0 k s a 0 := rfl
theorem sign_l0 (s : ByteArray) (a : Nat) (b : UInt8) (ha : a < s.size) (hb : bt s (a : Int) = (b.toNat : Int)) : ∀ (m i k : Nat), 13 - i = m → i ≤ 13 → m + 1 ≤ k →
    gossamerref01_sign.l0 k s (a : Int) (i : Int) = some (if (sg1L.drop i).contains b then 1 else 0)
  | 0, i, k, hm, hi, hk => by
    obtain ⟨k, rfl⟩ : ∃ j, k = j + 1 := ⟨k - 1, by omega⟩
    obtain rfl : i = 13 := by omega
    unfold gossamerref01_sign.l0
    rw [if_neg (by omega)]
    rfl
  | m + 1, i, k, hm, hi, hk => by
    obtain ⟨k, rfl⟩ : ∃ j, k = j + 1 := ⟨k - 1, by omega⟩
    obtain ⟨x, hd, hx⟩ := bt_drop (⟨#[92, 46, 40, 41, 61, 123, 125, 124, 43, 45, 42, 47, 60]⟩ : ByteArray) i (by show i < 13; omega)
    have hd' : sg1L.drop i = x :: sg1L.drop (i + 1) := hd
    unfold gossamerref01_sign.l0
    rw [if_pos (by omega), if_pos (by omega), if_pos (by omega), if_pos (by omega), hx, hb, hd', List.contains_cons]
    by_cases he : b = x
    · subst he
      rw [if_pos rfl]
      simp
    · rw [if_neg (fun h => he (UInt8.toNat_inj.1 (by omega)).symm), wrap_small _ (by omega) (by omega), show ((i : Int) + 1) = ((i + 1 : Nat) : Int) by omega, sign_l0 s a b ha hb m (i + 1) k (by omega) (by omega) (by omega)]
      have : (b == x) = false := by simpa using he
      rw [this, Bool.false_or]
theorem two_list (s : ByteArray) (a : Nat) : (s.extract a (a + 2)).toList = (s.data.toList.drop a).take 2 := by
  rw [ByteArray.toList_eq, ByteArray.data_extract, Array.toList_extract, List.extract_eq_take_drop]
  congr 1
  omega
theorem sign_f (s : ByteArray) (a k : Nat) (hs : s.size ≤ 1000000000) (ha : a < s.size) (hk : 20 ≤ k) : gossamerref01_sign.f k s (a : Int) = some ((sgn (s.data.toList.drop a) : Nat) : Int) := by
  obtain ⟨k, rfl⟩ : ∃ j, k = j + 1 := ⟨k - 1, by omega⟩
  obtain ⟨b, hd, hb⟩ := bt_drop s a ha
  have hl := sign_l0 s a b ha hb 13 0 k (by omega) (by omega) (by omega)
  unfold gossamerref01_sign.f
  rw [wrap_small _ (by omega) (by omega)]
  by_cases h1 : (a : Int) + 1 < (s.size : Int)
  · obtain ⟨c, hd2, _⟩ := bt_drop s (a + 1) (by omega)
    rw [if_pos h1, if_pos (by omega), wrap_small _ (by omega) (by omega), if_pos (by omega), if_pos (by omega), show (((a : Int)).toNat) = a by omega, show ((a : Int) + 2).toNat = a + 2 by omega, two_list]
    rw [hd2] at hd
    rw [hd]
    show (if [b, c] = [45, 62] then _ else _) = some ((if (b = 45 ∧ some c = some 62) ∨ (b = 61 ∧ some c = some 61) then 2 else if sg1L.contains b then 1 else 0 : Nat) : Int)
    rw [sign_j0, sign_j0]
    by_cases h2 : b = 45 ∧ c = 62
    · rw [if_pos (by rw [h2.1, h2.2]), if_pos rfl, if_pos (.inl ⟨h2.1, by rw [h2.2]⟩)]
      rfl
    · have h2' : ¬ ([b, c] = [45, 62]) := by simpa using h2
      by_cases h3 : b = 61 ∧ c = 61
      · rw [if_neg h2', if_pos (by rw [h3.1, h3.2]; rfl), if_pos (.inr ⟨h3.1, by rw [h3.2]⟩)]
        rfl
      · have h3' : ¬ ((List.take 2 (b :: c :: List.drop (a + 1 + 1) s.data.toList) == [61, 61]) = true) := by
          show ¬ (([b, c] == [61, 61]) = true)
          simpa using h3
        have h4 : ¬ ((b = 45 ∧ some c = some 62) ∨ (b = 61 ∧ some c = some 61)) := by
          rintro (⟨x, y⟩ | ⟨x, y⟩)
          · exact h2 ⟨x, Option.some.inj y⟩
          · exact h3 ⟨x, Option.some.inj y⟩
        rw [if_neg h2', if_neg h3', if_neg h4]
        have e : ((if sg1L.contains b then 1 else 0 : Nat) : Int) = if (sg1L.drop 0).contains b then 1 else 0 := by
          simp only [List.drop_zero]
          split <;> rfl
        rw [e]
        exact hl
  · have hr : s.data.toList.drop (a + 1) = [] := List.drop_eq_nil_of_le (by have : s.data.toList.length = s.size := rfl; omega)
    rw [if_neg h1, hd, hr, sign_j0, if_neg (by decide)]
    have e : ((sgn [b] : Nat) : Int) = if (sg1L.drop 0).contains b then 1 else 0 := by
      simp only [List.drop_zero, sgn, List.head?_nil]
      simp
      split <;> rfl
    rw [e]
    exact hl
/-! ### numbers -/
theorem number_l0 (s : ByteArray) (hs : s.size ≤ 18) (hd : ∀ b ∈ s.data.toList, 48 ≤ b.toNat ∧ b.toNat ≤ 57) : ∀ (m i acc k : Nat), s.size - i = m → i ≤ s.size → m + 1 ≤ k → acc < 10 ^ i →
    ∃ v, Lib.decFrom acc (s.data.toList.drop i) = some v ∧ gossamerref01_number.l0 k s (acc : Int) (i : Int) = some ((v : Nat) : Int)
  | 0, i, acc, k, hm, hi, hk, ha => by
    obtain ⟨k, rfl⟩ : ∃ j, k = j + 1 := ⟨k - 1, by omega⟩
    refine ⟨acc, by rw [List.drop_eq_nil_of_le (by have : s.data.toList.length = s.size := rfl; omega)]; rfl, ?_⟩
    unfold gossamerref01_number.l0
    rw [if_neg (by omega)]
  | m + 1, i, acc, k, hm, hi, hk, ha => by
    obtain ⟨k, rfl⟩ : ∃ j, k = j + 1 := ⟨k - 1, by omega⟩
    obtain ⟨b, hdr, hb⟩ := bt_drop s i (by omega)
    have hbd := hd b (by have : b ∈ s.data.toList.drop i := by rw [hdr]; simp
                         exact List.mem_of_mem_drop this)
    have hp : 10 ^ i ≤ 10 ^ 17 := Nat.pow_le_pow_right (by decide) (by omega)
    have hacc : acc < 100000000000000000 := Nat.lt_of_lt_of_le ha hp
    obtain ⟨v, h1, h2⟩ := number_l0 s hs hd m (i + 1) (acc * 10 + (b.toNat - 48)) k (by omega) (by omega) (by omega) (by rw [Nat.pow_succ]; omega)
    refine ⟨v, ?_, ?_⟩
    · rw [hdr]
      unfold Lib.decFrom
      rw [digitVal_some b hbd.1 hbd.2]
      exact h1
    · unfold gossamerref01_number.l0
      rw [if_pos (by omega), if_pos (by omega), hb, wrap_small (10 * (acc : Int)) (by omega) (by omega), wrap_small (b.toNat : Int) (by omega) (by omega), wrap_small (10 * (acc : Int) + (b.toNat : Int)) (by omega) (by omega), wrap_small _ (by omega) (by omega), wrap_small ((i : Int) + 1) (by omega) (by omega), show 10 * (acc : Int) + (b.toNat : Int) - 48 = ((acc * 10 + (b.toNat - 48) : Nat) : Int) by omega, show ((i : Int) + 1) = ((i + 1 : Nat) : Int) by omega]
      exact h2
theorem number_f (s : ByteArray) (hs : s.size ≤ 18) (h0 : 0 < s.size) (hd : ∀ b ∈ s.data.toList, 48 ≤ b.toNat ∧ b.toNat ≤ 57) (k : Nat) (hk : 19 ≤ k) : gossamerref01_number.f k s = some ((Lib.atoi s.data.toList).getD 0) := by
  obtain ⟨v, h1, h2⟩ := number_l0 s hs hd s.size 0 0 k (by omega) (by omega) (by omega) (by decide)
  unfold gossamerref01_number.f
  have e : Lib.atoi s.data.toList = some ((v : Nat) : Int) := by
    cases hl : s.data.toList with
    | nil => have : s.data.toList.length = s.size := rfl; rw [hl] at this; simp at this; omega
    | cons b r =>
      have hbd := hd b (by rw [hl]; simp)
      rw [hl, List.drop_zero] at h1
      have e1 : (b == 45) = false := by simp; rintro rfl; simp at hbd
      have e2 : (b == 43) = false := by simp; rintro rfl; simp at hbd
      show (if (b == 45) = true then (Lib.decNat r).map (fun (m : Nat) => -(m : Int)) else if (b == 43) = true then (Lib.decNat r).map (fun (m : Nat) => (m : Int)) else (Lib.decNat (b :: r)).map (fun (m : Nat) => (m : Int))) = _
      rw [e1, e2]
      simp [Lib.decNat, h1]
  rw [e]
  exact h2
theorem Word_f (s : ByteArray) : gossamerref01_Word.f s = some (wordsL.contains s.data.toList) := by
  unfold gossamerref01_Word.f wordsL
  simp only [ByteArray.toList_eq, List.contains_cons, List.contains_nil, Bool.or_false]
  by_cases h1 : s.data.toList = [108, 101, 116]
  · simp [h1]
  · by_cases h2 : s.data.toList = [108, 101, 116, 114, 101, 99]
    · simp [h2]
    · by_cases h3 : s.data.toList = [105, 110]
      · simp [h3]
      · by_cases h4 : s.data.toList = [99, 97, 115, 101]
        · simp [h4]
        · have f : ∀ x, s.data.toList ≠ x → (s.data.toList == x) = false := fun x h => by simpa using h
          rw [if_neg h1, if_neg h2, if_neg h3, if_neg h4, f _ h1, f _ h2, f _ h3, f _ h4]
          simp
/-! ### in calls -/
theorem run_calls (s : ByteArray) (a : Nat) (hs : s.size ≤ 1000000000) (ha : a ≤ s.size) (w : World) : Calls Tryz.prog 27 #[.string s, .int .i64 (a : Int)] w fun e w' => e = .returned (.tuple #[.int .i64 ((wl (s.data.toList.drop a) : Nat) : Int), .bool (((s.data.toList.drop a).take (wl (s.data.toList.drop a))).any big)]) ∧ Below w.heap.size w w' :=
  (gossamerref01_run.calls (s.size + 5) s a _ _ w (run_f s a _ hs ha (Nat.le_refl _))).mono fun _ _ h => ⟨h.1, h.2.below⟩
theorem sign_calls (s : ByteArray) (a : Nat) (hs : s.size ≤ 1000000000) (ha : a < s.size) (w : World) : Calls Tryz.prog 28 #[.string s, .int .i64 (a : Int)] w fun e w' => e = .returned (.int .i64 ((sgn (s.data.toList.drop a) : Nat) : Int)) ∧ Below w.heap.size w w' :=
  (gossamerref01_sign.calls 20 s a _ w (sign_f s a _ hs ha (Nat.le_refl _))).mono fun _ _ h => ⟨h.1, h.2.below⟩
theorem class_calls (c : Int) (w : World) : Calls Tryz.prog 18 #[.int .u8 c] w fun e w' => e = .returned (.int .i64 (cls c)) ∧ Below w.heap.size w w' :=
  (gossamerref01_class.calls 3 c _ w (class_f c 3 (Nat.le_refl _))).mono fun _ _ h => ⟨h.1, h.2.below⟩
theorem number_calls (s : ByteArray) (hs : s.size ≤ 18) (h0 : 0 < s.size) (hd : ∀ b ∈ s.data.toList, 48 ≤ b.toNat ∧ b.toNat ≤ 57) (w : World) : Calls Tryz.prog 29 #[.string s] w fun e w' => e = .returned (.int .i64 ((Lib.atoi s.data.toList).getD 0)) ∧ Below w.heap.size w w' :=
  (gossamerref01_number.calls 19 s _ w (number_f s hs h0 hd 19 (Nat.le_refl _))).mono fun _ _ h => ⟨h.1, h.2.below⟩
theorem RWord_calls (s : ByteArray) (w : World) : Calls Tryz.prog 30 #[.string s] w fun e w' => e = .returned (.bool (wordsL.contains s.data.toList)) ∧ Below w.heap.size w w' :=
  (gossamerref01_Word.calls s _ w (Word_f s)).mono fun _ _ h => ⟨h.1, h.2.below⟩
end Go.Proofs.YtajcnjdinmgpjaaGreatDoor.X
/- The reference's words: the walks of One and All. -/
namespace Go.Proofs.YtajcnjdinmgpjaaGreatDoor.X
open Go.RowKit Go.Proofs.YtajcnjdinmgpjaaGreatDoorW.PrintWords Go.Proofs.YtajcnjdinmgpjaaGreatDoorW.PrintLast Go.Proofs.YtajcnjdinmgpjaaGreatDoorW.PrintMore Go.Proofs.YtajcnjdinmgpjaaGreatDoor.P
/-- the token at a place, and the fault -/
def oneV (s : ByteArray) (a : Nat) : Value := match specF (s.data.toList.drop a) with
  | .ok (k, m, n) => .tuple #[.agg #[.int .i64 k, .string (s.extract a (a + m)), .int .i64 n, .int .i64 (a : Int)], .int .i64 0]
  | .error c => .tuple #[.agg #[.int .i64 0, .string ⟨#[]⟩, .int .i64 0, .int .i64 0], .int .i64 c]
theorem specF_sign {l : List UInt8} (h : wl l = 0) (h2 : sgn l ≠ 0) : specF l = .ok (5, sgn l, 0) := by unfold specF; rw [if_pos h, if_neg h2]
theorem specF_none {l : List UInt8} (h : wl l = 0) (h2 : sgn l = 0) : specF l = .error 10 := by unfold specF; rw [if_pos h, if_pos h2]
theorem specF_word {l : List UInt8} (h : wl l ≠ 0) {k n : Int} (hp : specW (l.take (wl l)) = .ok (k, n)) : specF l = .ok (k, wl l, n) := by unfold specF; rw [if_neg h, hp]
theorem specF_werr {l : List UInt8} (h : wl l ≠ 0) {c : Int} (hp : specW (l.take (wl l)) = .error c) : specF l = .error c := by unfold specF; rw [if_neg h, hp]
theorem sub_list (s : ByteArray) (a m : Nat) : (s.extract a (a + m)).data.toList = (s.data.toList.drop a).take m := by
  rw [ByteArray.data_extract, Array.toList_extract, List.extract_eq_take_drop]
  congr 1
  omega
theorem sgn_le (l : List UInt8) : sgn l ≤ l.length := by
  cases l with
  | nil => exact Nat.le_refl _
  | cons b r =>
    show (if (b = 45 ∧ r.head? = some 62) ∨ (b = 61 ∧ r.head? = some 61) then 2 else if sg1L.contains b then 1 else 0) ≤ r.length + 1
    by_cases h : (b = 45 ∧ r.head? = some 62) ∨ (b = 61 ∧ r.head? = some 61)
    · rw [if_pos h]
      cases r with
      | nil => simp at h
      | cons c r => simp
    · rw [if_neg h]
      by_cases h2 : sg1L.contains b = true
      · rw [if_pos h2]; omega
      · rw [if_neg h2]; omega
theorem takeWhile_all (l : List UInt8) : ∀ b ∈ l.take (wl l), wB b = true := by
  have e : l.take (wl l) = l.takeWhile wB := (List.prefix_iff_eq_take.1 (List.takeWhile_prefix _)).symm
  rw [e]
  intro b hb
  exact List.all_eq_true.1 List.all_takeWhile b hb
theorem cls_dig {c : Int} (h : wordI c = true) : (cls c = 3 ↔ digI c = true) ∧ (digI c = false → cls c = if upI c then 2 else 1) := by
  unfold wordI at h
  unfold cls
  by_cases h1 : lowI c = true <;> by_cases h2 : upI c = true <;> by_cases h3 : digI c = true <;> simp [h1, h2, h3] at h ⊢
  all_goals (simp [lowI, upI, digI] at h1 h2 h3; omega)
theorem slice_str (s : ByteArray) (a m : Nat) (h : a + m ≤ s.size) (w : World) : (Instr.slice 9 (.string s) (some (.int .i64 (a : Int))) (some (.int .i64 ((a : Int) + (m : Int)))) none).run Tryz.prog w = .ok (.string (s.extract a (a + m))) w := by
  have h := run_slice_string (P := Tryz.prog) w 9 s .i64 .i64 (a : Int) ((a : Int) + (m : Int)) Tryz.underlying9 (by omega) (by omega) (by omega)
  rw [show ((a : Int)).toNat = a by omega, show ((a : Int) + (m : Int)).toNat = a + m by omega] at h
  exact h
set_option maxRecDepth 100000 in
set_option maxHeartbeats 4000000 in
theorem ROne_calls (s : ByteArray) (a : Nat) (hs : s.size ≤ 1000000000) (ha : a < s.size) (w : World) : Calls Tryz.prog 19 #[.string s, .int .i64 (a : Int)] w fun e w' => e = .returned (oneV s a) ∧ Below w.heap.size w w' := by
  obtain ⟨V, hV⟩ : ∃ V, V = oneV s a := ⟨_, rfl⟩
  rw [← hV]
  unfold oneV at hV
  have hwl := wl_le (s.data.toList.drop a)
  have hsl := sgn_le (s.data.toList.drop a)
  have hdl : (s.data.toList.drop a).length = s.size - a := by rw [List.length_drop]; rfl
  rw [hdl] at hwl hsl
  have HRUN := Lib.hid (run_calls s a hs (by omega))
  obtain ⟨b, hbd, hbt⟩ := bt_drop s a ha
  have hat : ((s[a]'ha).toNat : Int) = (b.toNat : Int) := by
    have := bt_at s (a : Int) (by simpa using ha)
    rw [hbt] at this
    exact this
  clear hbt hdl
  by_cases hz : wl (s.data.toList.drop a) = 0
  · clear hat hbd hwl
    have HZ := Lib.hid hz
    have HS := Lib.hid (sign_calls s a hs ha)
    by_cases hk : sgn (s.data.toList.drop a) = 0
    · rw [specF_none hz hk] at hV
      have HV := Lib.hid hV
      have HK := Lib.hid hk
      clear hV hz hk hsl
      go_enter Tryz.func19, Tryz.ntmps19
      go_wp2_with fail
      refine (HRUN.out _).mono ?_
      rintro e w1 ⟨rfl, hB1⟩
      rw [HZ.out]
      have hb1 := belowNew hB1
      have hB := below_step (below_alloc (Below.refl _ _) _) hB1
      go_wp2_with fail
      refine (HS.out _).mono ?_
      rintro e w2 ⟨rfl, hB2⟩
      rw [HK.out]
      have hbF := blk_below hb1 hB2
      have hBF := below_step hB hB2
      clear hb1 hB hB1 hB2
      obtain ⟨x0, x1, x2, x3, xf, xl⟩ := open4 hbF
      have HF := Lib.hid (And.intro hbF hBF)
      clear hbF hBF
      go_wp2
      obtain ⟨hbF, hBF⟩ := HF.out
      clear x0 x1 x2 x3 xf xl HF
      have hz5 := set4 (u0 := .int .i64 0) (u1 := .string ⟨#[]⟩) (u2 := .int .i64 0) (u3 := .int .i64 0) hbF
      have hB5 := (((hBF.setCell (p := ⟨w.heap.size, 0, none⟩) (Nat.le_refl _) (.int .i64 0)).setCell (p := ⟨w.heap.size, 1, none⟩) (Nat.le_refl _) (.string ⟨#[]⟩)).setCell (p := ⟨w.heap.size, 2, none⟩) (Nat.le_refl _) (.int .i64 0)).setCell (p := ⟨w.heap.size, 3, none⟩) (Nat.le_refl _) (.int .i64 0)
      obtain ⟨W5, hW⟩ : ∃ W5, W5 = ((((w2.setCell ⟨w.heap.size, 0, none⟩ (.int .i64 0)).setCell ⟨w.heap.size, 1, none⟩ (.string ⟨#[]⟩)).setCell ⟨w.heap.size, 2, none⟩ (.int .i64 0)).setCell ⟨w.heap.size, 3, none⟩ (.int .i64 0)) := ⟨_, rfl⟩
      rw [← hW] at hz5 hB5 ⊢
      clear hW
      obtain ⟨k0, k1, k2, k3, kf, kl⟩ := open4 hz5
      refine bodyPost_ret (v := .tuple #[.agg #[.int .i64 0, .string ⟨#[]⟩, .int .i64 0, .int .i64 0], .int .i64 10]) (by simp [results, Tryz.results19, go_sem, k0, k1, k2, k3]) rfl ?_
      rw [HV.out]
      exact ⟨rfl, hB5⟩
    · rw [specF_sign hz hk] at hV
      have HV := Lib.hid hV
      obtain ⟨m, hm⟩ : ∃ m, m = sgn (s.data.toList.drop a) := ⟨_, rfl⟩
      rw [← hm] at HV HS hk hsl
      have nk : (((m : Nat) : Int) == 0) = false := by simpa using hk
      clear hV hz hk hm
      go_enter Tryz.func19, Tryz.ntmps19
      go_wp2_with fail
      refine (HRUN.out _).mono ?_
      rintro e w1 ⟨rfl, hB1⟩
      rw [HZ.out]
      have hb1 := belowNew hB1
      have hB := below_step (below_alloc (Below.refl _ _) _) hB1
      go_wp2_with fail
      refine (HS.out _).mono ?_
      rintro e w2 ⟨rfl, hB2⟩
      have hbF := blk_below hb1 hB2
      have hBF := below_step hB hB2
      clear hb1 hB hB1 hB2
      obtain ⟨x0, x1, x2, x3, xf, xl⟩ := open4 hbF
      have HF := Lib.hid (And.intro hbF hBF)
      clear hbF hBF
      have hslice := slice_str s a m (by omega)
      go_wp2
      obtain ⟨hbF, hBF⟩ := HF.out
      clear x0 x1 x2 x3 xf xl HF
      have hz5 := set4 (u0 := .int .i64 5) (u1 := .string (s.extract a (a + m))) (u2 := .int .i64 0) (u3 := .int .i64 (a : Int)) hbF
      have hB5 := (((hBF.setCell (p := ⟨w.heap.size, 0, none⟩) (Nat.le_refl _) (.int .i64 5)).setCell (p := ⟨w.heap.size, 1, none⟩) (Nat.le_refl _) (.string (s.extract a (a + m)))).setCell (p := ⟨w.heap.size, 2, none⟩) (Nat.le_refl _) (.int .i64 0)).setCell (p := ⟨w.heap.size, 3, none⟩) (Nat.le_refl _) (.int .i64 (a : Int))
      obtain ⟨W5, hW⟩ : ∃ W5, W5 = ((((w2.setCell ⟨w.heap.size, 0, none⟩ (.int .i64 5)).setCell ⟨w.heap.size, 1, none⟩ (.string (s.extract a (a + m)))).setCell ⟨w.heap.size, 2, none⟩ (.int .i64 0)).setCell ⟨w.heap.size, 3, none⟩ (.int .i64 (a : Int))) := ⟨_, rfl⟩
      rw [← hW] at hz5 hB5 ⊢
      clear hW
      obtain ⟨k0, k1, k2, k3, kf, kl⟩ := open4 hz5
      refine bodyPost_ret (v := .tuple #[.agg #[.int .i64 5, .string (s.extract a (a + m)), .int .i64 0, .int .i64 (a : Int)], .int .i64 0]) (by simp [results, Tryz.results19, go_sem, k0, k1, k2, k3]) rfl ?_
      rw [HV.out]
      exact ⟨rfl, hB5⟩
  · clear hsl
    have hall := takeWhile_all (s.data.toList.drop a)
    have hh0 : h0 ((s.data.toList.drop a).take (wl (s.data.toList.drop a))) = (b.toNat : Int) := by rw [head_take (by omega), hbd]; rfl
    have hwb : wordI (b.toNat : Int) = true := by
      refine hall b ?_
      obtain ⟨j, hj⟩ : ∃ j, wl (s.data.toList.drop a) = j + 1 := ⟨wl (s.data.toList.drop a) - 1, by omega⟩
      rw [hj, hbd]
      simp
    have hcd := cls_dig hwb
    have hwle : ((s.data.toList.drop a).take (wl (s.data.toList.drop a))).length = wl (s.data.toList.drop a) := by rw [List.length_take]; exact Nat.min_eq_left (wl_le _)
    have htl := sub_list s a (wl (s.data.toList.drop a))
    have hwd : ∀ p, specW ((s.data.toList.drop a).take (wl (s.data.toList.drop a))) = .ok p → specF (s.data.toList.drop a) = .ok (p.1, wl (s.data.toList.drop a), p.2) := fun p hp => specF_word hz hp
    have hwe : ∀ c, specW ((s.data.toList.drop a).take (wl (s.data.toList.drop a))) = .error c → specF (s.data.toList.drop a) = .error c := fun c hc => specF_werr hz hc
    unfold specW at hwd hwe
    rw [hwle, hh0] at hwd hwe
    clear hh0 hwle hwb
    obtain ⟨m, hm⟩ : ∃ m, m = wl (s.data.toList.drop a) := ⟨_, rfl⟩
    rw [← hm] at HRUN hz hwl hall htl hwd hwe
    obtain ⟨L, hL⟩ : ∃ L, L = (s.data.toList.drop a).take m := ⟨_, rfl⟩
    rw [← hL] at HRUN hall htl hwd hwe
    have hLlen : L.length = m := by rw [hL, List.length_take, List.length_drop]; have : s.data.toList.length = s.size := rfl; omega
    have hbig : L.any big = false → digI (b.toNat : Int) = true → ∀ x ∈ (s.extract a (a + m)).data.toList, 48 ≤ x.toNat ∧ x.toNat ≤ 57 := by
      intro h1 _ x hx
      rw [htl] at hx
      have h2 := hall x hx
      have h3 : big x = false := by simpa using (List.any_eq_false.1 h1 x hx)
      simp [wB, wordI, lowI, upI, digI, big] at h2 h3
      omega
    have hesz : (s.extract a (a + m)).size = m := by
      have : (s.extract a (a + m)).data.toList.length = m := by rw [htl, hLlen]
      exact this
    have HSP := Lib.hid (And.intro hV (And.intro hwd (And.intro hwe (And.intro hbig (And.intro htl hcd)))))
    have HAT := Lib.hid hat
    have nz : (((m : Nat) : Int) == 0) = false := by simpa using hz
    have ham : a + m ≤ s.size := by omega
    have hm0 : 0 < m := by omega
    clear hV hwd hwe hbig htl hcd hall hL hLlen hz hm hat hbd
    go_enter Tryz.func19, Tryz.ntmps19
    go_wp2_with fail
    refine (HRUN.out _).mono ?_
    rintro e w1 ⟨rfl, hB1⟩
    have hb1 := belowNew hB1
    have hB := below_step (below_alloc (Below.refl _ _) _) hB1
    obtain ⟨X, hX⟩ : ∃ X, X = L.any big := ⟨_, rfl⟩
    rw [← hX]
    have HX := Lib.hid hX
    clear hX hB1 hesz
    have hslice := slice_str s a m ham
    go_wp2_with fail
    rw [HAT.out]
    refine (class_calls _ _).mono ?_
    rintro e w2 ⟨rfl, hB2⟩
    have hbF := blk_below (blk_alloc hb1 (.cells #[.int .i64 0, .string (s.extract a (a + m)), .int .i64 0, .int .i64 (a : Int)] 46)) hB2
    have hbT := blk_below (blk_new w1 (.cells #[.int .i64 0, .string (s.extract a (a + m)), .int .i64 0, .int .i64 (a : Int)] 46)) hB2
    have hs1 : w.heap.size < w1.heap.size := blk_lt hb1
    have hBF := below_step (hB.alloc hB.size (.cells #[.int .i64 0, .string (s.extract a (a + m)), .int .i64 0, .int .i64 (a : Int)] 46)) hB2
    clear hb1 hB hB2 hslice
    have lt2 := blk_lt hbT
    obtain ⟨hV, hwd, hwe, hbig, htl, hcd⟩ := HSP.out
    have HF := Lib.hid (And.intro hbF (And.intro hbT hBF))
    clear hbF hbT hBF HSP
    by_cases hdg : digI (b.toNat : Int) = true
    · have hc3 := hcd.1.2 hdg
      rw [hc3]
      rw [if_pos hdg] at hwd hwe
      clear hcd hc3
      have hX := HX.out
      cases hXX : X with
      | true =>
        rw [hXX] at hX
        rw [hwe 10 (by rw [if_pos hX.symm])] at hV
        have HV := Lib.hid hV
        clear hV hX hXX hwd hwe hbig htl HX hdg
        obtain ⟨hbF, hbT, hBF⟩ := HF.out
        obtain ⟨x0, x1, x2, x3, xf, xl⟩ := open4 hbF
        obtain ⟨y0, y1, y2, y3, yf, yl⟩ := open4 hbT
        clear hbF hbT hBF
        go_wp2
        obtain ⟨hbF, hbT, hBF⟩ := HF.out
        clear x0 x1 x2 x3 xf xl y0 y1 y2 y3 yf yl HF
        have hz5 := set4 (u0 := .int .i64 0) (u1 := .string ⟨#[]⟩) (u2 := .int .i64 0) (u3 := .int .i64 0) hbF
        have hB5 := (((hBF.setCell (p := ⟨w.heap.size, 0, none⟩) (Nat.le_refl _) (.int .i64 0)).setCell (p := ⟨w.heap.size, 1, none⟩) (Nat.le_refl _) (.string ⟨#[]⟩)).setCell (p := ⟨w.heap.size, 2, none⟩) (Nat.le_refl _) (.int .i64 0)).setCell (p := ⟨w.heap.size, 3, none⟩) (Nat.le_refl _) (.int .i64 0)
        obtain ⟨W5, hW⟩ : ∃ W5, W5 = ((((w2.setCell ⟨w.heap.size, 0, none⟩ (.int .i64 0)).setCell ⟨w.heap.size, 1, none⟩ (.string ⟨#[]⟩)).setCell ⟨w.heap.size, 2, none⟩ (.int .i64 0)).setCell ⟨w.heap.size, 3, none⟩ (.int .i64 0)) := ⟨_, rfl⟩
        rw [← hW] at hz5 hB5 ⊢
        clear hW
        obtain ⟨k0, k1, k2, k3, kf, kl⟩ := open4 hz5
        refine bodyPost_ret (v := .tuple #[.agg #[.int .i64 0, .string ⟨#[]⟩, .int .i64 0, .int .i64 0], .int .i64 10]) (by simp [results, Tryz.results19, go_sem, k0, k1, k2, k3]) rfl ?_
        rw [HV.out]
        exact ⟨rfl, hB5⟩
      | false =>
        rw [hXX] at hX
        rw [if_neg (by rw [← hX]; decide)] at hwd hwe
        have hds := hbig hX.symm hdg
        clear hXX hbig HX hdg hX
        by_cases h18 : 18 < m
        · rw [hwe 11 (by rw [if_pos (.inl h18)])] at hV
          have HV := Lib.hid hV
          have d18 : decide ((18 : Int) < (m : Int)) = true := decide_eq_true (by omega)
          clear hV hwd hwe htl hds
          obtain ⟨hbF, hbT, hBF⟩ := HF.out
          obtain ⟨x0, x1, x2, x3, xf, xl⟩ := open4 hbF
          obtain ⟨y0, y1, y2, y3, yf, yl⟩ := open4 hbT
          clear hbF hbT hBF
          go_wp2
          obtain ⟨hbF, hbT, hBF⟩ := HF.out
          clear x0 x1 x2 x3 xf xl y0 y1 y2 y3 yf yl HF
          have hz5 := set4 (u0 := .int .i64 0) (u1 := .string ⟨#[]⟩) (u2 := .int .i64 0) (u3 := .int .i64 0) hbF
          have hB5 := (((hBF.setCell (p := ⟨w.heap.size, 0, none⟩) (Nat.le_refl _) (.int .i64 0)).setCell (p := ⟨w.heap.size, 1, none⟩) (Nat.le_refl _) (.string ⟨#[]⟩)).setCell (p := ⟨w.heap.size, 2, none⟩) (Nat.le_refl _) (.int .i64 0)).setCell (p := ⟨w.heap.size, 3, none⟩) (Nat.le_refl _) (.int .i64 0)
          obtain ⟨W5, hW⟩ : ∃ W5, W5 = ((((w2.setCell ⟨w.heap.size, 0, none⟩ (.int .i64 0)).setCell ⟨w.heap.size, 1, none⟩ (.string ⟨#[]⟩)).setCell ⟨w.heap.size, 2, none⟩ (.int .i64 0)).setCell ⟨w.heap.size, 3, none⟩ (.int .i64 0)) := ⟨_, rfl⟩
          rw [← hW] at hz5 hB5 ⊢
          clear hW
          obtain ⟨k0, k1, k2, k3, kf, kl⟩ := open4 hz5
          refine bodyPost_ret (v := .tuple #[.agg #[.int .i64 0, .string ⟨#[]⟩, .int .i64 0, .int .i64 0], .int .i64 11]) (by simp [results, Tryz.results19, go_sem, k0, k1, k2, k3]) rfl ?_
          rw [HV.out]
          exact ⟨rfl, hB5⟩
        · have d18 : decide ((18 : Int) < (m : Int)) = false := decide_eq_false (by omega)
          by_cases h1 : 1 < m ∧ (b.toNat : Int) = 48
          · rw [hwe 11 (by rw [if_pos (.inr h1)])] at hV
            have HV := Lib.hid hV
            have d1 : decide ((1 : Int) < (m : Int)) = true := decide_eq_true (by omega)
            have d48 : (((s[a]'ha).toNat : Int) == 48) = true := by rw [HAT.out, h1.2]; rfl
            clear hV hwd hwe htl hds h1
            obtain ⟨hbF, hbT, hBF⟩ := HF.out
            obtain ⟨x0, x1, x2, x3, xf, xl⟩ := open4 hbF
            obtain ⟨y0, y1, y2, y3, yf, yl⟩ := open4 hbT
            clear hbF hbT hBF
            go_wp2
            obtain ⟨hbF, hbT, hBF⟩ := HF.out
            clear x0 x1 x2 x3 xf xl y0 y1 y2 y3 yf yl HF
            have hz5 := set4 (u0 := .int .i64 0) (u1 := .string ⟨#[]⟩) (u2 := .int .i64 0) (u3 := .int .i64 0) hbF
            have hB5 := (((hBF.setCell (p := ⟨w.heap.size, 0, none⟩) (Nat.le_refl _) (.int .i64 0)).setCell (p := ⟨w.heap.size, 1, none⟩) (Nat.le_refl _) (.string ⟨#[]⟩)).setCell (p := ⟨w.heap.size, 2, none⟩) (Nat.le_refl _) (.int .i64 0)).setCell (p := ⟨w.heap.size, 3, none⟩) (Nat.le_refl _) (.int .i64 0)
            obtain ⟨W5, hW⟩ : ∃ W5, W5 = ((((w2.setCell ⟨w.heap.size, 0, none⟩ (.int .i64 0)).setCell ⟨w.heap.size, 1, none⟩ (.string ⟨#[]⟩)).setCell ⟨w.heap.size, 2, none⟩ (.int .i64 0)).setCell ⟨w.heap.size, 3, none⟩ (.int .i64 0)) := ⟨_, rfl⟩
            rw [← hW] at hz5 hB5 ⊢
            clear hW
            obtain ⟨k0, k1, k2, k3, kf, kl⟩ := open4 hz5
            refine bodyPost_ret (v := .tuple #[.agg #[.int .i64 0, .string ⟨#[]⟩, .int .i64 0, .int .i64 0], .int .i64 11]) (by simp [results, Tryz.results19, go_sem, k0, k1, k2, k3]) rfl ?_
            rw [HV.out]
            exact ⟨rfl, hB5⟩
          · have hno : ¬ (18 < m ∨ (1 < m ∧ (b.toNat : Int) = 48)) := fun h => h.elim h18 h1
            rw [hwd _ (by rw [if_neg hno]), ← htl] at hV
            have hV : V = .tuple #[.agg #[.int .i64 3, .string (s.extract a (a + m)), .int .i64 ((Lib.atoi (s.extract a (a + m)).data.toList).getD 0), .int .i64 (a : Int)], .int .i64 0] := hV
            have hN := number_calls (s.extract a (a + m)) (by rw [ByteArray.size_extract]; omega) (by rw [ByteArray.size_extract]; omega) hds
            obtain ⟨Z, hZ⟩ : ∃ Z, Z = (Lib.atoi (s.extract a (a + m)).data.toList).getD 0 := ⟨_, rfl⟩
            rw [← hZ] at hV hN
            have HV := Lib.hid hV
            have HN := Lib.hid hN
            clear hN hZ
            have hesz : (s.extract a (a + m)).size = m := by rw [ByteArray.size_extract]; omega
            clear hV hwd hwe htl hds hno hesz
            have hw : ∀ (hcase : 1 < m → ¬ (b.toNat : Int) = 48), True := fun _ => trivial
            clear hw
            by_cases h11 : 1 < m
            · have d1 : decide ((1 : Int) < (m : Int)) = true := decide_eq_true (by omega)
              have d48 : (((s[a]'ha).toNat : Int) == 48) = false := by rw [HAT.out]; simpa using fun h => h1 ⟨h11, h⟩
              clear h1
              obtain ⟨hbF, hbT, hBF⟩ := HF.out
              obtain ⟨x0, x1, x2, x3, xf, xl⟩ := open4 hbF
              obtain ⟨y0, y1, y2, y3, yf, yl⟩ := open4 hbT
              clear hbF hbT hBF
              go_wp2_with fail
              refine (HN.out _).mono ?_
              rintro e w4 ⟨rfl, hB4⟩
              obtain ⟨hbF, hbT, hBF⟩ := HF.out
              have hbT3 := blk_put hbT 0 (.int .i64 3) rfl
              have hbF3 := blk_far hbF (p := ⟨w1.heap.size, 0, none⟩) (by show w.heap.size ≠ w1.heap.size; omega) (.int .i64 3)
              have hBF3 := hBF.setCell (p := ⟨w1.heap.size, 0, none⟩) (Nat.le_of_lt hs1) (.int .i64 3)
              have hbF4 := blk_below hbF3 hB4
              have hbT4 := blk_below hbT3 hB4
              have hBF4 := below_step hBF3 hB4
              clear x0 x1 x2 x3 xf xl y0 y1 y2 y3 yf yl hbF hbT hBF hbT3 hbF3 hBF3 hB4 HF
              obtain ⟨x0, x1, x2, x3, xf, xl⟩ := open4 hbF4
              obtain ⟨y0, y1, y2, y3, yf, yl⟩ := open4 hbT4
              have HF := Lib.hid (And.intro hbF4 (And.intro hbT4 hBF4))
              clear hbF4 hbT4 hBF4
              go_wp2
              obtain ⟨hbF0, hbT, hBF0⟩ := HF.out
              have hbF := blk_far hbF0 (p := ⟨w1.heap.size, 2, none⟩) (by show w.heap.size ≠ w1.heap.size; omega) (.int .i64 Z)
              have hBF := hBF0.setCell (p := ⟨w1.heap.size, 2, none⟩) (Nat.le_of_lt hs1) (.int .i64 Z)
              clear x0 x1 x2 x3 xf xl y0 y1 y2 y3 yf yl HF hbF0 hBF0
              have hz5 := set4 (u0 := .int .i64 3) (u1 := .string (s.extract a (a + m))) (u2 := .int .i64 Z) (u3 := .int .i64 (a : Int)) hbF
              have hB5 := (((hBF.setCell (p := ⟨w.heap.size, 0, none⟩) (Nat.le_refl _) (.int .i64 3)).setCell (p := ⟨w.heap.size, 1, none⟩) (Nat.le_refl _) (.string (s.extract a (a + m)))).setCell (p := ⟨w.heap.size, 2, none⟩) (Nat.le_refl _) (.int .i64 Z)).setCell (p := ⟨w.heap.size, 3, none⟩) (Nat.le_refl _) (.int .i64 (a : Int))
              obtain ⟨W5, hW⟩ : ∃ W5, W5 = (((((w4.setCell ⟨w1.heap.size, 2, none⟩ (.int .i64 Z)).setCell ⟨w.heap.size, 0, none⟩ (.int .i64 3)).setCell ⟨w.heap.size, 1, none⟩ (.string (s.extract a (a + m)))).setCell ⟨w.heap.size, 2, none⟩ (.int .i64 Z)).setCell ⟨w.heap.size, 3, none⟩ (.int .i64 (a : Int))) := ⟨_, rfl⟩
              rw [← hW] at hz5 hB5 ⊢
              clear hW
              obtain ⟨k0, k1, k2, k3, kf, kl⟩ := open4 hz5
              refine bodyPost_ret (v := .tuple #[.agg #[.int .i64 3, .string (s.extract a (a + m)), .int .i64 Z, .int .i64 (a : Int)], .int .i64 0]) (by simp [results, Tryz.results19, go_sem, k0, k1, k2, k3]) rfl ?_
              rw [HV.out]
              exact ⟨rfl, hB5⟩
            · have d1 : decide ((1 : Int) < (m : Int)) = false := decide_eq_false (by omega)
              clear h1
              obtain ⟨hbF, hbT, hBF⟩ := HF.out
              obtain ⟨x0, x1, x2, x3, xf, xl⟩ := open4 hbF
              obtain ⟨y0, y1, y2, y3, yf, yl⟩ := open4 hbT
              clear hbF hbT hBF
              go_wp2_with fail
              refine (HN.out _).mono ?_
              rintro e w4 ⟨rfl, hB4⟩
              obtain ⟨hbF, hbT, hBF⟩ := HF.out
              have hbT3 := blk_put hbT 0 (.int .i64 3) rfl
              have hbF3 := blk_far hbF (p := ⟨w1.heap.size, 0, none⟩) (by show w.heap.size ≠ w1.heap.size; omega) (.int .i64 3)
              have hBF3 := hBF.setCell (p := ⟨w1.heap.size, 0, none⟩) (Nat.le_of_lt hs1) (.int .i64 3)
              have hbF4 := blk_below hbF3 hB4
              have hbT4 := blk_below hbT3 hB4
              have hBF4 := below_step hBF3 hB4
              clear x0 x1 x2 x3 xf xl y0 y1 y2 y3 yf yl hbF hbT hBF hbT3 hbF3 hBF3 hB4 HF
              obtain ⟨x0, x1, x2, x3, xf, xl⟩ := open4 hbF4
              obtain ⟨y0, y1, y2, y3, yf, yl⟩ := open4 hbT4
              have HF := Lib.hid (And.intro hbF4 (And.intro hbT4 hBF4))
              clear hbF4 hbT4 hBF4
              go_wp2
              obtain ⟨hbF0, hbT, hBF0⟩ := HF.out
              have hbF := blk_far hbF0 (p := ⟨w1.heap.size, 2, none⟩) (by show w.heap.size ≠ w1.heap.size; omega) (.int .i64 Z)
              have hBF := hBF0.setCell (p := ⟨w1.heap.size, 2, none⟩) (Nat.le_of_lt hs1) (.int .i64 Z)
              clear x0 x1 x2 x3 xf xl y0 y1 y2 y3 yf yl HF hbF0 hBF0
              have hz5 := set4 (u0 := .int .i64 3) (u1 := .string (s.extract a (a + m))) (u2 := .int .i64 Z) (u3 := .int .i64 (a : Int)) hbF
              have hB5 := (((hBF.setCell (p := ⟨w.heap.size, 0, none⟩) (Nat.le_refl _) (.int .i64 3)).setCell (p := ⟨w.heap.size, 1, none⟩) (Nat.le_refl _) (.string (s.extract a (a + m)))).setCell (p := ⟨w.heap.size, 2, none⟩) (Nat.le_refl _) (.int .i64 Z)).setCell (p := ⟨w.heap.size, 3, none⟩) (Nat.le_refl _) (.int .i64 (a : Int))
              obtain ⟨W5, hW⟩ : ∃ W5, W5 = (((((w4.setCell ⟨w1.heap.size, 2, none⟩ (.int .i64 Z)).setCell ⟨w.heap.size, 0, none⟩ (.int .i64 3)).setCell ⟨w.heap.size, 1, none⟩ (.string (s.extract a (a + m)))).setCell ⟨w.heap.size, 2, none⟩ (.int .i64 Z)).setCell ⟨w.heap.size, 3, none⟩ (.int .i64 (a : Int))) := ⟨_, rfl⟩
              rw [← hW] at hz5 hB5 ⊢
              clear hW
              obtain ⟨k0, k1, k2, k3, kf, kl⟩ := open4 hz5
              refine bodyPost_ret (v := .tuple #[.agg #[.int .i64 3, .string (s.extract a (a + m)), .int .i64 Z, .int .i64 (a : Int)], .int .i64 0]) (by simp [results, Tryz.results19, go_sem, k0, k1, k2, k3]) rfl ?_
              rw [HV.out]
              exact ⟨rfl, hB5⟩
    · have hdg' : digI (b.toNat : Int) = false := by simpa using hdg
      have hck := hcd.2 hdg'
      rw [if_neg hdg] at hwd hwe
      obtain ⟨C, hC⟩ : ∃ C, C = cls (b.toNat : Int) := ⟨_, rfl⟩
      rw [← hC] at hck ⊢
      have nC : (C == 3) = false := by rw [hck]; split <;> rfl
      clear hcd hC hbig HX hdg'
      by_cases h16 : 16 < m
      · rw [hwe 11 (by rw [if_pos h16])] at hV
        have HV := Lib.hid hV
        have d16 : decide ((16 : Int) < (m : Int)) = true := decide_eq_true (by omega)
        clear hV hwd hwe htl hck hdg
        obtain ⟨hbF, hbT, hBF⟩ := HF.out
        obtain ⟨x0, x1, x2, x3, xf, xl⟩ := open4 hbF
        obtain ⟨y0, y1, y2, y3, yf, yl⟩ := open4 hbT
        clear hbF hbT hBF
        go_wp2
        obtain ⟨hbF, hbT, hBF⟩ := HF.out
        clear x0 x1 x2 x3 xf xl y0 y1 y2 y3 yf yl HF
        have hz5 := set4 (u0 := .int .i64 0) (u1 := .string ⟨#[]⟩) (u2 := .int .i64 0) (u3 := .int .i64 0) hbF
        have hB5 := (((hBF.setCell (p := ⟨w.heap.size, 0, none⟩) (Nat.le_refl _) (.int .i64 0)).setCell (p := ⟨w.heap.size, 1, none⟩) (Nat.le_refl _) (.string ⟨#[]⟩)).setCell (p := ⟨w.heap.size, 2, none⟩) (Nat.le_refl _) (.int .i64 0)).setCell (p := ⟨w.heap.size, 3, none⟩) (Nat.le_refl _) (.int .i64 0)
        obtain ⟨W5, hW⟩ : ∃ W5, W5 = ((((w2.setCell ⟨w.heap.size, 0, none⟩ (.int .i64 0)).setCell ⟨w.heap.size, 1, none⟩ (.string ⟨#[]⟩)).setCell ⟨w.heap.size, 2, none⟩ (.int .i64 0)).setCell ⟨w.heap.size, 3, none⟩ (.int .i64 0)) := ⟨_, rfl⟩
        rw [← hW] at hz5 hB5 ⊢
        clear hW
        obtain ⟨k0, k1, k2, k3, kf, kl⟩ := open4 hz5
        refine bodyPost_ret (v := .tuple #[.agg #[.int .i64 0, .string ⟨#[]⟩, .int .i64 0, .int .i64 0], .int .i64 11]) (by simp [results, Tryz.results19, go_sem, k0, k1, k2, k3]) rfl ?_
        rw [HV.out]
        exact ⟨rfl, hB5⟩
      · have d16 : decide ((16 : Int) < (m : Int)) = false := decide_eq_false (by omega)
        rw [if_neg h16] at hwd hwe
        have HW := Lib.hid (RWord_calls (s.extract a (a + m)))
        have HC := Lib.hid hck
        clear hck hdg
        obtain ⟨hbF, hbT, hBF⟩ := HF.out
        obtain ⟨x0, x1, x2, x3, xf, xl⟩ := open4 hbF
        obtain ⟨y0, y1, y2, y3, yf, yl⟩ := open4 hbT
        clear hbF hbT hBF
        by_cases hwb : wordsL.contains L = true
        · rw [hwd _ (by rw [if_pos hwb])] at hV
          have HV := Lib.hid hV
          have HWB := Lib.hid hwb
          clear hV hwd hwe hwb
          go_wp2_with fail
          refine (HW.out _).mono ?_
          rintro e w4 ⟨rfl, hB4⟩
          rw [htl, HWB.out]
          obtain ⟨hbF, hbT, hBF⟩ := HF.out
          have hbT3 := blk_put hbT 0 (.int .i64 C) rfl
          have hbF3 := blk_far hbF (p := ⟨w1.heap.size, 0, none⟩) (by show w.heap.size ≠ w1.heap.size; omega) (.int .i64 C)
          have hBF3 := hBF.setCell (p := ⟨w1.heap.size, 0, none⟩) (Nat.le_of_lt hs1) (.int .i64 C)
          have hbF4 := blk_below hbF3 hB4
          have hbT4 := blk_below hbT3 hB4
          have hBF4 := below_step hBF3 hB4
          clear x0 x1 x2 x3 xf xl y0 y1 y2 y3 yf yl hbF hbT hBF hbT3 hbF3 hBF3 hB4 HF htl
          obtain ⟨x0, x1, x2, x3, xf, xl⟩ := open4 hbF4
          obtain ⟨y0, y1, y2, y3, yf, yl⟩ := open4 hbT4
          have HF := Lib.hid (And.intro hbF4 (And.intro hbT4 hBF4))
          clear hbF4 hbT4 hBF4
          go_wp2
          obtain ⟨hbF0, hbT, hBF0⟩ := HF.out
          have hbF := blk_far hbF0 (p := ⟨w1.heap.size, 0, none⟩) (by show w.heap.size ≠ w1.heap.size; omega) (.int .i64 4)
          have hBF := hBF0.setCell (p := ⟨w1.heap.size, 0, none⟩) (Nat.le_of_lt hs1) (.int .i64 4)
          clear x0 x1 x2 x3 xf xl y0 y1 y2 y3 yf yl HF hbF0 hBF0
          have hz5 := set4 (u0 := .int .i64 4) (u1 := .string (s.extract a (a + m))) (u2 := .int .i64 0) (u3 := .int .i64 (a : Int)) hbF
          have hB5 := (((hBF.setCell (p := ⟨w.heap.size, 0, none⟩) (Nat.le_refl _) (.int .i64 4)).setCell (p := ⟨w.heap.size, 1, none⟩) (Nat.le_refl _) (.string (s.extract a (a + m)))).setCell (p := ⟨w.heap.size, 2, none⟩) (Nat.le_refl _) (.int .i64 0)).setCell (p := ⟨w.heap.size, 3, none⟩) (Nat.le_refl _) (.int .i64 (a : Int))
          obtain ⟨W5, hW⟩ : ∃ W5, W5 = (((((w4.setCell ⟨w1.heap.size, 0, none⟩ (.int .i64 4)).setCell ⟨w.heap.size, 0, none⟩ (.int .i64 4)).setCell ⟨w.heap.size, 1, none⟩ (.string (s.extract a (a + m)))).setCell ⟨w.heap.size, 2, none⟩ (.int .i64 0)).setCell ⟨w.heap.size, 3, none⟩ (.int .i64 (a : Int))) := ⟨_, rfl⟩
          rw [← hW] at hz5 hB5 ⊢
          clear hW
          obtain ⟨k0, k1, k2, k3, kf, kl⟩ := open4 hz5
          refine bodyPost_ret (v := .tuple #[.agg #[.int .i64 4, .string (s.extract a (a + m)), .int .i64 0, .int .i64 (a : Int)], .int .i64 0]) (by simp [results, Tryz.results19, go_sem, k0, k1, k2, k3]) rfl ?_
          rw [HV.out]
          exact ⟨rfl, hB5⟩
        · have hwb' : wordsL.contains L = false := by simpa using hwb
          rw [if_neg hwb] at hwd hwe
          have hV2 : V = .tuple #[.agg #[.int .i64 C, .string (s.extract a (a + m)), .int .i64 0, .int .i64 (a : Int)], .int .i64 0] := by
            rw [HC.out, hV]
            by_cases hu : upI (b.toNat : Int) = true
            · rw [hwd _ (by rw [if_pos hu]), if_pos hu]
            · rw [hwd _ (by rw [if_neg hu]), if_neg hu]
          have HV := Lib.hid hV2
          have HWB := Lib.hid hwb'
          clear hV hwd hwe hwb hwb' hV2 HC
          go_wp2_with fail
          refine (HW.out _).mono ?_
          rintro e w4 ⟨rfl, hB4⟩
          rw [htl, HWB.out]
          obtain ⟨hbF, hbT, hBF⟩ := HF.out
          have hbT3 := blk_put hbT 0 (.int .i64 C) rfl
          have hbF3 := blk_far hbF (p := ⟨w1.heap.size, 0, none⟩) (by show w.heap.size ≠ w1.heap.size; omega) (.int .i64 C)
          have hBF3 := hBF.setCell (p := ⟨w1.heap.size, 0, none⟩) (Nat.le_of_lt hs1) (.int .i64 C)
          have hbF4 := blk_below hbF3 hB4
          have hbT4 := blk_below hbT3 hB4
          have hBF4 := below_step hBF3 hB4
          clear x0 x1 x2 x3 xf xl y0 y1 y2 y3 yf yl hbF hbT hBF hbT3 hbF3 hBF3 hB4 HF htl
          obtain ⟨x0, x1, x2, x3, xf, xl⟩ := open4 hbF4
          obtain ⟨y0, y1, y2, y3, yf, yl⟩ := open4 hbT4
          have HF := Lib.hid (And.intro hbF4 (And.intro hbT4 hBF4))
          clear hbF4 hbT4 hBF4
          go_wp2
          obtain ⟨hbF, hbT, hBF⟩ := HF.out
          clear x0 x1 x2 x3 xf xl y0 y1 y2 y3 yf yl HF
          have hz5 := set4 (u0 := .int .i64 C) (u1 := .string (s.extract a (a + m))) (u2 := .int .i64 0) (u3 := .int .i64 (a : Int)) hbF
          have hB5 := (((hBF.setCell (p := ⟨w.heap.size, 0, none⟩) (Nat.le_refl _) (.int .i64 C)).setCell (p := ⟨w.heap.size, 1, none⟩) (Nat.le_refl _) (.string (s.extract a (a + m)))).setCell (p := ⟨w.heap.size, 2, none⟩) (Nat.le_refl _) (.int .i64 0)).setCell (p := ⟨w.heap.size, 3, none⟩) (Nat.le_refl _) (.int .i64 (a : Int))
          obtain ⟨W5, hW⟩ : ∃ W5, W5 = ((((w4.setCell ⟨w.heap.size, 0, none⟩ (.int .i64 C)).setCell ⟨w.heap.size, 1, none⟩ (.string (s.extract a (a + m)))).setCell ⟨w.heap.size, 2, none⟩ (.int .i64 0)).setCell ⟨w.heap.size, 3, none⟩ (.int .i64 (a : Int))) := ⟨_, rfl⟩
          rw [← hW] at hz5 hB5 ⊢
          clear hW
          obtain ⟨k0, k1, k2, k3, kf, kl⟩ := open4 hz5
          refine bodyPost_ret (v := .tuple #[.agg #[.int .i64 C, .string (s.extract a (a + m)), .int .i64 0, .int .i64 (a : Int)], .int .i64 0]) (by simp [results, Tryz.results19, go_sem, k0, k1, k2, k3]) rfl ?_
          rw [HV.out]
          exact ⟨rfl, hB5⟩
end Go.Proofs.YtajcnjdinmgpjaaGreatDoor.X
/- The reference's words: the walk of All. -/
namespace Go.Proofs.YtajcnjdinmgpjaaGreatDoor.X
open Go.RowKit Go.Proofs.YtajcnjdinmgpjaaGreatDoorW.PrintWords Go.Proofs.YtajcnjdinmgpjaaGreatDoorW.PrintLast Go.Proofs.YtajcnjdinmgpjaaGreatDoorW.PrintMore Go.Proofs.YtajcnjdinmgpjaaGreatDoor.P
theorem rest_list (s : ByteArray) (a : Nat) : (rest (s.extract a s.size)).data.toList = (s.data.toList.drop a).dropWhile isBlank := by
  unfold rest
  rw [extract_list]
  rfl
theorem skip_list (s : ByteArray) (a : Nat) : skip s a = s.size - ((s.data.toList.drop a).dropWhile isBlank).length := by
  unfold skip
  rw [← rest_list]
  rfl
theorem skip_blank (s : ByteArray) (a : Nat) (b : UInt8) (h : s.data.toList.drop a = b :: s.data.toList.drop (a + 1)) (hb : isBlank b = true) : skip s a = skip s (a + 1) := by
  rw [skip_list, skip_list, h, List.dropWhile_cons, if_pos hb]
theorem skip_here (s : ByteArray) (a : Nat) (ha : a ≤ s.size) (b : UInt8) (h : s.data.toList.drop a = b :: s.data.toList.drop (a + 1)) (hb : isBlank b = false) : skip s a = a := by
  rw [skip_list, h, List.dropWhile_cons, if_neg (by rw [hb]; decide), ← h, List.length_drop]
  have : s.data.toList.length = s.size := rfl
  omega
theorem skip_end (s : ByteArray) : skip s s.size = s.size := by
  rw [skip_list, List.drop_eq_nil_of_le (show s.data.toList.length ≤ s.size from Nat.le_refl _)]
  simp
theorem lexLoop_blank (s : ByteArray) (a : Nat) (b : UInt8) (h : s.data.toList.drop a = b :: s.data.toList.drop (a + 1)) (hb : isBlank b = true) (m : Nat) (xs : List Tok) : lexLoop s m a xs = lexLoop s m (a + 1) xs := by
  cases m with
  | zero => rfl
  | succ m =>
    unfold lexLoop
    rw [skip_blank s a b h hb]
theorem cls_blank (b : UInt8) : cls (b.toNat : Int) = 4 ↔ isBlank b = true := by
  have : isBlank b = true ↔ (b.toNat = 32 ∨ b.toNat = 10 ∨ b.toNat = 9) := by
    unfold isBlank blanks
    simp only [List.contains_cons, List.contains_nil, Bool.or_false, Bool.or_eq_true, beq_iff_eq]
    rw [← UInt8.toNat_inj, ← UInt8.toNat_inj, ← UInt8.toNat_inj]
    rfl
  rw [this]
  unfold cls lowI upI digI
  simp
  split <;> (try split) <;> (try split) <;> (try split) <;> omega
theorem NK_empty (W : World) (lo : Nat) (h : lo ≤ W.heap.size) : NK (W.alloc (.cells #[] 46)) lo (.slice (some ⟨W.heap.size, 0, none⟩) 0 0) [] := by
  refine Kd.R_N ⟨fun k hk => ?_, [], ?_, Reps.none _ _⟩
  · have : W.heap.size = k := by simpa [Value.ownBlock] using hk
    show lo ≤ k
    omega
  · have h2 := World.ownsRow_lit (base := lo) (e := 46) (size := 4) W #[] 0 h (by simp) (by simp)
    have h3 : (W.alloc (.cells #[] 46)).ownsRow lo 46 4 (.slice (some ⟨W.heap.size, 0, none⟩) 0 0) 0 [] := by simpa using h2
    exact h3
def RAt (s : ByteArray) (fin : Except (Nat × Int) (List Tok)) (w : World) (gf : Nat) (wx : World) (a : Nat) (V : Value) : Prop :=
  ∃ xs m, lexLoop s m a xs = fin ∧ a ≤ s.size ∧ s.size < a + m ∧ s.size < a + gf ∧ xs.length ≤ a ∧ NK wx w.heap.size V xs ∧ Below w.heap.size w wx
/-- one token more -/
theorem refNext {w w2 w5 : World} {V : Value} {A1 : Option Addr} {c1 : Nat} {xs ps : List Tok} {t0 t2 t3 : Int} {t1 : ByteArray}
    (H : NK w2 w.heap.size V xs ∧ Below w.heap.size w w2)
    (hg5 : (w2.alloc (.cells #[.int .i64 t0, .string t1, .int .i64 t2, .int .i64 t3] 46)).grownBy w5 V.ownBlock) (hN5 : NK w5 w.heap.size (.slice A1 (xs.length + 1) c1) ps) :
    w5.cell? ⟨w2.heap.size, 1, none⟩ = some (.string t1) ∧ NK w5 w.heap.size (.slice A1 (xs.length + 1) c1) ps ∧ Below w.heap.size w w5 := by
  obtain ⟨hN, hB⟩ := H
  have own : ∀ k, V.ownBlock = some k → w.heap.size ≤ k ∧ k < w2.heap.size := fun k hk => ⟨hN.1 k hk, Kd.N_lt hN k hk⟩
  have bt := blk_grown (blk_new w2 _) hg5 (fun e => by have := own _ e.symm; omega)
  have hB5 := (hB.alloc hB.size (.cells #[.int .i64 t0, .string t1, .int .i64 t2, .int .i64 t3] 46)).grown hg5 (by simp; have := hB.size; omega) (fun k hk => (own k hk).1)
  exact ⟨cz bt 1 rfl, hN5, hB5⟩
theorem oneV_ok {s : ByteArray} {a : Nat} (hpos : 0 < (s.extract a s.size).size) {t : Tok} (h : lexFirst (s.extract a s.size) = .ok t) : oneV s a = .tuple #[.agg #[.int .i64 t.f0, .string t.f1, .int .i64 t.f2, .int .i64 (a : Int)], .int .i64 0] := by
  rw [lexFirst_spec _ hpos, extract_list] at h
  unfold oneV
  cases hs : specF (s.data.toList.drop a) with
  | error c => rw [hs] at h; cases h
  | ok p =>
    obtain ⟨k, m, n⟩ := p
    rw [hs] at h
    injection h with h
    subst h
    have : s.extract a (a + m) = (s.extract a s.size).extract 0 m := bytes_ext (by rw [sub_list, take_list, extract_list])
    show Value.tuple #[.agg #[.int .i64 k, .string (s.extract a (a + m)), .int .i64 n, .int .i64 (a : Int)], .int .i64 0] = _
    rw [this]
theorem oneV_err {s : ByteArray} {a : Nat} (hpos : 0 < (s.extract a s.size).size) {c : Int} (h : lexFirst (s.extract a s.size) = .error c) : oneV s a = .tuple #[.agg #[.int .i64 0, .string ⟨#[]⟩, .int .i64 0, .int .i64 0], .int .i64 c] := by
  rw [lexFirst_spec _ hpos, extract_list] at h
  unfold oneV
  cases hs : specF (s.data.toList.drop a) with
  | error c' => rw [hs] at h; cases h; rfl
  | ok p => obtain ⟨k, m, n⟩ := p; rw [hs] at h; cases h
set_option maxRecDepth 100000 in
set_option maxHeartbeats 4000000 in
theorem RAll_calls (s : ByteArray) (hs : s.size ≤ 1000000000) (w : World) : Calls Tryz.prog 8 #[.string s] w (ARel w (lexAll s)) := by
  obtain ⟨R, hR⟩ : ∃ R, R = lexAll s := ⟨_, rfl⟩
  rw [← hR]
  unfold lexAll at hR
  have HR := Lib.hid hR
  clear hR
  go_enter Tryz.func8, Tryz.ntmps8
  go_wp2_with fail
  have hst : RAt s R w (s.size + 1) (w.alloc (.cells #[] 46)) 0 (.slice (some ⟨w.heap.size, 0, none⟩) 0 0) :=
    ⟨[], s.size + 1, HR.out.symm, by omega, by omega, by omega, by simp, NK_empty w _ (Nat.le_refl _), below_alloc (Below.refl _ _) _⟩
  have HS := Lib.hid hst
  clear hst
  go_loopg [5, 6] (s.size + 1) (fun gf v5 v6 wx => ∃ a : Nat, v6 = .int .i64 (a : Int) ∧ RAt s R w gf wx a v5)
  case atStart => exact ⟨0, rfl, HS.out⟩
  case round =>
    obtain ⟨a, rfl, xs, m, hf, ha, hm, hg, hx, hN, hB⟩ := hrel
    clear HS HR
    obtain ⟨g', rfl⟩ : ∃ g', gk = g' + 1 := ⟨gk - 1, by omega⟩
    obtain ⟨m', rfl⟩ : ∃ m', m = m' + 1 := ⟨m - 1, by omega⟩
    obtain ⟨A, cc, rfl⟩ := Kd.N_slice hN
    by_cases hlt : a < s.size
    · obtain ⟨b, hbd, hbt⟩ := bt_drop s a hlt
      have hat : ((s[a]'hlt).toNat : Int) = (b.toNat : Int) := by
        have := bt_at s (a : Int) (by simpa using hlt)
        rw [hbt] at this
        exact this
      have HAT := Lib.hid hat
      have HBD := Lib.hid hbd
      have HN := Lib.hid (And.intro hN hB)
      clear hat hbt hbd hN hB
      by_cases hbl : isBlank b = true
      · have hc := (cls_blank b).2 hbl
        rw [lexLoop_blank s a b HBD.out hbl] at hf
        have HF := Lib.hid hf
        have HC := Lib.hid hc
        clear hf hc hbl
        go_wp2_with fail
        rw [HAT.out]
        refine (class_calls _ _).mono ?_
        rintro e w1 ⟨rfl, hB1⟩
        rw [HC.out]
        go_wp2_with fail
        go_roundg g'
        case measure => omega
        case rel => exact ⟨a + 1, by go_num, xs, m' + 1, HF.out, by omega, by omega, by omega, by omega, Kd.N_below HN.out.1 hB1, below_step HN.out.2 hB1⟩
      · have hbl' : isBlank b = false := by simpa using hbl
        have hc : (cls (b.toNat : Int) == 4) = false := by simpa using fun h => hbl ((cls_blank b).1 h)
        unfold lexLoop at hf
        rw [skip_here s a ha b HBD.out hbl', if_neg (by omega)] at hf
        have hpos : 0 < (s.extract a s.size).size := by rw [extract_size s a ha]; omega
        have HO := ROne_calls s a hs hlt
        cases hfi : lexFirst (s.extract a s.size) with
        | error c =>
          have hce := lexFirst_err hfi
          rw [hfi] at hf
          rw [oneV_err hpos hfi] at HO
          have HO' := Lib.hid HO
          have HF := Lib.hid hf
          have nc : (c == 0) = false := by rcases hce with rfl | rfl <;> rfl
          clear hf HO hfi hpos hbl hbl' hce HBD
          go_wp2_with fail
          rw [HAT.out]
          refine (class_calls _ _).mono ?_
          rintro e w1 ⟨rfl, hB1⟩
          obtain ⟨K, hK⟩ : ∃ K, K = cls (b.toNat : Int) := ⟨_, rfl⟩
          rw [← hK] at hc ⊢
          clear hK
          go_wp2_with fail
          refine (HO'.out _).mono ?_
          rintro e w2 ⟨rfl, hB2⟩
          have hBB := below_step (below_step HN.out.2 hB1) hB2
          have hB3 := hBB.alloc hBB.size (.cells #[.int .i64 0, .string ⟨#[]⟩, .int .i64 0, .int .i64 0] 46)
          have HB3 := Lib.hid hB3
          clear hBB hB3 hB1 hB2
          go_wp2
          refine bodyPost_ret (v := .tuple #[.slice none 0 0, .int .i64 (a : Int), .int .i64 c]) (by simp [results, Tryz.results8, go_sem]) rfl ?_
          rw [← HF.out]
          exact ⟨rfl, HB3.out⟩
        | ok t =>
          rw [hfi] at hf
          rw [oneV_ok hpos hfi] at HO
          have hts := lexFirst_size hpos hfi
          rw [extract_size s a ha] at hts
          have HO' := Lib.hid HO
          have HF := Lib.hid hf
          clear hf HO hfi hpos hbl hbl' HBD
          go_wp2_with fail
          rw [HAT.out]
          refine (class_calls _ _).mono ?_
          rintro e w1 ⟨rfl, hB1⟩
          obtain ⟨K, hK⟩ : ∃ K, K = cls (b.toNat : Int) := ⟨_, rfl⟩
          rw [← hK] at hc ⊢
          clear hK
          go_wp2_with fail
          refine (HO'.out _).mono ?_
          rintro e w2 ⟨rfl, hB2⟩
          have hN2 := Kd.N_below (Kd.N_below HN.out.1 hB1) hB2
          have hBB := below_step (below_step HN.out.2 hB1) hB2
          have hsz := hBB.size
          have HNB := Lib.hid (And.intro hN2 hBB)
          clear hN2 hBB hB1 hB2 HN HO'
          go_wp2_with (at_builtin; refine TK_append (W := w2.alloc (.cells #[.int .i64 t.f0, .string t.f1, .int .i64 t.f2, .int .i64 (a : Int)] 46)) w.heap.size (w2.heap.size + 1) (World.size_alloc _ _) rfl _ _ rfl Tryz.underlying30 infoTok (.slice A xs.length cc) xs ⟨t.f0, t.f1, t.f2, (a : Int)⟩ rfl rfl (Kd.N_alloc HNB.out.1 _) (by omega) (by omega) ?_; (intro A1 c1 w5 hN5 hg5); (obtain ⟨y1, FF⟩ := refNext HNB.out hg5 hN5); (have HFF := Lib.hid FF); (clear FF hg5 hN5 HNB))
          go_roundg g'
          case measure => omega
          case rel => exact ⟨a + t.f1.size, by go_num, xs ++ [⟨t.f0, t.f1, t.f2, (a : Int)⟩], m', HF.out, by omega, by omega, by omega, by simp; omega, HFF.out⟩
    · obtain rfl : a = s.size := by omega
      unfold lexLoop at hf
      rw [skip_end, if_pos rfl] at hf
      have HF := Lib.hid hf
      have HN := Lib.hid (And.intro hN hB)
      clear hf hN hB hlt
      go_wp2
      refine bodyPost_ret (v := .tuple #[.slice A xs.length cc, .int .i64 0, .int .i64 0]) (by simp [results, Tryz.results8, go_sem]) rfl ?_
      rw [← HF.out]
      exact ⟨A, cc, rfl, (Kd.N_reads' HN.out.1).2.1, (Kd.N_reads' HN.out.1).2.2, HN.out.2⟩
end Go.Proofs.YtajcnjdinmgpjaaGreatDoor.X
/- What comes behind is of no moment to where nothing goes on. -/
namespace Go.Proofs.YtajcnjdinmgpjaaGreatDoor.X
open Go.Proofs.YtajcnjdinmgpjaaGreatDoor.P
def PR.rest : PR → List Tok
  | .ok _ r => r
  | .fail r => r
def PR.add (m : List Tok) : PR → PR
  | .ok t r => .ok t (r ++ m)
  | .fail r => .fail (r ++ m)
set_option linter.unusedVariables false
variable {m : List Tok}
end Go.Proofs.YtajcnjdinmgpjaaGreatDoor.X
/- The words of a text that goes on, and of one that is cut. -/
namespace Go.Proofs.YtajcnjdinmgpjaaGreatDoor.X
open Go.Proofs.YtajcnjdinmgpjaaGreatDoor.P
theorem specF_size {l : List UInt8} {k v : Int} {n : Nat} (h : specF l = .ok (k, n, v)) : 0 < n ∧ n ≤ l.length := by
  unfold specF at h
  split at h
  · split at h
    · cases h
    · cases h
      exact ⟨by omega, sgn_le l⟩
  · rename_i hz
    cases hs : specW (l.take (wl l)) with
    | ok p => rw [hs] at h; obtain ⟨a, b⟩ := p; cases h; exact ⟨by omega, wl_le l⟩
    | error c => rw [hs] at h; cases h
theorem takeWhile_of {p : UInt8 → Bool} : ∀ (a b : List UInt8), (∀ x ∈ a, p x = true) → (∀ x, b.head? = some x → p x = false) → (a ++ b).takeWhile p = a
  | [], [], _, _ => rfl
  | [], y :: b, _, hb => by rw [List.nil_append, List.takeWhile_cons, if_neg (by rw [hb y rfl]; decide)]
  | x :: a, b, ha, hb => by
    rw [List.cons_append, List.takeWhile_cons, if_pos (ha x (by simp)), takeWhile_of a b (fun z hz => ha z (by simp [hz])) hb]
theorem head_drop_takeWhile {p : UInt8 → Bool} : ∀ (l : List UInt8) x, (l.drop (l.takeWhile p).length).head? = some x → p x = false
  | [], x, h => by simp at h
  | y :: l, x, h => by
    by_cases hy : p y = true
    · rw [List.takeWhile_cons, if_pos hy, List.length_cons, List.drop_succ_cons] at h
      exact head_drop_takeWhile l x h
    · rw [List.takeWhile_cons, if_neg hy] at h
      simp at h
      rw [← h]
      simpa using hy
def sep (c : UInt8) : Prop := wB c = false ∧ c ≠ 62 ∧ c ≠ 61
def Nx (n : Nat) (l l' : List UInt8) : Prop := (l'.drop n).head? = none ∨ (l'.drop n).head? = (l.drop n).head? ∨ ∃ c, (l'.drop n).head? = some c ∧ sep c
/-- The front token hangs on its own bytes, and a little on the next one. -/
theorem specF_same {l l' : List UInt8} {k v : Int} {n : Nat} (h : specF l = .ok (k, n, v)) (ht : l'.take n = l.take n) (hx : Nx n l l') : specF l' = .ok (k, n, v) := by
  have hsz := specF_size h
  have hh : h0 l' = h0 l := by
    have e1 := head_take (l := l') hsz.1
    have e2 := head_take (l := l) hsz.1
    rw [← e1, ht, e2]
  have hsplit : l' = l.take n ++ l'.drop n := by rw [← ht, List.take_append_drop]
  by_cases hz : wl l = 0
  · have hs : sgn l ≠ 0 := by
      intro e
      rw [specF_none hz e] at h
      cases h
    rw [specF_sign hz hs] at h
    cases h
    cases l with
    | nil => exact absurd rfl hs
    | cons b r =>
      have hb : wB b = false := by
        unfold wl at hz
        rw [List.takeWhile_cons] at hz
        by_cases hw : wB b = true
        · rw [if_pos hw] at hz; simp at hz
        · simpa using hw
      have hl' : ∃ r', l' = b :: r' := by
        cases l' with
        | nil =>
          have := congrArg List.length ht
          simp at this
          omega
        | cons c r' =>
          refine ⟨r', ?_⟩
          have e : (c :: r').take (sgn (b :: r)) = (b :: r).take (sgn (b :: r)) := ht
          obtain ⟨j, hj⟩ : ∃ j, sgn (b :: r) = j + 1 := ⟨sgn (b :: r) - 1, by omega⟩
          rw [hj] at e
          simp at e
          rw [e.1]
      obtain ⟨r', rfl⟩ := hl'
      have hz' : wl (b :: r') = 0 := by unfold wl; rw [List.takeWhile_cons, if_neg (by rw [hb]; decide)]; rfl
      have hsg : sgn (b :: r') = sgn (b :: r) := by
        show (if (b = 45 ∧ r'.head? = some 62) ∨ (b = 61 ∧ r'.head? = some 61) then 2 else if sg1L.contains b then 1 else 0) = sgn (b :: r)
        have he : sgn (b :: r) = if (b = 45 ∧ r.head? = some 62) ∨ (b = 61 ∧ r.head? = some 61) then 2 else if sg1L.contains b then 1 else 0 := rfl
        by_cases h2 : (b = 45 ∧ r.head? = some 62) ∨ (b = 61 ∧ r.head? = some 61)
        · have h2' := h2
          rw [if_pos h2] at he
          rw [he] at ht
          have hr : r'.head? = r.head? := by
            cases r with
            | nil => simp at h2
            | cons c q =>
              cases r' with
              | nil => simp at ht
              | cons c' q' => simp at ht; simp [ht]
          rw [hr, if_pos h2, he]
        · rw [if_neg h2] at he
          by_cases hc : sg1L.contains b = true
          · rw [if_pos hc] at he
            rw [he] at hx
            have h3 : ¬ ((b = 45 ∧ r'.head? = some 62) ∨ (b = 61 ∧ r'.head? = some 61)) := by
              rcases hx with hx | hx | ⟨c, hx, _, hc1, hc2⟩
              · have : r'.head? = none := hx
                rw [this]; simp
              · have : r'.head? = r.head? := hx
                rw [this]; exact h2
              · have : r'.head? = some c := hx
                rw [this]
                rintro (⟨_, e⟩ | ⟨_, e⟩)
                · exact hc1 (Option.some.inj e)
                · exact hc2 (Option.some.inj e)
            rw [if_neg h3, if_pos hc, he]
          · rw [if_neg hc] at he
            exact absurd he hs
      rw [specF_sign hz' (by rw [hsg]; exact hs), hsg]
  · cases hw : specW (l.take (wl l)) with
    | error c => rw [specF_werr hz hw] at h; cases h
    | ok p =>
      obtain ⟨a, b⟩ := p
      rw [specF_word hz hw] at h
      cases h
      have hnx : ∀ x, (l'.drop (wl l)).head? = some x → wB x = false := by
        intro x hx'
        rcases hx with hx | hx | ⟨c, hx, hc, _, _⟩
        · rw [hx] at hx'; cases hx'
        · rw [hx] at hx'
          exact head_drop_takeWhile l x hx'
        · rw [hx] at hx'; cases hx'; exact hc
      have hwl : wl l' = wl l := by
        have e : l'.takeWhile wB = l.take (wl l) := by
          rw [hsplit]
          exact takeWhile_of _ _ (takeWhile_all l) hnx
        unfold wl
        rw [e, List.length_take]
        exact Nat.min_eq_left (wl_le l)
      rw [← hwl] at hz hw ht
      rw [← hwl, specF_word hz (by rw [ht]; exact hw)]
/-! ### all tokens, on lists -/
def mkTok (k : Int) (x : List UInt8) (v : Int) (o : Nat) : Tok := ⟨k, ⟨x.toArray⟩, v, (o : Int)⟩
def LL : Nat → List UInt8 → Nat → Except (Nat × Int) (List Tok)
  | 0, _, _ => .ok []
  | m + 1, l, off =>
    if l.dropWhile isBlank = [] then .ok []
    else match specF (l.dropWhile isBlank) with
      | .error c => .error (off + (l.length - (l.dropWhile isBlank).length), c)
      | .ok (k, n, v) => match LL m ((l.dropWhile isBlank).drop n) (off + (l.length - (l.dropWhile isBlank).length) + n) with
        | .error e => .error e
        | .ok ts => .ok (mkTok k ((l.dropWhile isBlank).take n) v (off + (l.length - (l.dropWhile isBlank).length)) :: ts)
theorem dw_le (l : List UInt8) : (l.dropWhile isBlank).length ≤ l.length := (List.dropWhile_suffix _).length_le
theorem lexLoop_LL (s : ByteArray) : ∀ (m a : Nat) (xs : List Tok), a ≤ s.size → lexLoop s m a xs = match LL m (s.data.toList.drop a) a with | .error e => .error e | .ok ts => .ok (xs ++ ts)
  | 0, a, xs, _ => by simp [lexLoop, LL]
  | m + 1, a, xs, ha => by
    have hsz : s.data.toList.length = s.size := rfl
    have hdl : (s.data.toList.drop a).length = s.size - a := by rw [List.length_drop]; rfl
    have hdw := dw_le (s.data.toList.drop a)
    have hsk : skip s a = a + ((s.data.toList.drop a).length - ((s.data.toList.drop a).dropWhile isBlank).length) := by rw [skip_list]; omega
    have hskd : s.data.toList.drop (skip s a) = (s.data.toList.drop a).dropWhile isBlank := by
      have h1 : (s.data.toList.drop a).dropWhile isBlank = (s.data.toList.drop a).drop ((s.data.toList.drop a).length - ((s.data.toList.drop a).dropWhile isBlank).length) := by
        have h2 : (s.data.toList.drop a).takeWhile isBlank ++ (s.data.toList.drop a).dropWhile isBlank = s.data.toList.drop a := List.takeWhile_append_dropWhile
        have h3 : ((s.data.toList.drop a).takeWhile isBlank).length + ((s.data.toList.drop a).dropWhile isBlank).length = (s.data.toList.drop a).length := by
          rw [← List.length_append, h2]
        have h4 : (s.data.toList.drop a).drop ((s.data.toList.drop a).takeWhile isBlank).length = (s.data.toList.drop a).dropWhile isBlank := by
          conv => lhs; arg 2; rw [← h2]
          rw [List.drop_left]
        rw [show ((s.data.toList.drop a).takeWhile isBlank).length = (s.data.toList.drop a).length - ((s.data.toList.drop a).dropWhile isBlank).length by omega] at h4
        exact h4.symm
      rw [h1, List.drop_drop, hsk]
    unfold lexLoop LL
    by_cases hnil : (s.data.toList.drop a).dropWhile isBlank = []
    · rw [if_pos (by rw [hsk, hnil, hdl]; simp; omega), if_pos hnil]
      simp
    · have hne : skip s a ≠ s.size := by
        intro e
        have : ((s.data.toList.drop a).dropWhile isBlank).length = 0 := by omega
        exact hnil (List.length_eq_zero_iff.1 this)
      have hle := skip_ge s a ha
      have hpos : 0 < (s.extract (skip s a) s.size).size := by rw [extract_size _ _ hle.2]; omega
      rw [if_neg hne, if_neg hnil, lexFirst_spec _ hpos, extract_list, hskd]
      cases hsp : specF ((s.data.toList.drop a).dropWhile isBlank) with
      | error c => simp only; rw [hsk]
      | ok p =>
        obtain ⟨k, n, v⟩ := p
        have hns := specF_size hsp
        simp only
        have hex : (s.extract (skip s a) s.size).extract 0 n = ⟨(((s.data.toList.drop a).dropWhile isBlank).take n).toArray⟩ := bytes_ext (by rw [take_list, extract_list, hskd])
        have hexs : ((s.extract (skip s a) s.size).extract 0 n).size = n := by
          have : ((s.extract (skip s a) s.size).extract 0 n).data.toList.length = n := by rw [take_list, extract_list, hskd, List.length_take]; omega
          exact this
        rw [lexLoop_LL s m _ _ (by rw [hexs]; omega), hexs, show s.data.toList.drop (skip s a + n) = ((s.data.toList.drop a).dropWhile isBlank).drop n by rw [← List.drop_drop, hskd], hsk]
        cases LL m (((s.data.toList.drop a).dropWhile isBlank).drop n) (a + ((s.data.toList.drop a).length - ((s.data.toList.drop a).dropWhile isBlank).length) + n) with
        | error e => rfl
        | ok ts =>
          simp only
          rw [← hsk, hex]
          simp [mkTok]
theorem LL_fuel : ∀ (m m' : Nat) (l : List UInt8) (off : Nat), l.length < m → l.length < m' → LL m l off = LL m' l off
  | 0, _, _, _, h, _ => by omega
  | _ + 1, 0, _, _, _, h => by omega
  | m + 1, m' + 1, l, off, h, h' => by
    unfold LL
    split
    · rfl
    · cases hsp : specF (l.dropWhile isBlank) with
      | error c => rfl
      | ok p =>
        obtain ⟨k, n, v⟩ := p
        have hns := specF_size hsp
        have := dw_le l
        simp only
        rw [LL_fuel m m' _ _ (by rw [List.length_drop]; omega) (by rw [List.length_drop]; omega)]
def LT (l : List UInt8) (off : Nat) : Except (Nat × Int) (List Tok) := LL (l.length + 1) l off
theorem lexAll_LT (s : ByteArray) : lexAll s = LT s.data.toList 0 := by
  unfold lexAll LT
  rw [lexLoop_LL s _ 0 [] (by omega), List.drop_zero]
  show _ = LL (s.size + 1) s.data.toList 0
  cases LL (s.size + 1) s.data.toList 0 with
  | error e => rfl
  | ok ts => simp
theorem LT_eq (l : List UInt8) (off : Nat) : LT l off = if l.dropWhile isBlank = [] then .ok []
    else match specF (l.dropWhile isBlank) with
      | .error c => .error (off + (l.length - (l.dropWhile isBlank).length), c)
      | .ok (k, n, v) => match LT ((l.dropWhile isBlank).drop n) (off + (l.length - (l.dropWhile isBlank).length) + n) with
        | .error e => .error e
        | .ok ts => .ok (mkTok k ((l.dropWhile isBlank).take n) v (off + (l.length - (l.dropWhile isBlank).length)) :: ts) := by
  unfold LT
  rw [LL]
  split
  · rfl
  · cases hsp : specF (l.dropWhile isBlank) with
    | error c => rfl
    | ok p =>
      obtain ⟨k, n, v⟩ := p
      have hns := specF_size hsp
      have := dw_le l
      simp only
      rw [LL_fuel l.length (((l.dropWhile isBlank).drop n).length + 1) _ _ (by rw [List.length_drop]; omega) (by omega)]
/-- the three ways of a text -/
theorem LT_cases {l : List UInt8} {off : Nat} {ts : List Tok} (h : LT l off = .ok ts) : (l.dropWhile isBlank = [] ∧ ts = []) ∨
    ∃ k n v ts', l.dropWhile isBlank ≠ [] ∧ specF (l.dropWhile isBlank) = .ok (k, n, v) ∧ LT ((l.dropWhile isBlank).drop n) (off + (l.length - (l.dropWhile isBlank).length) + n) = .ok ts' ∧ ts = mkTok k ((l.dropWhile isBlank).take n) v (off + (l.length - (l.dropWhile isBlank).length)) :: ts' := by
  rw [LT_eq] at h
  split at h
  · exact .inl ⟨‹_›, by cases h; rfl⟩
  · rename_i hne
    cases hsp : specF (l.dropWhile isBlank) with
    | error c => rw [hsp] at h; cases h
    | ok p =>
      obtain ⟨k, n, v⟩ := p
      rw [hsp] at h
      simp only at h
      cases hl : LT ((l.dropWhile isBlank).drop n) (off + (l.length - (l.dropWhile isBlank).length) + n) with
      | error e => rw [hl] at h; cases h
      | ok ts' =>
        rw [hl] at h
        cases h
        exact .inr ⟨k, n, v, ts', hne, rfl, hl, rfl⟩
theorem LT_at : ∀ (N : Nat) (s : List UInt8) (off : Nat) (ts : List Tok), s.length ≤ N → LT s off = .ok ts → ∀ t ∈ ts, ∃ p : Nat, t.f3 = (p : Int) ∧ off ≤ p ∧ p < off + s.length
  | N, s, off, ts, hN, h => by
    rcases LT_cases h with ⟨h1, rfl⟩ | ⟨k, n, v, ts', h1, h2, h3, rfl⟩
    · intro t ht; cases ht
    · have hns := specF_size h2
      have hle := dw_le s
      have hdl : ((s.dropWhile isBlank).drop n).length = (s.dropWhile isBlank).length - n := List.length_drop
      intro t ht
      rcases List.mem_cons.1 ht with rfl | ht
      · exact ⟨_, rfl, by omega, by omega⟩
      · cases N with
        | zero => omega
        | succ N =>
          obtain ⟨p, e, h4, h5⟩ := LT_at N _ _ ts' (by omega) h3 t ht
          exact ⟨p, e, by omega, by omega⟩
end Go.Proofs.YtajcnjdinmgpjaaGreatDoor.X
/- ParsePrefix: the plain law. -/
namespace Go.Proofs.YtajcnjdinmgpjaaGreatDoor.X
open Go.Proofs.YtajcnjdinmgpjaaGreatDoor.P
set_option linter.unusedVariables false
def Suf (R : List Tok → PR) : Prop := ∀ l, (R l).rest <:+ l
theorem suf_bind {R : List Tok → PR} {f : Tree → List Tok → PR} (hR : Suf R) (hf : ∀ t, Suf (f t)) : Suf (fun l => (R l).bind f) := by
  intro l
  have h := hR l
  show ((R l).bind f).rest <:+ l
  cases hr : R l with
  | ok t r => rw [hr] at h; exact (hf t r).trans h
  | fail r => rw [hr] at h; exact h
theorem suf_dep {α : Type} (c : List Tok → α) (G : α → List Tok → PR) (hG : ∀ x, Suf (G x)) : Suf (fun l => G (c l) l) := fun l => hG (c l) l
theorem suf_ok (t : Tree) : Suf (fun l => .ok t l) := fun l => List.suffix_refl l
theorem suf_fail : Suf (fun l => .fail l) := fun l => List.suffix_refl l
theorem suf_tail {f : List Tok → PR} (hf : Suf f) : Suf (fun l => f l.tail) := fun l => (hf l.tail).trans (List.tail_suffix l)
theorem suf_if {A B : List Tok → PR} (c : List Tok → Bool) (hA : Suf A) (hB : Suf B) : Suf (fun l => if c l = true then A l else B l) := suf_dep c (fun b l => if b = true then A l else B l) (fun b => by cases b; exact hB; exact hA)
theorem suf_word (s : ByteArray) {f : List Tok → PR} (hf : Suf f) : Suf (fun l => word s l f) := suf_if (fun l => isW l s) (suf_tail hf) suf_fail
theorem suf_kindP (k : Int) {f : Tok → List Tok → PR} (hf : ∀ x, Suf (f x)) : Suf (fun l => kindP k l f) := by
  intro l
  show (kindP k l f).rest <:+ l
  unfold kindP
  split
  · exact (hf _ _).trans (List.tail_suffix l)
  · exact List.suffix_refl l
theorem suf_atom {ex : List Tok → PR} (hex : Suf ex) : Suf (pAtom ex) := by
  intro l
  unfold pAtom
  split
  · exact suf_bind (suf_tail hex) (fun t => suf_word _ (suf_ok t)) l
  · cases l with
    | nil => exact List.suffix_refl _
    | cons x r =>
      simp only
      split
      · exact List.suffix_cons x r
      · split
        · exact List.suffix_cons x r
        · split
          · exact List.suffix_cons x r
          · exact List.suffix_refl _
theorem suf_args {ex : List Tok → PR} (hex : Suf ex) (c : Bool) : ∀ k t, Suf (pArgs ex c k t)
  | 0, _ => suf_fail
  | k + 1, t => by
    intro l
    unfold pArgs
    split
    · split
      · split
        · exact suf_bind (suf_atom hex) (fun a => suf_args hex c k _) l
        · exact List.suffix_refl _
      · exact suf_bind (suf_atom hex) (fun a => suf_args hex c k _) l
    · exact List.suffix_refl _
theorem suf_app {ex : List Tok → PR} (hex : Suf ex) : Suf (pApp ex) :=
  suf_dep (fun l => kd l == 2) (fun c l => (pAtom ex l).bind fun t l' => pArgs ex c (l'.length + 1) t l') (fun c => suf_bind (suf_atom hex) (fun t l => suf_args hex c (l.length + 1) t l))
theorem suf_ops {right : List Tok → PR} (hr : Suf right) (s1 s2 : ByteArray) : ∀ k t, Suf (pOps right s1 s2 k t)
  | 0, _ => suf_fail
  | k + 1, t => by
    intro l
    unfold pOps
    split
    · exact suf_bind (suf_tail hr) (fun b => suf_ops hr s1 s2 k _) l
    · exact List.suffix_refl _
theorem suf_prod {ex : List Tok → PR} (hex : Suf ex) : Suf (pProd ex) := suf_bind (suf_app hex) (fun t l => suf_ops (suf_app hex) _ _ (l.length + 1) t l)
theorem suf_sum {ex : List Tok → PR} (hex : Suf ex) : Suf (pSum ex) := suf_bind (suf_prod hex) (fun t l => suf_ops (suf_prod hex) _ _ (l.length + 1) t l)
theorem suf_cmp {ex : List Tok → PR} (hex : Suf ex) : Suf (pCmp ex) := suf_bind (suf_sum hex) (fun t => suf_if (B := fun l => PR.ok t l) (fun l => isW l ⟨#[60]⟩ || isW l ⟨#[61, 61]⟩)
  (suf_dep tx (fun x l => (pSum ex l.tail).bind fun b r => .ok (opT x t b) r) (fun x => suf_bind (suf_tail (suf_sum hex)) (fun b => suf_ok _))) (suf_ok t))
theorem suf_lam {ex : List Tok → PR} (hex : Suf ex) : Suf (pLam ex) :=
  suf_dep (fun l => hd l 0) (fun h l => word ⟨#[92]⟩ l fun l1 => kindP 1 l1 fun x l2 => word ⟨#[46]⟩ l2 fun l3 => (ex l3).bind fun b r => .ok ⟨2, x.f1, 0, h.f3, [b]⟩ r)
    (fun h => suf_word _ (suf_kindP 1 (fun x => suf_word _ (suf_bind hex (fun b => suf_ok _)))))
theorem suf_let {ex : List Tok → PR} (hex : Suf ex) (k : Int) : Suf (pLet ex k) :=
  suf_dep (fun l => hd l 0) (fun h l => kindP 1 l.tail fun x l2 => word ⟨#[61]⟩ l2 fun l3 => (ex l3).bind fun a l4 => word ⟨#[105, 110]⟩ l4 fun l5 => (ex l5).bind fun b r => .ok ⟨k, x.f1, 0, h.f3, [a, b]⟩ r)
    (fun h => suf_tail (f := fun l => kindP 1 l fun x l2 => word ⟨#[61]⟩ l2 fun l3 => (ex l3).bind fun a l4 => word ⟨#[105, 110]⟩ l4 fun l5 => (ex l5).bind fun b r => .ok ⟨k, x.f1, 0, h.f3, [a, b]⟩ r)
      (suf_kindP 1 (fun x => suf_word _ (suf_bind hex (fun a => suf_word _ (suf_bind hex (fun b => suf_ok _)))))))
theorem suf_vars {f : List Tree → List Tok → PR} (hf : ∀ vs, Suf (f vs)) : ∀ k vs, Suf (pVars f k vs)
  | 0, _ => suf_fail
  | k + 1, vs => by
    intro l
    unfold pVars
    split
    · split
      · exact (suf_vars hf k _ l.tail).trans (List.tail_suffix l)
      · exact List.suffix_refl _
    · exact hf vs l
theorem suf_alt {ex : List Tok → PR} (hex : Suf ex) : Suf (pAlt ex) :=
  suf_kindP 2 (fun c l => suf_vars (f := fun vs l2 => word ⟨#[45, 62]⟩ l2 fun l3 => (ex l3).bind fun b r => .ok ⟨8, c.f1, (vs.length : Int), c.f3, vs ++ [b]⟩ r) (fun vs => suf_word _ (suf_bind hex (fun b => suf_ok _))) (l.length + 1) [] l)
theorem suf_alts {ex : List Tok → PR} (hex : Suf ex) (a : Int) : ∀ k ts, Suf (pAlts ex a k ts)
  | 0, _ => suf_fail
  | k + 1, ts => by
    intro l
    unfold pAlts
    split
    · split
      · exact suf_bind (suf_tail (suf_alt hex)) (fun b => suf_alts hex a k _) l
      · exact List.suffix_refl _
    · exact suf_word _ (suf_ok _) l
theorem suf_case {ex : List Tok → PR} (hex : Suf ex) : Suf (pCase ex) :=
  suf_dep (fun l => hd l 0) (fun h l => word ⟨#[99, 97, 115, 101]⟩ l fun l1 => (ex l1).bind fun a l2 => word ⟨#[111, 102]⟩ l2 fun l3 => word ⟨#[123]⟩ l3 fun l4 => (pAlt ex l4).bind fun b l5 => pAlts ex h.f3 (l5.length + 1) [a, b] l5)
    (fun h => suf_word _ (suf_bind hex (fun a => suf_word _ (suf_word _ (suf_bind (suf_alt hex) (fun b l => suf_alts hex h.f3 (l.length + 1) [a, b] l))))))
theorem suf_expr : ∀ n, Suf (pExpr n)
  | 0 => suf_fail
  | n + 1 => by
    have hex := suf_expr n
    exact suf_if (fun l => isW l ⟨#[92]⟩) (suf_lam hex) (suf_if (fun l => isW l ⟨#[108, 101, 116]⟩) (suf_let hex 4) (suf_if (fun l => isW l ⟨#[108, 101, 116, 114, 101, 99]⟩) (suf_let hex 5) (suf_if (fun l => isW l ⟨#[99, 97, 115, 101]⟩) (suf_case hex) (suf_cmp hex))))
theorem suf_whole : Suf pWhole := suf_bind (suf_expr 5000) (fun t l => by
  show (if l.length = 0 then PR.ok t [] else .fail l).rest <:+ l
  split
  · exact List.nil_suffix
  · exact List.suffix_refl _)
end Go.Proofs.YtajcnjdinmgpjaaGreatDoor.X
/- What is read of tokens that stand elsewhere, and with signs ( ) around numbers. -/
namespace Go.Proofs.YtajcnjdinmgpjaaGreatDoor.X
open Go.Proofs.YtajcnjdinmgpjaaGreatDoor.P
set_option linter.unusedVariables false
def tokS (a b : Tok) : Prop := a.f0 = b.f0 ∧ a.f1 = b.f1 ∧ a.f2 = b.f2
theorem tokS.refl (a : Tok) : tokS a a := ⟨rfl, rfl, rfl⟩
theorem tokS.symm {a b : Tok} (h : tokS a b) : tokS b a := ⟨h.1.symm, h.2.1.symm, h.2.2.symm⟩
theorem tokS.isT {a b : Tok} (h : tokS a b) (s : ByteArray) : isT a s = isT b s := by unfold X.isT; rw [h.1, h.2.1]
inductive Rd : List Tok → List Tok → Prop
  | nil : Rd [] []
  | tok (a b : Tok) (l l' : List Tok) : tokS a b → Rd l l' → Rd (a :: l) (b :: l')
  | par (a b p q : Tok) (l l' : List Tok) : a.f0 = 3 → tokS a b → isT p ⟨#[40]⟩ = true → isT q ⟨#[41]⟩ = true → Rd l l' → Rd (a :: l) (p :: b :: q :: l')
theorem Rd.inv {a : Tok} {l l' : List Tok} (h : Rd (a :: l) l') (ha : a.f0 ≠ 3) : ∃ b r, l' = b :: r ∧ tokS a b ∧ Rd l r := by
  cases h with
  | tok _ b _ l' h1 h2 => exact ⟨b, l', rfl, h1, h2⟩
  | par _ b p q _ l' h1 => exact absurd h1 ha
theorem Rd.append {vs l l' : List Tok} (h : Rd (vs ++ l) l') (hv : ∀ v ∈ vs, v.f0 = 1) : ∃ vs' r, l' = vs' ++ r ∧ Rd l r ∧ (∀ v ∈ vs', v.f0 = 1) ∧ vs'.length = vs.length ∧ SmL (vs.map varT) (vs'.map varT) := by
  induction vs generalizing l' with
  | nil => exact ⟨[], l', rfl, h, by simp, rfl, .nil⟩
  | cons v vs ih =>
    have hv1 := hv v (by simp)
    obtain ⟨b, r, rfl, h1, h2⟩ := Rd.inv h (by omega)
    obtain ⟨vs', r', rfl, h3, h4, h5, h6⟩ := ih h2 (fun x hx => hv x (by simp [hx]))
    refine ⟨b :: vs', r', rfl, h3, ?_, by simp [h5], ?_⟩
    · intro x hx
      rcases List.mem_cons.1 hx with rfl | hx
      · rw [← h1.1]; exact hv1
      · exact h4 x hx
    · refine .cons _ _ _ _ ?_ h6
      show Sm ⟨1, v.f1, 0, v.f3, []⟩ ⟨1, b.f1, 0, b.f3, []⟩
      rw [← h1.2.1]
      exact .mk _ _ _ _ _ _ _ .nil
theorem Rd.atom {l l' : List Tok} (h : Rd l l') : atomB l' = atomB l := by
  cases h with
  | nil => rfl
  | tok a b l l' h1 h2 =>
    unfold atomB
    rw [isW_cons, isW_cons, h1.isT, show kd (b :: l') = kd (a :: l) from h1.1.symm]
  | par a b p q l l' h1 h2 h3 h4 h5 => simp [atomB, isW_cons, h3, kd, h1]
theorem Rd.con {l l' : List Tok} (h : Rd l l') : (kd l' == 2) = (kd l == 2) := by
  cases h with
  | nil => rfl
  | tok a b l l' h1 h2 => show (b.f0 == 2) = (a.f0 == 2); rw [h1.1]
  | par a b p q l l' h1 h2 h3 h4 h5 =>
    show (p.f0 == 2) = (a.f0 == 2)
    have := isT_kind h3
    have e1 : (p.f0 == 2) = false := by simp; omega
    have e2 : (a.f0 == 2) = false := by simp; omega
    rw [e1, e2]
inductive NR : N → N → Prop
  | same (n : N) : fronted n = true ∨ n = .expr ∨ n = .alt → NR n n
  | args (c : Bool) (t t' : Tree) : Sm t t' → NR (.args c t) (.args c t')
  | ops (b : Bool) (t t' : Tree) : Sm t t' → NR (.ops b t) (.ops b t')
  | alts (a a' : Int) (l l' : List Tree) : SmL l l' → NR (.alts a l) (.alts a' l')
theorem NR.sub (b : Bool) : NR (X.sub b) (X.sub b) := .same _ (.inl (by cases b <;> rfl))
end Go.Proofs.YtajcnjdinmgpjaaGreatDoor.X
/- Texts that are made of tokens. -/
namespace Go.Proofs.YtajcnjdinmgpjaaGreatDoor.X
open Go.Proofs.YtajcnjdinmgpjaaGreatDoor.P
theorem parse_of_der {s : ByteArray} {l : List Tok} {t : Tree} {d : Int} (hs : s.size ≤ 4096) (hl : lexAll s = .ok l) (hd : Der .expr l t []) (h1 : 1 ≤ d) (h2 : d ≤ 200) (ht : ((tdp t : Nat) : Int) ≤ d) : parseM s d = .ok t := by
  have hlen := lexAll_len hl
  have hw : pWhole l = .ok t [] := by
    unfold pWhole
    rw [(expr_iff 5000 l t [] (by omega)).2 hd, PR.bind_ok]
    rfl
  unfold parseM
  rw [if_neg (by omega), if_neg (by omega), hl]
  simp only
  rw [hw]
  show (if d < ((tdp t : Nat) : Int) then _ else _) = _
  rw [if_neg (by omega)]
theorem parse_inv {s : ByteArray} {t : Tree} {d : Int} (h : parseM s d = .ok t) : s.size ≤ 4096 ∧ 1 ≤ d ∧ d ≤ 200 ∧ ((tdp t : Nat) : Int) ≤ d ∧ ∃ l, lexAll s = .ok l ∧ Der .expr l t [] := by
  unfold parseM at h
  split at h
  · cases h
  · split at h
    · cases h
    · cases hl : lexAll s with
      | error e => obtain ⟨a, c⟩ := e; rw [hl] at h; cases h
      | ok l =>
        rw [hl] at h
        simp only at h
        cases hw : pWhole l with
        | fail r => rw [hw] at h; cases h
        | ok t' r =>
          rw [hw] at h
          simp only at h
          split at h
          · cases h
          · cases h
            exact ⟨by omega, by omega, by omega, by omega, l, rfl, (whole_tsz hw).2⟩
/-! ### a token's own text -/
def vt (t : Tok) : Prop := specF t.f1.data.toList = .ok (t.f0, t.f1.data.toList.length, t.f2)
theorem LT_vt : ∀ (N : Nat) (s : List UInt8) (off : Nat) (ts : List Tok), s.length ≤ N → LT s off = .ok ts → ∀ t ∈ ts, vt t
  | N, s, off, ts, hN, h => by
    rcases LT_cases h with ⟨h1, rfl⟩ | ⟨k, n, v, ts', h1, h2, h3, rfl⟩
    · intro t ht; cases ht
    · have hns := specF_size h2
      have hle := dw_le s
      have hdl : ((s.dropWhile isBlank).drop n).length = (s.dropWhile isBlank).length - n := List.length_drop
      intro t ht
      rcases List.mem_cons.1 ht with rfl | ht
      · have e : ((s.dropWhile isBlank).take n).length = n := by rw [List.length_take]; omega
        show specF ((s.dropWhile isBlank).take n) = .ok (k, ((s.dropWhile isBlank).take n).length, v)
        rw [e]
        refine specF_same h2 (by rw [List.take_take, Nat.min_self]) (.inl ?_)
        rw [List.drop_take, Nat.sub_self, List.take_zero]
        rfl
      · cases N with
        | zero => omega
        | succ N => exact LT_vt N _ _ ts' (by omega) h3 t ht
end Go.Proofs.YtajcnjdinmgpjaaGreatDoor.X
/- The reference's token at a place, in the printed functions' form: its answers, and its contract out of the walk. -/
namespace Go.Proofs.YtajcnjdinmgpjaaGreatDoor.P
open Go.RowKit Go.Proofs.YtajcnjdinmgpjaaGreatDoorW.PrintWords Go.Proofs.YtajcnjdinmgpjaaGreatDoorW.PrintLast Go.Proofs.YtajcnjdinmgpjaaGreatDoorW.PrintMore Go.Proofs.YtajcnjdinmgpjaaGreatDoor.X
def gossamerref01_One.f (k : Nat) (a0 : ByteArray) (a1 : Int) : Option (Int × ByteArray × Int × Int × Int) :=
  if 0 ≤ a1 ∧ a1 < (a0.size : Int) ∧ a0.size ≤ 1000000000 ∧ k = k then (match specF (a0.data.toList.drop a1.toNat) with
    | .ok (q, m, v) => some (q, a0.extract a1.toNat (a1.toNat + m), v, a1, 0)
    | .error c => some (0, ⟨#[]⟩, 0, 0, c)) else none
theorem gossamerref01_One.mono : ∀ a0 a1 k, LeO (gossamerref01_One.f k a0 a1) (gossamerref01_One.f (k + 1) a0 a1) := by
  intro a0 a1 k
  have e : gossamerref01_One.f (k + 1) a0 a1 = gossamerref01_One.f k a0 a1 := by
    unfold gossamerref01_One.f
    simp
  rw [e]
  exact LeO.refl _
theorem gossamerref01_One.calls (k : Nat) (a0 : ByteArray) (a1 : Int) (r1 : Int) (r2 : ByteArray) (r3 : Int) (r4 : Int) (r5 : Int) (w : World) (h : gossamerref01_One.f k a0 a1 = some (r1, r2, r3, r4, r5)) :
    Calls Tryz.prog 19 #[.string a0, .int .i64 a1] w fun e w' => e = .returned (.tuple #[.agg #[.int .i64 r1, .string r2, .int .i64 r3, .int .i64 r4], .int .i64 r5]) ∧ Below w.heap.size w w' := by
  unfold gossamerref01_One.f at h
  split at h
  · rename_i hc
    obtain ⟨n, rfl⟩ : ∃ n : Nat, a1 = (n : Int) := ⟨a1.toNat, by omega⟩
    have hw := ROne_calls a0 n hc.2.2.1 (by omega) w
    unfold oneV at hw
    rw [show ((n : Int)).toNat = n by omega] at h
    cases hs : specF (a0.data.toList.drop n) with
    | ok p =>
      obtain ⟨q, m, v⟩ := p
      rw [hs] at h hw
      simp only [Option.some.injEq, Prod.mk.injEq] at h
      obtain ⟨rfl, rfl, rfl, rfl, rfl⟩ := h
      exact hw
    | error c =>
      rw [hs] at h hw
      simp only [Option.some.injEq, Prod.mk.injEq] at h
      obtain ⟨rfl, rfl, rfl, rfl, rfl⟩ := h
      exact hw
  · cases h
end Go.Proofs.YtajcnjdinmgpjaaGreatDoor.P
namespace Go.Proofs.YtajcnjdinmgpjaaGreatDoor.P
open Go.RowKit Go.Proofs.YtajcnjdinmgpjaaGreatDoorW.PrintWords Go.Proofs.YtajcnjdinmgpjaaGreatDoorW.PrintLast Go.Proofs.YtajcnjdinmgpjaaGreatDoorW.PrintMore
attribute [local go_sem] max2_int min2_int max_two min_two max_three min_three max_four min_four   -- for this text's walks alone
set_option linter.unusedVariables false
set_option linter.unusedSimpArgs false

/-! ### gossamerref02_token: function 49 -/
def gossamerref02_token.f (k : Nat) (a0 : ByteArray) (a1 : Int) : Option (Bool) := if a0.toList = ([] : List UInt8) then (some false) else ((gossamerref01_One.f k a0 0).bind fun bt245 => (if bt245.2.2.2.2 = 0 then (if bt245.1 = a1 then (some (bt245.2.1.toList == a0.toList)) else (some false)) else (some false)))
theorem gossamerref02_token.mono : ∀ a0 a1 k, LeO (gossamerref02_token.f k a0 a1) (gossamerref02_token.f (k + 1) a0 a1) := by
  intro a0 a1 k
  unfold gossamerref02_token.f
  repeat' first
      | (with_reducible exact gossamerref01_One.mono _ _ _)
      | (with_reducible exact LeO.refl _)
      | (with_reducible exact LeO.none _)
      | (with_reducible refine LeO.ite ?_ ?_)
      | (with_reducible refine LeO.bind ?_ (fun _ => ?_))
      | exact gossamerref01_One.mono _ _ _
      | exact LeO.none _
      | refine LeO.ite ?_ ?_
      | refine LeO.bind ?_ (fun _ => ?_)
set_option maxHeartbeats 8000000 in
set_option maxRecDepth 100000 in
theorem gossamerref02_token.calls (k : Nat) (a0 : ByteArray) (a1 : Int) (r : Bool) (w : World) (h : gossamerref02_token.f k a0 a1 = some r) :
    Calls Tryz.prog 49 #[.string a0, .int .i64 a1] w fun e w' => e = .returned (.bool r) ∧ Below w.heap.size w w' := by
  have hu46 := Tryz.underlying46
  have HB := Aside0.mk (Below.refl w.heap.size w)
  have H : (if a0.toList = ([] : List UInt8) then (some false) else ((gossamerref01_One.f k a0 0).bind fun bt245 => (if bt245.2.2.2.2 = 0 then (if bt245.1 = a1 then (some (bt245.2.1.toList == a0.toList)) else (some false)) else (some false)))) = some r := h
  clear h
  by_cases c3 : a0.toList = ([] : List UInt8)
  · rw [if_pos c3] at H
    have c3b0 : (a0.toList == ([] : List UInt8)) = true := beq_iff_eq.mpr c3
    have c3b1 : (a0.toList != ([] : List UInt8)) = false := bne_eq_false_iff_eq.mpr c3
    clear c3
    obtain rfl := Option.some.inj H
    go_enter Tryz.func49, Tryz.ntmps49
    go_wp2
    go_ret
    exact ⟨by first | rfl | (simp [errW_none, errW_some] <;> rfl) | (simp [*, errW_none, errW_some] <;> rfl), by repeat (first | (with_reducible first | exact HB.out | apply below_alloc | apply pw_below_drewN | apply below_drew1) | exact HB.out)⟩
  · rw [if_neg c3] at H
    have c3b0 : (a0.toList == ([] : List UInt8)) = false := beq_eq_false_iff_ne.mpr c3
    have c3b1 : (a0.toList != ([] : List UInt8)) = true := bne_iff_ne.mpr c3
    replace H := Option.bind_eq_some_iff.mp H
    obtain ⟨⟨t245, t246, t247, t248, t249⟩, A40, H⟩ := H
    replace H : (if t249 = 0 then (if t245 = a1 then (some (t246.toList == a0.toList)) else (some false)) else (some false)) = some r := H
    have A4 := Aside0.mk A40
    clear A40
    by_cases c5 : t249 = 0
    · rw [if_pos c5] at H
      have c5b0 : (t249 == 0) = true := beq_iff_eq.mpr c5
      have c5b1 : (t249 != 0) = false := bne_eq_false_iff_eq.mpr c5
      clear c5
      by_cases c6 : t245 = a1
      · rw [if_pos c6] at H
        have c6b0 : (t245 == a1) = true := beq_iff_eq.mpr c6
        have c6b1 : (t245 != a1) = false := bne_eq_false_iff_eq.mpr c6
        clear c6
        obtain rfl := Option.some.inj H
        go_enter Tryz.func49, Tryz.ntmps49
        go_wp2_with (first | ((with_reducible refine gate_callee (f := 19) rfl ?_); refine goesL_ (some 11) rfl rfl Tryz.func19 (by kernel_rfl) rfl #[.string a0, .int .i64 0] rfl (by (try simp only [List.map_toArray, List.map_cons, List.map_nil]); first | done | rfl | (simp only [List.length_drop, List.length_take]; rfl)) ?_; (with_reducible refine (gossamerref01_One.calls k a0 0 t245 t246 t247 t248 t249 _ A4.out).mono ?_); rintro e w7 ⟨rfl, hb⟩; refine ⟨_, rfl, ?_⟩; have n0_ := Aside0.mk (below_step (by repeat (first | (with_reducible first | exact HB.out | apply below_alloc | apply pw_below_drewN | apply below_drew1) | exact HB.out)) hb); clear HB; have HB := n0_; clear n0_; (try clear hb); (try clear hb2); (try clear hk); (try clear hi)) | ((with_reducible refine gate_dst (N := 5) rfl ?_); refine box_event ?hg (N := 5) ?hd (cs := #[.int .i64 0, .string (⟨#[]⟩ : ByteArray), .int .i64 0, .int .i64 0]) (t := 46) ?hr ?_; (case hd => rfl); (case hg => rfl); (case hr => first | (go_simp; done) | (go_simp; rfl)); intro gb250 hg w8 hbox hb; have n0_ := Aside0.mk (below_step (by repeat (first | (with_reducible first | exact HB.out | apply below_alloc | apply pw_below_drewN | apply below_drew1) | exact HB.out)) hb); have n1_ := Aside0.mk (hbox); have n2_ := Aside0.mk ((by rw [hg]; exact (below_size (by repeat (first | (with_reducible first | exact HB.out | apply below_alloc | apply pw_below_drewN | apply below_drew1) | exact HB.out))) : w.heap.size ≤ gb250)); have n3_ := Aside0.mk ((by rw [hg]; exact (below_size (by repeat (first | (with_reducible first | exact HB.out | apply below_alloc | apply pw_below_drewN | apply below_drew1) | exact HB.out))) : w.heap.size ≤ gb250)); clear HB; have HB := n0_; have BK250 := n1_; have GW250 := n2_; have GE250 := n3_; clear n0_ n1_ n2_ n3_; clear hb hbox hg; have hcz9_0 : w8.cell? ⟨gb250, 0, none⟩ = some (.int .i64 0) := (blk_cell BK250.out 0).trans rfl; have hcz9_1 : w8.cell? ⟨gb250, 1, none⟩ = some (.string (⟨#[]⟩ : ByteArray)) := (blk_cell BK250.out 1).trans rfl; have hcz9_2 : w8.cell? ⟨gb250, 2, none⟩ = some (.int .i64 0) := (blk_cell BK250.out 2).trans rfl; have hcz9_3 : w8.cell? ⟨gb250, 3, none⟩ = some (.int .i64 0) := (blk_cell BK250.out 3).trans rfl; have hfz9_0 := blk_frozen BK250.out 0; have hfz9_1 := blk_frozen BK250.out 1; have hfz9_2 := blk_frozen BK250.out 2; have hfz9_3 := blk_frozen BK250.out 3))
        go_ret
        exact ⟨by first | rfl | (simp [errW_none, errW_some] <;> rfl) | (simp [*, errW_none, errW_some] <;> rfl), by repeat (first | (with_reducible first | exact HB.out | apply below_alloc | apply pw_below_drewN | apply below_drew1 | refine below_set ?_ GE250.out) | exact HB.out)⟩
      · rw [if_neg c6] at H
        have c6b0 : (t245 == a1) = false := beq_eq_false_iff_ne.mpr c6
        have c6b1 : (t245 != a1) = true := bne_iff_ne.mpr c6
        obtain rfl := Option.some.inj H
        go_enter Tryz.func49, Tryz.ntmps49
        go_wp2_with (first | ((with_reducible refine gate_callee (f := 19) rfl ?_); refine goesL_ (some 11) rfl rfl Tryz.func19 (by kernel_rfl) rfl #[.string a0, .int .i64 0] rfl (by (try simp only [List.map_toArray, List.map_cons, List.map_nil]); first | done | rfl | (simp only [List.length_drop, List.length_take]; rfl)) ?_; (with_reducible refine (gossamerref01_One.calls k a0 0 t245 t246 t247 t248 t249 _ A4.out).mono ?_); rintro e w10 ⟨rfl, hb⟩; refine ⟨_, rfl, ?_⟩; have n0_ := Aside0.mk (below_step (by repeat (first | (with_reducible first | exact HB.out | apply below_alloc | apply pw_below_drewN | apply below_drew1) | exact HB.out)) hb); clear HB; have HB := n0_; clear n0_; (try clear hb); (try clear hb2); (try clear hk); (try clear hi)) | ((with_reducible refine gate_dst (N := 5) rfl ?_); refine box_event ?hg (N := 5) ?hd (cs := #[.int .i64 0, .string (⟨#[]⟩ : ByteArray), .int .i64 0, .int .i64 0]) (t := 46) ?hr ?_; (case hd => rfl); (case hg => rfl); (case hr => first | (go_simp; done) | (go_simp; rfl)); intro gb250 hg w11 hbox hb; have n0_ := Aside0.mk (below_step (by repeat (first | (with_reducible first | exact HB.out | apply below_alloc | apply pw_below_drewN | apply below_drew1) | exact HB.out)) hb); have n1_ := Aside0.mk (hbox); have n2_ := Aside0.mk ((by rw [hg]; exact (below_size (by repeat (first | (with_reducible first | exact HB.out | apply below_alloc | apply pw_below_drewN | apply below_drew1) | exact HB.out))) : w.heap.size ≤ gb250)); have n3_ := Aside0.mk ((by rw [hg]; exact (below_size (by repeat (first | (with_reducible first | exact HB.out | apply below_alloc | apply pw_below_drewN | apply below_drew1) | exact HB.out))) : w.heap.size ≤ gb250)); clear HB; have HB := n0_; have BK250 := n1_; have GW250 := n2_; have GE250 := n3_; clear n0_ n1_ n2_ n3_; clear hb hbox hg; have hcz12_0 : w11.cell? ⟨gb250, 0, none⟩ = some (.int .i64 0) := (blk_cell BK250.out 0).trans rfl; have hcz12_1 : w11.cell? ⟨gb250, 1, none⟩ = some (.string (⟨#[]⟩ : ByteArray)) := (blk_cell BK250.out 1).trans rfl; have hcz12_2 : w11.cell? ⟨gb250, 2, none⟩ = some (.int .i64 0) := (blk_cell BK250.out 2).trans rfl; have hcz12_3 : w11.cell? ⟨gb250, 3, none⟩ = some (.int .i64 0) := (blk_cell BK250.out 3).trans rfl; have hfz12_0 := blk_frozen BK250.out 0; have hfz12_1 := blk_frozen BK250.out 1; have hfz12_2 := blk_frozen BK250.out 2; have hfz12_3 := blk_frozen BK250.out 3))
        go_ret
        exact ⟨by first | rfl | (simp [errW_none, errW_some] <;> rfl) | (simp [*, errW_none, errW_some] <;> rfl), by repeat (first | (with_reducible first | exact HB.out | apply below_alloc | apply pw_below_drewN | apply below_drew1 | refine below_set ?_ GE250.out) | exact HB.out)⟩
    · rw [if_neg c5] at H
      have c5b0 : (t249 == 0) = false := beq_eq_false_iff_ne.mpr c5
      have c5b1 : (t249 != 0) = true := bne_iff_ne.mpr c5
      obtain rfl := Option.some.inj H
      go_enter Tryz.func49, Tryz.ntmps49
      go_wp2_with (first | ((with_reducible refine gate_callee (f := 19) rfl ?_); refine goesL_ (some 11) rfl rfl Tryz.func19 (by kernel_rfl) rfl #[.string a0, .int .i64 0] rfl (by (try simp only [List.map_toArray, List.map_cons, List.map_nil]); first | done | rfl | (simp only [List.length_drop, List.length_take]; rfl)) ?_; (with_reducible refine (gossamerref01_One.calls k a0 0 t245 t246 t247 t248 t249 _ A4.out).mono ?_); rintro e w13 ⟨rfl, hb⟩; refine ⟨_, rfl, ?_⟩; have n0_ := Aside0.mk (below_step (by repeat (first | (with_reducible first | exact HB.out | apply below_alloc | apply pw_below_drewN | apply below_drew1) | exact HB.out)) hb); clear HB; have HB := n0_; clear n0_; (try clear hb); (try clear hb2); (try clear hk); (try clear hi)) | ((with_reducible refine gate_dst (N := 5) rfl ?_); refine box_event ?hg (N := 5) ?hd (cs := #[.int .i64 0, .string (⟨#[]⟩ : ByteArray), .int .i64 0, .int .i64 0]) (t := 46) ?hr ?_; (case hd => rfl); (case hg => rfl); (case hr => first | (go_simp; done) | (go_simp; rfl)); intro gb250 hg w14 hbox hb; have n0_ := Aside0.mk (below_step (by repeat (first | (with_reducible first | exact HB.out | apply below_alloc | apply pw_below_drewN | apply below_drew1) | exact HB.out)) hb); have n1_ := Aside0.mk (hbox); have n2_ := Aside0.mk ((by rw [hg]; exact (below_size (by repeat (first | (with_reducible first | exact HB.out | apply below_alloc | apply pw_below_drewN | apply below_drew1) | exact HB.out))) : w.heap.size ≤ gb250)); have n3_ := Aside0.mk ((by rw [hg]; exact (below_size (by repeat (first | (with_reducible first | exact HB.out | apply below_alloc | apply pw_below_drewN | apply below_drew1) | exact HB.out))) : w.heap.size ≤ gb250)); clear HB; have HB := n0_; have BK250 := n1_; have GW250 := n2_; have GE250 := n3_; clear n0_ n1_ n2_ n3_; clear hb hbox hg; have hcz15_0 : w14.cell? ⟨gb250, 0, none⟩ = some (.int .i64 0) := (blk_cell BK250.out 0).trans rfl; have hcz15_1 : w14.cell? ⟨gb250, 1, none⟩ = some (.string (⟨#[]⟩ : ByteArray)) := (blk_cell BK250.out 1).trans rfl; have hcz15_2 : w14.cell? ⟨gb250, 2, none⟩ = some (.int .i64 0) := (blk_cell BK250.out 2).trans rfl; have hcz15_3 : w14.cell? ⟨gb250, 3, none⟩ = some (.int .i64 0) := (blk_cell BK250.out 3).trans rfl; have hfz15_0 := blk_frozen BK250.out 0; have hfz15_1 := blk_frozen BK250.out 1; have hfz15_2 := blk_frozen BK250.out 2; have hfz15_3 := blk_frozen BK250.out 3))
      go_ret
      exact ⟨by first | rfl | (simp [errW_none, errW_some] <;> rfl) | (simp [*, errW_none, errW_some] <;> rfl), by repeat (first | (with_reducible first | exact HB.out | apply below_alloc | apply pw_below_drewN | apply below_drew1 | refine below_set ?_ GE250.out) | exact HB.out)⟩

end Go.Proofs.YtajcnjdinmgpjaaGreatDoor.P
namespace Go.Proofs.YtajcnjdinmgpjaaGreatDoor.P
open Go.RowKit Go.Proofs.YtajcnjdinmgpjaaGreatDoorW.PrintWords Go.Proofs.YtajcnjdinmgpjaaGreatDoorW.PrintLast Go.Proofs.YtajcnjdinmgpjaaGreatDoorW.PrintMore
attribute [local go_sem] max2_int min2_int max_two min_two max_three min_three max_four min_four   -- for this text's walks alone
set_option linter.unusedVariables false
set_option linter.unusedSimpArgs false

/-! ### gossamerref02_name: function 31 -/
mutual
def gossamerref02_name.j0 : Nat → Int → Bool → Int → ByteArray → Int → Int → List (S25) → Option (Bool)
  | 0, _, _, _, _, _, _, _ => none
  | k + 1, x4, x5, x252000, x252001, x252002, x252003, x252004 => if x5 = true then ((gossamerref02_token.f k x252001 1).bind fun t252 => (some t252)) else (if x4 = 6 then (gossamerref02_name.j1 k x4 (x4 == 6) x252000 x252001 x252002 x252003 x252004) else (gossamerref02_name.j1 k x4 (x4 == 8) x252000 x252001 x252002 x252003 x252004))
def gossamerref02_name.j1 : Nat → Int → Bool → Int → ByteArray → Int → Int → List (S25) → Option (Bool)
  | 0, _, _, _, _, _, _, _ => none
  | k + 1, x4, x13, x252000, x252001, x252002, x252003, x252004 => if x13 = true then ((gossamerref02_token.f k x252001 2).bind fun t253 => (some t253)) else (if x4 = 10 then (if x252001.toList = ([43] : List UInt8) then (some true) else (if x252001.toList = ([45] : List UInt8) then (some true) else (if x252001.toList = ([42] : List UInt8) then (some true) else (if x252001.toList = ([47] : List UInt8) then (some true) else (if x252001.toList = ([60] : List UInt8) then (some true) else (some (x252001.toList == ([61, 61] : List UInt8)))))))) else (some (x252001.toList == ([] : List UInt8))))
end
def gossamerref02_name.f (k : Nat) (a0_0 : Int) (a0_1 : ByteArray) (a0_2 : Int) (a0_3 : Int) (l0_4 : List (S25)) : Option (Bool) := if a0_0 = 1 then (gossamerref02_name.j0 k a0_0 (a0_0 == 1) a0_0 a0_1 a0_2 a0_3 l0_4) else (if a0_0 = 2 then (gossamerref02_name.j0 k a0_0 (a0_0 == 2) a0_0 a0_1 a0_2 a0_3 l0_4) else (if a0_0 = 4 then (gossamerref02_name.j0 k a0_0 (a0_0 == 4) a0_0 a0_1 a0_2 a0_3 l0_4) else (gossamerref02_name.j0 k a0_0 (a0_0 == 5) a0_0 a0_1 a0_2 a0_3 l0_4)))
theorem gossamerref02_name.mono_l : ∀ k, (∀ y0 y1 y2 y3 y4 y5 y6, LeO (gossamerref02_name.j0 k y0 y1 y2 y3 y4 y5 y6) (gossamerref02_name.j0 (k + 1) y0 y1 y2 y3 y4 y5 y6)) ∧ (∀ y0 y1 y2 y3 y4 y5 y6, LeO (gossamerref02_name.j1 k y0 y1 y2 y3 y4 y5 y6) (gossamerref02_name.j1 (k + 1) y0 y1 y2 y3 y4 y5 y6))
  | 0 => ⟨fun _ _ _ _ _ _ _ r h => by simp [gossamerref02_name.j0] at h, fun _ _ _ _ _ _ _ r h => by simp [gossamerref02_name.j1] at h⟩
  | k + 1 => by
    obtain ⟨ih0, ih1⟩ := gossamerref02_name.mono_l k
    refine ⟨?_, ?_⟩
    · intro y0 y1 y2 y3 y4 y5 y6
      unfold gossamerref02_name.j0
      repeat' first
      | (with_reducible exact ih0 _ _ _ _ _ _ _)
      | (with_reducible exact ih1 _ _ _ _ _ _ _)
      | (with_reducible exact gossamerref02_token.mono _ _ _)
      | (with_reducible exact LeO.refl _)
      | (with_reducible exact LeO.none _)
      | (with_reducible refine LeO.ite ?_ ?_)
      | (with_reducible refine LeO.bind ?_ (fun _ => ?_))
      | exact ih0 _ _ _ _ _ _ _
      | exact ih1 _ _ _ _ _ _ _
      | exact gossamerref02_token.mono _ _ _
      | exact LeO.none _
      | refine LeO.ite ?_ ?_
      | refine LeO.bind ?_ (fun _ => ?_)
    · intro y0 y1 y2 y3 y4 y5 y6
      unfold gossamerref02_name.j1
      repeat' first
      | (with_reducible exact ih0 _ _ _ _ _ _ _)
      | (with_reducible exact ih1 _ _ _ _ _ _ _)
      | (with_reducible exact gossamerref02_token.mono _ _ _)
      | (with_reducible exact LeO.refl _)
      | (with_reducible exact LeO.none _)
      | (with_reducible refine LeO.ite ?_ ?_)
      | (with_reducible refine LeO.bind ?_ (fun _ => ?_))
      | exact ih0 _ _ _ _ _ _ _
      | exact ih1 _ _ _ _ _ _ _
      | exact gossamerref02_token.mono _ _ _
      | exact LeO.none _
      | refine LeO.ite ?_ ?_
      | refine LeO.bind ?_ (fun _ => ?_)
theorem gossamerref02_name.mono : ∀ a0 a1 a2 a3 a4 k, LeO (gossamerref02_name.f k a0 a1 a2 a3 a4) (gossamerref02_name.f (k + 1) a0 a1 a2 a3 a4) := by
  intro a0 a1 a2 a3 a4 k
  obtain ⟨ih0, ih1⟩ := gossamerref02_name.mono_l k
  unfold gossamerref02_name.f
  repeat' first
      | (with_reducible exact ih0 _ _ _ _ _ _ _)
      | (with_reducible exact ih1 _ _ _ _ _ _ _)
      | (with_reducible exact gossamerref02_token.mono _ _ _)
      | (with_reducible exact LeO.refl _)
      | (with_reducible exact LeO.none _)
      | (with_reducible refine LeO.ite ?_ ?_)
      | (with_reducible refine LeO.bind ?_ (fun _ => ?_))
      | exact ih0 _ _ _ _ _ _ _
      | exact ih1 _ _ _ _ _ _ _
      | exact gossamerref02_token.mono _ _ _
      | exact LeO.none _
      | refine LeO.ite ?_ ?_
      | refine LeO.bind ?_ (fun _ => ?_)
set_option maxHeartbeats 8000000 in
set_option maxRecDepth 100000 in
theorem gossamerref02_name.calls (k : Nat) (a0_0 : Int) (a0_1 : ByteArray) (a0_2 : Int) (a0_3 : Int) (A0_4 : Option Addr) (c0_4 : Nat) (l0_4 : List (S25)) (r : Bool) (w : World) (hr0_4 : Kd.C k25 w A0_4 l0_4.length l0_4) (hc0_4 : l0_4.length ≤ c0_4) (h : gossamerref02_name.f k a0_0 a0_1 a0_2 a0_3 l0_4 = some r) :
    Calls Tryz.prog 31 #[.agg #[.int .i64 a0_0, .string a0_1, .int .i64 a0_2, .int .i64 a0_3, .slice A0_4 l0_4.length c0_4]] w fun e w' => e = .returned (.bool r) ∧ Below w.heap.size w w' := by
  have hu25 := Tryz.underlying25
  have HR0_4 := Aside0.mk hr0_4
  have HC0_4 := Aside0.mk hc0_4
  clear hr0_4 hc0_4
  have HB := Aside0.mk (Below.refl w.heap.size w)
  have H : (if a0_0 = 1 then (gossamerref02_name.j0 k a0_0 (a0_0 == 1) a0_0 a0_1 a0_2 a0_3 l0_4) else (if a0_0 = 2 then (gossamerref02_name.j0 k a0_0 (a0_0 == 2) a0_0 a0_1 a0_2 a0_3 l0_4) else (if a0_0 = 4 then (gossamerref02_name.j0 k a0_0 (a0_0 == 4) a0_0 a0_1 a0_2 a0_3 l0_4) else (gossamerref02_name.j0 k a0_0 (a0_0 == 5) a0_0 a0_1 a0_2 a0_3 l0_4)))) = some r := h
  clear h
  have HC2 := Aside0.mk H
  clear H
  go_enter Tryz.func31, Tryz.ntmps31
  go_upto_if 5 with (first | ((with_reducible refine gate_dst (N := 1) rfl ?_); refine box_event ?hg (N := 1) ?hd (cs := #[.int .i64 a0_0, .string a0_1, .int .i64 a0_2, .int .i64 a0_3, .slice A0_4 l0_4.length c0_4]) (t := 25) ?hr ?_; (case hd => rfl); (case hg => rfl); (case hr => first | (go_simp; done) | (go_simp; rfl)); intro gb251 hg w3 hbox hb; have n0_ := Aside0.mk (below_step (by repeat (first | (with_reducible first | exact HB.out | apply below_alloc | apply pw_below_drewN | apply below_drew1) | exact HB.out)) hb); have n1_ := Aside0.mk (hbox); have n2_ := Aside0.mk ((by rw [hg]; exact (below_size (by repeat (first | (with_reducible first | exact HB.out | apply below_alloc | apply pw_below_drewN | apply below_drew1) | exact HB.out))) : w.heap.size ≤ gb251)); have n3_ := Aside0.mk ((by rw [hg]; exact (below_size (by repeat (first | (with_reducible first | exact HB.out | apply below_alloc | apply pw_below_drewN | apply below_drew1) | exact HB.out))) : w.heap.size ≤ gb251)); clear HB; have HB := n0_; have BK251 := n1_; have GW251 := n2_; have GE251 := n3_; clear n0_ n1_ n2_ n3_; clear hb hbox hg; have hcz4_0 : w3.cell? ⟨gb251, 0, none⟩ = some (.int .i64 a0_0) := (blk_cell BK251.out 0).trans rfl; have hcz4_1 : w3.cell? ⟨gb251, 1, none⟩ = some (.string a0_1) := (blk_cell BK251.out 1).trans rfl; have hcz4_2 : w3.cell? ⟨gb251, 2, none⟩ = some (.int .i64 a0_2) := (blk_cell BK251.out 2).trans rfl; have hcz4_3 : w3.cell? ⟨gb251, 3, none⟩ = some (.int .i64 a0_3) := (blk_cell BK251.out 3).trans rfl; have hcz4_4 : w3.cell? ⟨gb251, 4, none⟩ = some (.slice A0_4 l0_4.length c0_4) := (blk_cell BK251.out 4).trans rfl; have hfz4_0 := blk_frozen BK251.out 0; have hfz4_1 := blk_frozen BK251.out 1; have hfz4_2 := blk_frozen BK251.out 2; have hfz4_3 := blk_frozen BK251.out 3; have hfz4_4 := blk_frozen BK251.out 4))
  (try simp only [Act.put, List.setIfInBounds_toArray, List.set_cons_zero, List.set_cons_succ])
  go_cut [5] (fun v5 wc => ∃ (kq : Nat) (x5_1 : Bool), v5 = .bool x5_1 ∧ Aside0 (gossamerref02_name.j0 kq a0_0 x5_1 a0_0 a0_1 a0_2 a0_3 l0_4 = some r) ∧ Aside0 (kq ≤ k) ∧ Aside0 (wc.heap[gb251]? = some (.cells #[.int .i64 a0_0, .string a0_1, .int .i64 a0_2, .int .i64 a0_3, (.slice A0_4 l0_4.length c0_4)] 25 (0, 0))) ∧ Aside0 (Below w.heap.size w wc))
  case first =>
    have H := HC2.out
    clear HC2
    by_cases c5 : a0_0 = 1
    · rw [if_pos c5] at H
      have c5b0 : (a0_0 == 1) = true := beq_iff_eq.mpr c5
      have c5b1 : (a0_0 != 1) = false := bne_eq_false_iff_eq.mpr c5
      clear c5
      (first | rw [c5b0] | (simp only [i64_w, i32_w]; rw [c5b0]) | skip)
      have H' := Aside0.mk H
      clear H
      go_wp2
      go_meet
      case rel => exact ⟨_, ((a0_0 == 1)), (by first | rfl | (simp; done) | (simp [*]; done)), H', ⟨by first | omega | exact Nat.le_refl _⟩, ⟨by (with_reducible repeat (first | refine blk_drewN ?_ _ | refine blk_drew ?_ | refine blk_alloc ?_ _)); exact BK251.out⟩, ⟨by repeat (first | (with_reducible first | exact HB.out | apply below_alloc | apply pw_below_drewN | apply below_drew1 | refine below_set ?_ GE251.out) | exact HB.out)⟩⟩
    · rw [if_neg c5] at H
      have c5b0 : (a0_0 == 1) = false := beq_eq_false_iff_ne.mpr c5
      have c5b1 : (a0_0 != 1) = true := bne_iff_ne.mpr c5
      (first | rw [c5b0] | (simp only [i64_w, i32_w]; rw [c5b0]) | skip)
      by_cases c6 : a0_0 = 2
      · rw [if_pos c6] at H
        have c6b0 : (a0_0 == 2) = true := beq_iff_eq.mpr c6
        have c6b1 : (a0_0 != 2) = false := bne_eq_false_iff_eq.mpr c6
        clear c6
        have H' := Aside0.mk H
        clear H
        go_wp2
        go_meet
        case rel => exact ⟨_, ((a0_0 == 2)), (by first | rfl | (simp; done) | (simp [*]; done)), H', ⟨by first | omega | exact Nat.le_refl _⟩, ⟨by (with_reducible repeat (first | refine blk_drewN ?_ _ | refine blk_drew ?_ | refine blk_alloc ?_ _)); exact BK251.out⟩, ⟨by repeat (first | (with_reducible first | exact HB.out | apply below_alloc | apply pw_below_drewN | apply below_drew1 | refine below_set ?_ GE251.out) | exact HB.out)⟩⟩
      · rw [if_neg c6] at H
        have c6b0 : (a0_0 == 2) = false := beq_eq_false_iff_ne.mpr c6
        have c6b1 : (a0_0 != 2) = true := bne_iff_ne.mpr c6
        by_cases c7 : a0_0 = 4
        · rw [if_pos c7] at H
          have c7b0 : (a0_0 == 4) = true := beq_iff_eq.mpr c7
          have c7b1 : (a0_0 != 4) = false := bne_eq_false_iff_eq.mpr c7
          clear c7
          have H' := Aside0.mk H
          clear H
          go_wp2
          go_meet
          case rel => exact ⟨_, ((a0_0 == 4)), (by first | rfl | (simp; done) | (simp [*]; done)), H', ⟨by first | omega | exact Nat.le_refl _⟩, ⟨by (with_reducible repeat (first | refine blk_drewN ?_ _ | refine blk_drew ?_ | refine blk_alloc ?_ _)); exact BK251.out⟩, ⟨by repeat (first | (with_reducible first | exact HB.out | apply below_alloc | apply pw_below_drewN | apply below_drew1 | refine below_set ?_ GE251.out) | exact HB.out)⟩⟩
        · rw [if_neg c7] at H
          have c7b0 : (a0_0 == 4) = false := beq_eq_false_iff_ne.mpr c7
          have c7b1 : (a0_0 != 4) = true := bne_iff_ne.mpr c7
          have H' := Aside0.mk H
          clear H
          go_wp2
          go_meet
          case rel => exact ⟨_, ((a0_0 == 5)), (by first | rfl | (simp; done) | (simp [*]; done)), H', ⟨by first | omega | exact Nat.le_refl _⟩, ⟨by (with_reducible repeat (first | refine blk_drewN ?_ _ | refine blk_drew ?_ | refine blk_alloc ?_ _)); exact BK251.out⟩, ⟨by repeat (first | (with_reducible first | exact HB.out | apply below_alloc | apply pw_below_drewN | apply below_drew1 | refine below_set ?_ GE251.out) | exact HB.out)⟩⟩
  case rest =>
    clear HC2
    try clear p2
    try clear c3
    try clear c5
    try clear c5b0
    try clear c5b1
    try clear c6
    try clear c6b0
    try clear c6b1
    try clear c7
    try clear c7b0
    try clear c7b1
    try clear hcz4_0
    try clear hcz4_1
    try clear hcz4_2
    try clear hcz4_3
    try clear hcz4_4
    try clear hfz4_0
    try clear hfz4_1
    try clear hfz4_2
    try clear hfz4_3
    try clear hfz4_4
    obtain ⟨kq, x5_1, rfl, HA, HJ1, BK251, HB⟩ := hcut
    cases kq with
    | zero => exact absurd HA.out (by simp [gossamerref02_name.j0])
    | succ kj1 =>
      have H := HA.out
      clear HA
      simp only [gossamerref02_name.j0] at H
      by_cases c8 : x5_1 = true
      · subst c8
        have H1 : ((gossamerref02_token.f kj1 a0_1 1).bind fun t252 => (some t252)) = some r := by rw [if_pos rfl] at H; exact H
        clear H
        have H := H1
        clear H1
        replace H := Option.bind_eq_some_iff.mp H
        obtain ⟨t252, A90, H⟩ := H
        replace H : (some t252) = some r := H
        have A9 := Aside0.mk A90
        clear A90
        obtain rfl := Option.some.inj H
        have hcz10_0 : wc.cell? ⟨gb251, 0, none⟩ = some (.int .i64 a0_0) := (blk_cell BK251.out 0).trans rfl
        have hcz10_1 : wc.cell? ⟨gb251, 1, none⟩ = some (.string a0_1) := (blk_cell BK251.out 1).trans rfl
        have hcz10_2 : wc.cell? ⟨gb251, 2, none⟩ = some (.int .i64 a0_2) := (blk_cell BK251.out 2).trans rfl
        have hcz10_3 : wc.cell? ⟨gb251, 3, none⟩ = some (.int .i64 a0_3) := (blk_cell BK251.out 3).trans rfl
        have hcz10_4 : wc.cell? ⟨gb251, 4, none⟩ = some (.slice A0_4 l0_4.length c0_4) := (blk_cell BK251.out 4).trans rfl
        have hfz10_0 := blk_frozen BK251.out 0
        have hfz10_1 := blk_frozen BK251.out 1
        have hfz10_2 := blk_frozen BK251.out 2
        have hfz10_3 := blk_frozen BK251.out 3
        have hfz10_4 := blk_frozen BK251.out 4
        go_wp2_with (first | ((with_reducible refine gate_callee (f := 49) rfl ?_); refine goesL_ (some 12) rfl rfl Tryz.func49 (by kernel_rfl) rfl #[.string a0_1, .int .i64 1] rfl (by (try simp only [List.map_toArray, List.map_cons, List.map_nil]); first | done | rfl | (simp only [List.length_drop, List.length_take]; rfl)) ?_; (with_reducible refine (gossamerref02_token.calls kj1 a0_1 1 t252 _ A9.out).mono ?_); rintro e w11 ⟨rfl, hb⟩; refine ⟨_, rfl, ?_⟩; have n0_ := Aside0.mk (blk_below (g := gb251) (o := .cells #[.int .i64 a0_0, .string a0_1, .int .i64 a0_2, .int .i64 a0_3, .slice A0_4 l0_4.length c0_4] 25 (0, 0)) (by (with_reducible repeat (first | refine blk_drewN ?_ _ | refine blk_drew ?_ | refine blk_alloc ?_ _)); exact BK251.out) hb); have n1_ := Aside0.mk (below_step (by repeat (first | (with_reducible first | exact HB.out | apply below_alloc | apply pw_below_drewN | apply below_drew1 | refine below_set ?_ GE251.out) | exact HB.out)) hb); clear BK251; clear HB; have BK251 := n0_; have HB := n1_; clear n0_ n1_; (try clear hb); (try clear hb2); (try clear hk); (try clear hi)))
        go_ret
        exact ⟨by first | rfl | (simp [errW_none, errW_some] <;> rfl) | (simp [*, errW_none, errW_some] <;> rfl), by repeat (first | (with_reducible first | exact HB.out | apply below_alloc | apply pw_below_drewN | apply below_drew1 | refine below_set ?_ GE251.out) | exact HB.out)⟩
      · replace c8 := Bool.eq_false_iff.mpr c8
        subst c8
        have H1 : (if a0_0 = 6 then (gossamerref02_name.j1 kj1 a0_0 (a0_0 == 6) a0_0 a0_1 a0_2 a0_3 l0_4) else (gossamerref02_name.j1 kj1 a0_0 (a0_0 == 8) a0_0 a0_1 a0_2 a0_3 l0_4)) = some r := by rw [if_neg (show ¬ (false = true) by decide)] at H; exact H
        clear H
        have H := H1
        clear H1
        have HC12 := Aside0.mk H
        clear H
        go_upto_if 13 with (fail)
        go_cut [13] (fun v13 wc => ∃ (kq : Nat) (x13_11 : Bool), v13 = .bool x13_11 ∧ Aside0 (gossamerref02_name.j1 kq a0_0 x13_11 a0_0 a0_1 a0_2 a0_3 l0_4 = some r) ∧ Aside0 (kq ≤ kj1) ∧ Aside0 (wc.heap[gb251]? = some (.cells #[.int .i64 a0_0, .string a0_1, .int .i64 a0_2, .int .i64 a0_3, (.slice A0_4 l0_4.length c0_4)] 25 (0, 0))) ∧ Aside0 (Below w.heap.size w wc))
        case first =>
          have H := HC12.out
          clear HC12
          by_cases c13 : a0_0 = 6
          · rw [if_pos c13] at H
            have c13b0 : (a0_0 == 6) = true := beq_iff_eq.mpr c13
            have c13b1 : (a0_0 != 6) = false := bne_eq_false_iff_eq.mpr c13
            clear c13
            (first | rw [c13b0] | (simp only [i64_w, i32_w]; rw [c13b0]) | skip)
            have H' := Aside0.mk H
            clear H
            go_wp2
            go_meet
            case rel => exact ⟨_, ((a0_0 == 6)), (by first | rfl | (simp; done) | (simp [*]; done)), H', ⟨by have := HJ1.out; first | omega | exact Nat.le_refl _⟩, ⟨by (with_reducible repeat (first | refine blk_drewN ?_ _ | refine blk_drew ?_ | refine blk_alloc ?_ _)); exact BK251.out⟩, ⟨by repeat (first | (with_reducible first | exact HB.out | apply below_alloc | apply pw_below_drewN | apply below_drew1 | refine below_set ?_ GE251.out) | exact HB.out)⟩⟩
          · rw [if_neg c13] at H
            have c13b0 : (a0_0 == 6) = false := beq_eq_false_iff_ne.mpr c13
            have c13b1 : (a0_0 != 6) = true := bne_iff_ne.mpr c13
            (first | rw [c13b0] | (simp only [i64_w, i32_w]; rw [c13b0]) | skip)
            have H' := Aside0.mk H
            clear H
            go_wp2
            go_meet
            case rel => exact ⟨_, ((a0_0 == 8)), (by first | rfl | (simp; done) | (simp [*]; done)), H', ⟨by have := HJ1.out; first | omega | exact Nat.le_refl _⟩, ⟨by (with_reducible repeat (first | refine blk_drewN ?_ _ | refine blk_drew ?_ | refine blk_alloc ?_ _)); exact BK251.out⟩, ⟨by repeat (first | (with_reducible first | exact HB.out | apply below_alloc | apply pw_below_drewN | apply below_drew1 | refine below_set ?_ GE251.out) | exact HB.out)⟩⟩
        case rest =>
          clear HC12
          try clear c1
          try clear p2
          try clear c3
          try clear c4
          try clear c5
          try clear c5b0
          try clear c5b1
          try clear c6
          try clear c6b0
          try clear c6b1
          try clear c7
          try clear c7b0
          try clear c7b1
          try clear c8
          try clear c13
          try clear c13b0
          try clear c13b1
          try clear hcz10_0
          try clear hcz10_1
          try clear hcz10_2
          try clear hcz10_3
          try clear hcz10_4
          try clear hcz4_0
          try clear hcz4_1
          try clear hcz4_2
          try clear hcz4_3
          try clear hcz4_4
          try clear hfz10_0
          try clear hfz10_1
          try clear hfz10_2
          try clear hfz10_3
          try clear hfz10_4
          try clear hfz4_0
          try clear hfz4_1
          try clear hfz4_2
          try clear hfz4_3
          try clear hfz4_4
          try clear p2
          obtain ⟨kq, x13_11, rfl, HA, HJ11, BK251, HB⟩ := hcut
          cases kq with
          | zero => exact absurd HA.out (by simp [gossamerref02_name.j1])
          | succ kj11 =>
            have H := HA.out
            clear HA
            simp only [gossamerref02_name.j1] at H
            by_cases c14 : x13_11 = true
            · subst c14
              have H1 : ((gossamerref02_token.f kj11 a0_1 2).bind fun t253 => (some t253)) = some r := by rw [if_pos rfl] at H; exact H
              clear H
              have H := H1
              clear H1
              replace H := Option.bind_eq_some_iff.mp H
              obtain ⟨t253, A150, H⟩ := H
              replace H : (some t253) = some r := H
              have A15 := Aside0.mk A150
              clear A150
              obtain rfl := Option.some.inj H
              have hcz16_0 : wc.cell? ⟨gb251, 0, none⟩ = some (.int .i64 a0_0) := (blk_cell BK251.out 0).trans rfl
              have hcz16_1 : wc.cell? ⟨gb251, 1, none⟩ = some (.string a0_1) := (blk_cell BK251.out 1).trans rfl
              have hcz16_2 : wc.cell? ⟨gb251, 2, none⟩ = some (.int .i64 a0_2) := (blk_cell BK251.out 2).trans rfl
              have hcz16_3 : wc.cell? ⟨gb251, 3, none⟩ = some (.int .i64 a0_3) := (blk_cell BK251.out 3).trans rfl
              have hcz16_4 : wc.cell? ⟨gb251, 4, none⟩ = some (.slice A0_4 l0_4.length c0_4) := (blk_cell BK251.out 4).trans rfl
              have hfz16_0 := blk_frozen BK251.out 0
              have hfz16_1 := blk_frozen BK251.out 1
              have hfz16_2 := blk_frozen BK251.out 2
              have hfz16_3 := blk_frozen BK251.out 3
              have hfz16_4 := blk_frozen BK251.out 4
              go_wp2_with (first | ((with_reducible refine gate_callee (f := 49) rfl ?_); refine goesL_ (some 18) rfl rfl Tryz.func49 (by kernel_rfl) rfl #[.string a0_1, .int .i64 2] rfl (by (try simp only [List.map_toArray, List.map_cons, List.map_nil]); first | done | rfl | (simp only [List.length_drop, List.length_take]; rfl)) ?_; (with_reducible refine (gossamerref02_token.calls kj11 a0_1 2 t253 _ A15.out).mono ?_); rintro e w17 ⟨rfl, hb⟩; refine ⟨_, rfl, ?_⟩; have n0_ := Aside0.mk (blk_below (g := gb251) (o := .cells #[.int .i64 a0_0, .string a0_1, .int .i64 a0_2, .int .i64 a0_3, .slice A0_4 l0_4.length c0_4] 25 (0, 0)) (by (with_reducible repeat (first | refine blk_drewN ?_ _ | refine blk_drew ?_ | refine blk_alloc ?_ _)); exact BK251.out) hb); have n1_ := Aside0.mk (below_step (by repeat (first | (with_reducible first | exact HB.out | apply below_alloc | apply pw_below_drewN | apply below_drew1 | refine below_set ?_ GE251.out) | exact HB.out)) hb); clear BK251; clear HB; have BK251 := n0_; have HB := n1_; clear n0_ n1_; (try clear hb); (try clear hb2); (try clear hk); (try clear hi)))
              go_ret
              exact ⟨by first | rfl | (simp [errW_none, errW_some] <;> rfl) | (simp [*, errW_none, errW_some] <;> rfl), by repeat (first | (with_reducible first | exact HB.out | apply below_alloc | apply pw_below_drewN | apply below_drew1 | refine below_set ?_ GE251.out) | exact HB.out)⟩
            · replace c14 := Bool.eq_false_iff.mpr c14
              subst c14
              have H1 : (if a0_0 = 10 then (if a0_1.toList = ([43] : List UInt8) then (some true) else (if a0_1.toList = ([45] : List UInt8) then (some true) else (if a0_1.toList = ([42] : List UInt8) then (some true) else (if a0_1.toList = ([47] : List UInt8) then (some true) else (if a0_1.toList = ([60] : List UInt8) then (some true) else (some (a0_1.toList == ([61, 61] : List UInt8)))))))) else (some (a0_1.toList == ([] : List UInt8)))) = some r := by rw [if_neg (show ¬ (false = true) by decide)] at H; exact H
              clear H
              have H := H1
              clear H1
              by_cases c18 : a0_0 = 10
              · rw [if_pos c18] at H
                have c18b0 : (a0_0 == 10) = true := beq_iff_eq.mpr c18
                have c18b1 : (a0_0 != 10) = false := bne_eq_false_iff_eq.mpr c18
                clear c18
                by_cases c19 : a0_1.toList = ([43] : List UInt8)
                · rw [if_pos c19] at H
                  have c19b0 : (a0_1.toList == ([43] : List UInt8)) = true := beq_iff_eq.mpr c19
                  have c19b1 : (a0_1.toList != ([43] : List UInt8)) = false := bne_eq_false_iff_eq.mpr c19
                  clear c19
                  obtain rfl := Option.some.inj H
                  have hcz20_0 : wc.cell? ⟨gb251, 0, none⟩ = some (.int .i64 a0_0) := (blk_cell BK251.out 0).trans rfl
                  have hcz20_1 : wc.cell? ⟨gb251, 1, none⟩ = some (.string a0_1) := (blk_cell BK251.out 1).trans rfl
                  have hcz20_2 : wc.cell? ⟨gb251, 2, none⟩ = some (.int .i64 a0_2) := (blk_cell BK251.out 2).trans rfl
                  have hcz20_3 : wc.cell? ⟨gb251, 3, none⟩ = some (.int .i64 a0_3) := (blk_cell BK251.out 3).trans rfl
                  have hcz20_4 : wc.cell? ⟨gb251, 4, none⟩ = some (.slice A0_4 l0_4.length c0_4) := (blk_cell BK251.out 4).trans rfl
                  have hfz20_0 := blk_frozen BK251.out 0
                  have hfz20_1 := blk_frozen BK251.out 1
                  have hfz20_2 := blk_frozen BK251.out 2
                  have hfz20_3 := blk_frozen BK251.out 3
                  have hfz20_4 := blk_frozen BK251.out 4
                  go_wp2
                  go_ret
                  exact ⟨by first | rfl | (simp [errW_none, errW_some] <;> rfl) | (simp [*, errW_none, errW_some] <;> rfl), by repeat (first | (with_reducible first | exact HB.out | apply below_alloc | apply pw_below_drewN | apply below_drew1 | refine below_set ?_ GE251.out) | exact HB.out)⟩
                · rw [if_neg c19] at H
                  have c19b0 : (a0_1.toList == ([43] : List UInt8)) = false := beq_eq_false_iff_ne.mpr c19
                  have c19b1 : (a0_1.toList != ([43] : List UInt8)) = true := bne_iff_ne.mpr c19
                  by_cases c21 : a0_1.toList = ([45] : List UInt8)
                  · rw [if_pos c21] at H
                    have c21b0 : (a0_1.toList == ([45] : List UInt8)) = true := beq_iff_eq.mpr c21
                    have c21b1 : (a0_1.toList != ([45] : List UInt8)) = false := bne_eq_false_iff_eq.mpr c21
                    clear c21
                    obtain rfl := Option.some.inj H
                    have hcz22_0 : wc.cell? ⟨gb251, 0, none⟩ = some (.int .i64 a0_0) := (blk_cell BK251.out 0).trans rfl
                    have hcz22_1 : wc.cell? ⟨gb251, 1, none⟩ = some (.string a0_1) := (blk_cell BK251.out 1).trans rfl
                    have hcz22_2 : wc.cell? ⟨gb251, 2, none⟩ = some (.int .i64 a0_2) := (blk_cell BK251.out 2).trans rfl
                    have hcz22_3 : wc.cell? ⟨gb251, 3, none⟩ = some (.int .i64 a0_3) := (blk_cell BK251.out 3).trans rfl
                    have hcz22_4 : wc.cell? ⟨gb251, 4, none⟩ = some (.slice A0_4 l0_4.length c0_4) := (blk_cell BK251.out 4).trans rfl
                    have hfz22_0 := blk_frozen BK251.out 0
                    have hfz22_1 := blk_frozen BK251.out 1
                    have hfz22_2 := blk_frozen BK251.out 2
                    have hfz22_3 := blk_frozen BK251.out 3
                    have hfz22_4 := blk_frozen BK251.out 4
                    go_wp2
                    go_ret
                    exact ⟨by first | rfl | (simp [errW_none, errW_some] <;> rfl) | (simp [*, errW_none, errW_some] <;> rfl), by repeat (first | (with_reducible first | exact HB.out | apply below_alloc | apply pw_below_drewN | apply below_drew1 | refine below_set ?_ GE251.out) | exact HB.out)⟩
                  · rw [if_neg c21] at H
                    have c21b0 : (a0_1.toList == ([45] : List UInt8)) = false := beq_eq_false_iff_ne.mpr c21
                    have c21b1 : (a0_1.toList != ([45] : List UInt8)) = true := bne_iff_ne.mpr c21
                    by_cases c23 : a0_1.toList = ([42] : List UInt8)
                    · rw [if_pos c23] at H
                      have c23b0 : (a0_1.toList == ([42] : List UInt8)) = true := beq_iff_eq.mpr c23
                      have c23b1 : (a0_1.toList != ([42] : List UInt8)) = false := bne_eq_false_iff_eq.mpr c23
                      clear c23
                      obtain rfl := Option.some.inj H
                      have hcz24_0 : wc.cell? ⟨gb251, 0, none⟩ = some (.int .i64 a0_0) := (blk_cell BK251.out 0).trans rfl
                      have hcz24_1 : wc.cell? ⟨gb251, 1, none⟩ = some (.string a0_1) := (blk_cell BK251.out 1).trans rfl
                      have hcz24_2 : wc.cell? ⟨gb251, 2, none⟩ = some (.int .i64 a0_2) := (blk_cell BK251.out 2).trans rfl
                      have hcz24_3 : wc.cell? ⟨gb251, 3, none⟩ = some (.int .i64 a0_3) := (blk_cell BK251.out 3).trans rfl
                      have hcz24_4 : wc.cell? ⟨gb251, 4, none⟩ = some (.slice A0_4 l0_4.length c0_4) := (blk_cell BK251.out 4).trans rfl
                      have hfz24_0 := blk_frozen BK251.out 0
                      have hfz24_1 := blk_frozen BK251.out 1
                      have hfz24_2 := blk_frozen BK251.out 2
                      have hfz24_3 := blk_frozen BK251.out 3
                      have hfz24_4 := blk_frozen BK251.out 4
                      go_wp2
                      go_ret
                      exact ⟨by first | rfl | (simp [errW_none, errW_some] <;> rfl) | (simp [*, errW_none, errW_some] <;> rfl), by repeat (first | (with_reducible first | exact HB.out | apply below_alloc | apply pw_below_drewN | apply below_drew1 | refine below_set ?_ GE251.out) | exact HB.out)⟩
                    · rw [if_neg c23] at H
                      have c23b0 : (a0_1.toList == ([42] : List UInt8)) = false := beq_eq_false_iff_ne.mpr c23
                      have c23b1 : (a0_1.toList != ([42] : List UInt8)) = true := bne_iff_ne.mpr c23
                      by_cases c25 : a0_1.toList = ([47] : List UInt8)
                      · rw [if_pos c25] at H
                        have c25b0 : (a0_1.toList == ([47] : List UInt8)) = true := beq_iff_eq.mpr c25
                        have c25b1 : (a0_1.toList != ([47] : List UInt8)) = false := bne_eq_false_iff_eq.mpr c25
                        clear c25
                        obtain rfl := Option.some.inj H
                        have hcz26_0 : wc.cell? ⟨gb251, 0, none⟩ = some (.int .i64 a0_0) := (blk_cell BK251.out 0).trans rfl
                        have hcz26_1 : wc.cell? ⟨gb251, 1, none⟩ = some (.string a0_1) := (blk_cell BK251.out 1).trans rfl
                        have hcz26_2 : wc.cell? ⟨gb251, 2, none⟩ = some (.int .i64 a0_2) := (blk_cell BK251.out 2).trans rfl
                        have hcz26_3 : wc.cell? ⟨gb251, 3, none⟩ = some (.int .i64 a0_3) := (blk_cell BK251.out 3).trans rfl
                        have hcz26_4 : wc.cell? ⟨gb251, 4, none⟩ = some (.slice A0_4 l0_4.length c0_4) := (blk_cell BK251.out 4).trans rfl
                        have hfz26_0 := blk_frozen BK251.out 0
                        have hfz26_1 := blk_frozen BK251.out 1
                        have hfz26_2 := blk_frozen BK251.out 2
                        have hfz26_3 := blk_frozen BK251.out 3
                        have hfz26_4 := blk_frozen BK251.out 4
                        go_wp2
                        go_ret
                        exact ⟨by first | rfl | (simp [errW_none, errW_some] <;> rfl) | (simp [*, errW_none, errW_some] <;> rfl), by repeat (first | (with_reducible first | exact HB.out | apply below_alloc | apply pw_below_drewN | apply below_drew1 | refine below_set ?_ GE251.out) | exact HB.out)⟩
                      · rw [if_neg c25] at H
                        have c25b0 : (a0_1.toList == ([47] : List UInt8)) = false := beq_eq_false_iff_ne.mpr c25
                        have c25b1 : (a0_1.toList != ([47] : List UInt8)) = true := bne_iff_ne.mpr c25
                        by_cases c27 : a0_1.toList = ([60] : List UInt8)
                        · rw [if_pos c27] at H
                          have c27b0 : (a0_1.toList == ([60] : List UInt8)) = true := beq_iff_eq.mpr c27
                          have c27b1 : (a0_1.toList != ([60] : List UInt8)) = false := bne_eq_false_iff_eq.mpr c27
                          clear c27
                          obtain rfl := Option.some.inj H
                          have hcz28_0 : wc.cell? ⟨gb251, 0, none⟩ = some (.int .i64 a0_0) := (blk_cell BK251.out 0).trans rfl
                          have hcz28_1 : wc.cell? ⟨gb251, 1, none⟩ = some (.string a0_1) := (blk_cell BK251.out 1).trans rfl
                          have hcz28_2 : wc.cell? ⟨gb251, 2, none⟩ = some (.int .i64 a0_2) := (blk_cell BK251.out 2).trans rfl
                          have hcz28_3 : wc.cell? ⟨gb251, 3, none⟩ = some (.int .i64 a0_3) := (blk_cell BK251.out 3).trans rfl
                          have hcz28_4 : wc.cell? ⟨gb251, 4, none⟩ = some (.slice A0_4 l0_4.length c0_4) := (blk_cell BK251.out 4).trans rfl
                          have hfz28_0 := blk_frozen BK251.out 0
                          have hfz28_1 := blk_frozen BK251.out 1
                          have hfz28_2 := blk_frozen BK251.out 2
                          have hfz28_3 := blk_frozen BK251.out 3
                          have hfz28_4 := blk_frozen BK251.out 4
                          go_wp2
                          go_ret
                          exact ⟨by first | rfl | (simp [errW_none, errW_some] <;> rfl) | (simp [*, errW_none, errW_some] <;> rfl), by repeat (first | (with_reducible first | exact HB.out | apply below_alloc | apply pw_below_drewN | apply below_drew1 | refine below_set ?_ GE251.out) | exact HB.out)⟩
                        · rw [if_neg c27] at H
                          have c27b0 : (a0_1.toList == ([60] : List UInt8)) = false := beq_eq_false_iff_ne.mpr c27
                          have c27b1 : (a0_1.toList != ([60] : List UInt8)) = true := bne_iff_ne.mpr c27
                          obtain rfl := Option.some.inj H
                          have hcz29_0 : wc.cell? ⟨gb251, 0, none⟩ = some (.int .i64 a0_0) := (blk_cell BK251.out 0).trans rfl
                          have hcz29_1 : wc.cell? ⟨gb251, 1, none⟩ = some (.string a0_1) := (blk_cell BK251.out 1).trans rfl
                          have hcz29_2 : wc.cell? ⟨gb251, 2, none⟩ = some (.int .i64 a0_2) := (blk_cell BK251.out 2).trans rfl
                          have hcz29_3 : wc.cell? ⟨gb251, 3, none⟩ = some (.int .i64 a0_3) := (blk_cell BK251.out 3).trans rfl
                          have hcz29_4 : wc.cell? ⟨gb251, 4, none⟩ = some (.slice A0_4 l0_4.length c0_4) := (blk_cell BK251.out 4).trans rfl
                          have hfz29_0 := blk_frozen BK251.out 0
                          have hfz29_1 := blk_frozen BK251.out 1
                          have hfz29_2 := blk_frozen BK251.out 2
                          have hfz29_3 := blk_frozen BK251.out 3
                          have hfz29_4 := blk_frozen BK251.out 4
                          go_wp2
                          go_ret
                          exact ⟨by first | rfl | (simp [errW_none, errW_some] <;> rfl) | (simp [*, errW_none, errW_some] <;> rfl), by repeat (first | (with_reducible first | exact HB.out | apply below_alloc | apply pw_below_drewN | apply below_drew1 | refine below_set ?_ GE251.out) | exact HB.out)⟩
              · rw [if_neg c18] at H
                have c18b0 : (a0_0 == 10) = false := beq_eq_false_iff_ne.mpr c18
                have c18b1 : (a0_0 != 10) = true := bne_iff_ne.mpr c18
                obtain rfl := Option.some.inj H
                have hcz30_0 : wc.cell? ⟨gb251, 0, none⟩ = some (.int .i64 a0_0) := (blk_cell BK251.out 0).trans rfl
                have hcz30_1 : wc.cell? ⟨gb251, 1, none⟩ = some (.string a0_1) := (blk_cell BK251.out 1).trans rfl
                have hcz30_2 : wc.cell? ⟨gb251, 2, none⟩ = some (.int .i64 a0_2) := (blk_cell BK251.out 2).trans rfl
                have hcz30_3 : wc.cell? ⟨gb251, 3, none⟩ = some (.int .i64 a0_3) := (blk_cell BK251.out 3).trans rfl
                have hcz30_4 : wc.cell? ⟨gb251, 4, none⟩ = some (.slice A0_4 l0_4.length c0_4) := (blk_cell BK251.out 4).trans rfl
                have hfz30_0 := blk_frozen BK251.out 0
                have hfz30_1 := blk_frozen BK251.out 1
                have hfz30_2 := blk_frozen BK251.out 2
                have hfz30_3 := blk_frozen BK251.out 3
                have hfz30_4 := blk_frozen BK251.out 4
                go_wp2
                go_ret
                exact ⟨by first | rfl | (simp [errW_none, errW_some] <;> rfl) | (simp [*, errW_none, errW_some] <;> rfl), by repeat (first | (with_reducible first | exact HB.out | apply below_alloc | apply pw_below_drewN | apply below_drew1 | refine below_set ?_ GE251.out) | exact HB.out)⟩

end Go.Proofs.YtajcnjdinmgpjaaGreatDoor.P
namespace Go.Proofs.YtajcnjdinmgpjaaGreatDoor.P
open Go.RowKit Go.Proofs.YtajcnjdinmgpjaaGreatDoorW.PrintWords Go.Proofs.YtajcnjdinmgpjaaGreatDoorW.PrintLast Go.Proofs.YtajcnjdinmgpjaaGreatDoorW.PrintMore
attribute [local go_sem] max2_int min2_int max_two min_two max_three min_three max_four min_four   -- for this text's walks alone
set_option linter.unusedVariables false
set_option linter.unusedSimpArgs false

/-! ### gossamerref02_parts: function 32 -/
def gossamerref02_parts.j0 : Nat → Int → Int → Bool → Int → ByteArray → Int → Int → List (S25) → Option (Bool)
  | 0, _, _, _, _, _, _, _, _ => none
  | k + 1, x3, x8, x27, x255000, x255001, x255002, x255003, x255004 => if x27 = true then (if x3 = 2 then (some (x255002 == 0)) else (some false)) else (if x8 = 6 then (if x3 ≤ 8 then (some (x255002 == 0)) else (some false)) else (if x8 = 7 then (if x3 ≥ 2 then (if x3 ≤ 9 then (some (x255002 == 0)) else (some false)) else (some false)) else (if x8 = 8 then (if x255002 ≥ 0 then (if x255002 ≤ 8 then (some (x3 == (wrap64 (x255002 + 1)))) else (some false)) else (some false)) else (if x8 = 9 then (if x3 = 0 then (if x255002 ≥ 0 then (some (decide (x255002 < 1000000000000000000))) else (some false)) else (some false)) else (some false)))))
def gossamerref02_parts.f (k : Nat) (a0_0 : Int) (a0_1 : ByteArray) (a0_2 : Int) (a0_3 : Int) (l0_4 : List (S25)) : Option (Bool) := if a0_0 = 1 then (if (l0_4.length : Int) = 0 then (some (a0_2 == 0)) else (some false)) else (if a0_0 = 2 then (if (l0_4.length : Int) = 1 then (some (a0_2 == 0)) else (some false)) else (if a0_0 = 3 then (gossamerref02_parts.j0 k (l0_4.length : Int) a0_0 (a0_0 == 3) a0_0 a0_1 a0_2 a0_3 l0_4) else (if a0_0 = 4 then (gossamerref02_parts.j0 k (l0_4.length : Int) a0_0 (a0_0 == 4) a0_0 a0_1 a0_2 a0_3 l0_4) else (if a0_0 = 5 then (gossamerref02_parts.j0 k (l0_4.length : Int) a0_0 (a0_0 == 5) a0_0 a0_1 a0_2 a0_3 l0_4) else (gossamerref02_parts.j0 k (l0_4.length : Int) a0_0 (a0_0 == 10) a0_0 a0_1 a0_2 a0_3 l0_4)))))
theorem gossamerref02_parts.mono_l : ∀ k, (∀ y0 y1 y2 y3 y4 y5 y6 y7, LeO (gossamerref02_parts.j0 k y0 y1 y2 y3 y4 y5 y6 y7) (gossamerref02_parts.j0 (k + 1) y0 y1 y2 y3 y4 y5 y6 y7))
  | 0 => fun _ _ _ _ _ _ _ _ r h => by simp [gossamerref02_parts.j0] at h
  | k + 1 => by
    have ih0 := gossamerref02_parts.mono_l k
    · intro y0 y1 y2 y3 y4 y5 y6 y7
      unfold gossamerref02_parts.j0
      repeat' first
      | (with_reducible exact ih0 _ _ _ _ _ _ _ _)
      | (with_reducible exact LeO.refl _)
      | (with_reducible exact LeO.none _)
      | (with_reducible refine LeO.ite ?_ ?_)
      | (with_reducible refine LeO.bind ?_ (fun _ => ?_))
      | exact ih0 _ _ _ _ _ _ _ _
      | exact LeO.none _
      | refine LeO.ite ?_ ?_
      | refine LeO.bind ?_ (fun _ => ?_)
theorem gossamerref02_parts.mono : ∀ a0 a1 a2 a3 a4 k, LeO (gossamerref02_parts.f k a0 a1 a2 a3 a4) (gossamerref02_parts.f (k + 1) a0 a1 a2 a3 a4) := by
  intro a0 a1 a2 a3 a4 k
  have ih0 := gossamerref02_parts.mono_l k
  unfold gossamerref02_parts.f
  repeat' first
      | (with_reducible exact ih0 _ _ _ _ _ _ _ _)
      | (with_reducible exact LeO.refl _)
      | (with_reducible exact LeO.none _)
      | (with_reducible refine LeO.ite ?_ ?_)
      | (with_reducible refine LeO.bind ?_ (fun _ => ?_))
      | exact ih0 _ _ _ _ _ _ _ _
      | exact LeO.none _
      | refine LeO.ite ?_ ?_
      | refine LeO.bind ?_ (fun _ => ?_)
set_option maxHeartbeats 8000000 in
set_option maxRecDepth 100000 in
theorem gossamerref02_parts.calls (k : Nat) (a0_0 : Int) (a0_1 : ByteArray) (a0_2 : Int) (a0_3 : Int) (A0_4 : Option Addr) (c0_4 : Nat) (l0_4 : List (S25)) (r : Bool) (w : World) (hr0_4 : Kd.C k25 w A0_4 l0_4.length l0_4) (hc0_4 : l0_4.length ≤ c0_4) (h : gossamerref02_parts.f k a0_0 a0_1 a0_2 a0_3 l0_4 = some r) :
    Calls Tryz.prog 32 #[.agg #[.int .i64 a0_0, .string a0_1, .int .i64 a0_2, .int .i64 a0_3, .slice A0_4 l0_4.length c0_4]] w fun e w' => e = .returned (.bool r) ∧ Below w.heap.size w w' := by
  have hu25 := Tryz.underlying25
  have HR0_4 := Aside0.mk hr0_4
  have HC0_4 := Aside0.mk hc0_4
  clear hr0_4 hc0_4
  have HB := Aside0.mk (Below.refl w.heap.size w)
  have H : (if a0_0 = 1 then (if (l0_4.length : Int) = 0 then (some (a0_2 == 0)) else (some false)) else (if a0_0 = 2 then (if (l0_4.length : Int) = 1 then (some (a0_2 == 0)) else (some false)) else (if a0_0 = 3 then (gossamerref02_parts.j0 k (l0_4.length : Int) a0_0 (a0_0 == 3) a0_0 a0_1 a0_2 a0_3 l0_4) else (if a0_0 = 4 then (gossamerref02_parts.j0 k (l0_4.length : Int) a0_0 (a0_0 == 4) a0_0 a0_1 a0_2 a0_3 l0_4) else (if a0_0 = 5 then (gossamerref02_parts.j0 k (l0_4.length : Int) a0_0 (a0_0 == 5) a0_0 a0_1 a0_2 a0_3 l0_4) else (gossamerref02_parts.j0 k (l0_4.length : Int) a0_0 (a0_0 == 10) a0_0 a0_1 a0_2 a0_3 l0_4)))))) = some r := h
  clear h
  by_cases c2 : a0_0 = 1
  · rw [if_pos c2] at H
    have c2b0 : (a0_0 == 1) = true := beq_iff_eq.mpr c2
    have c2b1 : (a0_0 != 1) = false := bne_eq_false_iff_eq.mpr c2
    clear c2
    by_cases c3 : (l0_4.length : Int) = 0
    · rw [if_pos c3] at H
      have c3b0 : ((l0_4.length : Int) == 0) = true := beq_iff_eq.mpr c3
      have c3b1 : ((l0_4.length : Int) != 0) = false := bne_eq_false_iff_eq.mpr c3
      clear c3
      obtain rfl := Option.some.inj H
      go_enter Tryz.func32, Tryz.ntmps32
      go_wp2_with (first | ((with_reducible refine gate_dst (N := 1) rfl ?_); refine box_event ?hg (N := 1) ?hd (cs := #[.int .i64 a0_0, .string a0_1, .int .i64 a0_2, .int .i64 a0_3, .slice A0_4 l0_4.length c0_4]) (t := 25) ?hr ?_; (case hd => rfl); (case hg => rfl); (case hr => first | (go_simp; done) | (go_simp; rfl)); intro gb254 hg w4 hbox hb; have n0_ := Aside0.mk (below_step (by repeat (first | (with_reducible first | exact HB.out | apply below_alloc | apply pw_below_drewN | apply below_drew1) | exact HB.out)) hb); have n1_ := Aside0.mk (hbox); have n2_ := Aside0.mk ((by rw [hg]; exact (below_size (by repeat (first | (with_reducible first | exact HB.out | apply below_alloc | apply pw_below_drewN | apply below_drew1) | exact HB.out))) : w.heap.size ≤ gb254)); have n3_ := Aside0.mk ((by rw [hg]; exact (below_size (by repeat (first | (with_reducible first | exact HB.out | apply below_alloc | apply pw_below_drewN | apply below_drew1) | exact HB.out))) : w.heap.size ≤ gb254)); clear HB; have HB := n0_; have BK254 := n1_; have GW254 := n2_; have GE254 := n3_; clear n0_ n1_ n2_ n3_; clear hb hbox hg; have hcz5_0 : w4.cell? ⟨gb254, 0, none⟩ = some (.int .i64 a0_0) := (blk_cell BK254.out 0).trans rfl; have hcz5_1 : w4.cell? ⟨gb254, 1, none⟩ = some (.string a0_1) := (blk_cell BK254.out 1).trans rfl; have hcz5_2 : w4.cell? ⟨gb254, 2, none⟩ = some (.int .i64 a0_2) := (blk_cell BK254.out 2).trans rfl; have hcz5_3 : w4.cell? ⟨gb254, 3, none⟩ = some (.int .i64 a0_3) := (blk_cell BK254.out 3).trans rfl; have hcz5_4 : w4.cell? ⟨gb254, 4, none⟩ = some (.slice A0_4 l0_4.length c0_4) := (blk_cell BK254.out 4).trans rfl; have hfz5_0 := blk_frozen BK254.out 0; have hfz5_1 := blk_frozen BK254.out 1; have hfz5_2 := blk_frozen BK254.out 2; have hfz5_3 := blk_frozen BK254.out 3; have hfz5_4 := blk_frozen BK254.out 4))
      go_ret
      exact ⟨by first | rfl | (simp [errW_none, errW_some] <;> rfl) | (simp [*, errW_none, errW_some] <;> rfl), by repeat (first | (with_reducible first | exact HB.out | apply below_alloc | apply pw_below_drewN | apply below_drew1 | refine below_set ?_ GE254.out) | exact HB.out)⟩
    · rw [if_neg c3] at H
      have c3b0 : ((l0_4.length : Int) == 0) = false := beq_eq_false_iff_ne.mpr c3
      have c3b1 : ((l0_4.length : Int) != 0) = true := bne_iff_ne.mpr c3
      have c3b2 : ¬ (l0_4 = []) := fun h_ => c3 (by rw [h_]; rfl)
      obtain rfl := Option.some.inj H
      go_enter Tryz.func32, Tryz.ntmps32
      go_wp2_with (first | ((with_reducible refine gate_dst (N := 1) rfl ?_); refine box_event ?hg (N := 1) ?hd (cs := #[.int .i64 a0_0, .string a0_1, .int .i64 a0_2, .int .i64 a0_3, .slice A0_4 l0_4.length c0_4]) (t := 25) ?hr ?_; (case hd => rfl); (case hg => rfl); (case hr => first | (go_simp; done) | (go_simp; rfl)); intro gb254 hg w6 hbox hb; have n0_ := Aside0.mk (below_step (by repeat (first | (with_reducible first | exact HB.out | apply below_alloc | apply pw_below_drewN | apply below_drew1) | exact HB.out)) hb); have n1_ := Aside0.mk (hbox); have n2_ := Aside0.mk ((by rw [hg]; exact (below_size (by repeat (first | (with_reducible first | exact HB.out | apply below_alloc | apply pw_below_drewN | apply below_drew1) | exact HB.out))) : w.heap.size ≤ gb254)); have n3_ := Aside0.mk ((by rw [hg]; exact (below_size (by repeat (first | (with_reducible first | exact HB.out | apply below_alloc | apply pw_below_drewN | apply below_drew1) | exact HB.out))) : w.heap.size ≤ gb254)); clear HB; have HB := n0_; have BK254 := n1_; have GW254 := n2_; have GE254 := n3_; clear n0_ n1_ n2_ n3_; clear hb hbox hg; have hcz7_0 : w6.cell? ⟨gb254, 0, none⟩ = some (.int .i64 a0_0) := (blk_cell BK254.out 0).trans rfl; have hcz7_1 : w6.cell? ⟨gb254, 1, none⟩ = some (.string a0_1) := (blk_cell BK254.out 1).trans rfl; have hcz7_2 : w6.cell? ⟨gb254, 2, none⟩ = some (.int .i64 a0_2) := (blk_cell BK254.out 2).trans rfl; have hcz7_3 : w6.cell? ⟨gb254, 3, none⟩ = some (.int .i64 a0_3) := (blk_cell BK254.out 3).trans rfl; have hcz7_4 : w6.cell? ⟨gb254, 4, none⟩ = some (.slice A0_4 l0_4.length c0_4) := (blk_cell BK254.out 4).trans rfl; have hfz7_0 := blk_frozen BK254.out 0; have hfz7_1 := blk_frozen BK254.out 1; have hfz7_2 := blk_frozen BK254.out 2; have hfz7_3 := blk_frozen BK254.out 3; have hfz7_4 := blk_frozen BK254.out 4))
      go_ret
      exact ⟨by first | rfl | (simp [errW_none, errW_some] <;> rfl) | (simp [*, errW_none, errW_some] <;> rfl), by repeat (first | (with_reducible first | exact HB.out | apply below_alloc | apply pw_below_drewN | apply below_drew1 | refine below_set ?_ GE254.out) | exact HB.out)⟩
  · rw [if_neg c2] at H
    have c2b0 : (a0_0 == 1) = false := beq_eq_false_iff_ne.mpr c2
    have c2b1 : (a0_0 != 1) = true := bne_iff_ne.mpr c2
    by_cases c8 : a0_0 = 2
    · rw [if_pos c8] at H
      have c8b0 : (a0_0 == 2) = true := beq_iff_eq.mpr c8
      have c8b1 : (a0_0 != 2) = false := bne_eq_false_iff_eq.mpr c8
      clear c8
      by_cases c9 : (l0_4.length : Int) = 1
      · rw [if_pos c9] at H
        have c9b0 : ((l0_4.length : Int) == 1) = true := beq_iff_eq.mpr c9
        have c9b1 : ((l0_4.length : Int) != 1) = false := bne_eq_false_iff_eq.mpr c9
        clear c9
        obtain rfl := Option.some.inj H
        go_enter Tryz.func32, Tryz.ntmps32
        go_wp2_with (first | ((with_reducible refine gate_dst (N := 1) rfl ?_); refine box_event ?hg (N := 1) ?hd (cs := #[.int .i64 a0_0, .string a0_1, .int .i64 a0_2, .int .i64 a0_3, .slice A0_4 l0_4.length c0_4]) (t := 25) ?hr ?_; (case hd => rfl); (case hg => rfl); (case hr => first | (go_simp; done) | (go_simp; rfl)); intro gb254 hg w10 hbox hb; have n0_ := Aside0.mk (below_step (by repeat (first | (with_reducible first | exact HB.out | apply below_alloc | apply pw_below_drewN | apply below_drew1) | exact HB.out)) hb); have n1_ := Aside0.mk (hbox); have n2_ := Aside0.mk ((by rw [hg]; exact (below_size (by repeat (first | (with_reducible first | exact HB.out | apply below_alloc | apply pw_below_drewN | apply below_drew1) | exact HB.out))) : w.heap.size ≤ gb254)); have n3_ := Aside0.mk ((by rw [hg]; exact (below_size (by repeat (first | (with_reducible first | exact HB.out | apply below_alloc | apply pw_below_drewN | apply below_drew1) | exact HB.out))) : w.heap.size ≤ gb254)); clear HB; have HB := n0_; have BK254 := n1_; have GW254 := n2_; have GE254 := n3_; clear n0_ n1_ n2_ n3_; clear hb hbox hg; have hcz11_0 : w10.cell? ⟨gb254, 0, none⟩ = some (.int .i64 a0_0) := (blk_cell BK254.out 0).trans rfl; have hcz11_1 : w10.cell? ⟨gb254, 1, none⟩ = some (.string a0_1) := (blk_cell BK254.out 1).trans rfl; have hcz11_2 : w10.cell? ⟨gb254, 2, none⟩ = some (.int .i64 a0_2) := (blk_cell BK254.out 2).trans rfl; have hcz11_3 : w10.cell? ⟨gb254, 3, none⟩ = some (.int .i64 a0_3) := (blk_cell BK254.out 3).trans rfl; have hcz11_4 : w10.cell? ⟨gb254, 4, none⟩ = some (.slice A0_4 l0_4.length c0_4) := (blk_cell BK254.out 4).trans rfl; have hfz11_0 := blk_frozen BK254.out 0; have hfz11_1 := blk_frozen BK254.out 1; have hfz11_2 := blk_frozen BK254.out 2; have hfz11_3 := blk_frozen BK254.out 3; have hfz11_4 := blk_frozen BK254.out 4))
        go_ret
        exact ⟨by first | rfl | (simp [errW_none, errW_some] <;> rfl) | (simp [*, errW_none, errW_some] <;> rfl), by repeat (first | (with_reducible first | exact HB.out | apply below_alloc | apply pw_below_drewN | apply below_drew1 | refine below_set ?_ GE254.out) | exact HB.out)⟩
      · rw [if_neg c9] at H
        have c9b0 : ((l0_4.length : Int) == 1) = false := beq_eq_false_iff_ne.mpr c9
        have c9b1 : ((l0_4.length : Int) != 1) = true := bne_iff_ne.mpr c9
        obtain rfl := Option.some.inj H
        go_enter Tryz.func32, Tryz.ntmps32
        go_wp2_with (first | ((with_reducible refine gate_dst (N := 1) rfl ?_); refine box_event ?hg (N := 1) ?hd (cs := #[.int .i64 a0_0, .string a0_1, .int .i64 a0_2, .int .i64 a0_3, .slice A0_4 l0_4.length c0_4]) (t := 25) ?hr ?_; (case hd => rfl); (case hg => rfl); (case hr => first | (go_simp; done) | (go_simp; rfl)); intro gb254 hg w12 hbox hb; have n0_ := Aside0.mk (below_step (by repeat (first | (with_reducible first | exact HB.out | apply below_alloc | apply pw_below_drewN | apply below_drew1) | exact HB.out)) hb); have n1_ := Aside0.mk (hbox); have n2_ := Aside0.mk ((by rw [hg]; exact (below_size (by repeat (first | (with_reducible first | exact HB.out | apply below_alloc | apply pw_below_drewN | apply below_drew1) | exact HB.out))) : w.heap.size ≤ gb254)); have n3_ := Aside0.mk ((by rw [hg]; exact (below_size (by repeat (first | (with_reducible first | exact HB.out | apply below_alloc | apply pw_below_drewN | apply below_drew1) | exact HB.out))) : w.heap.size ≤ gb254)); clear HB; have HB := n0_; have BK254 := n1_; have GW254 := n2_; have GE254 := n3_; clear n0_ n1_ n2_ n3_; clear hb hbox hg; have hcz13_0 : w12.cell? ⟨gb254, 0, none⟩ = some (.int .i64 a0_0) := (blk_cell BK254.out 0).trans rfl; have hcz13_1 : w12.cell? ⟨gb254, 1, none⟩ = some (.string a0_1) := (blk_cell BK254.out 1).trans rfl; have hcz13_2 : w12.cell? ⟨gb254, 2, none⟩ = some (.int .i64 a0_2) := (blk_cell BK254.out 2).trans rfl; have hcz13_3 : w12.cell? ⟨gb254, 3, none⟩ = some (.int .i64 a0_3) := (blk_cell BK254.out 3).trans rfl; have hcz13_4 : w12.cell? ⟨gb254, 4, none⟩ = some (.slice A0_4 l0_4.length c0_4) := (blk_cell BK254.out 4).trans rfl; have hfz13_0 := blk_frozen BK254.out 0; have hfz13_1 := blk_frozen BK254.out 1; have hfz13_2 := blk_frozen BK254.out 2; have hfz13_3 := blk_frozen BK254.out 3; have hfz13_4 := blk_frozen BK254.out 4))
        go_ret
        exact ⟨by first | rfl | (simp [errW_none, errW_some] <;> rfl) | (simp [*, errW_none, errW_some] <;> rfl), by repeat (first | (with_reducible first | exact HB.out | apply below_alloc | apply pw_below_drewN | apply below_drew1 | refine below_set ?_ GE254.out) | exact HB.out)⟩
    · rw [if_neg c8] at H
      have c8b0 : (a0_0 == 2) = false := beq_eq_false_iff_ne.mpr c8
      have c8b1 : (a0_0 != 2) = true := bne_iff_ne.mpr c8
      have HC14 := Aside0.mk H
      clear H
      go_enter Tryz.func32, Tryz.ntmps32
      go_upto_if 27 with (first | ((with_reducible refine gate_dst (N := 1) rfl ?_); refine box_event ?hg (N := 1) ?hd (cs := #[.int .i64 a0_0, .string a0_1, .int .i64 a0_2, .int .i64 a0_3, .slice A0_4 l0_4.length c0_4]) (t := 25) ?hr ?_; (case hd => rfl); (case hg => rfl); (case hr => first | (go_simp; done) | (go_simp; rfl)); intro gb254 hg w15 hbox hb; have n0_ := Aside0.mk (below_step (by repeat (first | (with_reducible first | exact HB.out | apply below_alloc | apply pw_below_drewN | apply below_drew1) | exact HB.out)) hb); have n1_ := Aside0.mk (hbox); have n2_ := Aside0.mk ((by rw [hg]; exact (below_size (by repeat (first | (with_reducible first | exact HB.out | apply below_alloc | apply pw_below_drewN | apply below_drew1) | exact HB.out))) : w.heap.size ≤ gb254)); have n3_ := Aside0.mk ((by rw [hg]; exact (below_size (by repeat (first | (with_reducible first | exact HB.out | apply below_alloc | apply pw_below_drewN | apply below_drew1) | exact HB.out))) : w.heap.size ≤ gb254)); clear HB; have HB := n0_; have BK254 := n1_; have GW254 := n2_; have GE254 := n3_; clear n0_ n1_ n2_ n3_; clear hb hbox hg; have hcz16_0 : w15.cell? ⟨gb254, 0, none⟩ = some (.int .i64 a0_0) := (blk_cell BK254.out 0).trans rfl; have hcz16_1 : w15.cell? ⟨gb254, 1, none⟩ = some (.string a0_1) := (blk_cell BK254.out 1).trans rfl; have hcz16_2 : w15.cell? ⟨gb254, 2, none⟩ = some (.int .i64 a0_2) := (blk_cell BK254.out 2).trans rfl; have hcz16_3 : w15.cell? ⟨gb254, 3, none⟩ = some (.int .i64 a0_3) := (blk_cell BK254.out 3).trans rfl; have hcz16_4 : w15.cell? ⟨gb254, 4, none⟩ = some (.slice A0_4 l0_4.length c0_4) := (blk_cell BK254.out 4).trans rfl; have hfz16_0 := blk_frozen BK254.out 0; have hfz16_1 := blk_frozen BK254.out 1; have hfz16_2 := blk_frozen BK254.out 2; have hfz16_3 := blk_frozen BK254.out 3; have hfz16_4 := blk_frozen BK254.out 4))
      (try simp only [Act.put, List.setIfInBounds_toArray, List.set_cons_zero, List.set_cons_succ])
      go_cut [27] (fun v27 wc => ∃ (kq : Nat) (x27_13 : Bool), v27 = .bool x27_13 ∧ Aside0 (gossamerref02_parts.j0 kq (l0_4.length : Int) a0_0 x27_13 a0_0 a0_1 a0_2 a0_3 l0_4 = some r) ∧ Aside0 (kq ≤ k) ∧ Aside0 (wc.heap[gb254]? = some (.cells #[.int .i64 a0_0, .string a0_1, .int .i64 a0_2, .int .i64 a0_3, (.slice A0_4 l0_4.length c0_4)] 25 (0, 0))) ∧ Aside0 (Below w.heap.size w wc))
      case first =>
        have H := HC14.out
        clear HC14
        by_cases c17 : a0_0 = 3
        · rw [if_pos c17] at H
          have c17b0 : (a0_0 == 3) = true := beq_iff_eq.mpr c17
          have c17b1 : (a0_0 != 3) = false := bne_eq_false_iff_eq.mpr c17
          clear c17
          (first | rw [c17b0] | (simp only [i64_w, i32_w]; rw [c17b0]) | skip)
          have H' := Aside0.mk H
          clear H
          go_wp2
          go_meet
          case rel => exact ⟨_, ((a0_0 == 3)), (by first | rfl | (simp; done) | (simp [*]; done)), H', ⟨by first | omega | exact Nat.le_refl _⟩, ⟨by (with_reducible repeat (first | refine blk_drewN ?_ _ | refine blk_drew ?_ | refine blk_alloc ?_ _)); exact BK254.out⟩, ⟨by repeat (first | (with_reducible first | exact HB.out | apply below_alloc | apply pw_below_drewN | apply below_drew1 | refine below_set ?_ GE254.out) | exact HB.out)⟩⟩
        · rw [if_neg c17] at H
          have c17b0 : (a0_0 == 3) = false := beq_eq_false_iff_ne.mpr c17
          have c17b1 : (a0_0 != 3) = true := bne_iff_ne.mpr c17
          (first | rw [c17b0] | (simp only [i64_w, i32_w]; rw [c17b0]) | skip)
          by_cases c18 : a0_0 = 4
          · rw [if_pos c18] at H
            have c18b0 : (a0_0 == 4) = true := beq_iff_eq.mpr c18
            have c18b1 : (a0_0 != 4) = false := bne_eq_false_iff_eq.mpr c18
            clear c18
            have H' := Aside0.mk H
            clear H
            go_wp2
            go_meet
            case rel => exact ⟨_, ((a0_0 == 4)), (by first | rfl | (simp; done) | (simp [*]; done)), H', ⟨by first | omega | exact Nat.le_refl _⟩, ⟨by (with_reducible repeat (first | refine blk_drewN ?_ _ | refine blk_drew ?_ | refine blk_alloc ?_ _)); exact BK254.out⟩, ⟨by repeat (first | (with_reducible first | exact HB.out | apply below_alloc | apply pw_below_drewN | apply below_drew1 | refine below_set ?_ GE254.out) | exact HB.out)⟩⟩
          · rw [if_neg c18] at H
            have c18b0 : (a0_0 == 4) = false := beq_eq_false_iff_ne.mpr c18
            have c18b1 : (a0_0 != 4) = true := bne_iff_ne.mpr c18
            by_cases c19 : a0_0 = 5
            · rw [if_pos c19] at H
              have c19b0 : (a0_0 == 5) = true := beq_iff_eq.mpr c19
              have c19b1 : (a0_0 != 5) = false := bne_eq_false_iff_eq.mpr c19
              clear c19
              have H' := Aside0.mk H
              clear H
              go_wp2
              go_meet
              case rel => exact ⟨_, ((a0_0 == 5)), (by first | rfl | (simp; done) | (simp [*]; done)), H', ⟨by first | omega | exact Nat.le_refl _⟩, ⟨by (with_reducible repeat (first | refine blk_drewN ?_ _ | refine blk_drew ?_ | refine blk_alloc ?_ _)); exact BK254.out⟩, ⟨by repeat (first | (with_reducible first | exact HB.out | apply below_alloc | apply pw_below_drewN | apply below_drew1 | refine below_set ?_ GE254.out) | exact HB.out)⟩⟩
            · rw [if_neg c19] at H
              have c19b0 : (a0_0 == 5) = false := beq_eq_false_iff_ne.mpr c19
              have c19b1 : (a0_0 != 5) = true := bne_iff_ne.mpr c19
              have H' := Aside0.mk H
              clear H
              go_wp2
              go_meet
              case rel => exact ⟨_, ((a0_0 == 10)), (by first | rfl | (simp; done) | (simp [*]; done)), H', ⟨by first | omega | exact Nat.le_refl _⟩, ⟨by (with_reducible repeat (first | refine blk_drewN ?_ _ | refine blk_drew ?_ | refine blk_alloc ?_ _)); exact BK254.out⟩, ⟨by repeat (first | (with_reducible first | exact HB.out | apply below_alloc | apply pw_below_drewN | apply below_drew1 | refine below_set ?_ GE254.out) | exact HB.out)⟩⟩
      case rest =>
        clear HC14
        try clear c1
        try clear c2
        try clear c2b0
        try clear c2b1
        try clear p2
        try clear c3
        try clear c3b0
        try clear c3b1
        try clear c3b2
        try clear c8
        try clear c8b0
        try clear c8b1
        try clear c9
        try clear c9b0
        try clear c9b1
        try clear c17
        try clear c17b0
        try clear c17b1
        try clear c18
        try clear c18b0
        try clear c18b1
        try clear c19
        try clear c19b0
        try clear c19b1
        try clear hcz11_0
        try clear hcz11_1
        try clear hcz11_2
        try clear hcz11_3
        try clear hcz11_4
        try clear hcz13_0
        try clear hcz13_1
        try clear hcz13_2
        try clear hcz13_3
        try clear hcz13_4
        try clear hcz16_0
        try clear hcz16_1
        try clear hcz16_2
        try clear hcz16_3
        try clear hcz16_4
        try clear hcz5_0
        try clear hcz5_1
        try clear hcz5_2
        try clear hcz5_3
        try clear hcz5_4
        try clear hcz7_0
        try clear hcz7_1
        try clear hcz7_2
        try clear hcz7_3
        try clear hcz7_4
        try clear hfz11_0
        try clear hfz11_1
        try clear hfz11_2
        try clear hfz11_3
        try clear hfz11_4
        try clear hfz13_0
        try clear hfz13_1
        try clear hfz13_2
        try clear hfz13_3
        try clear hfz13_4
        try clear hfz16_0
        try clear hfz16_1
        try clear hfz16_2
        try clear hfz16_3
        try clear hfz16_4
        try clear hfz5_0
        try clear hfz5_1
        try clear hfz5_2
        try clear hfz5_3
        try clear hfz5_4
        try clear hfz7_0
        try clear hfz7_1
        try clear hfz7_2
        try clear hfz7_3
        try clear hfz7_4
        obtain ⟨kq, x27_13, rfl, HA, HJ13, BK254, HB⟩ := hcut
        cases kq with
        | zero => exact absurd HA.out (by simp [gossamerref02_parts.j0])
        | succ kj13 =>
          have H := HA.out
          clear HA
          simp only [gossamerref02_parts.j0] at H
          by_cases c20 : x27_13 = true
          · subst c20
            have H1 : (if (l0_4.length : Int) = 2 then (some (a0_2 == 0)) else (some false)) = some r := by rw [if_pos rfl] at H; exact H
            clear H
            have H := H1
            clear H1
            by_cases c21 : (l0_4.length : Int) = 2
            · rw [if_pos c21] at H
              have c21b0 : ((l0_4.length : Int) == 2) = true := beq_iff_eq.mpr c21
              have c21b1 : ((l0_4.length : Int) != 2) = false := bne_eq_false_iff_eq.mpr c21
              clear c21
              obtain rfl := Option.some.inj H
              have hcz22_0 : wc.cell? ⟨gb254, 0, none⟩ = some (.int .i64 a0_0) := (blk_cell BK254.out 0).trans rfl
              have hcz22_1 : wc.cell? ⟨gb254, 1, none⟩ = some (.string a0_1) := (blk_cell BK254.out 1).trans rfl
              have hcz22_2 : wc.cell? ⟨gb254, 2, none⟩ = some (.int .i64 a0_2) := (blk_cell BK254.out 2).trans rfl
              have hcz22_3 : wc.cell? ⟨gb254, 3, none⟩ = some (.int .i64 a0_3) := (blk_cell BK254.out 3).trans rfl
              have hcz22_4 : wc.cell? ⟨gb254, 4, none⟩ = some (.slice A0_4 l0_4.length c0_4) := (blk_cell BK254.out 4).trans rfl
              have hfz22_0 := blk_frozen BK254.out 0
              have hfz22_1 := blk_frozen BK254.out 1
              have hfz22_2 := blk_frozen BK254.out 2
              have hfz22_3 := blk_frozen BK254.out 3
              have hfz22_4 := blk_frozen BK254.out 4
              go_wp2
              go_ret
              exact ⟨by first | rfl | (simp [errW_none, errW_some] <;> rfl) | (simp [*, errW_none, errW_some] <;> rfl), by repeat (first | (with_reducible first | exact HB.out | apply below_alloc | apply pw_below_drewN | apply below_drew1 | refine below_set ?_ GE254.out) | exact HB.out)⟩
            · rw [if_neg c21] at H
              have c21b0 : ((l0_4.length : Int) == 2) = false := beq_eq_false_iff_ne.mpr c21
              have c21b1 : ((l0_4.length : Int) != 2) = true := bne_iff_ne.mpr c21
              obtain rfl := Option.some.inj H
              go_wp2
              go_ret
              exact ⟨by first | rfl | (simp [errW_none, errW_some] <;> rfl) | (simp [*, errW_none, errW_some] <;> rfl), by repeat (first | (with_reducible first | exact HB.out | apply below_alloc | apply pw_below_drewN | apply below_drew1 | refine below_set ?_ GE254.out) | exact HB.out)⟩
          · replace c20 := Bool.eq_false_iff.mpr c20
            subst c20
            have H1 : (if a0_0 = 6 then (if (l0_4.length : Int) ≤ 8 then (some (a0_2 == 0)) else (some false)) else (if a0_0 = 7 then (if (l0_4.length : Int) ≥ 2 then (if (l0_4.length : Int) ≤ 9 then (some (a0_2 == 0)) else (some false)) else (some false)) else (if a0_0 = 8 then (if a0_2 ≥ 0 then (if a0_2 ≤ 8 then (some ((l0_4.length : Int) == (wrap64 (a0_2 + 1)))) else (some false)) else (some false)) else (if a0_0 = 9 then (if (l0_4.length : Int) = 0 then (if a0_2 ≥ 0 then (some (decide (a0_2 < 1000000000000000000))) else (some false)) else (some false)) else (some false))))) = some r := by rw [if_neg (show ¬ (false = true) by decide)] at H; exact H
            clear H
            have H := H1
            clear H1
            by_cases c23 : a0_0 = 6
            · rw [if_pos c23] at H
              have c23b0 : (a0_0 == 6) = true := beq_iff_eq.mpr c23
              have c23b1 : (a0_0 != 6) = false := bne_eq_false_iff_eq.mpr c23
              clear c23
              by_cases c24 : (l0_4.length : Int) ≤ 8
              · rw [if_pos c24] at H
                have c24b0 : decide ((l0_4.length : Int) ≤ 8) = true := decide_eq_true c24
                have c24b1 : decide (l0_4.length ≤ 8) = true := decide_eq_true (by omega)
                clear c24
                obtain rfl := Option.some.inj H
                have hcz25_0 : wc.cell? ⟨gb254, 0, none⟩ = some (.int .i64 a0_0) := (blk_cell BK254.out 0).trans rfl
                have hcz25_1 : wc.cell? ⟨gb254, 1, none⟩ = some (.string a0_1) := (blk_cell BK254.out 1).trans rfl
                have hcz25_2 : wc.cell? ⟨gb254, 2, none⟩ = some (.int .i64 a0_2) := (blk_cell BK254.out 2).trans rfl
                have hcz25_3 : wc.cell? ⟨gb254, 3, none⟩ = some (.int .i64 a0_3) := (blk_cell BK254.out 3).trans rfl
                have hcz25_4 : wc.cell? ⟨gb254, 4, none⟩ = some (.slice A0_4 l0_4.length c0_4) := (blk_cell BK254.out 4).trans rfl
                have hfz25_0 := blk_frozen BK254.out 0
                have hfz25_1 := blk_frozen BK254.out 1
                have hfz25_2 := blk_frozen BK254.out 2
                have hfz25_3 := blk_frozen BK254.out 3
                have hfz25_4 := blk_frozen BK254.out 4
                go_wp2
                go_ret
                exact ⟨by first | rfl | (simp [errW_none, errW_some] <;> rfl) | (simp [*, errW_none, errW_some] <;> rfl), by repeat (first | (with_reducible first | exact HB.out | apply below_alloc | apply pw_below_drewN | apply below_drew1 | refine below_set ?_ GE254.out) | exact HB.out)⟩
              · rw [if_neg c24] at H
                have c24b0 : decide ((l0_4.length : Int) ≤ 8) = false := decide_eq_false c24
                have c24b1 : decide (l0_4.length ≤ 8) = false := decide_eq_false (by omega)
                clear c24
                obtain rfl := Option.some.inj H
                go_wp2
                go_ret
                exact ⟨by first | rfl | (simp [errW_none, errW_some] <;> rfl) | (simp [*, errW_none, errW_some] <;> rfl), by repeat (first | (with_reducible first | exact HB.out | apply below_alloc | apply pw_below_drewN | apply below_drew1 | refine below_set ?_ GE254.out) | exact HB.out)⟩
            · rw [if_neg c23] at H
              have c23b0 : (a0_0 == 6) = false := beq_eq_false_iff_ne.mpr c23
              have c23b1 : (a0_0 != 6) = true := bne_iff_ne.mpr c23
              by_cases c26 : a0_0 = 7
              · rw [if_pos c26] at H
                have c26b0 : (a0_0 == 7) = true := beq_iff_eq.mpr c26
                have c26b1 : (a0_0 != 7) = false := bne_eq_false_iff_eq.mpr c26
                clear c26
                by_cases c27 : (l0_4.length : Int) ≥ 2
                · rw [if_pos c27] at H
                  have c27b0 : decide (2 ≤ (l0_4.length : Int)) = true := decide_eq_true c27
                  have c27b1 : decide (2 ≤ l0_4.length) = true := decide_eq_true (by omega)
                  clear c27
                  by_cases c28 : (l0_4.length : Int) ≤ 9
                  · rw [if_pos c28] at H
                    have c28b0 : decide ((l0_4.length : Int) ≤ 9) = true := decide_eq_true c28
                    have c28b1 : decide (l0_4.length ≤ 9) = true := decide_eq_true (by omega)
                    clear c28
                    obtain rfl := Option.some.inj H
                    have hcz29_0 : wc.cell? ⟨gb254, 0, none⟩ = some (.int .i64 a0_0) := (blk_cell BK254.out 0).trans rfl
                    have hcz29_1 : wc.cell? ⟨gb254, 1, none⟩ = some (.string a0_1) := (blk_cell BK254.out 1).trans rfl
                    have hcz29_2 : wc.cell? ⟨gb254, 2, none⟩ = some (.int .i64 a0_2) := (blk_cell BK254.out 2).trans rfl
                    have hcz29_3 : wc.cell? ⟨gb254, 3, none⟩ = some (.int .i64 a0_3) := (blk_cell BK254.out 3).trans rfl
                    have hcz29_4 : wc.cell? ⟨gb254, 4, none⟩ = some (.slice A0_4 l0_4.length c0_4) := (blk_cell BK254.out 4).trans rfl
                    have hfz29_0 := blk_frozen BK254.out 0
                    have hfz29_1 := blk_frozen BK254.out 1
                    have hfz29_2 := blk_frozen BK254.out 2
                    have hfz29_3 := blk_frozen BK254.out 3
                    have hfz29_4 := blk_frozen BK254.out 4
                    go_wp2
                    go_ret
                    exact ⟨by first | rfl | (simp [errW_none, errW_some] <;> rfl) | (simp [*, errW_none, errW_some] <;> rfl), by repeat (first | (with_reducible first | exact HB.out | apply below_alloc | apply pw_below_drewN | apply below_drew1 | refine below_set ?_ GE254.out) | exact HB.out)⟩
                  · rw [if_neg c28] at H
                    have c28b0 : decide ((l0_4.length : Int) ≤ 9) = false := decide_eq_false c28
                    have c28b1 : decide (l0_4.length ≤ 9) = false := decide_eq_false (by omega)
                    clear c28
                    obtain rfl := Option.some.inj H
                    go_wp2
                    go_ret
                    exact ⟨by first | rfl | (simp [errW_none, errW_some] <;> rfl) | (simp [*, errW_none, errW_some] <;> rfl), by repeat (first | (with_reducible first | exact HB.out | apply below_alloc | apply pw_below_drewN | apply below_drew1 | refine below_set ?_ GE254.out) | exact HB.out)⟩
                · rw [if_neg c27] at H
                  have c27b0 : decide (2 ≤ (l0_4.length : Int)) = false := decide_eq_false c27
                  have c27b1 : decide (2 ≤ l0_4.length) = false := decide_eq_false (by omega)
                  clear c27
                  obtain rfl := Option.some.inj H
                  go_wp2
                  go_ret
                  exact ⟨by first | rfl | (simp [errW_none, errW_some] <;> rfl) | (simp [*, errW_none, errW_some] <;> rfl), by repeat (first | (with_reducible first | exact HB.out | apply below_alloc | apply pw_below_drewN | apply below_drew1 | refine below_set ?_ GE254.out) | exact HB.out)⟩
              · rw [if_neg c26] at H
                have c26b0 : (a0_0 == 7) = false := beq_eq_false_iff_ne.mpr c26
                have c26b1 : (a0_0 != 7) = true := bne_iff_ne.mpr c26
                by_cases c30 : a0_0 = 8
                · rw [if_pos c30] at H
                  have c30b0 : (a0_0 == 8) = true := beq_iff_eq.mpr c30
                  have c30b1 : (a0_0 != 8) = false := bne_eq_false_iff_eq.mpr c30
                  clear c30
                  by_cases c31 : a0_2 ≥ 0
                  · rw [if_pos c31] at H
                    have c31b0 : decide (0 ≤ a0_2) = true := decide_eq_true c31
                    clear c31
                    by_cases c32 : a0_2 ≤ 8
                    · rw [if_pos c32] at H
                      have c32b0 : decide (a0_2 ≤ 8) = true := decide_eq_true c32
                      clear c32
                      obtain rfl := Option.some.inj H
                      have hcz33_0 : wc.cell? ⟨gb254, 0, none⟩ = some (.int .i64 a0_0) := (blk_cell BK254.out 0).trans rfl
                      have hcz33_1 : wc.cell? ⟨gb254, 1, none⟩ = some (.string a0_1) := (blk_cell BK254.out 1).trans rfl
                      have hcz33_2 : wc.cell? ⟨gb254, 2, none⟩ = some (.int .i64 a0_2) := (blk_cell BK254.out 2).trans rfl
                      have hcz33_3 : wc.cell? ⟨gb254, 3, none⟩ = some (.int .i64 a0_3) := (blk_cell BK254.out 3).trans rfl
                      have hcz33_4 : wc.cell? ⟨gb254, 4, none⟩ = some (.slice A0_4 l0_4.length c0_4) := (blk_cell BK254.out 4).trans rfl
                      have hfz33_0 := blk_frozen BK254.out 0
                      have hfz33_1 := blk_frozen BK254.out 1
                      have hfz33_2 := blk_frozen BK254.out 2
                      have hfz33_3 := blk_frozen BK254.out 3
                      have hfz33_4 := blk_frozen BK254.out 4
                      go_wp2
                      go_ret
                      exact ⟨by first | rfl | (simp [errW_none, errW_some] <;> rfl) | (simp [*, errW_none, errW_some] <;> rfl), by repeat (first | (with_reducible first | exact HB.out | apply below_alloc | apply pw_below_drewN | apply below_drew1 | refine below_set ?_ GE254.out) | exact HB.out)⟩
                    · rw [if_neg c32] at H
                      have c32b0 : decide (a0_2 ≤ 8) = false := decide_eq_false c32
                      clear c32
                      obtain rfl := Option.some.inj H
                      have hcz34_0 : wc.cell? ⟨gb254, 0, none⟩ = some (.int .i64 a0_0) := (blk_cell BK254.out 0).trans rfl
                      have hcz34_1 : wc.cell? ⟨gb254, 1, none⟩ = some (.string a0_1) := (blk_cell BK254.out 1).trans rfl
                      have hcz34_2 : wc.cell? ⟨gb254, 2, none⟩ = some (.int .i64 a0_2) := (blk_cell BK254.out 2).trans rfl
                      have hcz34_3 : wc.cell? ⟨gb254, 3, none⟩ = some (.int .i64 a0_3) := (blk_cell BK254.out 3).trans rfl
                      have hcz34_4 : wc.cell? ⟨gb254, 4, none⟩ = some (.slice A0_4 l0_4.length c0_4) := (blk_cell BK254.out 4).trans rfl
                      have hfz34_0 := blk_frozen BK254.out 0
                      have hfz34_1 := blk_frozen BK254.out 1
                      have hfz34_2 := blk_frozen BK254.out 2
                      have hfz34_3 := blk_frozen BK254.out 3
                      have hfz34_4 := blk_frozen BK254.out 4
                      go_wp2
                      go_ret
                      exact ⟨by first | rfl | (simp [errW_none, errW_some] <;> rfl) | (simp [*, errW_none, errW_some] <;> rfl), by repeat (first | (with_reducible first | exact HB.out | apply below_alloc | apply pw_below_drewN | apply below_drew1 | refine below_set ?_ GE254.out) | exact HB.out)⟩
                  · rw [if_neg c31] at H
                    have c31b0 : decide (0 ≤ a0_2) = false := decide_eq_false c31
                    clear c31
                    obtain rfl := Option.some.inj H
                    have hcz35_0 : wc.cell? ⟨gb254, 0, none⟩ = some (.int .i64 a0_0) := (blk_cell BK254.out 0).trans rfl
                    have hcz35_1 : wc.cell? ⟨gb254, 1, none⟩ = some (.string a0_1) := (blk_cell BK254.out 1).trans rfl
                    have hcz35_2 : wc.cell? ⟨gb254, 2, none⟩ = some (.int .i64 a0_2) := (blk_cell BK254.out 2).trans rfl
                    have hcz35_3 : wc.cell? ⟨gb254, 3, none⟩ = some (.int .i64 a0_3) := (blk_cell BK254.out 3).trans rfl
                    have hcz35_4 : wc.cell? ⟨gb254, 4, none⟩ = some (.slice A0_4 l0_4.length c0_4) := (blk_cell BK254.out 4).trans rfl
                    have hfz35_0 := blk_frozen BK254.out 0
                    have hfz35_1 := blk_frozen BK254.out 1
                    have hfz35_2 := blk_frozen BK254.out 2
                    have hfz35_3 := blk_frozen BK254.out 3
                    have hfz35_4 := blk_frozen BK254.out 4
                    go_wp2
                    go_ret
                    exact ⟨by first | rfl | (simp [errW_none, errW_some] <;> rfl) | (simp [*, errW_none, errW_some] <;> rfl), by repeat (first | (with_reducible first | exact HB.out | apply below_alloc | apply pw_below_drewN | apply below_drew1 | refine below_set ?_ GE254.out) | exact HB.out)⟩
                · rw [if_neg c30] at H
                  have c30b0 : (a0_0 == 8) = false := beq_eq_false_iff_ne.mpr c30
                  have c30b1 : (a0_0 != 8) = true := bne_iff_ne.mpr c30
                  by_cases c36 : a0_0 = 9
                  · rw [if_pos c36] at H
                    have c36b0 : (a0_0 == 9) = true := beq_iff_eq.mpr c36
                    have c36b1 : (a0_0 != 9) = false := bne_eq_false_iff_eq.mpr c36
                    clear c36
                    by_cases c37 : (l0_4.length : Int) = 0
                    · rw [if_pos c37] at H
                      have c37b0 : ((l0_4.length : Int) == 0) = true := beq_iff_eq.mpr c37
                      have c37b1 : ((l0_4.length : Int) != 0) = false := bne_eq_false_iff_eq.mpr c37
                      clear c37
                      by_cases c38 : a0_2 ≥ 0
                      · rw [if_pos c38] at H
                        have c38b0 : decide (0 ≤ a0_2) = true := decide_eq_true c38
                        clear c38
                        obtain rfl := Option.some.inj H
                        have hcz39_0 : wc.cell? ⟨gb254, 0, none⟩ = some (.int .i64 a0_0) := (blk_cell BK254.out 0).trans rfl
                        have hcz39_1 : wc.cell? ⟨gb254, 1, none⟩ = some (.string a0_1) := (blk_cell BK254.out 1).trans rfl
                        have hcz39_2 : wc.cell? ⟨gb254, 2, none⟩ = some (.int .i64 a0_2) := (blk_cell BK254.out 2).trans rfl
                        have hcz39_3 : wc.cell? ⟨gb254, 3, none⟩ = some (.int .i64 a0_3) := (blk_cell BK254.out 3).trans rfl
                        have hcz39_4 : wc.cell? ⟨gb254, 4, none⟩ = some (.slice A0_4 l0_4.length c0_4) := (blk_cell BK254.out 4).trans rfl
                        have hfz39_0 := blk_frozen BK254.out 0
                        have hfz39_1 := blk_frozen BK254.out 1
                        have hfz39_2 := blk_frozen BK254.out 2
                        have hfz39_3 := blk_frozen BK254.out 3
                        have hfz39_4 := blk_frozen BK254.out 4
                        go_wp2
                        go_ret
                        exact ⟨by first | rfl | (simp [errW_none, errW_some] <;> rfl) | (simp [*, errW_none, errW_some] <;> rfl), by repeat (first | (with_reducible first | exact HB.out | apply below_alloc | apply pw_below_drewN | apply below_drew1 | refine below_set ?_ GE254.out) | exact HB.out)⟩
                      · rw [if_neg c38] at H
                        have c38b0 : decide (0 ≤ a0_2) = false := decide_eq_false c38
                        clear c38
                        obtain rfl := Option.some.inj H
                        have hcz40_0 : wc.cell? ⟨gb254, 0, none⟩ = some (.int .i64 a0_0) := (blk_cell BK254.out 0).trans rfl
                        have hcz40_1 : wc.cell? ⟨gb254, 1, none⟩ = some (.string a0_1) := (blk_cell BK254.out 1).trans rfl
                        have hcz40_2 : wc.cell? ⟨gb254, 2, none⟩ = some (.int .i64 a0_2) := (blk_cell BK254.out 2).trans rfl
                        have hcz40_3 : wc.cell? ⟨gb254, 3, none⟩ = some (.int .i64 a0_3) := (blk_cell BK254.out 3).trans rfl
                        have hcz40_4 : wc.cell? ⟨gb254, 4, none⟩ = some (.slice A0_4 l0_4.length c0_4) := (blk_cell BK254.out 4).trans rfl
                        have hfz40_0 := blk_frozen BK254.out 0
                        have hfz40_1 := blk_frozen BK254.out 1
                        have hfz40_2 := blk_frozen BK254.out 2
                        have hfz40_3 := blk_frozen BK254.out 3
                        have hfz40_4 := blk_frozen BK254.out 4
                        go_wp2
                        go_ret
                        exact ⟨by first | rfl | (simp [errW_none, errW_some] <;> rfl) | (simp [*, errW_none, errW_some] <;> rfl), by repeat (first | (with_reducible first | exact HB.out | apply below_alloc | apply pw_below_drewN | apply below_drew1 | refine below_set ?_ GE254.out) | exact HB.out)⟩
                    · rw [if_neg c37] at H
                      have c37b0 : ((l0_4.length : Int) == 0) = false := beq_eq_false_iff_ne.mpr c37
                      have c37b1 : ((l0_4.length : Int) != 0) = true := bne_iff_ne.mpr c37
                      have c37b2 : ¬ (l0_4 = []) := fun h_ => c37 (by rw [h_]; rfl)
                      obtain rfl := Option.some.inj H
                      go_wp2
                      go_ret
                      exact ⟨by first | rfl | (simp [errW_none, errW_some] <;> rfl) | (simp [*, errW_none, errW_some] <;> rfl), by repeat (first | (with_reducible first | exact HB.out | apply below_alloc | apply pw_below_drewN | apply below_drew1 | refine below_set ?_ GE254.out) | exact HB.out)⟩
                  · rw [if_neg c36] at H
                    have c36b0 : (a0_0 == 9) = false := beq_eq_false_iff_ne.mpr c36
                    have c36b1 : (a0_0 != 9) = true := bne_iff_ne.mpr c36
                    obtain rfl := Option.some.inj H
                    go_wp2
                    go_ret
                    exact ⟨by first | rfl | (simp [errW_none, errW_some] <;> rfl) | (simp [*, errW_none, errW_some] <;> rfl), by repeat (first | (with_reducible first | exact HB.out | apply below_alloc | apply pw_below_drewN | apply below_drew1 | refine below_set ?_ GE254.out) | exact HB.out)⟩

end Go.Proofs.YtajcnjdinmgpjaaGreatDoor.P
