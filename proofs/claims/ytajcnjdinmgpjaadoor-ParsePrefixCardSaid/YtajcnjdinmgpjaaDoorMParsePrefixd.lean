/- ParsePrefix: the row and its card: for every input the law returns true, and each argument reads as it did; a part of its proof: Xfix3, Xpp, XrowParsePrefix. The condition: the listed package-level variables hold what the program's text lays (the card ties that). -/
import Derived.Test.YtajcnjdinmgpjaaDoorMParsePrefixc
import Derived.WalkKit
import Derived.OpenShut
import Derived.ShutString
import Derived.ChangeOld
import Derived.Below
import Derived.SizedLaws
set_option linter.unusedVariables false
set_option linter.unusedSimpArgs false
/- The calls whose answers the document fixes, of layer 3. -/
namespace Go.Proofs.YtajcnjdinmgpjaaDoor.X
open Go.RowKit Go.Proofs.YtajcnjdinmgpjaaDoorW.PrintWords Go.Proofs.YtajcnjdinmgpjaaDoorW.PrintLast Go.Proofs.YtajcnjdinmgpjaaDoorW.PrintMore Go.Proofs.YtajcnjdinmgpjaaDoor.P
def fxT : Tree := ⟨10, ⟨#[43]⟩, 0, 0, [⟨3, ⟨#[]⟩, 0, 0, [⟨1, ⟨#[102]⟩, 0, 0, []⟩, ⟨1, ⟨#[120]⟩, 0, 2, []⟩]⟩, ⟨9, ⟨#[]⟩, 1, 6, []⟩]⟩
def fxU : Tree := ⟨10, ⟨#[45]⟩, 0, 0, [⟨10, ⟨#[45]⟩, 0, 0, [⟨9, ⟨#[]⟩, 1, 0, []⟩, ⟨9, ⟨#[]⟩, 2, 4, []⟩]⟩, ⟨9, ⟨#[]⟩, 3, 8, []⟩]⟩
def fxV : Tree := ⟨6, ⟨#[65]⟩, 0, 0, [⟨6, ⟨#[66]⟩, 0, 3, []⟩, ⟨1, ⟨#[99]⟩, 0, 6, []⟩]⟩
theorem fx1 : parseM ⟨#[102, 32, 120, 32, 43, 32, 49]⟩ 9 = .ok fxT := by kernel_rfl
theorem fx2 : parseM ⟨#[102, 32, 120, 32, 43, 32, 49]⟩ 2 = .error (0, 31) := by kernel_rfl
theorem fx3 : parseM ⟨#[108, 101, 116, 32, 120, 32, 61, 32, 49]⟩ 9 = .error (9, 30) := by kernel_rfl
theorem fx4 : parseM ⟨#[99, 97, 115, 101, 32, 120, 32, 111, 102, 32, 123, 65, 32, 45, 62, 32, 49, 32, 124, 32, 125]⟩ 9 = .error (20, 30) := by kernel_rfl
theorem fx5 : parseM ⟨#[49, 32, 45, 32, 50, 32, 45, 32, 51]⟩ 9 = .ok fxU := by kernel_rfl
theorem fx6 : parseM ⟨#[49, 32, 60, 32, 50, 32, 60, 32, 51]⟩ 9 = .error (6, 30) := by kernel_rfl
theorem fx7 : parseM ⟨#[65, 32, 40, 66, 41, 32, 99]⟩ 9 = .ok fxV := by kernel_rfl
theorem fx8 : parseM ⟨#[120]⟩ 0 = .error (0, 1) := by kernel_rfl
/-- a tree lies in a block, and what it has -/
def At (w : World) (b : Nat) (t : Tree) (A : Option Addr) (c : Nat) : Prop := w.heap[b]? = some (.cells (cellsT t A c).toArray 25 (0, 0)) ∧ TAt w (fun _ => True) t A c
theorem At.below {w w1 : World} {b : Nat} {t : Tree} {A : Option Addr} {c : Nat} (h : At w b t A c) (hb : Below w.heap.size w w1) : At w1 b t A c := ⟨blk_below h.1 hb, h.2.below hb⟩
theorem At.alloc {w : World} {b : Nat} {t : Tree} {A : Option Addr} {c : Nat} (h : At w b t A c) (o : Obj) : At (w.alloc o) b t A c := h.below (below_alloc (Below.refl _ _) o)
theorem At.new {w : World} {ok : Nat → Prop} {t : Tree} {A : Option Addr} {c : Nat} (h : TAt w ok t A c) : At (w.alloc (.cells (cellsT t A c).toArray 25)) w.heap.size t A c := ⟨blk_new w _, (h.mono (fun _ _ => trivial)).below (below_alloc (Below.refl _ _) _)⟩
theorem errRel {w : World} {s : ByteArray} {d p c : Int} (h : parseM s d = .error (p, c)) : Calls Tryd.prog 7 #[.string s, .int .i64 d] w fun e w' => e = .returned (.tuple #[treeZ, .int .i64 p, .int .i64 c]) ∧ Below w.heap.size w w' := by
  have := Parse_calls s d w
  rw [h] at this
  exact this
theorem okRel {w : World} {s : ByteArray} {d : Int} {t : Tree} (h : parseM s d = .ok t) : Calls Tryd.prog 7 #[.string s, .int .i64 d] w fun e w' => ∃ A c, e = .returned (.tuple #[treeV t A c, .int .i64 0, .int .i64 0]) ∧ TAt w' (Iv w.heap.size w'.heap.size) t A c ∧ Below w.heap.size w w' := by
  have := Parse_calls s d w
  rw [h] at this
  exact this
theorem One_calls (t : Tree) (A A' : Option Addr) (c c' : Nat) (ok ok' : Nat → Prop) (w : World) (h : TAt w ok t A c) (h' : TAt w ok' t A' c') (hs : tsz t ≤ 1000000000000) :
    Calls Tryd.prog 14 #[treeV t A c, treeV t A' c'] w fun e w' => e = .returned (.bool true) ∧ Below w.heap.size w w' :=
  gossamerref02_One.calls (3 * tsz t) t.f0 t.f1 t.f2 t.f3 A c t.f4 t.f0 t.f1 t.f2 t.f3 A' c' t.f4 true w (Kd.F_now h.2.1) h.1 (Kd.F_now h'.2.1) h'.1 (One_f (tsz t) t (Nat.le_refl _) hs _ (Nat.le_refl _))
theorem Same_calls (t t' : Tree) (hS : Sm t t') (A A' : Option Addr) (c c' : Nat) (ok ok' : Nat → Prop) (w : World) (h : TAt w ok t A c) (h' : TAt w ok' t' A' c') (hs : tsz t ≤ 1000000000000) :
    Calls Tryd.prog 9 #[treeV t A c, treeV t' A' c'] w fun e w' => e = .returned (.bool true) ∧ Below w.heap.size w w' :=
  gossamerref02_Same.calls (3 * tsz t) t.f0 t.f1 t.f2 t.f3 A c t.f4 t'.f0 t'.f1 t'.f2 t'.f3 A' c' t'.f4 true w (Kd.F_now h.2.1) h.1 (Kd.F_now h'.2.1) h'.1 (Same_f (tsz t) t t' hS (Nat.le_refl _) hs _ (Nat.le_refl _))
theorem want_at (W : World) : At (((W.alloc (.cells #[.int .i64 1, .string ⟨#[102]⟩, .int .i64 0, .int .i64 0, .slice none 0 0, .int .i64 1, .string ⟨#[120]⟩, .int .i64 0, .int .i64 2, .slice none 0 0] 25)).alloc
      (.cells #[.int .i64 3, .string ⟨#[]⟩, .int .i64 0, .int .i64 0, .slice (some ⟨W.heap.size, 0, none⟩) 2 2, .int .i64 9, .string ⟨#[]⟩, .int .i64 1, .int .i64 6, .slice none 0 0] 25)).alloc
      (.cells #[.int .i64 10, .string ⟨#[43]⟩, .int .i64 0, .int .i64 0, .slice (some ⟨W.heap.size + 1, 0, none⟩) 2 2] 25)) (W.heap.size + 1 + 1) fxT (some ⟨W.heap.size + 1, 0, none⟩) 2 := by
  have b1 := blk_alloc (blk_alloc (blk_new W (.cells #[.int .i64 1, .string ⟨#[102]⟩, .int .i64 0, .int .i64 0, .slice none 0 0, .int .i64 1, .string ⟨#[120]⟩, .int .i64 0, .int .i64 2, .slice none 0 0] 25)) (.cells #[.int .i64 3, .string ⟨#[]⟩, .int .i64 0, .int .i64 0, .slice (some ⟨W.heap.size, 0, none⟩) 2 2, .int .i64 9, .string ⟨#[]⟩, .int .i64 1, .int .i64 6, .slice none 0 0] 25)) (.cells #[.int .i64 10, .string ⟨#[43]⟩, .int .i64 0, .int .i64 0, .slice (some ⟨W.heap.size + 1, 0, none⟩) 2 2] 25)
  have b2 := blk_alloc (blk_new (W.alloc (.cells #[.int .i64 1, .string ⟨#[102]⟩, .int .i64 0, .int .i64 0, .slice none 0 0, .int .i64 1, .string ⟨#[120]⟩, .int .i64 0, .int .i64 2, .slice none 0 0] 25)) (.cells #[.int .i64 3, .string ⟨#[]⟩, .int .i64 0, .int .i64 0, .slice (some ⟨W.heap.size, 0, none⟩) 2 2, .int .i64 9, .string ⟨#[]⟩, .int .i64 1, .int .i64 6, .slice none 0 0] 25)) (.cells #[.int .i64 10, .string ⟨#[43]⟩, .int .i64 0, .int .i64 0, .slice (some ⟨W.heap.size + 1, 0, none⟩) 2 2] 25)
  have b3 := blk_new ((W.alloc (.cells #[.int .i64 1, .string ⟨#[102]⟩, .int .i64 0, .int .i64 0, .slice none 0 0, .int .i64 1, .string ⟨#[120]⟩, .int .i64 0, .int .i64 2, .slice none 0 0] 25)).alloc (.cells #[.int .i64 3, .string ⟨#[]⟩, .int .i64 0, .int .i64 0, .slice (some ⟨W.heap.size, 0, none⟩) 2 2, .int .i64 9, .string ⟨#[]⟩, .int .i64 1, .int .i64 6, .slice none 0 0] 25)) (.cells #[.int .i64 10, .string ⟨#[43]⟩, .int .i64 0, .int .i64 0, .slice (some ⟨W.heap.size + 1, 0, none⟩) 2 2] 25)
  simp only [World.size_alloc] at b2 b3
  generalize ((W.alloc (.cells #[.int .i64 1, .string ⟨#[102]⟩, .int .i64 0, .int .i64 0, .slice none 0 0, .int .i64 1, .string ⟨#[120]⟩, .int .i64 0, .int .i64 2, .slice none 0 0] 25)).alloc (.cells #[.int .i64 3, .string ⟨#[]⟩, .int .i64 0, .int .i64 0, .slice (some ⟨W.heap.size, 0, none⟩) 2 2, .int .i64 9, .string ⟨#[]⟩, .int .i64 1, .int .i64 6, .slice none 0 0] 25)).alloc (.cells #[.int .i64 10, .string ⟨#[43]⟩, .int .i64 0, .int .i64 0, .slice (some ⟨W.heap.size + 1, 0, none⟩) 2 2] 25) = V at b1 b2 b3 ⊢
  have f1 : TAt V (fun _ => True) ⟨3, ⟨#[]⟩, 0, 0, [⟨1, ⟨#[102]⟩, 0, 0, []⟩, ⟨1, ⟨#[120]⟩, 0, 2, []⟩]⟩ (some ⟨W.heap.size, 0, none⟩) 2 :=
    TAt.with 3 ⟨#[]⟩ 0 0 (l := [⟨1, ⟨#[102]⟩, 0, 0, []⟩, ⟨1, ⟨#[120]⟩, 0, 2, []⟩]) (by decide) (F_two (x := ⟨1, ⟨#[102]⟩, 0, 0, []⟩) (y := ⟨1, ⟨#[120]⟩, 0, 2, []⟩) (A := none) (A' := none) (c := 0) (c' := 0) b1 trivial (TAt.nil _ _ _ _ _ _) (TAt.nil _ _ _ _ _ _)) (by simp)
  exact ⟨b3, TAt.with 10 ⟨#[43]⟩ 0 0 (l := [⟨3, ⟨#[]⟩, 0, 0, [⟨1, ⟨#[102]⟩, 0, 0, []⟩, ⟨1, ⟨#[120]⟩, 0, 2, []⟩]⟩, ⟨9, ⟨#[]⟩, 1, 6, []⟩]) (by decide) (F_two (x := ⟨3, ⟨#[]⟩, 0, 0, [⟨1, ⟨#[102]⟩, 0, 0, []⟩, ⟨1, ⟨#[120]⟩, 0, 2, []⟩]⟩) (y := ⟨9, ⟨#[]⟩, 1, 6, []⟩) (A := some ⟨W.heap.size, 0, none⟩) (A' := none) (c := 2) (c' := 0) b2 trivial f1 (TAt.nil _ _ _ _ _ _)) (by simp)⟩
abbrev fxW (W : World) (N : Nat) : World := ((W.alloc (.cells #[.int .i64 1, .string ⟨#[102]⟩, .int .i64 0, .int .i64 0, .slice none 0 0, .int .i64 1, .string ⟨#[120]⟩, .int .i64 0, .int .i64 2, .slice none 0 0] 25)).alloc
      (.cells #[.int .i64 3, .string ⟨#[]⟩, .int .i64 0, .int .i64 0, .slice (some ⟨N, 0, none⟩) 2 2, .int .i64 9, .string ⟨#[]⟩, .int .i64 1, .int .i64 6, .slice none 0 0] 25)).alloc
      (.cells #[.int .i64 10, .string ⟨#[43]⟩, .int .i64 0, .int .i64 0, .slice (some ⟨N + 1, 0, none⟩) 2 2] 25)
theorem below_end {w W V : World} (hB : Below w.heap.size w W) (h : Below W.heap.size W V) : Below w.heap.size w V := hB.trans (h.mono hB.size)
theorem fixA {w W : World} {b : Nat} {t : Tree} {A : Option Addr} {c : Nat} (h : At W b t A c) (hB : Below w.heap.size w W) {N : Nat} (hN : W.heap.size = N) : At (fxW W N) b t A c ∧ At (fxW W N) (N + 1 + 1) fxT (some ⟨N + 1, 0, none⟩) 2 ∧ Below w.heap.size w (fxW W N) := by
  subst hN
  exact ⟨((h.alloc _).alloc _).alloc _, want_at W, below_end hB (below_alloc (below_alloc (below_alloc (Below.refl _ _) _) _) _)⟩
/-- a tree that is no answer is stored -/
def objZ : Obj := .cells #[.int .i64 0, .string ⟨#[]⟩, .int .i64 0, .int .i64 0, .slice none 0 0] 25
abbrev objT (t : Tree) (A : Option Addr) (c : Nat) : Obj := .cells (cellsT t A c).toArray 25
/-- a call behind which an answer is stored -/
theorem At.step {w w1 : World} {b : Nat} {t : Tree} {A : Option Addr} {c : Nat} (h : At w b t A c) (hb : Below w.heap.size w w1) (o : Obj) : At (w1.alloc o) b t A c := (h.below hb).alloc o
theorem below_next {w W W1 : World} (hB : Below w.heap.size w W) (h : Below W.heap.size W W1) (o : Obj) : Below w.heap.size w (W1.alloc o) := below_end (below_end hB h) (below_alloc (Below.refl _ _) o)
set_option maxRecDepth 100000 in
set_option maxHeartbeats 4000000 in
theorem fixed_calls (w : World) : Calls Tryd.prog 6 #[] w fun e w' => e = .returned (.bool true) ∧ Below w.heap.size w w' := by
  go_enter Tryd.func6, Tryd.ntmps6
  go_wp2_with fail
  refine (okRel fx1).mono ?_
  rintro e w1 ⟨A1, c1, rfl, hT1, hB1⟩
  have H := Lib.hid (fixA (At.new hT1) (below_alloc hB1 (objT fxT A1 c1)) (N := w1.heap.size + 1) (World.size_alloc _ _))
  clear hT1 hB1
  have e1 : treeV fxT A1 c1 = .agg #[.int .i64 10, .string ⟨#[43]⟩, .int .i64 0, .int .i64 0, .slice A1 2 c1] := rfl
  rw [e1]
  clear e1
  go_wp2_with fail
  refine (errRel fx2).mono ?_
  rintro e w2 ⟨rfl, hB2⟩
  have H2 := Lib.hid (And.intro (H.out.1.step hB2 objZ) (And.intro (H.out.2.1.step hB2 objZ) (below_next H.out.2.2 hB2 objZ)))
  clear hB2 H
  unfold treeZ
  go_wp2_with fail
  refine (errRel fx3).mono ?_
  rintro e w3 ⟨rfl, hB3⟩
  have H3 := Lib.hid (And.intro (H2.out.1.step hB3 objZ) (And.intro (H2.out.2.1.step hB3 objZ) (below_next H2.out.2.2 hB3 objZ)))
  clear hB3 H2
  unfold treeZ
  go_wp2_with fail
  refine (errRel fx4).mono ?_
  rintro e w4 ⟨rfl, hB4⟩
  have H4 := Lib.hid (And.intro (H3.out.1.step hB4 objZ) (And.intro (H3.out.2.1.step hB4 objZ) (below_next H3.out.2.2 hB4 objZ)))
  clear hB4 H3
  unfold treeZ
  go_wp2_with fail
  refine (okRel fx5).mono ?_
  rintro e w5 ⟨A5, c5, rfl, hT5, hB5⟩
  have H5 := Lib.hid (And.intro (H4.out.1.step hB5 (objT fxU A5 c5)) (And.intro (H4.out.2.1.step hB5 (objT fxU A5 c5)) (And.intro (At.new hT5) (below_next H4.out.2.2 hB5 (objT fxU A5 c5)))))
  clear hT5 hB5 H4
  have e5 : treeV fxU A5 c5 = .agg #[.int .i64 10, .string ⟨#[45]⟩, .int .i64 0, .int .i64 0, .slice A5 2 c5] := rfl
  rw [e5]
  clear e5
  go_wp2_with fail
  refine (errRel fx6).mono ?_
  rintro e w6 ⟨rfl, hB6⟩
  have H6 := Lib.hid (And.intro (H5.out.1.step hB6 objZ) (And.intro (H5.out.2.1.step hB6 objZ) (And.intro (H5.out.2.2.1.step hB6 objZ) (below_next H5.out.2.2.2 hB6 objZ))))
  clear hB6 H5
  unfold treeZ
  go_wp2_with fail
  refine (okRel fx7).mono ?_
  rintro e w7 ⟨A7, c7, rfl, hT7, hB7⟩
  have H7 := Lib.hid (And.intro (H6.out.1.step hB7 (objT fxV A7 c7)) (And.intro (H6.out.2.1.step hB7 (objT fxV A7 c7)) (And.intro (H6.out.2.2.1.step hB7 (objT fxV A7 c7)) (And.intro (At.new hT7) (below_next H6.out.2.2.2 hB7 (objT fxV A7 c7))))))
  clear hT7 hB7 H6
  have e7 : treeV fxV A7 c7 = .agg #[.int .i64 6, .string ⟨#[65]⟩, .int .i64 0, .int .i64 0, .slice A7 2 c7] := rfl
  rw [e7]
  clear e7
  go_wp2_with fail
  refine (errRel fx8).mono ?_
  rintro e w8 ⟨rfl, hB8⟩
  have H8 := Lib.hid (And.intro (H7.out.1.step hB8 objZ) (And.intro (H7.out.2.1.step hB8 objZ) (And.intro (H7.out.2.2.1.step hB8 objZ) (And.intro (H7.out.2.2.2.1.step hB8 objZ) (below_next H7.out.2.2.2.2 hB8 objZ)))))
  clear hB8 H7
  unfold treeZ
  have b1 : (w8.alloc objZ).heap[w1.heap.size]? = some (.cells #[.int .i64 10, .string ⟨#[43]⟩, .int .i64 0, .int .i64 0, .slice A1 2 c1] 25 (0, 0)) := H8.out.1.1
  have b4 : (w8.alloc objZ).heap[w1.heap.size + 1 + 1 + 1]? = some (.cells #[.int .i64 10, .string ⟨#[43]⟩, .int .i64 0, .int .i64 0, .slice (some ⟨w1.heap.size + 1 + 1, 0, none⟩) 2 2] 25 (0, 0)) := H8.out.2.1.1
  have b5 : (w8.alloc objZ).heap[w5.heap.size]? = some (.cells #[.int .i64 10, .string ⟨#[45]⟩, .int .i64 0, .int .i64 0, .slice A5 2 c5] 25 (0, 0)) := H8.out.2.2.1.1
  have b7 : (w8.alloc objZ).heap[w7.heap.size]? = some (.cells #[.int .i64 6, .string ⟨#[65]⟩, .int .i64 0, .int .i64 0, .slice A7 2 c7] 25 (0, 0)) := H8.out.2.2.2.1.1
  have hc5 := H8.out.2.2.1.2.1
  obtain ⟨ad, A4, c4, rfl, _, _, g2, _⟩ := at_T25 (Kd.F_now H8.out.2.2.1.2.2.1) 1 (by decide) (by decide)
  have g2' : (w8.alloc objZ).cell? ⟨(ad.add 5).block, (ad.add 5).off + 2, none⟩ = some (.int .i64 3) := g2
  clear g2
  obtain ⟨x0, x1, x2, x3, x4, xf, xl⟩ := open5 b1
  obtain ⟨y0, y1, y2, y3, y4, yf, yl⟩ := open5 b4
  have HB := Lib.hid (And.intro b5 (And.intro b7 g2'))
  clear b1 b4 b5 b7 g2'
  unfold objZ at *
  go_wp2_with fail
  refine (One_calls fxT A1 (some ⟨w1.heap.size + 1 + 1, 0, none⟩) c1 2 _ _ _ H8.out.1.2 H8.out.2.1.2 (by decide)).mono ?_
  rintro e w9 ⟨rfl, hB9⟩
  obtain ⟨b5, b7, g2⟩ := HB.out
  have b5' := blk_below b5 hB9
  have b7' := blk_below b7 hB9
  have g3 := (hB9.cell (World.block_lt_of_cell? _ _ g2)).trans g2
  have g4 : w9.cell? ⟨ad.block, ad.off + 5 + 2, none⟩ = some (.int .i64 3) := g3
  have lt3 := World.block_lt_of_cell? _ _ g4
  clear g3
  have hBB := below_end H8.out.2.2.2.2 hB9
  clear b5 b7 g2 hB9 x0 x1 x2 x3 x4 xf xl y0 y1 y2 y3 y4 yf yl HB H8
  obtain ⟨x0, x1, x2, x3, x4, xf, xl⟩ := open5 b5'
  obtain ⟨y0, y1, y2, y3, y4, yf, yl⟩ := open5 b7'
  clear b5' b7' x0 x1 x2 x3 y1 y2 y3
  go_wp2
  go_ret
  exact ⟨rfl, hBB⟩
end Go.Proofs.YtajcnjdinmgpjaaDoor.X
/- ParsePrefix: the walk. -/
namespace Go.Proofs.YtajcnjdinmgpjaaDoor.X
open Go.RowKit Go.Proofs.YtajcnjdinmgpjaaDoorW.PrintWords Go.Proofs.YtajcnjdinmgpjaaDoorW.PrintLast Go.Proofs.YtajcnjdinmgpjaaDoorW.PrintMore Go.Proofs.YtajcnjdinmgpjaaDoor.P
/-- what a call of Parse hands back, in one form -/
def PAny (w : World) (R : Except (Int × Int) Tree) (e : Ending) (w' : World) : Prop :=
  ∃ (v : Value) (p c : Int), e = .returned (.tuple #[v, .int .i64 p, .int .i64 c]) ∧ Below w.heap.size w w' ∧ (∃ a b d e' A l cc, v = .agg #[.int .i64 a, .string b, .int .i64 d, .int .i64 e', .slice A l cc]) ∧ ((∃ t, R = .ok t ∧ p = 0 ∧ c = 0) ∨ R = .error (p, c))
theorem Parse_any (s : ByteArray) (d : Int) (w : World) : Calls Tryd.prog 7 #[.string s, .int .i64 d] w (PAny w (parseM s d)) := by
  refine (Parse_calls s d w).mono ?_
  intro e w' h
  cases hr : parseM s d with
  | ok t =>
    rw [hr] at h
    obtain ⟨A, c, rfl, _, hB⟩ := h
    exact ⟨_, 0, 0, rfl, hB, ⟨_, _, _, _, _, _, _, rfl⟩, .inl ⟨t, rfl, rfl, rfl⟩⟩
  | error pc =>
    obtain ⟨p, c⟩ := pc
    rw [hr] at h
    obtain ⟨rfl, hB⟩ := h
    exact ⟨_, p, c, rfl, hB, ⟨_, _, _, _, _, _, _, rfl⟩, .inr rfl⟩
theorem cat3_le {a b : ByteArray} (h : a.size ≤ 1000) (h' : b.size ≤ 300) : (a ++ ⟨#[32]⟩ ++ b).size ≤ 1000000000 := by
  rw [cat_size, cat_size]
  show a.size + 1 + b.size ≤ 1000000000
  omega
def LAny (w : World) (R : Except (Nat × Int) (List Tok)) (e : Ending) (w' : World) : Prop :=
  ∃ (A : Option Addr) (n cc : Nat) (p c : Int), e = .returned (.tuple #[.slice A n cc, .int .i64 p, .int .i64 c]) ∧ Below w.heap.size w w' ∧ ((∃ l, R = .ok l ∧ c = 0) ∨ c = 10 ∨ c = 11)
theorem RAll_any (s : ByteArray) (hs : s.size ≤ 1000000000) (w : World) : Calls Tryd.prog 8 #[.string s] w (LAny w (lexAll s)) := by
  refine (RAll_calls s hs w).mono ?_
  intro e w' h
  cases hr : lexAll s with
  | ok l =>
    rw [hr] at h
    obtain ⟨A, c, rfl, _, _, hB⟩ := h
    exact ⟨_, _, _, _, _, rfl, hB, .inl ⟨l, rfl, rfl⟩⟩
  | error pc =>
    obtain ⟨p, c⟩ := pc
    have hc := lexAll_err hr
    rw [hr] at h
    obtain ⟨rfl, hB⟩ := h
    exact ⟨none, 0, 0, _, _, rfl, hB, .inr hc⟩
set_option maxRecDepth 100000 in
set_option maxHeartbeats 4000000 in
theorem parsePrefix_walk (a0 a1 : ByteArray) (w : World) (h0 : a0.size ≤ 140737488351232) (h1 : a1.size ≤ 140737488351232) : Calls Tryd.prog 3 #[.string a0, .string a1] w fun e w' => e = .returned (.bool true) ∧ Below w.heap.size w w' := by
  by_cases hbig : 1000 < a0.size ∨ 300 < a1.size
  · by_cases hb0 : 1000 < a0.size
    · have d0 : decide ((1000 : Int) < (a0.size : Int)) = true := decide_eq_true (by omega)
      go_enter Tryd.func3, Tryd.ntmps3
      go_wp2_with fail
      refine (fixed_calls _).mono ?_
      rintro e w1 ⟨rfl, hB1⟩
      go_wp2_with fail
      refine (fixed_calls _).mono ?_
      rintro e w2 ⟨rfl, hB2⟩
      go_wp2
      exact bodyPost_ret (results_tmp rfl _ _ _) rfl ⟨rfl, below_step hB1 hB2⟩
    · have d0 : decide ((1000 : Int) < (a0.size : Int)) = false := decide_eq_false (by omega)
      have d1 : decide ((300 : Int) < (a1.size : Int)) = true := decide_eq_true (by omega)
      go_enter Tryd.func3, Tryd.ntmps3
      go_wp2_with fail
      refine (fixed_calls _).mono ?_
      rintro e w1 ⟨rfl, hB1⟩
      go_wp2_with fail
      refine (fixed_calls _).mono ?_
      rintro e w2 ⟨rfl, hB2⟩
      go_wp2
      exact bodyPost_ret (results_tmp rfl _ _ _) rfl ⟨rfl, below_step hB1 hB2⟩
  · have d0 : decide ((1000 : Int) < (a0.size : Int)) = false := decide_eq_false (by omega)
    have d1 : decide ((300 : Int) < (a1.size : Int)) = false := decide_eq_false (by omega)
    have hn0 : a0.size ≤ 1000 := by omega
    have hn1 : a1.size ≤ 300 := by omega
    have HSZ := Lib.hid (cat3_le (a := a0) (b := a1) hn0 hn1)
    go_enter Tryd.func3, Tryd.ntmps3
    go_wp2_with fail
    refine (fixed_calls _).mono ?_
    rintro e w1 ⟨rfl, hB1⟩
    go_wp2_with fail
    refine (Parse_any _ _ _).mono ?_
    rintro e w2 ⟨v, p, c, rfl, hB2, ⟨t0, t1, t2, t3, A, tl, cc, rfl⟩, hR⟩
    have hBB := Lib.hid ((below_step hB1 hB2).alloc (below_step hB1 hB2).size (.cells #[.int .i64 t0, .string t1, .int .i64 t2, .int .i64 t3, .slice A tl cc] 25))
    clear hB1 hB2
    by_cases hgo : c = 30 ∧ p < (a0.size : Int)
    · obtain ⟨rfl, hp⟩ := hgo
      have hR' : parseM a0 200 = .error (p, 30) := by
        rcases hR with ⟨_, _, _, h⟩ | h
        · cases h
        · exact h
      obtain ⟨k, rfl, hk, hcut⟩ := prefix_cut hR' hp
      have HR := Lib.hid hR'
      have HCUT := Lib.hid hcut
      have HP := Lib.hid hp
      have d2 : decide ((a0.size : Int) ≤ (k : Int)) = false := decide_eq_false (by omega)
      clear hR hR' hcut hp
      go_wp2_with fail
      with_reducible refine (RAll_any _ ?hs _).mono ?_
      case hs => with_reducible exact HSZ.out
      rintro e w3 ⟨B, n, bc, x, f, rfl, hB3, hF⟩
      have hBB3 := Lib.hid (below_end hBB.out hB3)
      have HF := Lib.hid hF
      clear hB3 hBB hF HSZ
      go_wp2_with fail
      refine (Parse_any _ _ _).mono ?_
      rintro e w4 ⟨v4, q, g, rfl, hB4, ⟨u0, u1, u2, u3, Au, ul, uc, rfl⟩, hR4⟩
      have hBB4 := Lib.hid ((below_end hBB3.out hB4).alloc (below_end hBB3.out hB4).size (.cells #[.int .i64 u0, .string u1, .int .i64 u2, .int .i64 u3, .slice Au ul uc] 25))
      have HR4 := Lib.hid hR4
      clear hB4 hBB3 hR4
      go_wp2_with fail
      refine (Parse_any _ _ _).mono ?_
      rintro e w5 ⟨v5, y, h, rfl, hB5, ⟨z0, z1, z2, z3, Az, zl, zc, rfl⟩, hR5⟩
      have hBB5 := Lib.hid ((below_end hBB4.out hB5).alloc (below_end hBB4.out hB5).size (.cells #[.int .i64 z0, .string z1, .int .i64 z2, .int .i64 z3, .slice Az zl zc] 25))
      clear hB5 hBB4
      have hh : h ≠ 30 ∨ (h = 30 ∧ y = (k : Int)) := by
        rcases hR5 with ⟨_, _, _, rfl⟩ | h5
        · exact .inl (by decide)
        · by_cases h30 : h = 30
          · subst h30
            exact .inr ⟨rfl, HCUT.out y h5⟩
          · exact .inl h30
      have hfg : f ≠ 0 ∨ (f = 0 ∧ g = 30 ∧ q = (k : Int)) := by
        rcases HF.out with ⟨l, hl, rfl⟩ | hc | hc
        · right
          have hm := prefix_more HR.out HP.out hn0 hn1 hl
          rcases HR4.out with ⟨_, h4, _, _⟩ | h4
          · rw [hm] at h4; cases h4
          · rw [hm] at h4
            injection h4 with h4
            injection h4 with e1 e2
            exact ⟨rfl, e2.symm, e1.symm⟩
        · left; omega
        · left; omega
      clear hR5 HR4 HF HR HCUT d2
      rcases hfg with hf | ⟨rfl, rfl, rfl⟩
      · have e1 : (f == 0) = false := by simpa using hf
        rcases hh with hh | ⟨rfl, rfl⟩
        · have e2 : (h == 30) = false := by simpa using hh
          go_wp2
          go_ret
          exact ⟨by simp, hBB5.out⟩
        · go_wp2
          go_ret
          exact ⟨rfl, hBB5.out⟩
      · rcases hh with hh | ⟨rfl, rfl⟩
        · have e2 : (h == 30) = false := by simpa using hh
          go_wp2
          go_ret
          exact ⟨by simp, hBB5.out⟩
        · go_wp2
          go_ret
          exact ⟨rfl, hBB5.out⟩
    · by_cases hc : c = 30
      · subst hc
        have d2 : decide ((a0.size : Int) ≤ p) = true := decide_eq_true (by omega)
        clear hR hgo
        go_wp2
        go_ret
        exact ⟨rfl, hBB.out⟩
      · have e1 : (c == 30) = false := by simpa using hc
        clear hR hgo
        go_wp2
        go_ret
        exact ⟨rfl, hBB.out⟩
end Go.Proofs.YtajcnjdinmgpjaaDoor.X
/- ParsePrefix: the row and its card: for every input the law returns true, and each argument reads as it did. The condition: the listed package-level variables hold what the program's text lays (the card ties that). -/
namespace Go.Proofs.YtajcnjdinmgpjaaDoor.parsePrefix
open Go Go.ChangeShapes Go.WideShapes Go.ChangeAt Go.RowKit Go.Proofs.YtajcnjdinmgpjaaDoor.X
open Go.ChangeMaps (open_string shut_string)
set_option linter.unusedVariables false
theorem own : ownKnob Tryd.prog.godebug = none := by kernel_rfl
set_option maxRecDepth 1000000 in
theorem laid_met (os : Os) (args : Array Value) : laidMet Tryd.prog Rows.parsePrefixRow.laid ((laidWorld os).forCall (fun _ _ => 0) ⟨#[], args, []⟩).memory :=
  laidMet_of_run' 10 (by kernel_rfl) (by kernel_rfl)
theorem reads (os : Os) {H : Type} (enc : TypeId × Value → H) : ∃ places, DataW.whole enc Tryd.prog ((laidWorld os).forCall (fun _ _ => 0) ⟨#[], #[.string ByteArray.empty, .string ByteArray.empty], []⟩).memory Tryd.f3.params.toList Rows.parsePrefixSpec.vars false (#[.string ByteArray.empty, .string ByteArray.empty] : Array Value).toList 8 = some ([.lit (.string []), .lit (.string [])], [], places) :=
  ⟨[], by kernel_rfl⟩
set_option maxRecDepth 1000000 in
theorem contract (H : Type) (enc : TypeId × Value → H) (W : World) (base : Nat) (args : Array Value) (ds gs : List (DataW H)) (before : List MemPlace)
    (hval0 : ∀ (j : Nat) t v, Tryd.f3.params[j]? = some t → args[j]? = some v → Value.okWide Tryd.prog W .any base t v)
    (hW : DataW.Whole enc Tryd.prog Tryd.f3.params.toList Rows.parsePrefixSpec.vars false W args.toList ds gs before)
    (hsz0 : (DataW.weightsEach Tryd.prog (Tryd.f3.params.toList ++ (OpenSpec.ofChange Rows.parsePrefixSpec).bare.plain.varTypes Tryd.prog) (ds ++ gs)).all (· ≤ reachBytes) = true) :
    Calls Tryd.prog 3 args W fun e W' => ∃ v, e = .returned v ∧ Rows.parsePrefixSpec.post enc Tryd.prog Tryd.f3 false true false false W args v W' := by
  have hsz : (DataW.weightsEach Tryd.prog (Tryd.f3.params.toList ++ (OpenSpec.ofChange Rows.parsePrefixSpec).bare.plain.varTypes Tryd.prog) (ds ++ gs)).all (· ≤ reachBytes) = true := hsz0
  have hval : ∀ (j : Nat) t v, Tryd.f3.params[j]? = some t → args[j]? = some v → Value.okWide Tryd.prog W .any base t v := hval0
  have hW' := hW
  obtain ⟨p, q, hA0, hV, rfl, hfz, hnd⟩ := hW
  have hA : DataW.TrodAll enc Tryd.prog W 0 (fun _ => true) true Tryd.f3.params.toList args.toList ds p := hA0
  rw [Tryd.params3] at hA hval hsz
  obtain ⟨v0, vs0, d0, ds0, p0, q0, hargs, rfl, rfl, h0, r0⟩ := trodAll_cons hA
  obtain ⟨v1, vs1, d1, ds1, p1, q1, rfl, rfl, rfl, h1, r1⟩ := trodAll_cons r0
  obtain ⟨rfl, rfl, rfl⟩ := trodAll_nil r1
  obtain rfl : args = #[v0, v1] := Array.toList_inj.1 hargs
  obtain ⟨rfl, rfl⟩ := trodVars_none hV
  obtain ⟨a0, rfl, rfl, rfl, y0⟩ := open_string Tryd.underlying9 (hval 0 9 v0 rfl rfl) h0
  have w0 : a0.size ≤ 140737488351232 := by
    have z := sized_string hsz (j := 0) (t := 9) rfl rfl
    rw [Array.length_toList] at z
    exact z
  obtain ⟨a1, rfl, rfl, rfl, y1⟩ := open_string Tryd.underlying9 (hval 1 9 v1 rfl rfl) h1
  have w1 : a1.size ≤ 140737488351232 := by
    have z := sized_string hsz (j := 1) (t := 9) rfl rfl
    rw [Array.length_toList] at z
    exact z
  clear hA0 hval0 hsz0 hsz
  refine (X.parsePrefix_walk a0 a1 W w0 w1).mono fun e W' ⟨he, bel⟩ => ?_
  subst he
  exact ⟨_, rfl, _, _, _, [], _, [], hW', trodAll_mk1 (shut_bool Tryd.underlying4 _), (trodAll_cons_mk (shut_string Tryd.underlying9 y0) (trodAll_cons_mk (shut_string Tryd.underlying9 y1) trodAll_mk0)), rfl, bel.frame _, fun h => by cases h⟩
set_option maxRecDepth 100000 in
theorem lifted (os : Os) (started : os.Started) (H : Type) (enc : TypeId × Value → H) (F : Stop.Interp) :
    ReturnsInHanded {} Tryd.checked os 3 .any ((OpenSpec.ofChange Rows.parsePrefixSpec).preRow enc Tryd.prog Tryd.f3 Rows.parsePrefixRow.domain false Rows.parsePrefixRow.laid) (((OpenSpec.ofChange Rows.parsePrefixSpec).at F).post enc Tryd.prog Tryd.f3 false true false false) := by
  obtain ⟨places, hx⟩ := reads os enc
  refine returnsInHanded_of_row (C := Tryd.checked) (s := OpenSpec.ofChange Rows.parsePrefixSpec) own started (by kernel_rfl) Tryd.func3
    (witness_row_atRef (enc := enc) (C := Tryd.checked) false (laidWorld os) #[.string ByteArray.empty, .string ByteArray.empty] rfl (by kernel_rfl) (by kernel_rfl) (by kernel_rfl)
      (OpenSpec.preRow_of_cond 8 hx (by kernel_rfl) (fun k hk => by cases hk) (by kernel_rfl) (laid_met os _))) ?_
  intro W base args ds gs before hval hW _ _ hsz _ _ _
  exact contract H enc W base args ds gs before hval hW hsz
theorem said : Rows.ParsePrefixSaid :=
  OpenClaim.holds_of_cond 3 Tryd.f3 rfl rfl rfl rfl rfl rfl rfl ⟨rfl, rfl, rfl, rfl, rfl⟩ rfl rfl rfl rfl rfl (by kernel_rfl) Tryd.func3 (by kernel_rfl)
    (of_decide_eq_true (by kernel_rfl)) (by unfold Func.isWrapper; first | (rw [if_pos (by decide +kernel)]; kernel_rfl) | (rw [if_neg (by decide +kernel)]; exact ⟨rfl, rfl⟩))
    (fun os started H enc _ F => by rw [OpenClaim.pre_eq_preRow]; exact lifted os started H enc F)
theorem plain (f : FuncId) (fn : Func) (hf : Tryd.pinned.checked.prog.funcNamed "gossamer/gossamerlaw03.ParsePrefix" = some f) (hfn : Tryd.pinned.checked.prog.funcs[f]? = some fn) :
    true = Tryd.pinned.checked.prog.looks [] ∧ ∀ (j : Nat) t, fn.params[j]? = some t → Tryd.pinned.checked.prog.wantsStandIn t = false := by
  obtain rfl : f = 3 := Option.some.inj ((show Tryd.prog.funcNamed "gossamer/gossamerlaw03.ParsePrefix" = some 3 by kernel_rfl).symm.trans hf) |>.symm
  obtain rfl : fn = Tryd.f3 := (Option.some.inj (Tryd.func3.symm.trans hfn)).symm
  refine ⟨by kernel_rfl, fun j t ht => ?_⟩
  rw [Tryd.params3] at ht
  have hm := Array.mem_of_getElem? ht
  obtain rfl : t = 9 := by simpa using hm
  exact (show Tryd.prog.wantsStandIn 9 = false by kernel_rfl)
theorem card : Rows.ParsePrefixCardSaid :=
  Claim7.holds_tied_plain_at .later [] _ _ _ _ said (fun _ h => by cases h) (by kernel_rfl) (fun _ h => by cases h) parsePrefix_row_tie rfl ⟨rfl, rfl⟩ (by kernel_rfl) rfl plain (by kernel_rfl)
#print axioms card
end Go.Proofs.YtajcnjdinmgpjaaDoor.parsePrefix
namespace Go.Proofs.YtajcnjdinmgpjaaDoor
/-- The card, under a short name, for the claim. -/
theorem parsePrefix_card : Rows.ParsePrefixCardSaid := parsePrefix.card
end Go.Proofs.YtajcnjdinmgpjaaDoor
