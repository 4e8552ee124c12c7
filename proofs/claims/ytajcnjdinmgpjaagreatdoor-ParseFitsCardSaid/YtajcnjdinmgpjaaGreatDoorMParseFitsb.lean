/- A part of the proof of ParseFits's card: walks of the functions that it calls, and plain lemmas: Xpar8, Xpar9, Xpar10, Xwhole, Xlex7, Xder, QtreeDepth, Qgref02One, Qgref02Same, Xref1, Xparse, Xlist, Qgref01class. No condition of its own. -/
import Derived.Test.YtajcnjdinmgpjaaGreatDoorMParseFitsa
set_option linter.unusedVariables false
set_option linter.unusedSimpArgs false
/- The walks of the reader: an alternative. -/
namespace Go.Proofs.YtajcnjdinmgpjaaGreatDoor.X
open Go.RowKit Go.Proofs.YtajcnjdinmgpjaaGreatDoorW.PrintWords Go.Proofs.YtajcnjdinmgpjaaGreatDoorW.PrintLast Go.Proofs.YtajcnjdinmgpjaaGreatDoorW.PrintMore Go.Proofs.YtajcnjdinmgpjaaGreatDoor.P
attribute [local go_sem] fldTok0 fldTok1 fldTok3

theorem NT_append {P : Program} {ops : Array Oper} {rest : List Oper} {o : Oper} {a : Act} {Q : Exit → Act → World → Prop} {W : World} (lo X N : Nat) (hN : W.heap.size = N) (hgd : o.guard = none) (s x : Operand)
    (ho : o.op = .call { callee := .builtin .append, args := #[s, x], argTypes := #[23, 23] })
    (ht : P.underlying 23 = some (.slice 25)) (hinfo : (P.info? 25).map (fun i => (i.zero, i.size, i.bytes)) = some (some (.agg #[.int .i64 0, .string ⟨#[]⟩, .int .i64 0, .int .i64 0, .slice none 0 0]), 5, 64))
    (v : Value) (xs : List Tree) (p : Tree) (A : Option Addr) (c : Nat) (okp : Nat → Prop) (hs : a.eval s = v) (hx : a.eval x = .slice (some ⟨N, 0, none⟩) 1 1) (hp : TAt W okp p A c) (hokp : ∀ k, okp k → Up lo X k ∧ some k ≠ v.ownBlock) (hX : X < N)
    (HO : NT W lo X v xs) (hlo : lo ≤ N) (hl : xs.length ≤ 100)
    (h : ∀ A1 c1 w1, NT w1 lo X (.slice A1 (xs.length + 1) c1) (xs ++ [p]) → W.grownBy w1 v.ownBlock → wpList P ops Q rest (a.put o.dst (.slice A1 (xs.length + 1) c1)) w1) :
    wpList P ops Q (o :: rest) a (W.alloc (.cells (cellsT p A c).toArray 25)) := by
  subst hN
  refine Kd.N_append (w0 := W) k25 lo hgd s x 23 25 _ 64 ho ht hinfo rfl (by decide) (by decide) v xs p (cellsT p A c) (Up lo X) okp hs hx hp.FK hokp (fun k hk => ⟨by omega, by omega⟩) HO (Below.refl _ _) hlo (by omega) ?_
  intro V1 w5 hN5 _ hg5 _
  obtain ⟨A1, c1, rfl⟩ := Kd.N_slice hN5
  have e1 : (xs ++ [p]).length = xs.length + 1 := by simp
  rw [e1] at hN5 ⊢
  exact h A1 c1 w5 hN5 hg5

/-- What is known behind an append to the parts of a variable's row. -/
theorem altNext {w0 w w4 w5 : World} {g : Nat} {en : Int} {A A1 : Option Addr} {c c1 x : Nat} {b : ByteArray} {d : Int} {vs ps : List Tree} {l : List Tok} {tk : Obj} {v0 v1 v2 v3 v4 : Value}
    (H : NT w4 (w.heap.size + 1) x (.slice A vs.length c) vs ∧ NT (w4.alloc tk) (w.heap.size + 1) x (.slice A vs.length c) vs ∧ w4.heap[x]? = some (.cells #[.int .i64 8, .string b, .int .i64 (vs.length : Int), .int .i64 d, .slice A vs.length c] 25 (0, 0)) ∧
      w4.heap[w.heap.size]? = some (.cells #[v0, v1, v2, v3, v4] 25 (0, 0)) ∧ Rdr w0 w4 g l en ∧ Kp w w4 g none)
    (hg5 : (w4.alloc tk).grownBy w5 (Value.slice A vs.length c).ownBlock) (hN5 : NT w5 (w.heap.size + 1) x (.slice A1 (vs.length + 1) c1) ps) (hw : w0.heap.size ≤ w.heap.size) (hgw : g < w.heap.size) :
    w5.heap[x]? = some (.cells #[.int .i64 8, .string b, .int .i64 (vs.length : Int), .int .i64 d, .slice A vs.length c] 25 (0, 0)) ∧ Kp w w5 g none ∧ Rdr w0 w5 g l en ∧ w5.heap[w.heap.size]? = some (.cells #[v0, v1, v2, v3, v4] 25 (0, 0)) ∧ NT w5 (w.heap.size + 1) x (.slice A1 (vs.length + 1) c1) ps := by
  obtain ⟨_, hN, hbx, hbR, hI, hK⟩ := H
  have own : ∀ k, (Value.slice A vs.length c).ownBlock = some k → w.heap.size + 1 ≤ k ∧ k ≠ x := fun k hk => hN.1 k hk
  exact ⟨blk_grown (blk_alloc hbx _) hg5 (fun e => (own _ e.symm).2 rfl), keepG (kpAlloc hK _) hg5 (fun k hk => by have := (own k hk).1; omega), (hI.alloc _).grown hg5 (fun k hk => ⟨by have := (own k hk).1; omega, by have := (own k hk).1; omega⟩), blk_grown (blk_alloc hbR _) hg5 (fun e => by have := (own _ e.symm).1; omega), hN5⟩

/-- The loop over an alternative's variables, at its head. -/
def AltAt (f : List Tree → List Tok → PR) (fin : PR) (w0 w : World) (g : Nat) (en : Int) (x n : Nat) (b : ByteArray) (d : Int) (m : Nat) (w' : World) : Prop :=
  ∃ vs l V, pVars f m vs l = fin ∧ l.length < m ∧ l.length < n ∧ vs.length ≤ 8 ∧ Grow w0 w g en (w.heap.size + 1) x 8 b (vs.length : Int) d vs l V w'

set_option maxRecDepth 100000 in
set_option maxHeartbeats 4000000 in
theorem alt_calls (m n : Nat) (hex : CP 25 (pExpr m) n) : CP 65 (pAlt (pExpr m)) (n + 1) := by
  intro w0 w g en l0 hl hI
  obtain ⟨hgw, hw⟩ := hI.lt
  go_enter Tryz.func65, Tryz.ntmps65
  go_wp2_with fail
  refine (kind_any g l0 en 2 w0 _ (hI.alloc _)).mono ?_
  rintro e w1 (⟨h1, rfl, hI1, hK1⟩ | ⟨h1, rfl, hK1⟩)
  case inr =>
    have H1 := Lib.hid h1
    clear h1
    unfold wrongP
    go_wp2
    exact ⟨rfl, .fail (by rw [pAlt, kindP_neg H1.out]) (keep1 (k0 w g _) hK1)⟩
  have t1 := kd_tail h1 (by omega)
  have e1 := hd_en en (show 0 < l0.length by omega)
  have H1 := Lib.hid h1
  have hb1 := keepNew hK1 hgw
  have hKK1 := keep1 (k0 w g _) hK1
  have hx0 : w.heap.size < w1.heap.size := blk_lt hb1
  obtain ⟨b, hb⟩ : ∃ b, b = (hd l0 en).f1 := ⟨_, rfl⟩
  obtain ⟨d, hd'⟩ : ∃ d, d = (hd l0 en).f3 := ⟨_, rfl⟩
  have hfin : pAlt (pExpr m) l0 = pVars (fun vs l2 => word ⟨#[45, 62]⟩ l2 fun l3 => (pExpr m l3).bind fun b' r => .ok ⟨8, b, (vs.length : Int), d, vs ++ [b']⟩ r) (l0.tail.length + 1) [] l0.tail := by
    rw [pAlt, kindP_pos h1, hb, hd', e1]
  have HF0 := Lib.hid hfin
  clear hfin h1 e1
  unfold tokV
  rw [← hb, ← hd']
  clear hb hd'
  go_wp2_with fail
  have hst : AltAt (fun vs l2 => word ⟨#[45, 62]⟩ l2 fun l3 => (pExpr m l3).bind fun b' r => .ok ⟨8, b, (vs.length : Int), d, vs ++ [b']⟩ r) (pAlt (pExpr m) l0) w0 w g en (w1.heap.size + 1) n b d (l0.tail.length + 1)
      ((w1.alloc (.cells #[.int .i64 (hd l0 en).f0, .string b, .int .i64 (hd l0 en).f2, .int .i64 d] 46)).alloc (.cells #[.int .i64 8, .string b, .int .i64 0, .int .i64 d, .slice none 0 0] 25)) :=
    ⟨[], l0.tail, .slice none 0 0, HF0.out.symm, by omega, by omega, by simp, by have := blk_new (w1.alloc (.cells #[.int .i64 (hd l0 en).f0, .string b, .int .i64 (hd l0 en).f2, .int .i64 d] 46)) (.cells #[.int .i64 8, .string b, .int .i64 0, .int .i64 d, .slice none 0 0] 25); rw [World.size_alloc] at this; exact this, Kd.N_nil _ _ _ _ _, fun _ => rfl, (hI1.alloc _).alloc _, kpAlloc (kpAlloc hKK1 _) _⟩
  have hbR := blk_alloc (blk_alloc hb1 (.cells #[.int .i64 (hd l0 en).f0, .string b, .int .i64 (hd l0 en).f2, .int .i64 d] 46)) (.cells #[.int .i64 8, .string b, .int .i64 0, .int .i64 d, .slice none 0 0] 25)
  have HS := Lib.hid (And.intro hst hbR)
  clear hst hbR hb1 hI1 hK1 hKK1
  go_loopg [] (l0.tail.length + 1) (fun kq w' => AltAt (fun vs l2 => word ⟨#[45, 62]⟩ l2 fun l3 => (pExpr m l3).bind fun b' r => .ok ⟨8, b, (vs.length : Int), d, vs ++ [b']⟩ r) (pAlt (pExpr m) l0) w0 w g en (w1.heap.size + 1) n b d kq w' ∧ w'.heap[w.heap.size]? = some (.cells #[.int .i64 0, .string ⟨#[]⟩, .int .i64 0, .int .i64 0, .slice none 0 0] 25 (0, 0)))
  case atStart => exact HS.out
  case round =>
    obtain ⟨⟨vs, l, V, hF, hlm, hln, hp8, hbx, hN, hV0, hI, hKl⟩, hbR⟩ := hrel
    clear HS HF0
    obtain ⟨k, rfl⟩ : ∃ k, gk = k + 1 := ⟨gk - 1, by omega⟩
    unfold pVars at hF
    obtain ⟨A, c, rfl⟩ := Kd.N_slice hN
    have HV0 := Lib.hid hV0
    clear hV0
    by_cases s1 : kd l = 1
    · have S1 := Lib.hid (show ((hd l en).f0 == 1) = true by rw [hd_kd]; simpa using s1)
      have tl := kd_tail s1 (by omega)
      have e1 := hd_en en (show 0 < l.length by omega)
      rw [if_pos s1] at hF
      clear s1
      by_cases s2 : vs.length < 8
      · rw [if_pos s2, ← e1] at hF
        have HF := Lib.hid hF
        clear hF e1
        go_wp2_with fail
        refine (next_calls g l en w0 wr hI).mono ?_
        rintro e w3 ⟨rfl, hI3, hB3⟩
        unfold tokV
        have hbx3 := blk_below hbx hB3
        have hbR3 := blk_below hbR hB3
        have hK3 := keepB hKl hB3
        have hN3 := Kd.N_below hN hB3
        obtain ⟨x0, x1, x2, x3, x4, xf, xl⟩ := open5 hbx3
        have s2' : decide ((vs.length : Int) < 8) = true := decide_eq_true (by omega)
        have S1' := S1.out
        go_wp2_with fail
        refine (must_yes g w3).mono ?_
        rintro e w' ⟨rfl, rfl⟩
        go_wp2_with fail
        clear x0 x1 x2 x3 x4 xf xl S1'
        refine (take_calls g l en w0 w3 hI3).mono ?_
        rintro e w4 ⟨rfl, hI4, hK4⟩
        unfold tokV
        have hbx4 := hK4.blk hbx3 (by omega) (by simp)
        have hbR4 := hK4.blk hbR3 (by omega) (by simp)
        have hN4 : NT w4 (w.heap.size + 1) (w1.heap.size + 1) (.slice A vs.length c) vs := N_kp hN3 hK4 (fun k h e => by have := h.1; omega)
        have hx4 := blk_lt hbx4
        obtain ⟨z0, z1, z2, z3, z4, zf, zl⟩ := open5 hbx4
        have HN4 := Lib.hid (And.intro hN4 (And.intro (Kd.N_alloc hN4 (.cells #[.int .i64 (hd l en).f0, .string (hd l en).f1, .int .i64 (hd l en).f2, .int .i64 (hd l en).f3] 46)) (And.intro hbx4 (And.intro hbR4 (And.intro hI4 (keep1 hK3 hK4))))))
        clear hN4 hN3 hN hbx hbR hbx3 hbR3 hbx4 hbR4 hI hI3 hI4 hKl hK3 hK4 hB3 s2'
        go_wp2_with (at_builtin; refine NT_append (W := w4.alloc (.cells #[.int .i64 (hd l en).f0, .string (hd l en).f1, .int .i64 (hd l en).f2, .int .i64 (hd l en).f3] 46)) (w.heap.size + 1) (w1.heap.size + 1) (w4.heap.size + 1) (World.size_alloc _ _) rfl _ _ rfl Tryz.underlying23 infoTree (.slice A vs.length c) vs (varT (hd l en)) none 0 (fun _ => False) rfl rfl (TAt.nil _ _ _ _ _ _) (fun k hk => hk.elim) (by omega) HN4.out.2.1 (by omega) (by omega) ?_; (intro A1 c1 w5 hN5 hg5); (obtain ⟨hbx5, hK5, hI5, hbR5, hN6⟩ := altNext HN4.out hg5 hN5 hw hgw); (obtain ⟨y0, y1, y2, y3, y4, yf, yl⟩ := open5 hbx5); clear z0 z1 z2 z3 z4 zf zl HN4)
        have e1 : ((vs ++ [varT (hd l en)]).length : Int) = (vs.length : Int) + 1 := by simp
        have hnext : AltAt (fun vs l2 => word ⟨#[45, 62]⟩ l2 fun l3 => (pExpr m l3).bind fun b' r => .ok ⟨8, b, (vs.length : Int), d, vs ++ [b']⟩ r) (pAlt (pExpr m) l0) w0 w g en (w1.heap.size + 1) n b d k ((w5.setCell ⟨w1.heap.size + 1, 4, none⟩ (.slice A1 (vs.length + 1) c1)).setCell ⟨w1.heap.size + 1, 2, none⟩ (.int .i64 ((vs.length : Int) + 1))) :=
          ⟨vs ++ [varT (hd l en)], l.tail, .slice A1 (vs.length + 1) c1, HF.out, by omega, by omega, by simp; omega, by rw [e1]; exact blk_put (blk_put hbx5 4 _ rfl) 2 _ rfl, Kd.N_far (Kd.N_far hN6 (fun k hk => hk.2) _) (fun k hk => hk.2) _, fun e => by simp at e, (hI5.far (by omega) (by omega) 4 _).far (by omega) (by omega) 2 _, kpFar (kpFar hK5 (by simp; omega) _) (by simp; omega) _⟩
        have hbR6 := blk_far (blk_far hbR5 (p := ⟨w1.heap.size + 1, 4, none⟩) (by simp; omega) (.slice A1 (vs.length + 1) c1)) (p := ⟨w1.heap.size + 1, 2, none⟩) (by simp; omega) (.int .i64 ((vs.length : Int) + 1))
        have HN := Lib.hid (And.intro hnext hbR6)
        clear hnext hbR6 hbR5 hbx5 hI5 hK5 hg5 hN6 hN5 y0 y1 y2 y3 y4 yf yl e1
        go_wp2
        go_roundg k
        case measure => omega
        case rel => exact HN.out
      · rw [if_neg s2] at hF
        have HF := Lib.hid hF
        clear hF e1
        go_wp2_with fail
        refine (next_calls g l en w0 wr hI).mono ?_
        rintro e w3 ⟨rfl, hI3, hB3⟩
        unfold tokV
        have hbx3 := blk_below hbx hB3
        obtain ⟨x0, x1, x2, x3, x4, xf, xl⟩ := open5 hbx3
        have s2' : decide ((vs.length : Int) < 8) = false := decide_eq_false (by omega)
        have S1' := S1.out
        go_wp2_with fail
        refine (must_no g l en w0 w3 hI3).mono ?_
        rintro e w4 ⟨rfl, hB4⟩
        unfold wrongP
        go_wp2
        exact ⟨rfl, .fail HF.out.symm (keepB (keepB hKl hB3) hB4)⟩
    · have S1 := Lib.hid (show ((hd l en).f0 == 1) = false by rw [hd_kd]; simpa using s1)
      rw [if_neg s1] at hF
      have HF := Lib.hid hF
      clear hF s1
      go_wp2_with fail
      refine (next_calls g l en w0 wr hI).mono ?_
      rintro e w3 ⟨rfl, hI3, hB3⟩
      unfold tokV
      have hbx3 := blk_below hbx hB3
      have hbR3 := blk_below hbR hB3
      have hK3 := keepB hKl hB3
      have hN3 := Kd.N_below hN hB3
      have S1' := S1.out
      go_wp2_with fail
      refine (word_any g l en ⟨#[45, 62]⟩ w0 _ hI3).mono ?_
      rintro e w4 (⟨h2, rfl, hI4, hK4⟩ | ⟨h2, rfl, hK4⟩)
      case inr =>
        have EF := Lib.hid (show pAlt (pExpr m) l0 = .fail l by have := HF.out; rw [word_neg h2] at this; exact this.symm)
        clear h2 HF
        unfold wrongP
        go_wp2
        exact ⟨rfl, .fail EF.out (keep1 hK3 hK4)⟩
      have t2 := isW_tail h2
      have hbx4 := hK4.blk hbx3 (by omega) (by simp)
      have hbR4 := hK4.blk hbR3 (by omega) (by simp)
      have hKK4 := keep1 hK3 hK4
      have hN4 : NT w4 (w.heap.size + 1) (w1.heap.size + 1) (.slice A vs.length c) vs := N_kp hN3 hK4 (fun k h e => by have := h.1; omega)
      have HF2 := Lib.hid (show ((pExpr m l.tail).bind fun b' r => .ok ⟨8, b, (vs.length : Int), d, vs ++ [b']⟩ r) = pAlt (pExpr m) l0 by have := HF.out; rw [word_pos h2] at this; exact this)
      obtain ⟨x0, x1, x2, x3, x4, xf, xl⟩ := open5 hbx4
      clear h2 HF hbx hbR hbx3 hbR3 hN hN3 hB3 hK3 hI hI3 hKl
      go_wp2_with fail
      refine start_ (n := 8) (S := fun w' => w'.cell? ⟨w1.heap.size + 1, 4, none⟩ = some (.slice A vs.length c)) (ds := [5, 7]) #[false, false, false, false, false, false, false, false] (by kernel_rfl) rfl rfl x4 (fun hHeld => ?_)
      refine pure_ (i := 0) (N := (some 40)) (v := ?_) (a' := ?_) #[true, false, false, false, false, false, false, false] rfl rfl (by kernel_rfl) (fun _ _ _ h => h) (Or.inl ⟨by rfl, ?_⟩) ?_ ?_
      rotate_left
      · intro w'
        go_simp
        try with_reducible rfl
      rotate_left
      · simp only [Act.put, List.setIfInBounds_toArray, List.set_cons_zero, List.set_cons_succ]
        try rfl
      refine pure_ (i := 2) (N := (some 42)) (v := ?_) (a' := ?_) #[true, false, true, false, false, false, false, false] rfl rfl (by kernel_rfl) (fun _ _ _ h => h) (Or.inl ⟨by rfl, ?_⟩) ?_ ?_
      rotate_left
      · intro w'
        go_simp
        try with_reducible rfl
      rotate_left
      · simp only [Act.put, List.setIfInBounds_toArray, List.set_cons_zero, List.set_cons_succ]
        try rfl
      refine take_ (i := 1) (N := (some 41)) (v := ?_) (a' := ?_) #[true, true, true, false, false, false, false, false] rfl rfl (by kernel_rfl) (fun _ _ _ h => h) (Or.inl ⟨by rfl, ?_⟩) hHeld ?_ ?_
      rotate_left
      · rintro w' s0
        go_simp
        try with_reducible rfl
      rotate_left
      · simp only [Act.put, List.setIfInBounds_toArray, List.set_cons_zero, List.set_cons_succ]
        try rfl
      refine one_ (i := 3) (N := (some 43)) #[true, true, true, true, false, false, false, false] rfl rfl (by kernel_rfl) (by decide) (fun K hK => ?_)
      go_simp
      refine (hex w0 _ g en l.tail (by omega) hI4.drew).mono ?_
      intro e w5 h5
      rcases h5.any with ⟨a, l5, A5, c5, hR, rfl, hTa, hI5, hK5⟩ | ⟨l5, hR, rfl, hK5⟩
      case inr =>
        have eF : pAlt (pExpr m) l0 = .fail l5 := by have := HF2.out; rw [hR, PR.bind_fail] at this; exact this.symm
        unfold wrongP
        exact ⟨rfl, .fail eF (keep1 hKK4 (keep1 (kpDrew (Kp.refl w4 g none)) hK5))⟩
      have eF := HF2.out
      rw [hR, PR.bind_ok] at eF
      have EF := Lib.hid eF
      clear eF
      have hbx5 := keepD hK5 hbx4 (by omega)
      have hbR5 := keepD hK5 hbR4 (by omega)
      obtain ⟨z0, z1, z2, z3, z4, zf, zl⟩ := open5 hbx5
      have hN5 : NT w5 (w.heap.size + 1) (w1.heap.size + 1) (.slice A vs.length c) vs := N_kp (Kd.N_drew hN4) hK5 (fun k h e => by have := h.1; omega)
      have HN5 := Lib.hid hN5
      have s3 : w4.heap.size ≤ w5.heap.size := hK5.1
      have hx4 := blk_lt hbx4
      unfold treeV
      refine hK _ _ z4 ?_
      clear hK K
      intro hHeld_1
      refine one_ (i := 4) (N := (some 44)) #[true, true, true, true, true, false, false, false] rfl rfl (by kernel_rfl) (by decide) (fun K hK => ?_)
      go_simp
      refine hK _ _ (by go_keep) ?_
      clear hK K
      intro hHeld_2
      refine last_ (i := 5) (N := (some 45)) #[true, true, true, true, true, true, false, false] rfl rfl (by kernel_rfl) (by decide) (fun K hK => ?_)
      refine Kd.N_append_step (w0 := w5) k25 (w.heap.size + 1) rfl _ _ 23 25 _ 64 rfl Tryz.underlying23 infoTree rfl (by decide) (by decide) (.slice A vs.length c) vs a (cellsT a A5 c5) (Up (w.heap.size + 1) (w1.heap.size + 1)) (Iv w4.heap.size w5.heap.size) rfl rfl (TAt.FK hTa) ?ok1 ?ok2 HN5.out (Below.refl _ _) (by omega) (by omega) ?_
      case ok1 =>
        intro k hk
        refine ⟨⟨by have := hk.1; omega, by have := hk.1; omega⟩, fun e => ?_⟩
        have h5 := Kd.N_lt hN4 k e.symm
        have := hk.1
        omega
      case ok2 => exact fun k hk => ⟨by omega, by omega⟩
      intro V1 w6 hN6 hB6 hg6 hat
      obtain ⟨A1, c1, rfl⟩ := Kd.N_slice hN6
      have own : ∀ k, (Value.slice A vs.length c).ownBlock = some k → w.heap.size + 1 ≤ k ∧ k ≠ w1.heap.size + 1 := fun k hk => HN5.out.1 k hk
      have hbx6 := blk_grown hbx5 hg6 (fun e => (own _ e.symm).2 rfl)
      have hbR6 := blk_grown hbR5 hg6 (fun e => by have := (own _ e.symm).1; omega)
      have hI6 := hI5.grown hg6 (fun k hk => ⟨by have := (own k hk).1; omega, by have := (own k hk).1; omega⟩)
      have hK6 := keepG (keep1 hKK4 (keep1 (kpDrew (Kp.refl w4 g none)) hK5)) hg6 (fun k hk => by have := (own k hk).1; omega)
      obtain ⟨y0, y1, y2, y3, y4, yf, yl⟩ := open5 hbx6
      clear z0 z1 z2 z3 z4 zf zl x0 x1 x2 x3 x4 xf xl
      refine hK _ _ ?_
      clear hK K
      refine pure_ (i := 6) (N := (some 46)) (v := ?_) (a' := ?_) #[true, true, true, true, true, true, true, false] rfl rfl (by kernel_rfl) (fun _ _ _ h => h) (Or.inl ⟨by rfl, ?_⟩) ?_ ?_
      rotate_left
      · intro w'
        go_simp
        try with_reducible rfl
      rotate_left
      · simp only [Act.put, List.setIfInBounds_toArray, List.set_cons_zero, List.set_cons_succ]
        try rfl
      refine last_ (i := 7) (N := none) #[true, true, true, true, true, true, true, true] rfl rfl (by kernel_rfl) (by decide) (fun K hK => ?_)
      go_simp
      refine hK _ _ ?_
      clear hK K
      refine done_ (by kernel_rfl) ?_
      have e1 : (vs ++ [a]).length = vs.length + 1 := by simp
      have hbx7 := blk_put hbx6 4 (.slice A1 (vs.length + 1) c1) rfl
      have hbR7 := blk_far hbR6 (p := ⟨w1.heap.size + 1, 4, none⟩) (by simp; omega) (.slice A1 (vs.length + 1) c1)
      obtain ⟨A', c', eV, hTt⟩ := NT.tat 8 b (vs.length : Int) d (Kd.N_far hN6 (p := ⟨w1.heap.size + 1, 4, none⟩) (fun k hk => hk.2) (.slice A1 (vs.length + 1) c1)) (fun e => by simp at e)
      injection eV with eA _ ec
      subst eA ec
      have hP := close_copy (w := w) (w0 := w0) hTt (hI6.far (by omega) (by omega) 4 _) (kpFar hK6 (by simp; omega) _) hbR7 (Nat.le_refl _) hw hgw (fun k h => Nat.le_of_succ_le h.1) (fun k h => h.2.1) (fun h => by have := h.1; omega)
      obtain ⟨q0, q1, q2, q3, q4, qf, ql⟩ := open5 hbx7
      obtain ⟨r0, r1, r2, r3, r4, rf, rl⟩ := open5 hbR7
      dsimp only at hP
      rw [e1] at hP
      have HP := Lib.hid (And.intro hP EF.out)
      clear hP EF HF2 hTt hbx7 hbR7 hbx6 hbR6 hbx5 hbR5 hbx4 hbR4 hN6 hN5 HN5 hN4 hI6 hI5 hI4 hK6 hK5 hKK4 hK4 hTa hg6 hB6 hat own hR h5 hHeld hHeld_1 hHeld_2 e1
      go_wp2
      exact bodyPost_ret (results_cell_row rfl _ _ w.heap.size 25 _ (0, 0) _ rfl HP.out.1.1 Tryz.underlying25 rfl (by kernel_rfl)) rfl (by rw [← HP.out.2]; exact HP.out.1.2)
end Go.Proofs.YtajcnjdinmgpjaaGreatDoor.X
/- The walks of the reader: a case. -/
namespace Go.Proofs.YtajcnjdinmgpjaaGreatDoor.X
open Go.RowKit Go.Proofs.YtajcnjdinmgpjaaGreatDoorW.PrintWords Go.Proofs.YtajcnjdinmgpjaaGreatDoorW.PrintLast Go.Proofs.YtajcnjdinmgpjaaGreatDoorW.PrintMore Go.Proofs.YtajcnjdinmgpjaaGreatDoor.P
attribute [local go_sem] fldTok0 fldTok1 fldTok3
theorem NT_append_step {P : Program} {ops : Array Oper} {o : Oper} {a : Act} {Q : Exit → Act → World → Prop} {Kc : Act → World → Prop} {W : World} (lo X N n : Nat) (hN : W.heap.size = N) (hw : Region.wanted o (yielded ops a.tmps) = true) (s x : Operand)
    (ho : o.op = .call { callee := .builtin .append, args := #[s, x], argTypes := #[23, 23] })
    (ht : P.underlying 23 = some (.slice 25)) (hinfo : (P.info? 25).map (fun i => (i.zero, i.size, i.bytes)) = some (some (.agg #[.int .i64 0, .string ⟨#[]⟩, .int .i64 0, .int .i64 0, .slice none 0 0]), 5, 64))
    (v : Value) (xs : List Tree) (p : Tree) (A : Option Addr) (c : Nat) (okp : Nat → Prop) (hs : a.eval s = v) (hx : a.eval x = .slice (some ⟨N, 0, none⟩) 1 1) (hp : TAt W okp p A c) (hokp : ∀ k, okp k → Up lo X k ∧ some k ≠ v.ownBlock) (hX : X < N)
    (HO : NT W lo X v xs) (hlo : lo ≤ N) (hl : xs.length ≤ 100) (hn : xs.length + 1 = n)
    (h : ∀ A1 c1 w1, NT w1 lo X (.slice A1 n c1) (xs ++ [p]) → W.grownBy w1 v.ownBlock → Kc (a.put o.dst (.slice A1 n c1)) w1) :
    if Region.wanted o (yielded ops a.tmps) = true then Oper.wp P o a (W.alloc (.cells (cellsT p A c).toArray 25)) Kc Q else Kc (a.put o.dst undef) (W.alloc (.cells (cellsT p A c).toArray 25)) := by
  subst hN
  subst hn
  refine Kd.N_append_step (w0 := W) k25 lo hw s x 23 25 _ 64 ho ht hinfo rfl (by decide) (by decide) v xs p (cellsT p A c) (Up lo X) okp hs hx hp.FK hokp (fun k hk => ⟨by omega, by omega⟩) HO (Below.refl _ _) hlo (by omega) ?_
  intro V1 w5 hN5 _ hg5 _
  obtain ⟨A1, c1, rfl⟩ := Kd.N_slice hN5
  have e1 : (xs ++ [p]).length = xs.length + 1 := by simp
  rw [e1] at hN5 ⊢
  exact h A1 c1 w5 hN5 hg5
/-- A case that is read: in block x, its parts in a row that grows, the result's block is untouched. -/
def CaseAt (w0 w : World) (g : Nat) (en : Int) (x : Nat) (d : Int) (ts : List Tree) (l : List Tok) (V : Value) (W : World) : Prop :=
  Grow w0 w g en (w.heap.size + 1) x 7 ⟨#[]⟩ 0 d ts l V W ∧ W.heap[w.heap.size]? = some (.cells #[.int .i64 0, .string ⟨#[]⟩, .int .i64 0, .int .i64 0, .slice none 0 0] 25 (0, 0)) ∧ w.heap.size < x
theorem CaseAt.below {w0 w W W1 : World} {g x : Nat} {en d : Int} {ts : List Tree} {l : List Tok} {V : Value} (h : CaseAt w0 w g en x d ts l V W) (hB : Below W.heap.size W W1) (hI : Rdr w0 W1 g l en) : CaseAt w0 w g en x d ts l V W1 := by
  obtain ⟨⟨hbx, hN, h0, _, hK⟩, hbR, hx⟩ := h
  exact ⟨⟨blk_below hbx hB, Kd.N_below hN hB, h0, hI, keepB hK hB⟩, blk_below hbR hB, hx⟩
theorem CaseAt.keep {w0 w W W1 : World} {g x : Nat} {en d : Int} {ts : List Tree} {l l1 : List Tok} {V : Value} (h : CaseAt w0 w g en x d ts l V W) (hgw : g < w.heap.size) (hK1 : Kp W W1 g none) (hI : Rdr w0 W1 g l1 en) : CaseAt w0 w g en x d ts l1 V W1 := by
  obtain ⟨⟨hbx, hN, h0, _, hK⟩, hbR, hx⟩ := h
  exact ⟨⟨hK1.blk hbx (by omega) (by simp), N_kp hN hK1 (fun k h e => by have := h.1; omega), h0, hI, keep1 hK hK1⟩, hK1.blk hbR (by omega) (by simp), hx⟩
theorem CaseAt.drew {w0 w W : World} {g x : Nat} {en d : Int} {ts : List Tree} {l : List Tok} {V : Value} (h : CaseAt w0 w g en x d ts l V W) : CaseAt w0 w g en x d ts l V W.drew := by
  obtain ⟨⟨hbx, hN, h0, hI, hK⟩, hbR, hx⟩ := h
  exact ⟨⟨hbx, Kd.N_drew hN, h0, hI.drew, keep1 hK (kpDrew (Kp.refl W g none))⟩, hbR, hx⟩
/-- Behind an append: the row moved, the tree is not yet told. -/
theorem CaseAt.grown {w0 w W W1 : World} {g x n : Nat} {en d : Int} {ts ts1 : List Tree} {l : List Tok} {V : Value} {A1 : Option Addr} {c1 : Nat} (h : CaseAt w0 w g en x d ts l V W) (hgw : g < w.heap.size) (hw : w0.heap.size ≤ w.heap.size) (hg : W.grownBy W1 V.ownBlock) (hN1 : NT W1 (w.heap.size + 1) x (.slice A1 n c1) ts1) (hne : ts1 ≠ []) :
    W1.heap[x]? = some (.cells #[.int .i64 7, .string ⟨#[]⟩, .int .i64 0, .int .i64 d, V] 25 (0, 0)) ∧ CaseAt w0 w g en x d ts1 l (.slice A1 n c1) (W1.setCell ⟨x, 4, none⟩ (.slice A1 n c1)) := by
  obtain ⟨⟨hbx, hN, h0, hI, hK⟩, hbR, hx⟩ := h
  have own : ∀ k, V.ownBlock = some k → w.heap.size + 1 ≤ k ∧ k ≠ x := fun k hk => hN.1 k hk
  have hbx1 := blk_grown hbx hg (fun e => (own _ e.symm).2 rfl)
  have hbR1 := blk_grown hbR hg (fun e => by have := (own _ e.symm).1; omega)
  have hI1 := hI.grown hg (fun k hk => ⟨by have := (own k hk).1; omega, by have := (own k hk).1; omega⟩)
  have hK1 := keepG hK hg (fun k hk => by have := (own k hk).1; omega)
  exact ⟨hbx1, ⟨blk_put hbx1 4 _ rfl, Kd.N_far hN1 (fun k hk => hk.2) _, fun e => absurd e hne, hI1.far (by omega) (by omega) 4 _, kpFar hK1 (by simp; omega) _⟩, blk_far hbR1 (by simp; omega) _, hx⟩
/-- The loop over a case's alternatives, at its head. -/
def AltsAt (ex : List Tok → PR) (fin : PR) (w0 w : World) (g : Nat) (en : Int) (x n : Nat) (d : Int) (m : Nat) (w' : World) : Prop :=
  ∃ ts l V, pAlts ex d m ts l = fin ∧ l.length < m ∧ l.length < n + 1 ∧ 2 ≤ ts.length ∧ ts.length ≤ 9 ∧ CaseAt w0 w g en x d ts l V w'

set_option maxRecDepth 100000 in
set_option maxHeartbeats 4000000 in
theorem case_calls (m n : Nat) (hex : CP 25 (pExpr m) n) : CP 46 (pCase (pExpr m)) (n + 1) := by
  intro w0 w g en l0 hl hI
  obtain ⟨hgw, hw⟩ := hI.lt
  have halt : CP 65 (pAlt (pExpr m)) (n + 1) := alt_calls m n hex
  obtain ⟨fin, hfin⟩ : ∃ fin, fin = pCase (pExpr m) l0 := ⟨_, rfl⟩
  rw [← hfin]
  go_enter Tryz.func46, Tryz.ntmps46
  go_wp2_with fail
  refine (word_any g l0 en ⟨#[99, 97, 115, 101]⟩ w0 _ (hI.alloc _)).mono ?_
  rintro e w1 (⟨h1, rfl, hI1, hK1⟩ | ⟨h1, rfl, hK1⟩)
  case inr =>
    have H1 := Lib.hid h1
    clear h1
    unfold wrongP
    go_wp2
    exact ⟨rfl, .fail (by rw [pCase, word_neg H1.out]) (keep1 (k0 w g _) hK1)⟩
  have q1 := isW_tail h1
  have e1 := hd_en en (show 0 < l0.length by omega)
  have hb1 := keepNew hK1 hgw
  have hKK1 := keep1 (k0 w g _) hK1
  have hx0 : w.heap.size < w1.heap.size := blk_lt hb1
  obtain ⟨d, hd'⟩ : ∃ d, d = (hd l0 en).f3 := ⟨_, rfl⟩
  have HF := Lib.hid (show ((pExpr m l0.tail).bind fun a l2 => word ⟨#[111, 102]⟩ l2 fun l3 => word ⟨#[123]⟩ l3 fun l4 => (pAlt (pExpr m) l4).bind fun b l5 => pAlts (pExpr m) d (l5.length + 1) [a, b] l5) = fin by rw [hfin, pCase, word_pos h1, hd', e1])
  clear hfin h1 e1
  unfold tokV
  rw [← hd']
  clear hd'
  go_wp2_with fail
  have hst : CaseAt w0 w g en w1.heap.size d [] l0.tail (.slice none 0 0) (w1.alloc (.cells #[.int .i64 7, .string ⟨#[]⟩, .int .i64 0, .int .i64 d, .slice none 0 0] 25)) :=
    ⟨⟨blk_new _ _, Kd.N_nil _ _ _ _ _, fun _ => rfl, hI1.alloc _, kpAlloc hKK1 _⟩, blk_alloc hb1 _, hx0⟩
  obtain ⟨W, hW⟩ : ∃ W, W = w1.alloc (.cells #[.int .i64 7, .string ⟨#[]⟩, .int .i64 0, .int .i64 d, .slice none 0 0] 25) := ⟨_, rfl⟩
  rw [← hW] at hst ⊢
  clear hb1 hKK1 hK1 hI1 hI hW
  obtain ⟨X, hX⟩ : ∃ X, X = w1.heap.size := ⟨_, rfl⟩
  rw [← hX] at hst hx0 ⊢
  clear hX
  obtain ⟨x0, x1, x2, x3, x4, xf, xl⟩ := open5 hst.1.1
  refine start_ (n := 8) (S := fun w' => w'.cell? ⟨X, 4, none⟩ = some (.slice none 0 0)) (ds := [5, 7]) #[false, false, false, false, false, false, false, false] (by kernel_rfl) rfl rfl x4 (fun hHeld => ?_)
  refine pure_ (i := 0) (N := (some 8)) (v := ?_) (a' := ?_) #[true, false, false, false, false, false, false, false] rfl rfl (by kernel_rfl) (fun _ _ _ h => h) (Or.inl ⟨by rfl, ?_⟩) ?_ ?_
  rotate_left
  · intro w'
    go_simp
    try with_reducible rfl
  rotate_left
  · simp only [Act.put, List.setIfInBounds_toArray, List.set_cons_zero, List.set_cons_succ]
    try rfl
  refine pure_ (i := 2) (N := (some 10)) (v := ?_) (a' := ?_) #[true, false, true, false, false, false, false, false] rfl rfl (by kernel_rfl) (fun _ _ _ h => h) (Or.inl ⟨by rfl, ?_⟩) ?_ ?_
  rotate_left
  · intro w'
    go_simp
    try with_reducible rfl
  rotate_left
  · simp only [Act.put, List.setIfInBounds_toArray, List.set_cons_zero, List.set_cons_succ]
    try rfl
  refine take_ (i := 1) (N := (some 9)) (v := ?_) (a' := ?_) #[true, true, true, false, false, false, false, false] rfl rfl (by kernel_rfl) (fun _ _ _ h => h) (Or.inl ⟨by rfl, ?_⟩) hHeld ?_ ?_
  rotate_left
  · rintro w' s0
    go_simp
    try with_reducible rfl
  rotate_left
  · simp only [Act.put, List.setIfInBounds_toArray, List.set_cons_zero, List.set_cons_succ]
    try rfl
  refine one_ (i := 3) (N := (some 11)) #[true, true, true, true, false, false, false, false] rfl rfl (by kernel_rfl) (by decide) (fun K hK => ?_)
  go_simp
  refine (hex w0 _ g en l0.tail (by omega) hst.1.2.2.2.1.drew).mono ?_
  intro e v1 h5
  rcases h5.any with ⟨t1, l1, AA, cc, hR, rfl, hTa, hI5, hK5⟩ | ⟨l5, hR, rfl, hK5⟩
  case inr =>
    have eF : fin = .fail l5 := by have := HF.out; rw [hR, PR.bind_fail] at this; exact this.symm
    unfold wrongP
    exact ⟨rfl, .fail eF (keep1 hst.drew.1.2.2.2.2 hK5)⟩
  have eF := HF.out
  rw [hR, PR.bind_ok] at eF
  have EF1 := Lib.hid eF
  clear eF
  have hs1 := sh_expr m _ _ _ hR
  have hsv := hst.drew.keep hgw hK5 hI5
  obtain ⟨z0, z1, z2, z3, z4, zf, zl⟩ := open5 hsv.1.1
  have s3 : W.heap.size ≤ v1.heap.size := hK5.1
  have hxl := blk_lt hsv.1.1
  have hlo := blk_lt hsv.2.1
  have HSV := Lib.hid hsv
  have hxl0 := blk_lt hst.1.1
  unfold treeV
  refine hK _ _ z4 ?_
  clear hK K
  intro hHeld_1
  refine one_ (i := 4) (N := (some 12)) #[true, true, true, true, true, false, false, false] rfl rfl (by kernel_rfl) (by decide) (fun K hK => ?_)
  go_simp
  refine hK _ _ (by go_keep) ?_
  clear hK K
  intro hHeld_2
  refine last_ (i := 5) (N := (some 13)) #[true, true, true, true, true, true, false, false] rfl rfl (by kernel_rfl) (by decide) (fun K hK => ?_)
  refine NT_append_step (W := v1) (w.heap.size + 1) X v1.heap.size 1 rfl rfl _ _ rfl Tryz.underlying23 infoTree (.slice none 0 0) [] t1 AA cc (Iv W.heap.size v1.heap.size) rfl rfl hTa ?ok1 hxl HSV.out.1.2.1 (by omega) (by first | omega | (simp; try omega)) (by simp) ?_
  case ok1 =>
    intro k hk
    refine ⟨⟨by have := hk.1; omega, by have := hk.1; omega⟩, fun e => ?_⟩
    have h5 := Kd.N_lt hst.1.2.1 k e.symm
    have := hk.1
    omega
  intro A1 c1 u1w hN6 hg6
  obtain ⟨hbx6, hst1⟩ := HSV.out.grown hgw hw hg6 hN6 (by simp)
  obtain ⟨y0, y1, y2, y3, y4, yf, yl⟩ := open5 hbx6
  clear z0 z1 z2 z3 z4 zf zl
  refine hK _ _ ?_
  clear hK K
  refine pure_ (i := 6) (N := (some 14)) (v := ?_) (a' := ?_) #[true, true, true, true, true, true, true, false] rfl rfl (by kernel_rfl) (fun _ _ _ h => h) (Or.inl ⟨by rfl, ?_⟩) ?_ ?_
  rotate_left
  · intro w'
    go_simp
    try with_reducible rfl
  rotate_left
  · simp only [Act.put, List.setIfInBounds_toArray, List.set_cons_zero, List.set_cons_succ]
    try rfl
  refine last_ (i := 7) (N := none) #[true, true, true, true, true, true, true, true] rfl rfl (by kernel_rfl) (by decide) (fun K hK => ?_)
  go_simp
  refine hK _ _ ?_
  clear hK K
  refine done_ (by kernel_rfl) ?_
  obtain ⟨W1, hW⟩ : ∃ W1, W1 = u1w.setCell ⟨X, 4, none⟩ (.slice A1 1 c1) := ⟨_, rfl⟩
  rw [← hW] at hst1 ⊢
  clear hW y0 y1 y2 y3 y4 yf yl x0 x1 x2 x3 x4 xf xl hbx6 hsv HSV hN6 hg6 hHeld hHeld_1 hHeld_2 hTa hI5 hK5 hR h5 hxl hxl0 s3 hlo hst
  go_wp2_with fail
  refine (word_any g l1 en ⟨#[111, 102]⟩ w0 _ hst1.1.2.2.2.1).mono ?_
  rintro e W2 (⟨h2, rfl, hI4, hK4⟩ | ⟨h2, rfl, hK4⟩)
  case inr =>
    have EF := Lib.hid (show fin = .fail l1 by have := EF1.out; rw [word_neg h2] at this; exact this.symm)
    have hkk := keep1 hst1.1.2.2.2.2 hK4
    clear h2 EF1
    unfold wrongP
    go_wp2
    exact ⟨rfl, .fail EF.out hkk⟩
  have q2 := isW_tail h2
  have EF2 := Lib.hid (show (word ⟨#[123]⟩ l1.tail fun l4 => (pAlt (pExpr m) l4).bind fun b l5 => pAlts (pExpr m) d (l5.length + 1) [t1, b] l5) = fin by have := EF1.out; rw [word_pos h2] at this; exact this)
  have hst2 := hst1.keep hgw hK4 hI4
  clear h2 EF1 hst1 hK4 hI4
  go_wp2_with fail
  refine (word_any g l1.tail en ⟨#[123]⟩ w0 _ hst2.1.2.2.2.1).mono ?_
  rintro e W3 (⟨h2, rfl, hI4, hK4⟩ | ⟨h2, rfl, hK4⟩)
  case inr =>
    have EF := Lib.hid (show fin = .fail l1.tail by have := EF2.out; rw [word_neg h2] at this; exact this.symm)
    have hkk := keep1 hst2.1.2.2.2.2 hK4
    clear h2 EF2
    unfold wrongP
    go_wp2
    exact ⟨rfl, .fail EF.out hkk⟩
  have q3 := isW_tail h2
  have EF3 := Lib.hid (show ((pAlt (pExpr m) l1.tail.tail).bind fun b l5 => pAlts (pExpr m) d (l5.length + 1) [t1, b] l5) = fin by have := EF2.out; rw [word_pos h2] at this; exact this)
  have hst3 := hst2.keep hgw hK4 hI4
  clear h2 EF2 hst2 hK4 hI4
  go_wp2_with fail
  replace hst3 : CaseAt w0 w g en X d [t1] l1.tail.tail (.slice A1 1 c1) W3 := hst3
  obtain ⟨x0, x1, x2, x3, x4, xf, xl⟩ := open5 hst3.1.1
  refine start_ (n := 8) (S := fun w' => w'.cell? ⟨X, 4, none⟩ = some (.slice A1 1 c1)) (ds := [5, 7]) #[false, false, false, false, false, false, false, false] (by kernel_rfl) rfl rfl x4 (fun hHeld => ?_)
  refine pure_ (i := 0) (N := (some 19)) (v := ?_) (a' := ?_) #[true, false, false, false, false, false, false, false] rfl rfl (by kernel_rfl) (fun _ _ _ h => h) (Or.inl ⟨by rfl, ?_⟩) ?_ ?_
  rotate_left
  · intro w'
    go_simp
    try with_reducible rfl
  rotate_left
  · simp only [Act.put, List.setIfInBounds_toArray, List.set_cons_zero, List.set_cons_succ]
    try rfl
  refine pure_ (i := 2) (N := (some 21)) (v := ?_) (a' := ?_) #[true, false, true, false, false, false, false, false] rfl rfl (by kernel_rfl) (fun _ _ _ h => h) (Or.inl ⟨by rfl, ?_⟩) ?_ ?_
  rotate_left
  · intro w'
    go_simp
    try with_reducible rfl
  rotate_left
  · simp only [Act.put, List.setIfInBounds_toArray, List.set_cons_zero, List.set_cons_succ]
    try rfl
  refine take_ (i := 1) (N := (some 20)) (v := ?_) (a' := ?_) #[true, true, true, false, false, false, false, false] rfl rfl (by kernel_rfl) (fun _ _ _ h => h) (Or.inl ⟨by rfl, ?_⟩) hHeld ?_ ?_
  rotate_left
  · rintro w' s0
    go_simp
    try with_reducible rfl
  rotate_left
  · simp only [Act.put, List.setIfInBounds_toArray, List.set_cons_zero, List.set_cons_succ]
    try rfl
  refine one_ (i := 3) (N := (some 22)) #[true, true, true, true, false, false, false, false] rfl rfl (by kernel_rfl) (by decide) (fun K hK => ?_)
  go_simp
  refine (halt w0 _ g en l1.tail.tail (by omega) hst3.1.2.2.2.1.drew).mono ?_
  intro e v4 h5
  rcases h5.any with ⟨t4, l4, AA, cc, hR, rfl, hTa, hI5, hK5⟩ | ⟨l5, hR, rfl, hK5⟩
  case inr =>
    have eF : fin = .fail l5 := by have := EF3.out; rw [hR, PR.bind_fail] at this; exact this.symm
    unfold wrongP
    exact ⟨rfl, .fail eF (keep1 hst3.drew.1.2.2.2.2 hK5)⟩
  have eF := EF3.out
  rw [hR, PR.bind_ok] at eF
  have EF4 := Lib.hid eF
  clear eF
  have hs4 := sh_alt (sh_expr m) _ _ _ hR
  have hsv := hst3.drew.keep hgw hK5 hI5
  obtain ⟨z0, z1, z2, z3, z4, zf, zl⟩ := open5 hsv.1.1
  have s3 : W3.heap.size ≤ v4.heap.size := hK5.1
  have hxl := blk_lt hsv.1.1
  have hlo := blk_lt hsv.2.1
  have HSV := Lib.hid hsv
  have hxl0 := blk_lt hst3.1.1
  unfold treeV
  refine hK _ _ z4 ?_
  clear hK K
  intro hHeld_1
  refine one_ (i := 4) (N := (some 23)) #[true, true, true, true, true, false, false, false] rfl rfl (by kernel_rfl) (by decide) (fun K hK => ?_)
  go_simp
  refine hK _ _ (by go_keep) ?_
  clear hK K
  intro hHeld_2
  refine last_ (i := 5) (N := (some 24)) #[true, true, true, true, true, true, false, false] rfl rfl (by kernel_rfl) (by decide) (fun K hK => ?_)
  refine NT_append_step (W := v4) (w.heap.size + 1) X v4.heap.size 2 rfl rfl _ _ rfl Tryz.underlying23 infoTree (.slice A1 1 c1) [t1] t4 AA cc (Iv W3.heap.size v4.heap.size) rfl rfl hTa ?ok1 hxl HSV.out.1.2.1 (by omega) (by first | omega | (simp; try omega)) (by simp) ?_
  case ok1 =>
    intro k hk
    refine ⟨⟨by have := hk.1; omega, by have := hk.1; omega⟩, fun e => ?_⟩
    have h5 := Kd.N_lt hst3.1.2.1 k e.symm
    have := hk.1
    omega
  intro A4 c4 u4w hN6 hg6
  obtain ⟨hbx6, hst4⟩ := HSV.out.grown hgw hw hg6 hN6 (by simp)
  obtain ⟨y0, y1, y2, y3, y4, yf, yl⟩ := open5 hbx6
  clear z0 z1 z2 z3 z4 zf zl
  refine hK _ _ ?_
  clear hK K
  refine pure_ (i := 6) (N := (some 25)) (v := ?_) (a' := ?_) #[true, true, true, true, true, true, true, false] rfl rfl (by kernel_rfl) (fun _ _ _ h => h) (Or.inl ⟨by rfl, ?_⟩) ?_ ?_
  rotate_left
  · intro w'
    go_simp
    try with_reducible rfl
  rotate_left
  · simp only [Act.put, List.setIfInBounds_toArray, List.set_cons_zero, List.set_cons_succ]
    try rfl
  refine last_ (i := 7) (N := none) #[true, true, true, true, true, true, true, true] rfl rfl (by kernel_rfl) (by decide) (fun K hK => ?_)
  go_simp
  refine hK _ _ ?_
  clear hK K
  refine done_ (by kernel_rfl) ?_
  obtain ⟨W4, hW⟩ : ∃ W4, W4 = u4w.setCell ⟨X, 4, none⟩ (.slice A4 2 c4) := ⟨_, rfl⟩
  rw [← hW] at hst4 ⊢
  clear hW y0 y1 y2 y3 y4 yf yl x0 x1 x2 x3 x4 xf xl hbx6 hsv HSV hN6 hg6 hHeld hHeld_1 hHeld_2 hTa hI5 hK5 hR h5 hxl hxl0 s3 hlo hst3
  have hst : AltsAt (pExpr m) fin w0 w g en X n d (l4.length + 1) W4 := ⟨[t1, t4], l4, _, EF4.out, by omega, by omega, by simp, by simp, hst4⟩
  have HS := Lib.hid hst
  clear hst hst4 EF3 EF4
  go_wp2_with fail
  go_loopg [] (l4.length + 1) (fun kq w' => AltsAt (pExpr m) fin w0 w g en X n d kq w')
  case atStart => exact HS.out
  case round =>
    obtain ⟨ts, l, V, hF, hlm, hln, h2p, hp, hst⟩ := hrel
    clear HS
    obtain ⟨k, rfl⟩ : ∃ k, gk = k + 1 := ⟨gk - 1, by omega⟩
    unfold pAlts at hF
    obtain ⟨A, c, rfl⟩ := Kd.N_slice hst.1.2.1
    by_cases s1 : isW l ⟨#[124]⟩ = true
    · have S1 := Lib.hid s1
      have ql := isW_tail s1
      rw [if_pos s1] at hF
      clear s1
      go_wp2_with fail
      refine (is_calls g l en ⟨#[124]⟩ w0 wr hst.1.2.2.2.1).mono ?_
      rintro e w3 ⟨rfl, hI3, hB3⟩
      rw [S1.out]
      have hst3 := hst.below hB3 hI3
      obtain ⟨x0, x1, x2, x3, x4, xf, xl⟩ := open5 hst3.1.1
      by_cases s2 : ts.length ≤ 8
      · rw [if_pos s2] at hF
        have HF := Lib.hid hF
        clear hF
        have s2' : decide ((ts.length : Int) ≤ 8) = true := decide_eq_true (by omega)
        go_wp2_with fail
        refine (must_yes g w3).mono ?_
        rintro e w' ⟨rfl, rfl⟩
        go_wp2_with fail
        refine (take_calls g l en w0 w3 hI3).mono ?_
        rintro e w4 ⟨rfl, hI4, hK4⟩
        have hst5 := hst3.keep hgw hK4 hI4
        clear hst hst3 hI3 hB3 hK4 hI4 x0 x1 x2 x3 x4 xf xl
        go_wp2_with fail
        obtain ⟨x0, x1, x2, x3, x4, xf, xl⟩ := open5 hst5.1.1
        refine start_ (n := 8) (S := fun w' => w'.cell? ⟨X, 4, none⟩ = some (.slice A ts.length c)) (ds := [5, 7]) #[false, false, false, false, false, false, false, false] (by kernel_rfl) rfl rfl x4 (fun hHeld => ?_)
        refine pure_ (i := 0) (N := (some 36)) (v := ?_) (a' := ?_) #[true, false, false, false, false, false, false, false] rfl rfl (by kernel_rfl) (fun _ _ _ h => h) (Or.inl ⟨by rfl, ?_⟩) ?_ ?_
        rotate_left
        · intro w'
          go_simp
          try with_reducible rfl
        rotate_left
        · simp only [Act.put, List.setIfInBounds_toArray, List.set_cons_zero, List.set_cons_succ]
          try rfl
        refine pure_ (i := 2) (N := (some 38)) (v := ?_) (a' := ?_) #[true, false, true, false, false, false, false, false] rfl rfl (by kernel_rfl) (fun _ _ _ h => h) (Or.inl ⟨by rfl, ?_⟩) ?_ ?_
        rotate_left
        · intro w'
          go_simp
          try with_reducible rfl
        rotate_left
        · simp only [Act.put, List.setIfInBounds_toArray, List.set_cons_zero, List.set_cons_succ]
          try rfl
        refine take_ (i := 1) (N := (some 37)) (v := ?_) (a' := ?_) #[true, true, true, false, false, false, false, false] rfl rfl (by kernel_rfl) (fun _ _ _ h => h) (Or.inl ⟨by rfl, ?_⟩) hHeld ?_ ?_
        rotate_left
        · rintro w' s0
          go_simp
          try with_reducible rfl
        rotate_left
        · simp only [Act.put, List.setIfInBounds_toArray, List.set_cons_zero, List.set_cons_succ]
          try rfl
        refine one_ (i := 3) (N := (some 39)) #[true, true, true, true, false, false, false, false] rfl rfl (by kernel_rfl) (by decide) (fun K hK => ?_)
        go_simp
        refine (halt w0 _ g en l.tail (by omega) hst5.1.2.2.2.1.drew).mono ?_
        intro e v6 h5
        rcases h5.any with ⟨t6, l6, AA, cc, hR, rfl, hTa, hI5, hK5⟩ | ⟨l5, hR, rfl, hK5⟩
        case inr =>
          have eF : fin = .fail l5 := by have := HF.out; rw [hR, PR.bind_fail] at this; exact this.symm
          unfold wrongP
          exact ⟨rfl, .fail eF (keep1 hst5.drew.1.2.2.2.2 hK5)⟩
        have eF := HF.out
        rw [hR, PR.bind_ok] at eF
        have EF6 := Lib.hid eF
        clear eF
        have hs6 := sh_alt (sh_expr m) _ _ _ hR
        have hsv := hst5.drew.keep hgw hK5 hI5
        obtain ⟨z0, z1, z2, z3, z4, zf, zl⟩ := open5 hsv.1.1
        have s3 : w4.heap.size ≤ v6.heap.size := hK5.1
        have hxl := blk_lt hsv.1.1
        have hlo := blk_lt hsv.2.1
        have HSV := Lib.hid hsv
        have hxl0 := blk_lt hst5.1.1
        unfold treeV
        refine hK _ _ z4 ?_
        clear hK K
        intro hHeld_1
        refine one_ (i := 4) (N := (some 40)) #[true, true, true, true, true, false, false, false] rfl rfl (by kernel_rfl) (by decide) (fun K hK => ?_)
        go_simp
        refine hK _ _ (by go_keep) ?_
        clear hK K
        intro hHeld_2
        refine last_ (i := 5) (N := (some 41)) #[true, true, true, true, true, true, false, false] rfl rfl (by kernel_rfl) (by decide) (fun K hK => ?_)
        refine NT_append_step (W := v6) (w.heap.size + 1) X v6.heap.size (ts.length + 1) rfl rfl _ _ rfl Tryz.underlying23 infoTree (.slice A ts.length c) ts t6 AA cc (Iv w4.heap.size v6.heap.size) rfl rfl hTa ?ok1 hxl HSV.out.1.2.1 (by omega) (by first | omega | (simp; try omega)) (by simp) ?_
        case ok1 =>
          intro k hk
          refine ⟨⟨by have := hk.1; omega, by have := hk.1; omega⟩, fun e => ?_⟩
          have h5 := Kd.N_lt hst5.1.2.1 k e.symm
          have := hk.1
          omega
        intro A6 c6 u6w hN6 hg6
        obtain ⟨hbx6, hst6⟩ := HSV.out.grown hgw hw hg6 hN6 (by simp)
        obtain ⟨y0, y1, y2, y3, y4, yf, yl⟩ := open5 hbx6
        clear z0 z1 z2 z3 z4 zf zl
        refine hK _ _ ?_
        clear hK K
        refine pure_ (i := 6) (N := (some 42)) (v := ?_) (a' := ?_) #[true, true, true, true, true, true, true, false] rfl rfl (by kernel_rfl) (fun _ _ _ h => h) (Or.inl ⟨by rfl, ?_⟩) ?_ ?_
        rotate_left
        · intro w'
          go_simp
          try with_reducible rfl
        rotate_left
        · simp only [Act.put, List.setIfInBounds_toArray, List.set_cons_zero, List.set_cons_succ]
          try rfl
        refine last_ (i := 7) (N := none) #[true, true, true, true, true, true, true, true] rfl rfl (by kernel_rfl) (by decide) (fun K hK => ?_)
        go_simp
        refine hK _ _ ?_
        clear hK K
        refine done_ (by kernel_rfl) ?_
        obtain ⟨W6, hW⟩ : ∃ W6, W6 = u6w.setCell ⟨X, 4, none⟩ (.slice A6 (ts.length + 1) c6) := ⟨_, rfl⟩
        rw [← hW] at hst6 ⊢
        clear hW y0 y1 y2 y3 y4 yf yl x0 x1 x2 x3 x4 xf xl hbx6 hsv HSV hN6 hg6 hHeld hHeld_1 hHeld_2 hTa hI5 hK5 hR h5 hxl hxl0 s3 hlo hst5
        have hnext : AltsAt (pExpr m) fin w0 w g en X n d k W6 := ⟨ts ++ [t6], l6, _, EF6.out, by omega, by omega, by simp; omega, by simp; omega, hst6⟩
        have HN := Lib.hid hnext
        clear hnext EF6 HF hst6
        go_wp2
        go_roundg k
        case measure => omega
        case rel => exact HN.out
      · rw [if_neg s2] at hF
        have HF := Lib.hid hF
        clear hF
        have s2' : decide ((ts.length : Int) ≤ 8) = false := decide_eq_false (by omega)
        go_wp2_with fail
        refine (must_no g l en w0 w3 hI3).mono ?_
        rintro e w4 ⟨rfl, hB4⟩
        unfold wrongP
        go_wp2
        exact ⟨rfl, .fail HF.out.symm (keepB hst3.1.2.2.2.2 hB4)⟩
    · have S1 := Lib.hid (show isW l ⟨#[124]⟩ = false by simpa using s1)
      rw [if_neg s1] at hF
      have HF := Lib.hid hF
      clear s1 hF
      go_wp2_with fail
      refine (is_calls g l en ⟨#[124]⟩ w0 wr hst.1.2.2.2.1).mono ?_
      rintro e w3 ⟨rfl, hI3, hB3⟩
      rw [S1.out]
      have hst3 := hst.below hB3 hI3
      clear hst hI3 hB3
      go_wp2_with fail
      refine (word_any g l en ⟨#[125]⟩ w0 _ hst3.1.2.2.2.1).mono ?_
      rintro e w4 (⟨h2, rfl, hI4, hK4⟩ | ⟨h2, rfl, hK4⟩)
      case inr =>
        have EF := Lib.hid (show fin = .fail l by have := HF.out; rw [word_neg h2] at this; exact this.symm)
        have hkk := keep1 hst3.1.2.2.2.2 hK4
        clear h2 HF
        unfold wrongP
        go_wp2
        exact ⟨rfl, .fail EF.out hkk⟩
      have q7 := isW_tail h2
      have EF7 := Lib.hid (show (.ok ⟨7, ⟨#[]⟩, 0, d, ts⟩ l.tail : PR) = fin by have := HF.out; rw [word_pos h2] at this; exact this)
      have hst7 := hst3.keep hgw hK4 hI4
      clear h2 HF hst3 hK4 hI4
      have hbX := hst7.1.1
      have hbR := hst7.2.1
      obtain ⟨x0, x1, x2, x3, x4, xf, xl⟩ := open5 hbX
      obtain ⟨y0, y1, y2, y3, y4, yf, yl⟩ := open5 hbR
      obtain ⟨A', c', eV, hTt⟩ := NT.tat 7 ⟨#[]⟩ 0 d hst7.1.2.1 hst7.1.2.2.1
      injection eV with eA _ ec
      subst eA ec
      have hP := close_copy (w := w) (w0 := w0) hTt hst7.1.2.2.2.1 hst7.1.2.2.2.2 hbR (Nat.le_refl _) hw hgw (fun k h => Nat.le_of_succ_le h.1) (fun k h => h.2.1) (fun h => by have := h.1; omega)
      have HP := Lib.hid (And.intro hP EF7.out)
      clear hP hst7 hbX hbR hTt EF7
      go_wp2
      exact bodyPost_ret (results_cell_row rfl _ _ w.heap.size 25 _ (0, 0) _ rfl HP.out.1.1 Tryz.underlying25 rfl (by kernel_rfl)) rfl (by rw [← HP.out.2]; exact HP.out.1.2)
end Go.Proofs.YtajcnjdinmgpjaaGreatDoor.X
/- The walks of the reader: an expression. -/
namespace Go.Proofs.YtajcnjdinmgpjaaGreatDoor.X
open Go.RowKit Go.Proofs.YtajcnjdinmgpjaaGreatDoorW.PrintWords Go.Proofs.YtajcnjdinmgpjaaGreatDoorW.PrintLast Go.Proofs.YtajcnjdinmgpjaaGreatDoorW.PrintMore Go.Proofs.YtajcnjdinmgpjaaGreatDoor.P
attribute [local go_sem] fldTok0 fldTok1 fldTok3
set_option maxRecDepth 100000 in
set_option maxHeartbeats 4000000 in
theorem expr_step (m n : Nat) (hex : CP 25 (pExpr m) n) : CP 25 (pExpr (m + 1)) (n + 1) := by
  intro w0 w g en l hl hI
  obtain ⟨hgw, hw⟩ := hI.lt
  have hcmp : CP 47 (pCmp (pExpr m)) (n + 1) := compare_calls _ _ (sh_expr m) (sum_calls _ _ (sh_expr m) (product_calls _ _ (sh_expr m) (app_calls _ _ (sh_expr m) (atom_calls m n hex))))
  obtain ⟨R, hF⟩ : ∃ R, R = pExpr (m + 1) l := ⟨_, rfl⟩
  rw [← hF]
  unfold pExpr at hF
  go_enter Tryz.func25, Tryz.ntmps25
  by_cases s0 : isW l ⟨#[92]⟩ = true
  · have S0 := Lib.hid s0
    rw [if_pos s0] at hF
    have HF := Lib.hid hF
    have hne : l ≠ [] := by (rintro rfl; exact absurd s0 (by decide))
    clear s0 hF
    go_wp2_with fail
    refine (is_calls g l en _ w0 _ (hI.alloc _)).mono ?_
    rintro e v1 ⟨rfl, hI1, hB1⟩
    rw [S0.out]
    have hb1 := belowNew hB1
    have hK1 := keepB (k0 w g _) hB1
    go_wp2_with fail
    refine (lambda_calls m n hex w0 v1 g en l hl hI1).mono ?_
    intro e w9 h9
    rcases h9.any with ⟨t, l9, A, c, hR, rfl, hT, hI9, hK9⟩ | ⟨l9, hR, rfl, hK9⟩
    · have hb9 := hK9.blk hb1 (by omega) (by simp)
      have hlt := blk_lt hb1
      obtain ⟨y0, y1, y2, y3, y4, yf, yl⟩ := open5 hb9
      have hP := close_copy (w := w) (w0 := w0) hT hI9 (keep1 hK1 hK9) hb9 (Nat.le_refl _) hw hgw (fun k h => by have := h.1; omega) (fun k h => h.2) (fun h => by have := h.1; omega)
      have HP := Lib.hid hP
      have HR := Lib.hid hR
      clear hP hb9 hT hI9 hK9 hR h9 hb1 hK1 hB1 hI1
      unfold treeV
      go_wp2
      exact bodyPost_ret (results_cell_row rfl _ _ w.heap.size 25 _ (0, 0) _ rfl HP.out.1 Tryz.underlying25 rfl (by kernel_rfl)) rfl (by rw [HF.out, HR.out]; exact HP.out.2)
    · have HR := Lib.hid hR
      clear hR h9 hb1
      unfold wrongP
      go_wp2
      exact ⟨rfl, .fail (by rw [HF.out, HR.out]) (keep1 hK1 hK9)⟩
  · have S0 := Lib.hid (show isW l ⟨#[92]⟩ = false by simpa using s0)
    rw [if_neg s0] at hF
    clear s0
    by_cases s1 : isW l ⟨#[108, 101, 116]⟩ = true
    · have S1 := Lib.hid s1
      rw [if_pos s1] at hF
      have HF := Lib.hid hF
      have hne : l ≠ [] := by (rintro rfl; exact absurd s1 (by decide))
      clear s1 hF
      go_wp2_with fail
      refine (is_calls g l en _ w0 _ (hI.alloc _)).mono ?_
      rintro e v1 ⟨rfl, hI1, hB1⟩
      rw [S0.out]
      have hb1 := belowNew hB1
      have hK1 := keepB (k0 w g _) hB1
      go_wp2_with fail
      refine (is_calls g l en _ w0 v1 hI1).mono ?_
      rintro e v2 ⟨rfl, hI2, hB2⟩
      rw [S1.out]
      have hb2 := blk_below hb1 hB2
      have hK2 := keepB hK1 hB2
      go_wp2_with fail
      refine (let_calls m n hex 4 w0 v2 g en l hl hne hI2).mono ?_
      intro e w9 h9
      rcases h9.any with ⟨t, l9, A, c, hR, rfl, hT, hI9, hK9⟩ | ⟨l9, hR, rfl, hK9⟩
      · have hb9 := hK9.blk hb2 (by omega) (by simp)
        have hlt := blk_lt hb2
        obtain ⟨y0, y1, y2, y3, y4, yf, yl⟩ := open5 hb9
        have hP := close_copy (w := w) (w0 := w0) hT hI9 (keep1 hK2 hK9) hb9 (Nat.le_refl _) hw hgw (fun k h => by have := h.1; omega) (fun k h => h.2) (fun h => by have := h.1; omega)
        have HP := Lib.hid hP
        have HR := Lib.hid hR
        clear hP hb9 hT hI9 hK9 hR h9 hb1 hK1 hB1 hI1 hb2 hK2 hB2 hI2
        unfold treeV
        go_wp2
        exact bodyPost_ret (results_cell_row rfl _ _ w.heap.size 25 _ (0, 0) _ rfl HP.out.1 Tryz.underlying25 rfl (by kernel_rfl)) rfl (by rw [HF.out, HR.out]; exact HP.out.2)
      · have HR := Lib.hid hR
        clear hR h9 hb1 hb2
        unfold wrongP
        go_wp2
        exact ⟨rfl, .fail (by rw [HF.out, HR.out]) (keep1 hK2 hK9)⟩
    · have S1 := Lib.hid (show isW l ⟨#[108, 101, 116]⟩ = false by simpa using s1)
      rw [if_neg s1] at hF
      clear s1
      by_cases s2 : isW l ⟨#[108, 101, 116, 114, 101, 99]⟩ = true
      · have S2 := Lib.hid s2
        rw [if_pos s2] at hF
        have HF := Lib.hid hF
        have hne : l ≠ [] := by (rintro rfl; exact absurd s2 (by decide))
        clear s2 hF
        go_wp2_with fail
        refine (is_calls g l en _ w0 _ (hI.alloc _)).mono ?_
        rintro e v1 ⟨rfl, hI1, hB1⟩
        rw [S0.out]
        have hb1 := belowNew hB1
        have hK1 := keepB (k0 w g _) hB1
        go_wp2_with fail
        refine (is_calls g l en _ w0 v1 hI1).mono ?_
        rintro e v2 ⟨rfl, hI2, hB2⟩
        rw [S1.out]
        have hb2 := blk_below hb1 hB2
        have hK2 := keepB hK1 hB2
        go_wp2_with fail
        refine (is_calls g l en _ w0 v2 hI2).mono ?_
        rintro e v3 ⟨rfl, hI3, hB3⟩
        rw [S2.out]
        have hb3 := blk_below hb2 hB3
        have hK3 := keepB hK2 hB3
        go_wp2_with fail
        refine (let_calls m n hex 5 w0 v3 g en l hl hne hI3).mono ?_
        intro e w9 h9
        rcases h9.any with ⟨t, l9, A, c, hR, rfl, hT, hI9, hK9⟩ | ⟨l9, hR, rfl, hK9⟩
        · have hb9 := hK9.blk hb3 (by omega) (by simp)
          have hlt := blk_lt hb3
          obtain ⟨y0, y1, y2, y3, y4, yf, yl⟩ := open5 hb9
          have hP := close_copy (w := w) (w0 := w0) hT hI9 (keep1 hK3 hK9) hb9 (Nat.le_refl _) hw hgw (fun k h => by have := h.1; omega) (fun k h => h.2) (fun h => by have := h.1; omega)
          have HP := Lib.hid hP
          have HR := Lib.hid hR
          clear hP hb9 hT hI9 hK9 hR h9 hb1 hK1 hB1 hI1 hb2 hK2 hB2 hI2 hb3 hK3 hB3 hI3
          unfold treeV
          go_wp2
          exact bodyPost_ret (results_cell_row rfl _ _ w.heap.size 25 _ (0, 0) _ rfl HP.out.1 Tryz.underlying25 rfl (by kernel_rfl)) rfl (by rw [HF.out, HR.out]; exact HP.out.2)
        · have HR := Lib.hid hR
          clear hR h9 hb1 hb2 hb3
          unfold wrongP
          go_wp2
          exact ⟨rfl, .fail (by rw [HF.out, HR.out]) (keep1 hK3 hK9)⟩
      · have S2 := Lib.hid (show isW l ⟨#[108, 101, 116, 114, 101, 99]⟩ = false by simpa using s2)
        rw [if_neg s2] at hF
        clear s2
        by_cases s3 : isW l ⟨#[99, 97, 115, 101]⟩ = true
        · have S3 := Lib.hid s3
          rw [if_pos s3] at hF
          have HF := Lib.hid hF
          have hne : l ≠ [] := by (rintro rfl; exact absurd s3 (by decide))
          clear s3 hF
          go_wp2_with fail
          refine (is_calls g l en _ w0 _ (hI.alloc _)).mono ?_
          rintro e v1 ⟨rfl, hI1, hB1⟩
          rw [S0.out]
          have hb1 := belowNew hB1
          have hK1 := keepB (k0 w g _) hB1
          go_wp2_with fail
          refine (is_calls g l en _ w0 v1 hI1).mono ?_
          rintro e v2 ⟨rfl, hI2, hB2⟩
          rw [S1.out]
          have hb2 := blk_below hb1 hB2
          have hK2 := keepB hK1 hB2
          go_wp2_with fail
          refine (is_calls g l en _ w0 v2 hI2).mono ?_
          rintro e v3 ⟨rfl, hI3, hB3⟩
          rw [S2.out]
          have hb3 := blk_below hb2 hB3
          have hK3 := keepB hK2 hB3
          go_wp2_with fail
          refine (is_calls g l en _ w0 v3 hI3).mono ?_
          rintro e v4 ⟨rfl, hI4, hB4⟩
          rw [S3.out]
          have hb4 := blk_below hb3 hB4
          have hK4 := keepB hK3 hB4
          go_wp2_with fail
          refine (case_calls m n hex w0 v4 g en l hl hI4).mono ?_
          intro e w9 h9
          rcases h9.any with ⟨t, l9, A, c, hR, rfl, hT, hI9, hK9⟩ | ⟨l9, hR, rfl, hK9⟩
          · have hb9 := hK9.blk hb4 (by omega) (by simp)
            have hlt := blk_lt hb4
            obtain ⟨y0, y1, y2, y3, y4, yf, yl⟩ := open5 hb9
            have hP := close_copy (w := w) (w0 := w0) hT hI9 (keep1 hK4 hK9) hb9 (Nat.le_refl _) hw hgw (fun k h => by have := h.1; omega) (fun k h => h.2) (fun h => by have := h.1; omega)
            have HP := Lib.hid hP
            have HR := Lib.hid hR
            clear hP hb9 hT hI9 hK9 hR h9 hb1 hK1 hB1 hI1 hb2 hK2 hB2 hI2 hb3 hK3 hB3 hI3 hb4 hK4 hB4 hI4
            unfold treeV
            go_wp2
            exact bodyPost_ret (results_cell_row rfl _ _ w.heap.size 25 _ (0, 0) _ rfl HP.out.1 Tryz.underlying25 rfl (by kernel_rfl)) rfl (by rw [HF.out, HR.out]; exact HP.out.2)
          · have HR := Lib.hid hR
            clear hR h9 hb1 hb2 hb3 hb4
            unfold wrongP
            go_wp2
            exact ⟨rfl, .fail (by rw [HF.out, HR.out]) (keep1 hK4 hK9)⟩
        · have S3 := Lib.hid (show isW l ⟨#[99, 97, 115, 101]⟩ = false by simpa using s3)
          rw [if_neg s3] at hF
          clear s3
          have HF := Lib.hid hF
          clear hF
          go_wp2_with fail
          refine (is_calls g l en _ w0 _ (hI.alloc _)).mono ?_
          rintro e v1 ⟨rfl, hI1, hB1⟩
          rw [S0.out]
          have hb1 := belowNew hB1
          have hK1 := keepB (k0 w g _) hB1
          go_wp2_with fail
          refine (is_calls g l en _ w0 v1 hI1).mono ?_
          rintro e v2 ⟨rfl, hI2, hB2⟩
          rw [S1.out]
          have hb2 := blk_below hb1 hB2
          have hK2 := keepB hK1 hB2
          go_wp2_with fail
          refine (is_calls g l en _ w0 v2 hI2).mono ?_
          rintro e v3 ⟨rfl, hI3, hB3⟩
          rw [S2.out]
          have hb3 := blk_below hb2 hB3
          have hK3 := keepB hK2 hB3
          go_wp2_with fail
          refine (is_calls g l en _ w0 v3 hI3).mono ?_
          rintro e v4 ⟨rfl, hI4, hB4⟩
          rw [S3.out]
          have hb4 := blk_below hb3 hB4
          have hK4 := keepB hK3 hB4
          go_wp2_with fail
          refine (hcmp w0 v4 g en l hl hI4).mono ?_
          intro e w9 h9
          rcases h9.any with ⟨t, l9, A, c, hR, rfl, hT, hI9, hK9⟩ | ⟨l9, hR, rfl, hK9⟩
          · have hb9 := hK9.blk hb4 (by omega) (by simp)
            have hlt := blk_lt hb4
            obtain ⟨y0, y1, y2, y3, y4, yf, yl⟩ := open5 hb9
            have hP := close_copy (w := w) (w0 := w0) hT hI9 (keep1 hK4 hK9) hb9 (Nat.le_refl _) hw hgw (fun k h => by have := h.1; omega) (fun k h => h.2) (fun h => by have := h.1; omega)
            have HP := Lib.hid hP
            have HR := Lib.hid hR
            clear hP hb9 hT hI9 hK9 hR h9 hb1 hK1 hB1 hI1 hb2 hK2 hB2 hI2 hb3 hK3 hB3 hI3 hb4 hK4 hB4 hI4
            unfold treeV
            go_wp2
            exact bodyPost_ret (results_cell_row rfl _ _ w.heap.size 25 _ (0, 0) _ rfl HP.out.1 Tryz.underlying25 rfl (by kernel_rfl)) rfl (by rw [HF.out, HR.out]; exact HP.out.2)
          · have HR := Lib.hid hR
            clear hR h9 hb1 hb2 hb3 hb4
            unfold wrongP
            go_wp2
            exact ⟨rfl, .fail (by rw [HF.out, HR.out]) (keep1 hK4 hK9)⟩
theorem expr_calls : ∀ m, CP 25 (pExpr m) m
  | 0 => fun _ _ _ _ _ hl _ => absurd hl (Nat.not_lt_zero _)
  | m + 1 => expr_step m m (expr_calls m)
end Go.Proofs.YtajcnjdinmgpjaaGreatDoor.X
/- The walks of the reader: a whole text. -/
namespace Go.Proofs.YtajcnjdinmgpjaaGreatDoor.X
open Go.RowKit Go.Proofs.YtajcnjdinmgpjaaGreatDoorW.PrintWords Go.Proofs.YtajcnjdinmgpjaaGreatDoorW.PrintLast Go.Proofs.YtajcnjdinmgpjaaGreatDoorW.PrintMore Go.Proofs.YtajcnjdinmgpjaaGreatDoor.P
attribute [local go_sem] fldTok0 fldTok1 fldTok3

/-- what all tokens are read as: a tree and nothing left, or where nothing goes on -/
def pWhole (l : List Tok) : PR := (pExpr 5000 l).bind fun t r => if r.length = 0 then .ok t [] else .fail r
def treeZ : Value := .agg #[.int .i64 0, .string ⟨#[]⟩, .int .i64 0, .int .i64 0, .slice none 0 0]
def WRel (w : World) (g : Nat) (en : Int) (R : PR) (e : Ending) (w' : World) : Prop :=
  match R with
  | .ok t _ => ∃ A c, e = .returned (.tuple #[treeV t A c, .int .i64 0, .int .i64 0]) ∧ TAt w' (Iv w.heap.size w'.heap.size) t A c ∧ Kp w w' g none
  | .fail r => e = .returned (.tuple #[treeZ, .int .i64 (hd r en).f3, .int .i64 30]) ∧ Kp w w' g none
theorem kpLow {w w1 w2 : World} {g : Nat} (h : Kp w w1 g none) (k : Below w.heap.size w1 w2) : Kp w w2 g none :=
  ⟨Nat.le_trans h.1 k.size, fun i hi hg hr => (k.block i hi).trans (h.2 i hi hg hr), k.os.trans h.os, k.tape.trans h.tape, k.output.trans h.output⟩
set_option maxRecDepth 100000 in
set_option maxHeartbeats 4000000 in
theorem whole_calls (w0 w : World) (g : Nat) (en : Int) (l : List Tok) (hlt : l.length < 5000) (hI : Rdr w0 w g l en) :
    Calls Tryz.prog 16 #[.pointer (some ⟨g, 0, none⟩)] w (WRel w g en (pWhole l)) := by
  obtain ⟨hgw, hw⟩ := hI.lt
  have hmf : ∀ (fn : Fn) (first cap : Array Value) (w : World), (Instr.makeFunc fn first cap).run Tryz.prog w = .ok (.func fn first cap) w := fun _ _ _ _ => rfl
  go_enter_defers Tryz.func16, Tryz.ntmps16
  go_wp2_with fail
  have hz2 : (((w.alloc (.cells #[.int .i64 0, .string ⟨#[]⟩, .int .i64 0, .int .i64 0, .slice none 0 0] 25)).alloc (.cells #[.int .i64 0] 3)).alloc (.cells #[.int .i64 0] 26)).heap.size = w.heap.size + 3 := by simp
  have hI0 := ((hI.alloc (.cells #[.int .i64 0, .string ⟨#[]⟩, .int .i64 0, .int .i64 0, .slice none 0 0] 25)).alloc (.cells #[.int .i64 0] 3)).alloc (.cells #[.int .i64 0] 26)
  have hk0 := kpAlloc (kpAlloc (k0 w g (.cells #[.int .i64 0, .string ⟨#[]⟩, .int .i64 0, .int .i64 0, .slice none 0 0] 25)) (.cells #[.int .i64 0] 3)) (.cells #[.int .i64 0] 26)
  have b0 := blk_alloc (blk_alloc (blk_new w (.cells #[.int .i64 0, .string ⟨#[]⟩, .int .i64 0, .int .i64 0, .slice none 0 0] 25)) (.cells #[.int .i64 0] 3)) (.cells #[.int .i64 0] 26)
  have b1 := blk_alloc (blk_new (w.alloc (.cells #[.int .i64 0, .string ⟨#[]⟩, .int .i64 0, .int .i64 0, .slice none 0 0] 25)) (.cells #[.int .i64 0] 3)) (.cells #[.int .i64 0] 26)
  have b2 := blk_new ((w.alloc (.cells #[.int .i64 0, .string ⟨#[]⟩, .int .i64 0, .int .i64 0, .slice none 0 0] 25)).alloc (.cells #[.int .i64 0] 3)) (.cells #[.int .i64 0] 26)
  simp only [World.size_alloc] at b1 b2
  obtain ⟨W, hW⟩ : ∃ W, W = (((w.alloc (.cells #[.int .i64 0, .string ⟨#[]⟩, .int .i64 0, .int .i64 0, .slice none 0 0] 25)).alloc (.cells #[.int .i64 0] 3)).alloc (.cells #[.int .i64 0] 26)) := ⟨_, rfl⟩
  rw [← hW] at hz2 hI0 hk0 b0 b1 b2 ⊢
  clear hW
  refine (expr_calls 5000 w0 W g en l hlt hI0).mono ?_
  clear hlt
  intro e w1 h1
  rcases h1.any with ⟨t, r, A, c, hR, rfl, hT, hI1, hK1⟩ | ⟨r, hR, rfl, hK1⟩
  case inr =>
    have HR := Lib.hid (show pWhole l = .fail r by rw [pWhole, hR, PR.bind_fail])
    clear hR h1
    have b0' := hK1.blk b0 (by omega) (by simp)
    have b1' := hK1.blk b1 (by omega) (by simp)
    have b2' := hK1.blk b2 (by omega) (by simp)
    unfold wrongP
    go_wp2
    refine leaves_cons (f := 24) (args := #[.pointer (some ⟨w.heap.size, 0, none⟩), .pointer (some ⟨w.heap.size + 1, 0, none⟩), .pointer (some ⟨w.heap.size + 1 + 1, 0, none⟩)]) (by simp) (by simp [go_sem]) ?_
    refine (catch_wrong w.heap.size (w.heap.size + 1) (w.heap.size + 1 + 1) w.heap.size _ [] _ b0' b1' b2' (by omega) (by omega) (by omega) (by omega) (by omega) (by omega)).mono ?_
    rintro e u' w'' ⟨rfl, rfl, F0, F1, F2, FB⟩
    obtain ⟨c0, c1, c2, c3, c4, cf, cl⟩ := open5 F0
    obtain ⟨d0, df, dl⟩ := open1 F1
    obtain ⟨e0, ef, el⟩ := open1 F2
    simp [Leaves, settle, results, Tryz.results16, go_sem, c0, c1, c2, c3, c4, d0, e0]
    rw [HR.out]
    exact ⟨rfl, kpLow (keep1 hk0 hK1) FB⟩
  have HR := Lib.hid (show pWhole l = if r.length = 0 then .ok t [] else .fail r by rw [pWhole, hR, PR.bind_ok])
  clear hR h1
  have b0' := hK1.blk b0 (by omega) (by simp)
  have b1' := hK1.blk b1 (by omega) (by simp)
  have b2' := hK1.blk b2 (by omega) (by simp)
  have hk1 := keep1 hk0 hK1
  have HI1 := Lib.hid hI1
  obtain ⟨A1, cc1, hbg, _⟩ := hI1
  obtain ⟨c0, c1, c2, c3, c4, cf, cl⟩ := open5 b0'
  obtain ⟨d0, df, dl⟩ := open1 b1'
  obtain ⟨e0, ef, el⟩ := open1 b2'
  obtain ⟨g0, g1, gf, gl⟩ := open2 hbg
  have gne : g ≠ w.heap.size := by omega
  have hz : ((w1.setCell ⟨w.heap.size, 0, none⟩ (.int .i64 t.f0))).heap.size = w1.heap.size := by simp
  unfold treeV
  by_cases hr : r.length = 0
  · have hr' : ((r.length : Int) == 0) = true := by simp [hr]
    have HRR := Lib.hid (show pWhole l = .ok t [] by rw [HR.out, if_pos hr])
    clear hr HR
    go_wp2_with fail
    have B0 := set5 (u0 := .int .i64 t.f0) (u1 := .string t.f1) (u2 := .int .i64 t.f2) (u3 := .int .i64 t.f3) (u4 := .slice A t.f4.length c) b0'
    have B1 := far5b (v0 := .int .i64 t.f0) (v1 := .string t.f1) (v2 := .int .i64 t.f2) (v3 := .int .i64 t.f3) (v4 := .slice A t.f4.length c) b1' (b := w.heap.size) (by omega)
    have B2 := far5b (v0 := .int .i64 t.f0) (v1 := .string t.f1) (v2 := .int .i64 t.f2) (v3 := .int .i64 t.f3) (v4 := .slice A t.f4.length c) b2' (b := w.heap.size) (by omega)
    have hT5 := hT.far5 (R := w.heap.size) (v0 := .int .i64 t.f0) (v1 := .string t.f1) (v2 := .int .i64 t.f2) (v3 := .int .i64 t.f3) (v4 := .slice A t.f4.length c) (fun h => by have := h.1; omega)
    have hk5 := kpFar (kpFar (kpFar (kpFar (kpFar hk1 (p := ⟨w.heap.size, 0, none⟩) (Nat.le_refl _) (.int .i64 t.f0)) (p := ⟨w.heap.size, 1, none⟩) (Nat.le_refl _) (.string t.f1)) (p := ⟨w.heap.size, 2, none⟩) (Nat.le_refl _) (.int .i64 t.f2)) (p := ⟨w.heap.size, 3, none⟩) (Nat.le_refl _) (.int .i64 t.f3)) (p := ⟨w.heap.size, 4, none⟩) (Nat.le_refl _) (.slice A t.f4.length c)
    have hs5 : (((((w1.setCell ⟨w.heap.size, 0, none⟩ (.int .i64 t.f0)).setCell ⟨w.heap.size, 1, none⟩ (.string t.f1)).setCell ⟨w.heap.size, 2, none⟩ (.int .i64 t.f2)).setCell ⟨w.heap.size, 3, none⟩ (.int .i64 t.f3)).setCell ⟨w.heap.size, 4, none⟩ (.slice A t.f4.length c)).heap.size = w1.heap.size := by simp
    obtain ⟨W5, hW⟩ : ∃ W5, W5 = (((((w1.setCell ⟨w.heap.size, 0, none⟩ (.int .i64 t.f0)).setCell ⟨w.heap.size, 1, none⟩ (.string t.f1)).setCell ⟨w.heap.size, 2, none⟩ (.int .i64 t.f2)).setCell ⟨w.heap.size, 3, none⟩ (.int .i64 t.f3)).setCell ⟨w.heap.size, 4, none⟩ (.slice A t.f4.length c)) := ⟨_, rfl⟩
    rw [← hW] at B0 B1 B2 hT5 hk5 hs5 ⊢
    clear hW hT hk1 c0 c1 c2 c3 c4 cf d0 df e0 ef g0 g1 gf hbg hz b0' b1' b2'
    refine (must_yes g W5).mono ?_
    rintro e w' ⟨rfl, rfl⟩
    obtain ⟨c0, c1, c2, c3, c4, cf, cl5⟩ := open5 B0
    obtain ⟨d0, df, dl5⟩ := open1 B1
    obtain ⟨e0, ef, el5⟩ := open1 B2
    have HB := Lib.hid (And.intro B0 (And.intro B1 B2))
    clear B0 B1 B2
    go_wp2_with fail
    obtain ⟨b0, b1, b2⟩ := HB.out
    have F0 := blk_far (blk_far (set5 (u0 := .int .i64 t.f0) (u1 := .string t.f1) (u2 := .int .i64 t.f2) (u3 := .int .i64 t.f3) (u4 := .slice A t.f4.length c) b0) (p := ⟨w.heap.size + 1, 0, none⟩) (by simp) (.int .i64 0)) (p := ⟨w.heap.size + 1 + 1, 0, none⟩) (by simp; try omega) (.int .i64 0)
    have F1 := blk_far (blk_put (far5b (v0 := .int .i64 t.f0) (v1 := .string t.f1) (v2 := .int .i64 t.f2) (v3 := .int .i64 t.f3) (v4 := .slice A t.f4.length c) b1 (b := w.heap.size) (by omega)) 0 (.int .i64 0) rfl) (p := ⟨w.heap.size + 1 + 1, 0, none⟩) (by simp) (.int .i64 0)
    have F2 := blk_put (blk_far (far5b (v0 := .int .i64 t.f0) (v1 := .string t.f1) (v2 := .int .i64 t.f2) (v3 := .int .i64 t.f3) (v4 := .slice A t.f4.length c) b2 (b := w.heap.size) (by omega)) (p := ⟨w.heap.size + 1, 0, none⟩) (by simp) (.int .i64 0)) 0 (.int .i64 0) rfl
    have FT := ((hT5.far5 (R := w.heap.size) (v0 := .int .i64 t.f0) (v1 := .string t.f1) (v2 := .int .i64 t.f2) (v3 := .int .i64 t.f3) (v4 := .slice A t.f4.length c) (fun h => by have := h.1; omega)).farK (R := w.heap.size + 1) (j := 0) (v := .int .i64 0) (fun h => by have := h.1; omega)).farK (R := w.heap.size + 1 + 1) (j := 0) (v := .int .i64 0) (fun h => by have := h.1; omega)
    have FK := kpFar (kpFar (kpFar (kpFar (kpFar (kpFar (kpFar hk5 (p := ⟨w.heap.size, 0, none⟩) (Nat.le_refl _) (.int .i64 t.f0)) (p := ⟨w.heap.size, 1, none⟩) (Nat.le_refl _) (.string t.f1)) (p := ⟨w.heap.size, 2, none⟩) (Nat.le_refl _) (.int .i64 t.f2)) (p := ⟨w.heap.size, 3, none⟩) (Nat.le_refl _) (.int .i64 t.f3)) (p := ⟨w.heap.size, 4, none⟩) (Nat.le_refl _) (.slice A t.f4.length c)) (p := ⟨w.heap.size + 1, 0, none⟩) (by simp) (.int .i64 0)) (p := ⟨w.heap.size + 1 + 1, 0, none⟩) (by simp; try omega) (.int .i64 0)
    have Fs : (((((((W5.setCell ⟨w.heap.size, 0, none⟩ (.int .i64 t.f0)).setCell ⟨w.heap.size, 1, none⟩ (.string t.f1)).setCell ⟨w.heap.size, 2, none⟩ (.int .i64 t.f2)).setCell ⟨w.heap.size, 3, none⟩ (.int .i64 t.f3)).setCell ⟨w.heap.size, 4, none⟩ (.slice A t.f4.length c)).setCell ⟨w.heap.size + 1, 0, none⟩ (.int .i64 0)).setCell ⟨w.heap.size + 1 + 1, 0, none⟩ (.int .i64 0)).heap.size = W5.heap.size := by simp
    obtain ⟨W6, hW⟩ : ∃ W6, W6 = (((((((W5.setCell ⟨w.heap.size, 0, none⟩ (.int .i64 t.f0)).setCell ⟨w.heap.size, 1, none⟩ (.string t.f1)).setCell ⟨w.heap.size, 2, none⟩ (.int .i64 t.f2)).setCell ⟨w.heap.size, 3, none⟩ (.int .i64 t.f3)).setCell ⟨w.heap.size, 4, none⟩ (.slice A t.f4.length c)).setCell ⟨w.heap.size + 1, 0, none⟩ (.int .i64 0)).setCell ⟨w.heap.size + 1 + 1, 0, none⟩ (.int .i64 0)) := ⟨_, rfl⟩
    rw [← hW] at F0 F1 F2 FT FK Fs ⊢
    clear hW c0 c1 c2 c3 c4 cf d0 df e0 ef b0 b1 b2 hT5
    refine leaves_cons (f := 24) (args := #[.pointer (some ⟨w.heap.size, 0, none⟩), .pointer (some ⟨w.heap.size + 1, 0, none⟩), .pointer (some ⟨w.heap.size + 1 + 1, 0, none⟩)]) (by simp) (by simp [go_sem]) ?_
    refine (catch_idle _ _ _ W6).mono ?_
    rintro e u' w'' ⟨rfl, rfl, rfl⟩
    obtain ⟨c0, c1, c2, c3, c4, cf, cl6⟩ := open5 F0
    obtain ⟨d0, df, dl6⟩ := open1 F1
    obtain ⟨e0, ef, el6⟩ := open1 F2
    simp [Leaves, settle, results, Tryz.results16, go_sem, c0, c1, c2, c3, c4, d0, e0]
    rw [HRR.out]
    exact ⟨A, c, rfl, FT.mono (fun k h => ⟨by have := h.1; omega, by have := h.2; omega⟩), FK⟩
  · have hr' : ((r.length : Int) == 0) = false := by simpa using hr
    have HRR := Lib.hid (show pWhole l = .fail r by rw [HR.out, if_neg hr])
    clear hr HR
    go_wp2_with fail
    have B0 := set5 (u0 := .int .i64 t.f0) (u1 := .string t.f1) (u2 := .int .i64 t.f2) (u3 := .int .i64 t.f3) (u4 := .slice A t.f4.length c) b0'
    have B1 := far5b (v0 := .int .i64 t.f0) (v1 := .string t.f1) (v2 := .int .i64 t.f2) (v3 := .int .i64 t.f3) (v4 := .slice A t.f4.length c) b1' (b := w.heap.size) (by omega)
    have B2 := far5b (v0 := .int .i64 t.f0) (v1 := .string t.f1) (v2 := .int .i64 t.f2) (v3 := .int .i64 t.f3) (v4 := .slice A t.f4.length c) b2' (b := w.heap.size) (by omega)
    have hk5 := kpFar (kpFar (kpFar (kpFar (kpFar hk1 (p := ⟨w.heap.size, 0, none⟩) (Nat.le_refl _) (.int .i64 t.f0)) (p := ⟨w.heap.size, 1, none⟩) (Nat.le_refl _) (.string t.f1)) (p := ⟨w.heap.size, 2, none⟩) (Nat.le_refl _) (.int .i64 t.f2)) (p := ⟨w.heap.size, 3, none⟩) (Nat.le_refl _) (.int .i64 t.f3)) (p := ⟨w.heap.size, 4, none⟩) (Nat.le_refl _) (.slice A t.f4.length c)
    have hI5 := ((((HI1.out.far gne hw 0 (.int .i64 t.f0)).far gne hw 1 (.string t.f1)).far gne hw 2 (.int .i64 t.f2)).far gne hw 3 (.int .i64 t.f3)).far gne hw 4 (.slice A t.f4.length c)
    obtain ⟨W5, hW⟩ : ∃ W5, W5 = (((((w1.setCell ⟨w.heap.size, 0, none⟩ (.int .i64 t.f0)).setCell ⟨w.heap.size, 1, none⟩ (.string t.f1)).setCell ⟨w.heap.size, 2, none⟩ (.int .i64 t.f2)).setCell ⟨w.heap.size, 3, none⟩ (.int .i64 t.f3)).setCell ⟨w.heap.size, 4, none⟩ (.slice A t.f4.length c)) := ⟨_, rfl⟩
    rw [← hW] at B0 B1 B2 hk5 hI5 ⊢
    clear hW hT hk1 c0 c1 c2 c3 c4 cf d0 df e0 ef g0 g1 gf hbg hz b0' b1' b2'
    refine (must_no g r en w0 W5 hI5).mono ?_
    rintro e w6 ⟨rfl, hB6⟩
    have b0' := blk_below B0 hB6
    have b1' := blk_below B1 hB6
    have b2' := blk_below B2 hB6
    unfold wrongP
    go_wp2
    refine leaves_cons (f := 24) (args := #[.pointer (some ⟨w.heap.size, 0, none⟩), .pointer (some ⟨w.heap.size + 1, 0, none⟩), .pointer (some ⟨w.heap.size + 1 + 1, 0, none⟩)]) (by simp) (by simp [go_sem]) ?_
    refine (catch_wrong w.heap.size (w.heap.size + 1) (w.heap.size + 1 + 1) w.heap.size _ [] _ b0' b1' b2' (by omega) (by omega) (by omega) (by omega) (by omega) (by omega)).mono ?_
    rintro e u' w'' ⟨rfl, rfl, F0, F1, F2, FB⟩
    obtain ⟨c0, c1, c2, c3, c4, cf, cl⟩ := open5 F0
    obtain ⟨d0, df, dl⟩ := open1 F1
    obtain ⟨e0, ef, el⟩ := open1 F2
    simp [Leaves, settle, results, Tryz.results16, go_sem, c0, c1, c2, c3, c4, d0, e0]
    rw [HRR.out]
    exact ⟨rfl, kpLow (keepB hk5 hB6) FB⟩
end Go.Proofs.YtajcnjdinmgpjaaGreatDoor.X
/- The walks of the words: all tokens of a text. -/
namespace Go.Proofs.YtajcnjdinmgpjaaGreatDoor.X
open Go.RowKit Go.Proofs.YtajcnjdinmgpjaaGreatDoorW.PrintWords Go.Proofs.YtajcnjdinmgpjaaGreatDoorW.PrintLast Go.Proofs.YtajcnjdinmgpjaaGreatDoorW.PrintMore Go.Proofs.YtajcnjdinmgpjaaGreatDoor.P
theorem rest_calls (s : ByteArray) (w : World) : Calls Tryz.prog 22 #[.string s, .string ⟨#[32, 10, 9]⟩] w fun e w' => e = .returned (.string (rest s)) ∧ Below w.heap.size w w' := TrimLeft_calls s w
theorem infoTok : (Tryz.prog.info? 46).map (fun i => (i.zero, i.size, i.bytes)) = some (some (.agg #[.int .i64 0, .string ⟨#[]⟩, .int .i64 0, .int .i64 0]), 4, 40) := by kernel_rfl
abbrev NK (w : World) (lo : Nat) (v : Value) (l : List Tok) : Prop := Kd.N k46 46 w lo (fun k => lo ≤ k) v l
theorem TK_append {P : Program} {ops : Array Oper} {rest : List Oper} {o : Oper} {a : Act} {Q : Exit → Act → World → Prop} {W : World} (lo N : Nat) (hN : W.heap.size = N) (hgd : o.guard = none) (s x : Operand)
    (ho : o.op = .call { callee := .builtin .append, args := #[s, x], argTypes := #[30, 30] })
    (ht : P.underlying 30 = some (.slice 46)) (hinfo : (P.info? 46).map (fun i => (i.zero, i.size, i.bytes)) = some (some (.agg #[.int .i64 0, .string ⟨#[]⟩, .int .i64 0, .int .i64 0]), 4, 40))
    (v : Value) (xs : List Tok) (p : Tok) (hs : a.eval s = v) (hx : a.eval x = .slice (some ⟨N, 0, none⟩) 1 1)
    (HO : NK W lo v xs) (hlo : lo ≤ N) (hl : xs.length ≤ 1000000000)
    (h : ∀ A1 c1 w1, NK w1 lo (.slice A1 (xs.length + 1) c1) (xs ++ [p]) → W.grownBy w1 v.ownBlock → wpList P ops Q rest (a.put o.dst (.slice A1 (xs.length + 1) c1)) w1) :
    wpList P ops Q (o :: rest) a (W.alloc (.cells #[.int .i64 p.f0, .string p.f1, .int .i64 p.f2, .int .i64 p.f3] 46)) := by
  subst hN
  refine Kd.N_append (w0 := W) k46 lo hgd s x 30 46 _ 40 ho ht hinfo rfl (by decide) (by decide) v xs p [.int .i64 p.f0, .string p.f1, .int .i64 p.f2, .int .i64 p.f3] (fun k => lo ≤ k) (fun _ => False) hs hx (fun W2 _ => k46_mk W2 p) (fun k hk => hk.elim) (fun k hk => by omega) HO (Below.refl _ _) hlo (by omega) ?_
  intro V1 w5 hN5 _ hg5 _
  obtain ⟨A1, c1, rfl⟩ := Kd.N_slice hN5
  have e1 : (xs ++ [p]).length = xs.length + 1 := by simp
  rw [e1] at hN5 ⊢
  exact h A1 c1 w5 hN5 hg5
/-- What all tokens come to. -/
def ARel (w : World) (R : Except (Nat × Int) (List Tok)) (e : Ending) (w' : World) : Prop :=
  match R with
  | .ok l => ∃ A c, e = .returned (.tuple #[.slice A l.length c, .int .i64 0, .int .i64 0]) ∧ l.length ≤ c ∧ Kd.C k46 w' A l.length l ∧ Below w.heap.size w w'
  | .error (p, c) => e = .returned (.tuple #[.slice none 0 0, .int .i64 (p : Int), .int .i64 c]) ∧ Below w.heap.size w w'
def AllAt (s : ByteArray) (fin : Except (Nat × Int) (List Tok)) (w : World) (gf : Nat) (wx : World) (a : Nat) : Prop :=
  ∃ xs V, lexLoop s gf a xs = fin ∧ a ≤ s.size ∧ s.size < a + gf ∧ xs.length ≤ a ∧ wx.heap[w.heap.size]? = some (.cells #[V] 30 (0, 0)) ∧ wx.heap[w.heap.size + 1]? = some (.cells #[.int .i64 0] 26 (0, 0)) ∧ NK wx (w.heap.size + 2) V xs ∧ Below w.heap.size w wx
/-- What is known behind an append to the tokens' row. -/
theorem allNext {w w2 w5 : World} {A A1 : Option Addr} {cc c1 : Nat} {xs : List Tok} {t0 t2 t3 : Int} {t1 : ByteArray} {ps : List Tok}
    (H : w2.heap[w.heap.size]? = some (.cells #[.slice A xs.length cc] 30 (0, 0)) ∧ w2.heap[w.heap.size + 1]? = some (.cells #[.int .i64 0] 26 (0, 0)) ∧ NK w2 (w.heap.size + 2) (.slice A xs.length cc) xs ∧ Below w.heap.size w w2)
    (hg5 : (w2.alloc (.cells #[.int .i64 t0, .string t1, .int .i64 t2, .int .i64 t3] 46)).grownBy w5 (Value.slice A xs.length cc).ownBlock) (hN5 : NK w5 (w.heap.size + 2) (.slice A1 (xs.length + 1) c1) ps) :
    w5.cell? ⟨w.heap.size, 0, none⟩ = some (.slice A xs.length cc) ∧ w5.frozen? ⟨w.heap.size, 0, none⟩ = false ∧ w5.cell? ⟨w2.heap.size, 1, none⟩ = some (.string t1) ∧ w5.frozen? ⟨w2.heap.size, 1, none⟩ = false ∧
      (w5.setCell ⟨w.heap.size, 0, none⟩ (.slice A1 (xs.length + 1) c1)).heap[w.heap.size]? = some (.cells #[.slice A1 (xs.length + 1) c1] 30 (0, 0)) ∧ (w5.setCell ⟨w.heap.size, 0, none⟩ (.slice A1 (xs.length + 1) c1)).heap[w.heap.size + 1]? = some (.cells #[.int .i64 0] 26 (0, 0)) ∧
      NK (w5.setCell ⟨w.heap.size, 0, none⟩ (.slice A1 (xs.length + 1) c1)) (w.heap.size + 2) (.slice A1 (xs.length + 1) c1) ps ∧ Below w.heap.size w (w5.setCell ⟨w.heap.size, 0, none⟩ (.slice A1 (xs.length + 1) c1)) := by
  obtain ⟨b0, b1, hN, hB⟩ := H
  have own : ∀ k, (Value.slice A xs.length cc).ownBlock = some k → w.heap.size + 2 ≤ k ∧ k < w2.heap.size := fun k hk => ⟨hN.1 k hk, Kd.N_lt hN k hk⟩
  have b0' := blk_grown (blk_alloc b0 _) hg5 (fun e => by have := own _ e.symm; omega)
  have b1' := blk_grown (blk_alloc b1 _) hg5 (fun e => by have := own _ e.symm; omega)
  have bt := blk_grown (blk_new w2 _) hg5 (fun e => by have := own _ e.symm; omega)
  have hB5 := (hB.alloc hB.size (.cells #[.int .i64 t0, .string t1, .int .i64 t2, .int .i64 t3] 46)).grown hg5 (by simp; have := hB.size; omega) (fun k hk => by have := (own k hk).1; omega)
  exact ⟨cz b0' 0 rfl, fz b0' 0, cz bt 1 rfl, fz bt 1, blk_put b0' 0 _ rfl, blk_far b1' (by simp) _, Kd.N_far hN5 (fun k hk => by show k ≠ w.heap.size; omega) _, hB5.setCell (Nat.le_refl _) _⟩
set_option maxRecDepth 100000 in
set_option maxHeartbeats 4000000 in
theorem All_calls (s : ByteArray) (hs : s.size ≤ 1000000000) (w : World) : Calls Tryz.prog 15 #[.string s] w (ARel w (lexAll s)) := by
  have hmf : ∀ (fn : Fn) (first cap : Array Value) (w : World), (Instr.makeFunc fn first cap).run Tryz.prog w = .ok (.func fn first cap) w := fun _ _ _ _ => rfl
  obtain ⟨R, hR⟩ : ∃ R, R = lexAll s := ⟨_, rfl⟩
  rw [← hR]
  unfold lexAll at hR
  have HR := Lib.hid hR
  clear hR
  go_enter_defers Tryz.func15, Tryz.ntmps15
  go_wp2_with fail
  have hst : AllAt s R w (s.size + 1) ((w.alloc (.cells #[.slice none 0 0] 30)).alloc (.cells #[.int .i64 0] 26)) 0 :=
    ⟨[], .slice none 0 0, HR.out.symm, by omega, by omega, by simp, blk_alloc (blk_new _ _) _, by have := blk_new (w.alloc (.cells #[.slice none 0 0] 30)) (.cells #[.int .i64 0] 26); rw [World.size_alloc] at this; exact this, Kd.N_nil _ _ _ _ _, below_alloc (below_alloc (Below.refl _ _) _) _⟩
  have HS := Lib.hid hst
  clear hst
  go_loopg [3] (s.size + 1) (fun gf v wx => ∃ a : Nat, v = .int .i64 (a : Int) ∧ AllAt s R w gf wx a)
  case atStart => exact ⟨0, rfl, HS.out⟩
  case round =>
    obtain ⟨a, rfl, xs, V, hf, ha, hg, hx, hb0, hb1, hN, hB⟩ := hrel
    clear HS HR
    obtain ⟨g', rfl⟩ : ∃ g', gk = g' + 1 := ⟨gk - 1, by omega⟩
    unfold lexLoop at hf
    have hsk := skip_ge s a ha
    have hki := skip_int s a ha
    obtain ⟨T, hT⟩ : ∃ T, T = rest (s.extract a s.size) := ⟨_, rfl⟩
    have HT := rest_calls (s.extract a s.size) wr
    rw [← hT] at hki HT
    obtain ⟨k, hk⟩ : ∃ k, k = skip s a := ⟨_, rfl⟩
    rw [← hk] at hki hf hsk
    have HT' := Lib.hid HT
    have HKI := Lib.hid hki
    have HF := Lib.hid hf
    obtain ⟨hk1, hk2⟩ := hsk
    clear hT hk HT hki hf
    obtain ⟨c0, cf, cl⟩ := open1 hb0
    obtain ⟨d0, df, dl⟩ := open1 hb1
    have HBB := Lib.hid (And.intro hb0 (And.intro hb1 (And.intro hN hB)))
    clear hb0 hb1 hN hB c0 cf cl d0 df dl
    go_wp2_with fail
    refine HT'.out.mono ?_
    rintro e w1 ⟨rfl, hB1⟩
    obtain ⟨hb0, hb1, hN, hB⟩ := HBB.out
    have hb0' := blk_below hb0 hB1
    have hb1' := blk_below hb1 hB1
    have hN' := Kd.N_below hN hB1
    have hB' := below_step hB hB1
    clear hb0 hb1 hN hB hB1
    obtain ⟨c0, cf, cl⟩ := open1 hb0'
    obtain ⟨d0, df, dl⟩ := open1 hb1'
    have HB2 := Lib.hid (And.intro hb0' (And.intro hb1' (And.intro hN' hB')))
    clear hb0' hb1' hN' hB'
    by_cases hend : k = s.size
    · have HF2 := HF.out
      rw [if_pos hend] at HF2
      have HF3 := Lib.hid HF2
      clear HF2 HF
      subst hend
      have hki := HKI.out
      clear HBB HT'
      obtain ⟨A, cc, rfl⟩ := Kd.N_slice HB2.out.2.2.1
      go_wp2
      obtain ⟨b0, b1, hN, hB⟩ := HB2.out
      have F0 := blk_far (blk_put b0 0 (.slice A xs.length cc) rfl) (p := ⟨w.heap.size + 1, 0, none⟩) (by simp) (.int .i64 0)
      have F1 := blk_put (blk_far b1 (p := ⟨w.heap.size, 0, none⟩) (by simp) (.slice A xs.length cc)) 0 (.int .i64 0) rfl
      have FN := Kd.N_far (p := ⟨w.heap.size + 1, 0, none⟩) (Kd.N_far (p := ⟨w.heap.size, 0, none⟩) hN (fun k hk => by show k ≠ w.heap.size; omega) (.slice A xs.length cc)) (fun k hk => by show k ≠ w.heap.size + 1; omega) (.int .i64 0)
      have FB := (hB.setCell (p := ⟨w.heap.size, 0, none⟩) (Nat.le_refl _) (.slice A xs.length cc)).setCell (p := ⟨w.heap.size + 1, 0, none⟩) (by simp) (.int .i64 0)
      obtain ⟨W6, hW⟩ : ∃ W6, W6 = ((w1.setCell ⟨w.heap.size, 0, none⟩ (.slice A xs.length cc)).setCell ⟨w.heap.size + 1, 0, none⟩ (.int .i64 0)) := ⟨_, rfl⟩
      rw [← hW] at F0 F1 FN FB ⊢
      clear hW c0 cf d0 df b0 b1 hN hB HB2
      refine leaves_cons (f := 21) (args := #[.pointer (some ⟨w.heap.size, 0, none⟩), .pointer (some ⟨w.heap.size + 1, 0, none⟩)]) (by simp) (by simp [go_sem]) ?_
      refine (lex_idle _ _ W6).mono ?_
      rintro e u' w'' ⟨rfl, rfl, rfl⟩
      obtain ⟨c0, cf, cl6⟩ := open1 F0
      obtain ⟨d0, df, dl6⟩ := open1 F1
      simp [Leaves, settle, results, Tryz.results15, go_sem, c0, d0]
      rw [← HF3.out]
      exact ⟨A, cc, rfl, (Kd.N_reads' FN).2.1, (Kd.N_reads' FN).2.2, FB⟩
    · have hpos : 0 < (s.extract k s.size).size := by rw [extract_size s k hk2]; omega
      have HF2 := HF.out
      rw [if_neg hend] at HF2
      have hne : ((k : Int) == (s.size : Int)) = false := by simp; omega
      have HC := first_calls (s.extract k s.size) hpos w1
      have hki := HKI.out
      obtain ⟨A, cc, rfl⟩ := Kd.N_slice HB2.out.2.2.1
      cases hfi : lexFirst (s.extract k s.size) with
      | error c =>
        rw [hfi] at HF2 HC
        have HF3 := Lib.hid HF2
        have HC' := Lib.hid HC
        clear HBB HT' HF HF2 HC HKI hfi
        go_wp2_with fail
        refine HC'.out.mono ?_
        rintro e w2 ⟨rfl, hB2⟩
        obtain ⟨b0, b1, hN, hB⟩ := HB2.out
        have b0' := blk_below b0 hB2
        have b1' := blk_below b1 hB2
        have hB' := below_step hB hB2
        clear b0 b1 hN hB HB2 hB2 c0 cf cl d0 df dl HC' hki hne
        unfold lexWrong
        go_wp2
        refine leaves_cons (f := 21) (args := #[.pointer (some ⟨w.heap.size, 0, none⟩), .pointer (some ⟨w.heap.size + 1, 0, none⟩)]) (by simp) (by simp [go_sem]) ?_
        refine (lex_catch w.heap.size (w.heap.size + 1) w.heap.size _ [] _ b0' b1' (by omega) (by omega) (by omega)).mono ?_
        rintro e u' w'' ⟨rfl, rfl, F0, F1, FB⟩
        obtain ⟨c0, cf, cl6⟩ := open1 F0
        obtain ⟨d0, df, dl6⟩ := open1 F1
        simp [Leaves, settle, results, Tryz.results15, go_sem, c0, d0]
        rw [← HF3.out]
        exact ⟨rfl, hB'.trans FB⟩
      | ok t =>
        rw [hfi] at HF2 HC
        have hts := lexFirst_size hpos hfi
        rw [extract_size s k hk2] at hts
        have HF3 := Lib.hid HF2
        have HC' := Lib.hid HC
        clear HBB HT' HF HF2 HC HKI hfi
        go_wp2_with fail
        refine HC'.out.mono ?_
        rintro e w2 ⟨rfl, hB2⟩
        unfold tokV
        obtain ⟨b0, b1, hN, hB⟩ := HB2.out
        have b0' := blk_below b0 hB2
        have b1' := blk_below b1 hB2
        have hN' := Kd.N_below hN hB2
        have hB' := below_step hB hB2
        have hlt := hB'.size
        clear b0 b1 hN hB HB2 hB2 c0 cf cl d0 df dl HC' hki hne
        obtain ⟨c0, cf, cl⟩ := open1 b0'
        obtain ⟨d0, df, dl⟩ := open1 b1'
        have HBB := Lib.hid (And.intro b0' (And.intro b1' (And.intro hN' hB')))
        clear b0' b1' hN' hB'
        go_wp2_with (at_builtin; refine TK_append (W := w2.alloc (.cells #[.int .i64 t.f0, .string t.f1, .int .i64 t.f2, .int .i64 (k : Int)] 46)) (w.heap.size + 2) (w2.heap.size + 1) (World.size_alloc _ _) rfl _ _ rfl Tryz.underlying30 infoTok (.slice A xs.length cc) xs ⟨t.f0, t.f1, t.f2, (k : Int)⟩ rfl rfl (Kd.N_alloc HBB.out.2.2.1 _) (by omega) (by omega) ?_; (intro A1 c1 w5 hN5 hg5); (obtain ⟨y0, yf, y1, yg, FF⟩ := allNext HBB.out hg5 hN5); (have HFF := Lib.hid FF); (clear FF hg5 hN5 HBB c0 cf d0 df))
        go_roundg g'
        case measure => omega
        case rel => exact ⟨k + t.f1.size, by go_num, xs ++ [⟨t.f0, t.f1, t.f2, (k : Int)⟩], .slice A1 (xs.length + 1) c1, HF3.out, by omega, by omega, by simp; omega, HFF.out⟩
end Go.Proofs.YtajcnjdinmgpjaaGreatDoor.X
/- What the parser reads, as rules. -/
namespace Go.Proofs.YtajcnjdinmgpjaaGreatDoor.X
open Go.Proofs.YtajcnjdinmgpjaaGreatDoor.P

/-- is a token a word, or a sign? -/
def isT (t : Tok) (s : ByteArray) : Bool := (t.f0 == 4 || t.f0 == 5) && (t.f1.toList == s.toList)
theorem isW_cons (t : Tok) (l : List Tok) (s : ByteArray) : isW (t :: l) s = isT t s := rfl
theorem isW_inv {l : List Tok} {s : ByteArray} (h : isW l s = true) : ∃ a r, l = a :: r ∧ isT a s = true := by
  cases l with
  | nil => cases h
  | cons a r => exact ⟨a, r, rfl, h⟩
theorem kd_inv {l : List Tok} {k : Int} (h : kd l = k) (hk : k ≠ 0) : ∃ a r, l = a :: r ∧ a.f0 = k := by
  cases l with
  | nil => exact absurd h.symm hk
  | cons a r => exact ⟨a, r, rfl, h⟩
theorem isT_other {t : Tok} {s u : ByteArray} (h : isT t s = true) (hne' : s.data.toList ≠ u.data.toList) : isT t u = false := by
  have hne : s.toList ≠ u.toList := by rw [ByteArray.toList_eq, ByteArray.toList_eq]; exact hne'
  unfold isT at h ⊢
  simp at h
  have : ¬ t.f1.toList = u.toList := fun e => hne (h.2.symm.trans e)
  simp [this]
theorem isT_kind {t : Tok} {s : ByteArray} (h : isT t s = true) : t.f0 = 4 ∨ t.f0 = 5 := by
  unfold isT at h
  simp at h
  exact h.1
theorem isT_of_kind {t : Tok} (h4 : t.f0 ≠ 4) (h5 : t.f0 ≠ 5) (s : ByteArray) : isT t s = false := by
  unfold isT
  simp [h4, h5]

inductive N where
  | expr | cmp | app | atom | alt
  | lev (b : Bool)
  | args (c : Bool) (t : Tree)
  | ops (b : Bool) (t : Tree)
  | alts (a : Int) (ts : List Tree)
def sub : Bool → N
  | true => .app
  | false => .lev true
def sg1 : Bool → ByteArray
  | true => ⟨#[42]⟩
  | false => ⟨#[43]⟩
def sg2 : Bool → ByteArray
  | true => ⟨#[47]⟩
  | false => ⟨#[45]⟩
def letK (a : Tok) (k : Int) : Prop := (isT a ⟨#[108, 101, 116]⟩ = true ∧ k = 4) ∨ (isT a ⟨#[108, 101, 116, 114, 101, 99]⟩ = true ∧ k = 5)

/-- a part of a text is read as a tree, and what is left -/
inductive Der : N → List Tok → Tree → List Tok → Prop where
  | lam (a x d : Tok) (l : List Tok) (b : Tree) (r : List Tok) : isT a ⟨#[92]⟩ = true → x.f0 = 1 → isT d ⟨#[46]⟩ = true → Der .expr l b r → Der .expr (a :: x :: d :: l) ⟨2, x.f1, 0, a.f3, [b]⟩ r
  | let_ (k : Int) (a x e i : Tok) (l l2 : List Tok) (v b : Tree) (r : List Tok) : letK a k → x.f0 = 1 → isT e ⟨#[61]⟩ = true → Der .expr l v (i :: l2) → isT i ⟨#[105, 110]⟩ = true → Der .expr l2 b r → Der .expr (a :: x :: e :: l) ⟨k, x.f1, 0, a.f3, [v, b]⟩ r
  | case_ (a o c : Tok) (l l2 l3 : List Tok) (v b t : Tree) (r : List Tok) : isT a ⟨#[99, 97, 115, 101]⟩ = true → Der .expr l v (o :: c :: l2) → isT o ⟨#[111, 102]⟩ = true → isT c ⟨#[123]⟩ = true → Der .alt l2 b l3 → Der (.alts a.f3 [v, b]) l3 t r → Der .expr (a :: l) t r
  | altsMore (at_ : Int) (ts : List Tree) (p : Tok) (l : List Tok) (a : Tree) (r : List Tok) (t : Tree) (r' : List Tok) : isT p ⟨#[124]⟩ = true → ts.length ≤ 8 → Der .alt l a r → Der (.alts at_ (ts ++ [a])) r t r' → Der (.alts at_ ts) (p :: l) t r'
  | altsEnd (at_ : Int) (ts : List Tree) (q : Tok) (r : List Tok) : isT q ⟨#[125]⟩ = true → Der (.alts at_ ts) (q :: r) ⟨7, ⟨#[]⟩, 0, at_, ts⟩ r
  | alt_ (c : Tok) (vs : List Tok) (a : Tok) (l : List Tok) (b : Tree) (r : List Tok) : c.f0 = 2 → (∀ v ∈ vs, v.f0 = 1) → vs.length ≤ 8 → isT a ⟨#[45, 62]⟩ = true → Der .expr l b r → Der .alt (c :: (vs ++ a :: l)) ⟨8, c.f1, (vs.length : Int), c.f3, vs.map varT ++ [b]⟩ r
  | cmpE (l : List Tok) (t : Tree) (r : List Tok) : Der .cmp l t r → Der .expr l t r
  | cmp0 (l : List Tok) (t : Tree) (r : List Tok) : Der (.lev false) l t r → isW r ⟨#[60]⟩ = false → isW r ⟨#[61, 61]⟩ = false → Der .cmp l t r
  | cmp1 (l : List Tok) (t : Tree) (o : Tok) (r1 : List Tok) (b : Tree) (r : List Tok) : Der (.lev false) l t (o :: r1) → (isT o ⟨#[60]⟩ = true ∨ isT o ⟨#[61, 61]⟩ = true) → Der (.lev false) r1 b r → Der .cmp l (opT o.f1 t b) r
  | lev (b : Bool) (l : List Tok) (t : Tree) (r1 : List Tok) (t' : Tree) (r : List Tok) : Der (sub b) l t r1 → Der (.ops b t) r1 t' r → Der (.lev b) l t' r
  | ops0 (b : Bool) (t : Tree) (r : List Tok) : isW r (sg1 b) = false → isW r (sg2 b) = false → Der (.ops b t) r t r
  | ops1 (b : Bool) (t : Tree) (o : Tok) (l : List Tok) (x : Tree) (r : List Tok) (t' : Tree) (r' : List Tok) : (isT o (sg1 b) = true ∨ isT o (sg2 b) = true) → Der (sub b) l x r → Der (.ops b (opT o.f1 t x)) r t' r' → Der (.ops b t) (o :: l) t' r'
  | app (l : List Tok) (t : Tree) (r1 : List Tok) (t' : Tree) (r : List Tok) : Der .atom l t r1 → Der (.args (kd l == 2) t) r1 t' r → Der .app l t' r
  | args0 (c : Bool) (t : Tree) (r : List Tok) : atomB r = false → Der (.args c t) r t r
  | argsC (t : Tree) (l : List Tok) (a : Tree) (r : List Tok) (t' : Tree) (r' : List Tok) : t.f4.length < 8 → Der .atom l a r → Der (.args true ⟨t.f0, t.f1, t.f2, t.f3, t.f4 ++ [a]⟩) r t' r' → Der (.args true t) l t' r'
  | argsA (t : Tree) (l : List Tok) (a : Tree) (r : List Tok) (t' : Tree) (r' : List Tok) : Der .atom l a r → Der (.args false ⟨3, ⟨#[]⟩, 0, t.f3, [t, a]⟩) r t' r' → Der (.args false t) l t' r'
  | paren (a q : Tok) (l : List Tok) (t : Tree) (r : List Tok) : isT a ⟨#[40]⟩ = true → Der .expr l t (q :: r) → isT q ⟨#[41]⟩ = true → Der .atom (a :: l) t r
  | var (x : Tok) (r : List Tok) : x.f0 = 1 → Der .atom (x :: r) ⟨1, x.f1, 0, x.f3, []⟩ r
  | con (x : Tok) (r : List Tok) : x.f0 = 2 → Der .atom (x :: r) ⟨6, x.f1, 0, x.f3, []⟩ r
  | int (x : Tok) (r : List Tok) : x.f0 = 3 → Der .atom (x :: r) ⟨9, ⟨#[]⟩, x.f2, x.f3, []⟩ r

/-! ### What is read, is read by the rules -/
def DE (ex : List Tok → PR) (nt : N) : Prop := ∀ l t r, ex l = .ok t r → Der nt l t r
theorem atom_der {ex : List Tok → PR} (hex : DE ex .expr) : DE (pAtom ex) .atom := by
  intro l t r h
  unfold pAtom at h
  split at h
  · rename_i hw
    obtain ⟨a, l', rfl, ha⟩ := isW_inv hw
    obtain ⟨b, r1, h1, h2⟩ := PR.bind_inv h
    obtain ⟨h3, h4⟩ := word_inv h2
    obtain ⟨q, r2, rfl, hq⟩ := isW_inv h3
    cases h4
    exact .paren a q _ _ _ ha (hex _ _ _ h1) hq
  · cases l with
    | nil => cases h
    | cons x l =>
      simp only at h
      split at h
      · cases h; exact .var x _ ‹_›
      · split at h
        · cases h; exact .con x _ ‹_›
        · split at h
          · cases h; exact .int x _ ‹_›
          · cases h
theorem args_der {ex : List Tok → PR} (hex : DE ex .expr) (c : Bool) : ∀ m t l t' r, pArgs ex c m t l = .ok t' r → Der (.args c t) l t' r
  | 0, _, _, _, _, h => by cases h
  | m + 1, t, l, t', r, h => by
    unfold pArgs at h
    split at h
    · cases c with
      | true =>
        rw [if_pos rfl] at h
        split at h
        · obtain ⟨a, r1, h1, h2⟩ := PR.bind_inv h
          exact .argsC t l a r1 t' r ‹_› (atom_der hex _ _ _ h1) (args_der hex true m _ _ _ _ h2)
        · cases h
      | false =>
        rw [if_neg (by decide)] at h
        obtain ⟨a, r1, h1, h2⟩ := PR.bind_inv h
        exact .argsA t l a r1 t' r (atom_der hex _ _ _ h1) (args_der hex false m _ _ _ _ h2)
    · cases h
      exact .args0 c _ _ (by simpa using ‹¬ atomB _ = true›)
theorem app_der {ex : List Tok → PR} (hex : DE ex .expr) : DE (pApp ex) .app := by
  intro l t r h
  obtain ⟨a, r1, h1, h2⟩ := PR.bind_inv h
  exact .app l a r1 t r (atom_der hex _ _ _ h1) (args_der hex _ _ _ _ _ _ h2)
theorem ops_der {right : List Tok → PR} (b : Bool) (hr : DE right (sub b)) : ∀ m t l t' r, pOps right (sg1 b) (sg2 b) m t l = .ok t' r → Der (.ops b t) l t' r
  | 0, _, _, _, _, h => by cases h
  | m + 1, t, l, t', r, h => by
    unfold pOps at h
    split at h
    · rename_i ho
      obtain ⟨x, r1, h1, h2⟩ := PR.bind_inv h
      have ho' : ∃ o l', l = o :: l' ∧ (isT o (sg1 b) = true ∨ isT o (sg2 b) = true) := by
        rcases Bool.or_eq_true_iff.1 ho with ho | ho
        · obtain ⟨o, l', e, ht⟩ := isW_inv ho; exact ⟨o, l', e, .inl ht⟩
        · obtain ⟨o, l', e, ht⟩ := isW_inv ho; exact ⟨o, l', e, .inr ht⟩
      obtain ⟨o, l', rfl, ht⟩ := ho'
      exact .ops1 b t o l' x r1 t' r ht (hr _ _ _ h1) (ops_der b hr m _ _ _ _ h2)
    · rename_i ho
      cases h
      have ho' : isW l (sg1 b) = false ∧ isW l (sg2 b) = false := by simpa using ho
      exact .ops0 b _ _ ho'.1 ho'.2
theorem prod_der {ex : List Tok → PR} (hex : DE ex .expr) : DE (pProd ex) (.lev true) := by
  intro l t r h
  obtain ⟨a, r1, h1, h2⟩ := PR.bind_inv h
  exact .lev true l a r1 t r (app_der hex _ _ _ h1) (ops_der true (app_der hex) _ _ _ _ _ h2)
theorem sum_der {ex : List Tok → PR} (hex : DE ex .expr) : DE (pSum ex) (.lev false) := by
  intro l t r h
  obtain ⟨a, r1, h1, h2⟩ := PR.bind_inv h
  exact .lev false l a r1 t r (prod_der hex _ _ _ h1) (ops_der false (prod_der hex) _ _ _ _ _ h2)
theorem cmp_der {ex : List Tok → PR} (hex : DE ex .expr) : DE (pCmp ex) .cmp := by
  intro l t r h
  obtain ⟨a, r1, h1, h2⟩ := PR.bind_inv h
  split at h2
  · rename_i ho
    obtain ⟨b, r2, h3, h4⟩ := PR.bind_inv h2
    cases h4
    have ho' : ∃ o l', r1 = o :: l' ∧ (isT o ⟨#[60]⟩ = true ∨ isT o ⟨#[61, 61]⟩ = true) := by
      rcases Bool.or_eq_true_iff.1 ho with ho | ho
      · obtain ⟨o, l', e, ht⟩ := isW_inv ho; exact ⟨o, l', e, .inl ht⟩
      · obtain ⟨o, l', e, ht⟩ := isW_inv ho; exact ⟨o, l', e, .inr ht⟩
    obtain ⟨o, l', rfl, ht⟩ := ho'
    exact .cmp1 l a o l' b r (sum_der hex _ _ _ h1) ht (sum_der hex _ _ _ h3)
  · rename_i ho
    cases h2
    have ho' : isW r ⟨#[60]⟩ = false ∧ isW r ⟨#[61, 61]⟩ = false := by simpa using ho
    exact .cmp0 l _ _ (sum_der hex _ _ _ h1) ho'.1 ho'.2
theorem lam_der {ex : List Tok → PR} (hex : DE ex .expr) : DE (pLam ex) .expr := by
  intro l t r h
  obtain ⟨h1, h⟩ := word_inv h
  obtain ⟨a, l1, rfl, ha⟩ := isW_inv h1
  obtain ⟨h2, h⟩ := kindP_inv h
  obtain ⟨x, l2, hl, hx⟩ := kd_inv h2 (by decide)
  simp only [List.tail_cons] at hl
  subst hl
  obtain ⟨h3, h⟩ := word_inv h
  obtain ⟨d, l3, hl, hd⟩ := isW_inv h3
  simp only [List.tail_cons] at hl
  subst hl
  obtain ⟨b, r1, h4, h⟩ := PR.bind_inv h
  cases h
  exact .lam a x d _ _ _ ha hx hd (hex _ _ _ h4)
theorem let_der {ex : List Tok → PR} (hex : DE ex .expr) (k : Int) (a : Tok) (l0 : List Tok) (hk : letK a k) : ∀ t r, pLet ex k (a :: l0) = .ok t r → Der .expr (a :: l0) t r := by
  intro t r h
  obtain ⟨h2, h⟩ := kindP_inv h
  obtain ⟨x, l2, hl, hx⟩ := kd_inv h2 (by decide)
  simp only [List.tail_cons] at hl
  subst hl
  obtain ⟨h3, h⟩ := word_inv h
  obtain ⟨e, l3, hl, he⟩ := isW_inv h3
  simp only [List.tail_cons] at hl
  subst hl
  obtain ⟨v, r1, h4, h⟩ := PR.bind_inv h
  obtain ⟨h5, h⟩ := word_inv h
  obtain ⟨i, l5, rfl, hi⟩ := isW_inv h5
  obtain ⟨b, r2, h6, h⟩ := PR.bind_inv h
  cases h
  exact .let_ k a x e i _ _ _ _ _ hk hx he (hex _ _ _ h4) hi (hex _ _ _ h6)
theorem vars_inv {f : List Tree → List Tok → PR} : ∀ m vs l t r, pVars f m vs l = .ok t r → ∃ ws l', l = ws ++ l' ∧ (∀ v ∈ ws, v.f0 = 1) ∧ (ws ≠ [] → vs.length + ws.length ≤ 8) ∧ kd l' ≠ 1 ∧ f (vs ++ ws.map varT) l' = .ok t r
  | 0, _, _, _, _, h => by cases h
  | m + 1, vs, l, t, r, h => by
    unfold pVars at h
    split at h
    · rename_i hk
      split at h
      · rename_i hlt
        obtain ⟨x, l', rfl, hx⟩ := kd_inv hk (by decide)
        obtain ⟨ws, l2, e, h1, h2, h3, h4⟩ := vars_inv m _ _ _ _ h
        simp only [List.tail_cons] at e
        subst e
        refine ⟨x :: ws, l2, rfl, ?_, ?_, h3, ?_⟩
        · intro v hv
          rcases List.mem_cons.1 hv with rfl | hv
          · exact hx
          · exact h1 v hv
        · intro _
          by_cases hws : ws = []
          · subst hws; simp; omega
          · have := h2 hws
            simp at this ⊢
            omega
        · simpa [hd] using h4
      · cases h
    · rename_i hk
      exact ⟨[], l, rfl, by simp, by simp, hk, by simpa using h⟩
theorem alt_der {ex : List Tok → PR} (hex : DE ex .expr) : DE (pAlt ex) .alt := by
  intro l t r h
  obtain ⟨h1, h⟩ := kindP_inv h
  obtain ⟨c, l1, rfl, hc⟩ := kd_inv h1 (by decide)
  obtain ⟨ws, l2, e, h2, h3, _, h4⟩ := vars_inv _ _ _ _ _ h
  simp only [List.tail_cons] at e
  subst e
  obtain ⟨h5, h6⟩ := word_inv h4
  obtain ⟨a, l3, rfl, ha⟩ := isW_inv h5
  obtain ⟨b, r1, h7, h8⟩ := PR.bind_inv h6
  cases h8
  have hlen : ws.length ≤ 8 := by
    by_cases hws : ws = []
    · subst hws; simp
    · have := h3 hws; simpa using this
  have := Der.alt_ c ws a l3 b _ hc h2 hlen ha (hex _ _ _ h7)
  simpa [hd] using this
theorem alts_der {ex : List Tok → PR} (hex : DE ex .expr) (at_ : Int) : ∀ m ts l t r, pAlts ex at_ m ts l = .ok t r → Der (.alts at_ ts) l t r
  | 0, _, _, _, _, h => by cases h
  | m + 1, ts, l, t, r, h => by
    unfold pAlts at h
    split at h
    · rename_i hp
      obtain ⟨p, l', rfl, hp⟩ := isW_inv hp
      split at h
      · obtain ⟨a, r1, h1, h2⟩ := PR.bind_inv h
        exact .altsMore at_ ts p l' a r1 t r hp ‹_› (alt_der hex _ _ _ h1) (alts_der hex at_ m _ _ _ _ h2)
      · cases h
    · obtain ⟨h1, h2⟩ := word_inv h
      obtain ⟨q, l', rfl, hq⟩ := isW_inv h1
      cases h2
      exact .altsEnd at_ ts q _ hq
theorem case_der {ex : List Tok → PR} (hex : DE ex .expr) : DE (pCase ex) .expr := by
  intro l t r h
  obtain ⟨h1, h⟩ := word_inv h
  obtain ⟨a, l1, rfl, ha⟩ := isW_inv h1
  obtain ⟨v, r1, h2, h⟩ := PR.bind_inv h
  obtain ⟨h3, h⟩ := word_inv h
  obtain ⟨o, l2, rfl, ho⟩ := isW_inv h3
  obtain ⟨h4, h⟩ := word_inv h
  obtain ⟨c, l3, hl, hc⟩ := isW_inv h4
  simp only [List.tail_cons] at hl
  subst hl
  obtain ⟨b, r2, h5, h⟩ := PR.bind_inv h
  exact .case_ a o c _ _ _ v b t r ha (hex _ _ _ h2) ho hc (alt_der hex _ _ _ h5) (alts_der hex _ _ _ _ _ _ h)
theorem expr_der : ∀ n, DE (pExpr n) .expr
  | 0 => fun l t r h => by cases h
  | n + 1 => fun l t r h => by
    have hex := expr_der n
    unfold pExpr at h
    split at h
    · exact lam_der hex _ _ _ h
    · split at h
      · rename_i hw
        obtain ⟨a, l', rfl, ha⟩ := isW_inv hw
        exact let_der hex 4 a l' (.inl ⟨ha, rfl⟩) _ _ h
      · split at h
        · rename_i hw
          obtain ⟨a, l', rfl, ha⟩ := isW_inv hw
          exact let_der hex 5 a l' (.inr ⟨ha, rfl⟩) _ _ h
        · split at h
          · exact case_der hex _ _ _ h
          · exact .cmpE _ _ _ (cmp_der hex _ _ _ h)

/-! ### What is read takes a token at least, and what is left stood at the end -/
def tight : N → Bool
  | .args _ _ => false
  | .ops _ _ => false
  | _ => true
theorem sub_tight (b : Bool) : tight (sub b) = true := by cases b <;> rfl
theorem der_suffix {nt : N} {l : List Tok} {t : Tree} {r : List Tok} (h : Der nt l t r) : ∃ l1, l = l1 ++ r ∧ (tight nt = true → l1 ≠ []) := by
  induction h with
  | lam a x d l b r _ _ _ _ ih => obtain ⟨l1, rfl, _⟩ := ih; exact ⟨a :: x :: d :: l1, rfl, by simp⟩
  | let_ k a x e i l l2 v b r _ _ _ _ _ _ ih1 ih2 =>
    obtain ⟨l1, rfl, _⟩ := ih1; obtain ⟨m1, rfl, _⟩ := ih2
    exact ⟨a :: x :: e :: (l1 ++ i :: m1), by simp, by simp⟩
  | case_ a o c l l2 l3 v b t r _ _ _ _ _ _ ih1 ih2 ih3 =>
    obtain ⟨l1, rfl, _⟩ := ih1; obtain ⟨m1, rfl, _⟩ := ih2; obtain ⟨k1, rfl, _⟩ := ih3
    exact ⟨a :: (l1 ++ o :: c :: (m1 ++ k1)), by simp, by simp⟩
  | altsMore at_ ts p l a r t r' _ _ _ _ ih1 ih2 =>
    obtain ⟨l1, rfl, _⟩ := ih1; obtain ⟨m1, rfl, _⟩ := ih2
    exact ⟨p :: (l1 ++ m1), by simp, by simp⟩
  | altsEnd at_ ts q r _ => exact ⟨[q], rfl, by simp⟩
  | alt_ c vs a l b r _ _ _ _ _ ih => obtain ⟨l1, rfl, _⟩ := ih; exact ⟨c :: (vs ++ a :: l1), by simp, by simp⟩
  | cmpE l t r _ ih => obtain ⟨l1, e, h⟩ := ih; exact ⟨l1, e, fun _ => h rfl⟩
  | cmp0 l t r _ _ _ ih => obtain ⟨l1, e, h⟩ := ih; exact ⟨l1, e, fun _ => h rfl⟩
  | cmp1 l t o r1 b r _ _ _ ih1 ih2 =>
    obtain ⟨l1, rfl, _⟩ := ih1; obtain ⟨m1, rfl, _⟩ := ih2
    exact ⟨l1 ++ o :: m1, by simp, by simp⟩
  | lev b l t r1 t' r _ _ ih1 ih2 =>
    obtain ⟨l1, rfl, h⟩ := ih1; obtain ⟨m1, rfl, _⟩ := ih2
    have := h (sub_tight b)
    exact ⟨l1 ++ m1, by simp, by simp [this]⟩
  | ops0 b t r _ _ => exact ⟨[], rfl, fun h => by cases h⟩
  | ops1 b t o l x r t' r' _ _ _ ih1 ih2 =>
    obtain ⟨l1, rfl, _⟩ := ih1; obtain ⟨m1, rfl, _⟩ := ih2
    exact ⟨o :: (l1 ++ m1), by simp, by simp⟩
  | app l t r1 t' r _ _ ih1 ih2 =>
    obtain ⟨l1, rfl, h⟩ := ih1; obtain ⟨m1, rfl, _⟩ := ih2
    have := h rfl
    exact ⟨l1 ++ m1, by simp, by simp [this]⟩
  | args0 c t r _ => exact ⟨[], rfl, fun h => by cases h⟩
  | argsC t l a r t' r' _ _ _ ih1 ih2 =>
    obtain ⟨l1, rfl, _⟩ := ih1; obtain ⟨m1, rfl, _⟩ := ih2
    exact ⟨l1 ++ m1, by simp, fun h => by cases h⟩
  | argsA t l a r t' r' _ _ ih1 ih2 =>
    obtain ⟨l1, rfl, _⟩ := ih1; obtain ⟨m1, rfl, _⟩ := ih2
    exact ⟨l1 ++ m1, by simp, fun h => by cases h⟩
  | paren a q l t r _ _ _ ih => obtain ⟨l1, rfl, _⟩ := ih; exact ⟨a :: (l1 ++ [q]), by simp, by simp⟩
  | var x r _ => exact ⟨[x], rfl, by simp⟩
  | con x r _ => exact ⟨[x], rfl, by simp⟩
  | int x r _ => exact ⟨[x], rfl, by simp⟩
theorem der_len {nt : N} {l : List Tok} {t : Tree} {r : List Tok} (h : Der nt l t r) : r.length ≤ l.length ∧ (tight nt = true → r.length < l.length) := by
  obtain ⟨l1, rfl, h1⟩ := der_suffix h
  refine ⟨by simp, fun ht => ?_⟩
  have := h1 ht
  have : 0 < l1.length := List.length_pos_iff.2 this
  simp
  omega

/-! ### What is read by the rules, is read -/
/-- the functions, at a fuel -/
def runN (n : Nat) : N → List Tok → PR
  | .expr, l => pExpr (n + 1) l
  | .cmp, l => pCmp (pExpr n) l
  | .app, l => pApp (pExpr n) l
  | .atom, l => pAtom (pExpr n) l
  | .alt, l => pAlt (pExpr n) l
  | .lev true, l => pProd (pExpr n) l
  | .lev false, l => pSum (pExpr n) l
  | .args c t, l => pArgs (pExpr n) c (l.length + 1) t l
  | .ops true t, l => pOps (pApp (pExpr n)) (sg1 true) (sg2 true) (l.length + 1) t l
  | .ops false t, l => pOps (pProd (pExpr n)) (sg1 false) (sg2 false) (l.length + 1) t l
  | .alts a ts, l => pAlts (pExpr n) a (l.length + 1) ts l
theorem args_fuel {ex : List Tok → PR} (hex : Sh ex) (c : Bool) : ∀ m m' t l, l.length < m → l.length < m' → pArgs ex c m t l = pArgs ex c m' t l
  | 0, _, _, _, h, _ => by omega
  | _ + 1, 0, _, _, _, h => by omega
  | m + 1, m' + 1, t, l, h, h' => by
    unfold pArgs
    split
    · split
      · split
        · cases ha : pAtom ex l with
          | ok a r =>
            have := sh_atom hex _ _ _ ha
            exact args_fuel hex c m m' _ r (by omega) (by omega)
          | fail r => rfl
        · rfl
      · cases ha : pAtom ex l with
        | ok a r =>
          have := sh_atom hex _ _ _ ha
          exact args_fuel hex c m m' _ r (by omega) (by omega)
        | fail r => rfl
    · rfl
theorem ops_fuel {right : List Tok → PR} (hr : Sh right) (s1 s2 : ByteArray) : ∀ m m' t l, l.length < m → l.length < m' → pOps right s1 s2 m t l = pOps right s1 s2 m' t l
  | 0, _, _, _, h, _ => by omega
  | _ + 1, 0, _, _, _, h => by omega
  | m + 1, m' + 1, t, l, h, h' => by
    unfold pOps
    split
    · cases ha : right l.tail with
      | ok a r =>
        have := hr _ _ _ ha
        have := tail_le l
        exact ops_fuel hr s1 s2 m m' _ r (by omega) (by omega)
      | fail r => rfl
    · rfl
theorem alts_fuel {ex : List Tok → PR} (hex : Sh ex) (a : Int) : ∀ m m' ts l, l.length < m → l.length < m' → pAlts ex a m ts l = pAlts ex a m' ts l
  | 0, _, _, _, h, _ => by omega
  | _ + 1, 0, _, _, _, h => by omega
  | m + 1, m' + 1, ts, l, h, h' => by
    unfold pAlts
    split
    · split
      · cases ha : pAlt ex l.tail with
        | ok b r =>
          have := sh_alt hex _ _ _ ha
          have := tail_le l
          exact alts_fuel hex a m m' _ r (by omega) (by omega)
        | fail r => rfl
      · rfl
    · rfl
theorem vars_run {f : List Tree → List Tok → PR} : ∀ m vs (ws : List Tok) l', ws.length < m → (∀ v ∈ ws, v.f0 = 1) → vs.length + ws.length ≤ 8 → kd l' ≠ 1 → pVars f m vs (ws ++ l') = f (vs ++ ws.map varT) l'
  | 0, _, _, _, h, _, _, _ => by omega
  | m + 1, vs, [], l', _, _, _, hk => by
    rw [List.nil_append]
    unfold pVars
    rw [if_neg hk]
    simp
  | m + 1, vs, x :: ws, l', h, h1, h2, hk => by
    unfold pVars
    have hx : kd (x :: ws ++ l') = 1 := h1 x (by simp)
    simp at h h2
    rw [if_pos hx, if_pos (by omega)]
    have := vars_run m (vs ++ [varT x]) ws l' h (fun v hv => h1 v (by simp [hv])) (by simp; omega) hk (f := f)
    simpa [hd] using this
theorem kd_of_isT {a : Tok} {l : List Tok} {s : ByteArray} (h : isT a s = true) {k : Int} (h4 : k ≠ 4) (h5 : k ≠ 5) : kd (a :: l) ≠ k := by
  intro e
  have e' : a.f0 = k := e
  rcases isT_kind h with h | h <;> omega
/-- an atom's first token -/
theorem der_atom_head {l : List Tok} {t : Tree} {r : List Tok} (h : Der .atom l t r) : atomB l = true := by
  cases h with
  | paren a q l t r ha _ _ => simp [atomB, isW_cons, ha]
  | var x r h => simp [atomB, kd, h]
  | con x r h => simp [atomB, kd, h]
  | int x r h => simp [atomB, kd, h]
theorem atomB_no {l : List Tok} (h : atomB l = true) (s : ByteArray) (hs : s.data.toList ≠ [40]) : isW l s = false := by
  cases l with
  | nil => rfl
  | cons a l =>
    rw [isW_cons]
    unfold atomB at h
    rw [isW_cons] at h
    rcases Bool.or_eq_true_iff.1 h with h | h
    · exact isT_other h (fun e => hs e.symm)
    · have h' : (a.f0 = 1 ∨ a.f0 = 2) ∨ a.f0 = 3 := by simpa [kd] using h
      exact isT_of_kind (by omega) (by omega) s
def fronted : N → Bool
  | .cmp => true
  | .app => true
  | .atom => true
  | .lev _ => true
  | _ => false
theorem der_front {nt : N} {l : List Tok} {t : Tree} {r : List Tok} (h : Der nt l t r) : fronted nt = true → atomB l = true := by
  induction h with
  | cmp0 l t r _ _ _ ih => exact fun _ => ih rfl
  | cmp1 l t o r1 b r _ _ _ ih1 ih2 => exact fun _ => ih1 rfl
  | lev b l t r1 t' r _ _ ih1 ih2 => exact fun _ => ih1 (by cases b <;> rfl)
  | app l t r1 t' r h1 _ _ _ => exact fun _ => der_atom_head h1
  | paren a q l t r ha h hq _ => exact fun _ => der_atom_head (.paren a q l t r ha h hq)
  | var x r h => exact fun _ => der_atom_head (.var x r h)
  | con x r h => exact fun _ => der_atom_head (.con x r h)
  | int x r h => exact fun _ => der_atom_head (.int x r h)
  | _ => intro h; cases h
theorem der_run {nt : N} {l : List Tok} {t : Tree} {r : List Tok} (h : Der nt l t r) : ∀ n, l.length ≤ n → runN n nt l = .ok t r := by
  induction h with
  | lam a x d l b r ha hx hd_ hb ih =>
    intro n hn
    simp at hn
    obtain ⟨n, rfl⟩ : ∃ k, n = k + 1 := ⟨n - 1, by omega⟩
    show pExpr (n + 1 + 1) _ = _
    have e := ih n (by omega)
    unfold pExpr
    rw [if_pos (by rw [isW_cons]; exact ha)]
    unfold pLam
    rw [word_pos (by rw [isW_cons]; exact ha), kindP_pos (by exact hx), word_pos (by exact hd_)]
    show (pExpr (n + 1) l).bind _ = _
    rw [show pExpr (n + 1) l = .ok b r from e]
    rfl
  | let_ k a x e i l l2 v b r hk hx he hv hi hb ih1 ih2 =>
    intro n hn
    simp at hn
    obtain ⟨n, rfl⟩ : ∃ k, n = k + 1 := ⟨n - 1, by omega⟩
    have e1 : pExpr (n + 1) l = .ok v (i :: l2) := ih1 n (by omega)
    have hl := (der_len hv).1
    simp at hl
    have e2 : pExpr (n + 1) l2 = .ok b r := ih2 n (by omega)
    have hp : pLet (pExpr (n + 1)) k (a :: x :: e :: l) = .ok ⟨k, x.f1, 0, a.f3, [v, b]⟩ r := by
      unfold pLet
      rw [kindP_pos (by exact hx), word_pos (by exact he)]
      show (pExpr (n + 1) l).bind _ = _
      rw [e1, PR.bind_ok, word_pos (by exact hi)]
      show (pExpr (n + 1) l2).bind _ = _
      rw [e2]
      rfl
    show pExpr (n + 1 + 1) _ = _
    unfold pExpr
    rcases hk with ⟨hk, rfl⟩ | ⟨hk, rfl⟩
    · rw [if_neg (by rw [isW_cons, isT_other hk (by decide)]; decide), if_pos (by rw [isW_cons]; exact hk)]
      exact hp
    · rw [if_neg (by rw [isW_cons, isT_other hk (by decide)]; decide), if_neg (by rw [isW_cons, isT_other hk (by decide)]; decide), if_pos (by rw [isW_cons]; exact hk)]
      exact hp
  | case_ a o c l l2 l3 v b t r ha hv ho hc hb ht ih1 ih2 ih3 =>
    intro n hn
    simp at hn
    obtain ⟨n, rfl⟩ : ∃ k, n = k + 1 := ⟨n - 1, by omega⟩
    have hl := (der_len hv).1
    have hl2 := (der_len hb).1
    simp at hl
    have e1 : pExpr (n + 1) l = .ok v (o :: c :: l2) := ih1 n (by omega)
    have e2 : pAlt (pExpr (n + 1)) l2 = .ok b l3 := ih2 (n + 1) (by omega)
    have e3 : pAlts (pExpr (n + 1)) a.f3 (l3.length + 1) [v, b] l3 = .ok t r := ih3 (n + 1) (by omega)
    show pExpr (n + 1 + 1) _ = _
    unfold pExpr
    rw [if_neg (by rw [isW_cons, isT_other ha (by decide)]; decide), if_neg (by rw [isW_cons, isT_other ha (by decide)]; decide), if_neg (by rw [isW_cons, isT_other ha (by decide)]; decide), if_pos (by rw [isW_cons]; exact ha)]
    unfold pCase
    rw [word_pos (by rw [isW_cons]; exact ha)]
    show (pExpr (n + 1) l).bind _ = _
    rw [e1, PR.bind_ok, word_pos (by exact ho), word_pos (by exact hc)]
    show (pAlt (pExpr (n + 1)) l2).bind _ = _
    rw [e2, PR.bind_ok]
    exact e3
  | altsMore at_ ts p l a r t r' hp hlen ha ht ih1 ih2 =>
    intro n hn
    simp at hn
    have hl := (der_len ha).1
    have e1 : pAlt (pExpr n) l = .ok a r := ih1 n (by omega)
    have e2 : pAlts (pExpr n) at_ (r.length + 1) (ts ++ [a]) r = .ok t r' := ih2 n (by omega)
    show pAlts (pExpr n) at_ ((p :: l).length + 1) ts (p :: l) = _
    unfold pAlts
    rw [if_pos (by rw [isW_cons]; exact hp), if_pos hlen]
    show (pAlt (pExpr n) l).bind _ = _
    rw [e1, PR.bind_ok, alts_fuel (sh_expr n) at_ _ (r.length + 1) _ _ (by simp; omega) (by omega)]
    exact e2
  | altsEnd at_ ts q r hq =>
    intro n hn
    show pAlts (pExpr n) at_ ((q :: r).length + 1) ts (q :: r) = _
    unfold pAlts
    rw [if_neg (by rw [isW_cons, isT_other hq (by decide)]; decide), word_pos (by exact hq)]
    rfl
  | alt_ c vs a l b r hc hv hlen ha hb ih =>
    intro n hn
    simp at hn
    obtain ⟨n, rfl⟩ : ∃ k, n = k + 1 := ⟨n - 1, by omega⟩
    have e1 : pExpr (n + 1) l = .ok b r := ih n (by omega)
    show pAlt (pExpr (n + 1)) _ = _
    unfold pAlt
    rw [kindP_pos (by exact hc)]
    show pVars _ _ [] (vs ++ a :: l) = _
    rw [vars_run _ _ _ _ (by simp; omega) hv (by simpa using hlen) (kd_of_isT ha (by decide) (by decide)), word_pos (by exact ha)]
    show (pExpr (n + 1) l).bind _ = _
    rw [e1, PR.bind_ok]
    simp [hd]
  | cmpE l t r hc ih =>
    intro n hn
    have hf := der_front hc rfl
    have e := ih n hn
    show pExpr (n + 1) l = _
    unfold pExpr
    rw [if_neg (by rw [atomB_no hf _ (by decide)]; decide), if_neg (by rw [atomB_no hf _ (by decide)]; decide), if_neg (by rw [atomB_no hf _ (by decide)]; decide), if_neg (by rw [atomB_no hf _ (by decide)]; decide)]
    exact e
  | cmp0 l t r hs h1 h2 ih =>
    intro n hn
    have e : pSum (pExpr n) l = .ok t r := ih n hn
    show pCmp (pExpr n) l = _
    unfold pCmp
    rw [e, PR.bind_ok, h1, h2]
    rfl
  | cmp1 l t o r1 b r hs ho hb ih1 ih2 =>
    intro n hn
    have e : pSum (pExpr n) l = .ok t (o :: r1) := ih1 n hn
    have hl := (der_len hs).1
    simp at hl
    have e2 : pSum (pExpr n) r1 = .ok b r := ih2 n (by omega)
    show pCmp (pExpr n) l = _
    unfold pCmp
    rw [e, PR.bind_ok, isW_cons, isW_cons, if_pos (by simpa using ho)]
    show (pSum (pExpr n) r1).bind _ = _
    rw [e2]
    rfl
  | lev b l t r1 t' r hs ho ih1 ih2 =>
    intro n hn
    have hl := (der_len hs).1
    cases b with
    | true =>
      have e : pApp (pExpr n) l = .ok t r1 := ih1 n hn
      have e2 : pOps (pApp (pExpr n)) (sg1 true) (sg2 true) (r1.length + 1) t r1 = .ok t' r := ih2 n (by omega)
      show pProd (pExpr n) l = _
      unfold pProd
      rw [e, PR.bind_ok]
      exact e2
    | false =>
      have e : pProd (pExpr n) l = .ok t r1 := ih1 n hn
      have e2 : pOps (pProd (pExpr n)) (sg1 false) (sg2 false) (r1.length + 1) t r1 = .ok t' r := ih2 n (by omega)
      show pSum (pExpr n) l = _
      unfold pSum
      rw [e, PR.bind_ok]
      exact e2
  | ops0 b t r h1 h2 =>
    intro n hn
    cases b
    · show pOps _ _ _ (r.length + 1) t r = _
      unfold pOps
      rw [h1, h2]
      rfl
    · show pOps _ _ _ (r.length + 1) t r = _
      unfold pOps
      rw [h1, h2]
      rfl
  | ops1 b t o l x r t' r' ho hx ht ih1 ih2 =>
    intro n hn
    simp at hn
    have hl := (der_len hx).1
    cases b with
    | true =>
      have e : pApp (pExpr n) l = .ok x r := ih1 n (by omega)
      have e2 : pOps (pApp (pExpr n)) (sg1 true) (sg2 true) (r.length + 1) (opT o.f1 t x) r = .ok t' r' := ih2 n (by omega)
      show pOps (pApp (pExpr n)) (sg1 true) (sg2 true) ((o :: l).length + 1) t (o :: l) = _
      unfold pOps
      rw [isW_cons, isW_cons, if_pos (by simpa using ho)]
      show (pApp (pExpr n) l).bind _ = _
      rw [e, PR.bind_ok, ops_fuel (sh_app (sh_expr n)) _ _ _ (r.length + 1) _ _ (by simp; omega) (by omega)]
      exact e2
    | false =>
      have e : pProd (pExpr n) l = .ok x r := ih1 n (by omega)
      have e2 : pOps (pProd (pExpr n)) (sg1 false) (sg2 false) (r.length + 1) (opT o.f1 t x) r = .ok t' r' := ih2 n (by omega)
      show pOps (pProd (pExpr n)) (sg1 false) (sg2 false) ((o :: l).length + 1) t (o :: l) = _
      unfold pOps
      rw [isW_cons, isW_cons, if_pos (by simpa using ho)]
      show (pProd (pExpr n) l).bind _ = _
      rw [e, PR.bind_ok, ops_fuel (sh_prod (sh_expr n)) _ _ _ (r.length + 1) _ _ (by simp; omega) (by omega)]
      exact e2
  | app l t r1 t' r ha ht ih1 ih2 =>
    intro n hn
    have hl := (der_len ha).1
    have e : pAtom (pExpr n) l = .ok t r1 := ih1 n hn
    have e2 : pArgs (pExpr n) (kd l == 2) (r1.length + 1) t r1 = .ok t' r := ih2 n (by omega)
    show pApp (pExpr n) l = _
    unfold pApp
    rw [e, PR.bind_ok]
    exact e2
  | args0 c t r h =>
    intro n hn
    show pArgs (pExpr n) c (r.length + 1) t r = _
    unfold pArgs
    rw [h]
    rfl
  | argsC t l a r t' r' hlen ha ht ih1 ih2 =>
    intro n hn
    have hl := (der_len ha).2 rfl
    have e : pAtom (pExpr n) l = .ok a r := ih1 n hn
    have e2 : pArgs (pExpr n) true (r.length + 1) ⟨t.f0, t.f1, t.f2, t.f3, t.f4 ++ [a]⟩ r = .ok t' r' := ih2 n (by omega)
    show pArgs (pExpr n) true (l.length + 1) t l = _
    unfold pArgs
    rw [if_pos (der_atom_head ha), if_pos rfl, if_pos hlen, e, PR.bind_ok, args_fuel (sh_expr n) true _ (r.length + 1) _ _ (by omega) (by omega)]
    exact e2
  | argsA t l a r t' r' ha ht ih1 ih2 =>
    intro n hn
    have hl := (der_len ha).2 rfl
    have e : pAtom (pExpr n) l = .ok a r := ih1 n hn
    have e2 : pArgs (pExpr n) false (r.length + 1) ⟨3, ⟨#[]⟩, 0, t.f3, [t, a]⟩ r = .ok t' r' := ih2 n (by omega)
    show pArgs (pExpr n) false (l.length + 1) t l = _
    unfold pArgs
    rw [if_pos (der_atom_head ha), if_neg (by decide), e, PR.bind_ok, args_fuel (sh_expr n) false _ (r.length + 1) _ _ (by omega) (by omega)]
    exact e2
  | paren a q l t r ha ht hq ih =>
    intro n hn
    simp at hn
    obtain ⟨n, rfl⟩ : ∃ k, n = k + 1 := ⟨n - 1, by omega⟩
    have e : pExpr (n + 1) l = .ok t (q :: r) := ih n (by omega)
    show pAtom (pExpr (n + 1)) (a :: l) = _
    unfold pAtom
    rw [if_pos (by rw [isW_cons]; exact ha)]
    show (pExpr (n + 1) l).bind _ = _
    rw [e, PR.bind_ok, word_pos (by exact hq)]
    rfl
  | var x r h =>
    intro n hn
    show pAtom (pExpr n) (x :: r) = _
    unfold pAtom
    rw [if_neg (by rw [isW_cons, isT_of_kind (by omega) (by omega)]; decide)]
    simp only
    rw [if_pos h]
  | con x r h =>
    intro n hn
    show pAtom (pExpr n) (x :: r) = _
    unfold pAtom
    rw [if_neg (by rw [isW_cons, isT_of_kind (by omega) (by omega)]; decide)]
    simp only
    rw [if_neg (by omega), if_pos h]
  | int x r h =>
    intro n hn
    show pAtom (pExpr n) (x :: r) = _
    unfold pAtom
    rw [if_neg (by rw [isW_cons, isT_of_kind (by omega) (by omega)]; decide)]
    simp only
    rw [if_neg (by omega), if_neg (by omega), if_pos h]
/-- Reading, and the rules. -/
theorem expr_iff (n : Nat) (l : List Tok) (t : Tree) (r : List Tok) (h : l.length < n) : pExpr n l = .ok t r ↔ Der .expr l t r := by
  refine ⟨expr_der n l t r, fun hd => ?_⟩
  obtain ⟨n, rfl⟩ : ∃ k, n = k + 1 := ⟨n - 1, by omega⟩
  exact der_run hd n (by omega)
end Go.Proofs.YtajcnjdinmgpjaaGreatDoor.X
namespace Go.Proofs.YtajcnjdinmgpjaaGreatDoor.P
open Go.RowKit Go.Proofs.YtajcnjdinmgpjaaGreatDoorW.PrintWords Go.Proofs.YtajcnjdinmgpjaaGreatDoorW.PrintLast Go.Proofs.YtajcnjdinmgpjaaGreatDoorW.PrintMore
attribute [local go_sem] max2_int min2_int max_two min_two max_three min_three max_four min_four   -- for this text's walks alone
set_option linter.unusedVariables false
set_option linter.unusedSimpArgs false

/-! ### tree_Depth: function 17 -/
mutual
def tree_Depth.l0 : Nat → Int → List (S25) → Int → Int → Option (Int)
  | 0, _, _, _, _ => none
  | k + 1, x3, x7, x8, x9 => if x9 < x8 then (if 0 ≤ x9 then (if x9 < (x7.length : Int) then ((tree_Depth.f k ((rd_T25 x7 x9).f0) ((rd_T25 x7 x9).f1) ((rd_T25 x7 x9).f2) ((rd_T25 x7 x9).f3) ((rd_T25 x7 x9).f4)).bind fun t212 => (tree_Depth.l0 k (mx x3 t212) x7 x8 (wrap64 (x9 + 1)))) else (none)) else (none)) else (some (wrap64 (x3 + 1)))
def tree_Depth.f : Nat → Int → ByteArray → Int → Int → List (S25) → Option (Int)
  | 0, _, _, _, _, _ => none
  | k + 1, a0_0, a0_1, a0_2, a0_3, l0_4 => tree_Depth.l0 k 0 l0_4 (l0_4.length : Int) 0
end
theorem tree_Depth.mono_l : ∀ k, (∀ y0 y1 y2 y3 y4, LeO (tree_Depth.f k y0 y1 y2 y3 y4) (tree_Depth.f (k + 1) y0 y1 y2 y3 y4)) ∧ (∀ y0 y1 y2 y3, LeO (tree_Depth.l0 k y0 y1 y2 y3) (tree_Depth.l0 (k + 1) y0 y1 y2 y3))
  | 0 => ⟨fun _ _ _ _ _ r h => by simp [tree_Depth.f] at h, fun _ _ _ _ r h => by simp [tree_Depth.l0] at h⟩
  | k + 1 => by
    obtain ⟨ih0, ih1⟩ := tree_Depth.mono_l k
    refine ⟨?_, ?_⟩
    · intro y0 y1 y2 y3 y4
      unfold tree_Depth.f
      repeat' first
      | (with_reducible exact ih0 _ _ _ _ _)
      | (with_reducible exact ih1 _ _ _ _)
      | (with_reducible exact LeO.refl _)
      | (with_reducible exact LeO.none _)
      | (with_reducible refine LeO.ite ?_ ?_)
      | (with_reducible refine LeO.bind ?_ (fun _ => ?_))
      | exact ih0 _ _ _ _ _
      | exact ih1 _ _ _ _
      | exact LeO.none _
      | refine LeO.ite ?_ ?_
      | refine LeO.bind ?_ (fun _ => ?_)
    · intro y0 y1 y2 y3
      unfold tree_Depth.l0
      repeat' first
      | (with_reducible exact ih0 _ _ _ _ _)
      | (with_reducible exact ih1 _ _ _ _)
      | (with_reducible exact LeO.refl _)
      | (with_reducible exact LeO.none _)
      | (with_reducible refine LeO.ite ?_ ?_)
      | (with_reducible refine LeO.bind ?_ (fun _ => ?_))
      | exact ih0 _ _ _ _ _
      | exact ih1 _ _ _ _
      | exact LeO.none _
      | refine LeO.ite ?_ ?_
      | refine LeO.bind ?_ (fun _ => ?_)
theorem tree_Depth.mono : ∀ a0 a1 a2 a3 a4 k, LeO (tree_Depth.f k a0 a1 a2 a3 a4) (tree_Depth.f (k + 1) a0 a1 a2 a3 a4) := by
  intro a0 a1 a2 a3 a4 k
  obtain ⟨ih0, ih1⟩ := tree_Depth.mono_l k
  exact ih0 a0 a1 a2 a3 a4
set_option maxHeartbeats 8000000 in
set_option maxRecDepth 100000 in
theorem tree_Depth.calls (k : Nat) : ∀ (a0_0 : Int) (a0_1 : ByteArray) (a0_2 : Int) (a0_3 : Int) (A0_4 : Option Addr) (c0_4 : Nat) (l0_4 : List (S25)) (r : Int) (w : World) (hr0_4 : Kd.C k25 w A0_4 l0_4.length l0_4) (hc0_4 : l0_4.length ≤ c0_4) (h : tree_Depth.f k a0_0 a0_1 a0_2 a0_3 l0_4 = some r),
    Calls Tryz.prog 17 #[.agg #[.int .i64 a0_0, .string a0_1, .int .i64 a0_2, .int .i64 a0_3, .slice A0_4 l0_4.length c0_4]] w fun e w' => e = .returned (.int .i64 r) ∧ Below w.heap.size w w' := by
  induction k using Nat.strongRecOn with
  | _ k ih =>
  intro a0_0 a0_1 a0_2 a0_3 A0_4 c0_4 l0_4 r w hr0_4 hc0_4 h
  cases k with
  | zero => exact absurd h (by simp [tree_Depth.f])
  | succ k =>
  simp only [tree_Depth.f] at h
  have hu25 := Tryz.underlying25
  have HR0_4 := Aside0.mk hr0_4
  have HC0_4 := Aside0.mk hc0_4
  clear hr0_4 hc0_4
  have HB := Aside0.mk (Below.refl w.heap.size w)
  have H : (tree_Depth.l0 k 0 l0_4 (l0_4.length : Int) 0) = some r := h
  clear h
  have H' := Aside0.mk H
  clear H
  go_enter Tryz.func17, Tryz.ntmps17
  go_wp2_with (first | ((with_reducible refine gate_dst (N := 1) rfl ?_); refine box_event ?hg (N := 1) ?hd (cs := #[.int .i64 a0_0, .string a0_1, .int .i64 a0_2, .int .i64 a0_3, .slice A0_4 l0_4.length c0_4]) (t := 25) ?hr ?_; (case hd => rfl); (case hg => rfl); (case hr => first | (go_simp; done) | (go_simp; rfl)); intro gb209 hg w2 hbox hb; have n0_ := Aside0.mk (below_step (by repeat (first | (with_reducible first | exact HB.out | apply below_alloc | apply pw_below_drewN | apply below_drew1) | exact HB.out)) hb); have n1_ := Aside0.mk (hbox); have n2_ := Aside0.mk ((by rw [hg]; exact (below_size (by repeat (first | (with_reducible first | exact HB.out | apply below_alloc | apply pw_below_drewN | apply below_drew1) | exact HB.out))) : w.heap.size ≤ gb209)); have n3_ := Aside0.mk ((by rw [hg]; exact (below_size (by repeat (first | (with_reducible first | exact HB.out | apply below_alloc | apply pw_below_drewN | apply below_drew1) | exact HB.out))) : w.heap.size ≤ gb209)); clear HB; have HB := n0_; have BK209 := n1_; have GW209 := n2_; have GE209 := n3_; clear n0_ n1_ n2_ n3_; clear hb hbox hg; have hcz3_0 : w2.cell? ⟨gb209, 0, none⟩ = some (.int .i64 a0_0) := (blk_cell BK209.out 0).trans rfl; have hcz3_1 : w2.cell? ⟨gb209, 1, none⟩ = some (.string a0_1) := (blk_cell BK209.out 1).trans rfl; have hcz3_2 : w2.cell? ⟨gb209, 2, none⟩ = some (.int .i64 a0_2) := (blk_cell BK209.out 2).trans rfl; have hcz3_3 : w2.cell? ⟨gb209, 3, none⟩ = some (.int .i64 a0_3) := (blk_cell BK209.out 3).trans rfl; have hcz3_4 : w2.cell? ⟨gb209, 4, none⟩ = some (.slice A0_4 l0_4.length c0_4) := (blk_cell BK209.out 4).trans rfl; have hfz3_0 := blk_frozen BK209.out 0; have hfz3_1 := blk_frozen BK209.out 1; have hfz3_2 := blk_frozen BK209.out 2; have hfz3_3 := blk_frozen BK209.out 3; have hfz3_4 := blk_frozen BK209.out 4))
  go_loopg [3, 9] k (fun kq v3 v9 w' => ∃ (x3_1 : Int) (x9_1 : Int), v3 = .int .i64 x3_1 ∧ v9 = .int .i64 x9_1 ∧ Aside0 (tree_Depth.l0 kq x3_1 l0_4 (l0_4.length : Int) x9_1 = some r) ∧ Aside0 (kq ≤ k) ∧ Aside0 (w'.heap[gb209]? = some (.cells #[.int .i64 a0_0, .string a0_1, .int .i64 a0_2, .int .i64 a0_3, (.slice A0_4 l0_4.length c0_4)] 25 (0, 0))) ∧ Aside0 (Below w.heap.size w w'))
  case atStart => exact ⟨(0), (0), (by first | rfl | (simp; done) | (simp [*]; done)), (by first | rfl | (simp; done) | (simp [*]; done)), H', ⟨Nat.le_refl _⟩, ⟨by (with_reducible repeat (first | refine blk_drewN ?_ _ | refine blk_drew ?_ | refine blk_alloc ?_ _)); exact BK209.out⟩, ⟨by repeat (first | (with_reducible first | exact HB.out | apply below_alloc | apply pw_below_drewN | apply below_drew1 | refine below_set ?_ GE209.out) | exact HB.out)⟩⟩
  case round =>
    clear H'
    try clear c1
    try clear p2
    try clear hcz3_0
    try clear hcz3_1
    try clear hcz3_2
    try clear hcz3_3
    try clear hcz3_4
    try clear hfz3_0
    try clear hfz3_1
    try clear hfz3_2
    try clear hfz3_3
    try clear hfz3_4
    obtain ⟨x3_1, x9_1, rfl, rfl, HA, HK1, BK209, HB⟩ := hrel
    cases gk with
    | zero => exact absurd HA.out (by simp [tree_Depth.l0])
    | succ k1 =>
      have H := HA.out
      clear HA
      simp only [tree_Depth.l0] at H
      by_cases c4 : x9_1 < (l0_4.length : Int)
      · rw [if_pos c4] at H
        have c4b0 : decide (x9_1 < (l0_4.length : Int)) = true := decide_eq_true c4
        clear c4
        by_cases c5 : 0 ≤ x9_1
        · rw [if_pos c5] at H
          have c5b0 : decide (0 ≤ x9_1) = true := decide_eq_true c5
          clear c5
          by_cases c6 : x9_1 < (l0_4.length : Int)
          · rw [if_pos c6] at H
            have c6b0 : decide (x9_1 < (l0_4.length : Int)) = true := decide_eq_true c6
            clear c6
            replace H := Option.bind_eq_some_iff.mp H
            obtain ⟨t212, A70, H⟩ := H
            replace H : (tree_Depth.l0 k1 (mx x3_1 t212) l0_4 (l0_4.length : Int) (wrap64 (x9_1 + 1))) = some r := H
            have A7 := Aside0.mk A70
            clear A70
            obtain ⟨ji8, hji8⟩ : ∃ j_ : Int, (mx x3_1 t212) = j_ := ⟨_, rfl⟩
            replace H : (tree_Depth.l0 k1 ji8 l0_4 (l0_4.length : Int) (wrap64 (x9_1 + 1))) = some r := by first | (rw [hji8] at H; exact H) | (simp only [hji8] at H ⊢; exact H)
            (try rw [hji8] at A7)
            have hji8_ : (if x3_1 < t212 then t212 else x3_1) = ji8 := hji8
            have H' := Aside0.mk H
            clear H
            have p210 : 0 ≤ (x9_1 : Int) := of_decide_eq_true (by first | (with_reducible assumption) | assumption)
            have q210 : x9_1 < (l0_4.length : Int) := of_decide_eq_true (by first | (with_reducible assumption) | assumption)
            obtain ⟨ad210, A210_4, c210_4, e210, hx210_0, hx210_1, hx210_2, hx210_3, hx210_4, hl210_4, hi210_4⟩ := at_T25 HR0_4.out x9_1 p210 q210
            cases e210
            replace hx210_0 := (HB.out.cell (World.block_lt_of_cell? w _ hx210_0)).trans hx210_0
            replace hx210_1 := (HB.out.cell (World.block_lt_of_cell? w _ hx210_1)).trans hx210_1
            replace hx210_2 := (HB.out.cell (World.block_lt_of_cell? w _ hx210_2)).trans hx210_2
            replace hx210_3 := (HB.out.cell (World.block_lt_of_cell? w _ hx210_3)).trans hx210_3
            replace hx210_4 := (HB.out.cell (World.block_lt_of_cell? w _ hx210_4)).trans hx210_4
            have HR210_4 := Aside0.mk hi210_4
            have HC210_4 := Aside0.mk hl210_4
            clear hi210_4 hl210_4
            replace p210 := eq_true p210
            replace q210 := eq_true q210
            go_wp2_with (first | ((with_reducible refine gate_dst (N := 5) rfl ?_); refine box_event ?hg (N := 5) ?hd (cs := #[.int .i64 0, .string (⟨#[]⟩ : ByteArray), .int .i64 0, .int .i64 0, .slice none 0 0]) (t := 25) ?hr ?_; (case hd => rfl); (case hg => rfl); (case hr => first | (go_simp; done) | (go_simp; rfl)); intro gb211 hg w9 hbox hb; have n0_ := Aside0.mk (blk_below (g := gb209) (o := .cells #[.int .i64 a0_0, .string a0_1, .int .i64 a0_2, .int .i64 a0_3, .slice (some ad210) l0_4.length c0_4] 25 (0, 0)) (by (with_reducible repeat (first | refine blk_drewN ?_ _ | refine blk_drew ?_ | refine blk_alloc ?_ _)); exact BK209.out) hb); have n1_ := Aside0.mk (below_step (by repeat (first | (with_reducible first | exact HB.out | apply below_alloc | apply pw_below_drewN | apply below_drew1 | refine below_set ?_ GE209.out) | exact HB.out)) hb); have n2_ := Aside0.mk (hbox); have n3_ := Aside0.mk ((by rw [hg]; exact (below_size (by repeat (first | (with_reducible first | exact HB.out | apply below_alloc | apply pw_below_drewN | apply below_drew1 | refine below_set ?_ GE209.out) | exact HB.out))) : w.heap.size ≤ gb211)); have n4_ := Aside0.mk ((by rw [hg]; exact (below_size (by repeat (first | (with_reducible first | exact HB.out | apply below_alloc | apply pw_below_drewN | apply below_drew1 | refine below_set ?_ GE209.out) | exact HB.out))) : w.heap.size ≤ gb211)); have n5_ := Aside0.mk ((by rw [hg]; exact Nat.ne_of_lt (blk_lt (g := gb209) (o := .cells #[.int .i64 a0_0, .string a0_1, .int .i64 a0_2, .int .i64 a0_3, .slice (some ad210) l0_4.length c0_4] 25 (0, 0)) (by (with_reducible repeat (first | refine blk_drewN ?_ _ | refine blk_drew ?_ | refine blk_alloc ?_ _)); exact BK209.out)) : gb209 ≠ gb211)); have n6_ := Aside0.mk ((by rw [hg]; exact Nat.ne_of_gt (blk_lt (g := gb209) (o := .cells #[.int .i64 a0_0, .string a0_1, .int .i64 a0_2, .int .i64 a0_3, .slice (some ad210) l0_4.length c0_4] 25 (0, 0)) (by (with_reducible repeat (first | refine blk_drewN ?_ _ | refine blk_drew ?_ | refine blk_alloc ?_ _)); exact BK209.out)) : gb211 ≠ gb209)); clear BK209; clear HB; have BK209 := n0_; have HB := n1_; have BK211 := n2_; have GW211 := n3_; have GE211 := n4_; have NB209_211 := n5_; have NB211_209 := n6_; clear n0_ n1_ n2_ n3_ n4_ n5_ n6_; clear hb hbox hg; have hnb10 := NB211_209.out; have hnc10 := NB209_211.out; have hcz11_0 : w9.cell? ⟨gb211, 0, none⟩ = some (.int .i64 0) := (blk_cell BK211.out 0).trans rfl; have hcz11_1 : w9.cell? ⟨gb211, 1, none⟩ = some (.string (⟨#[]⟩ : ByteArray)) := (blk_cell BK211.out 1).trans rfl; have hcz11_2 : w9.cell? ⟨gb211, 2, none⟩ = some (.int .i64 0) := (blk_cell BK211.out 2).trans rfl; have hcz11_3 : w9.cell? ⟨gb211, 3, none⟩ = some (.int .i64 0) := (blk_cell BK211.out 3).trans rfl; have hcz11_4 : w9.cell? ⟨gb211, 4, none⟩ = some (.slice none 0 0) := (blk_cell BK211.out 4).trans rfl; have hfz11_0 := blk_frozen BK211.out 0; have hfz11_1 := blk_frozen BK211.out 1; have hfz11_2 := blk_frozen BK211.out 2; have hfz11_3 := blk_frozen BK211.out 3; have hfz11_4 := blk_frozen BK211.out 4) | ((with_reducible refine gate_callee (f := 17) rfl ?_); refine goesL_ (some 15) rfl rfl Tryz.func17 (by kernel_rfl) rfl #[.agg #[.int .i64 ((rd_T25 l0_4 x9_1).f0), .string ((rd_T25 l0_4 x9_1).f1), .int .i64 ((rd_T25 l0_4 x9_1).f2), .int .i64 ((rd_T25 l0_4 x9_1).f3), .slice A210_4 ((rd_T25 l0_4 x9_1).f4).length c210_4]] rfl (by (try simp only [List.map_toArray, List.map_cons, List.map_nil]); first | done | rfl | (simp only [List.length_drop, List.length_take]; rfl)) ?_; (with_reducible refine (ih k1 (by have := HK1.out; omega) ((rd_T25 l0_4 x9_1).f0) ((rd_T25 l0_4 x9_1).f1) ((rd_T25 l0_4 x9_1).f2) ((rd_T25 l0_4 x9_1).f3) _ _ ((rd_T25 l0_4 x9_1).f4) t212 _ ?side1 ?side2 A7.out).mono ?_); (case side1 => exact Kd.C_below HR210_4.out (by repeat (first | (with_reducible first | exact HB.out | apply below_alloc | apply pw_below_drewN | apply below_drew1 | refine below_set ?_ GE209.out | refine below_set ?_ GE211.out) | exact HB.out))); (case side2 => exact HC210_4.out); rintro e w12 ⟨rfl, hb⟩; refine ⟨_, rfl, ?_⟩; have n0_ := Aside0.mk (blk_below (g := gb209) (o := .cells #[.int .i64 a0_0, .string a0_1, .int .i64 a0_2, .int .i64 a0_3, .slice (some ad210) l0_4.length c0_4] 25 (0, 0)) (by (with_reducible repeat (first | refine blk_drewN ?_ _ | refine blk_drew ?_ | refine blk_alloc ?_ _)); refine blk_far ?_ NB209_211.out _; (with_reducible repeat (first | refine blk_drewN ?_ _ | refine blk_drew ?_ | refine blk_alloc ?_ _)); refine blk_far ?_ NB209_211.out _; (with_reducible repeat (first | refine blk_drewN ?_ _ | refine blk_drew ?_ | refine blk_alloc ?_ _)); refine blk_far ?_ NB209_211.out _; (with_reducible repeat (first | refine blk_drewN ?_ _ | refine blk_drew ?_ | refine blk_alloc ?_ _)); refine blk_far ?_ NB209_211.out _; (with_reducible repeat (first | refine blk_drewN ?_ _ | refine blk_drew ?_ | refine blk_alloc ?_ _)); refine blk_far ?_ NB209_211.out _; (with_reducible repeat (first | refine blk_drewN ?_ _ | refine blk_drew ?_ | refine blk_alloc ?_ _)); exact BK209.out) hb); have n1_ := Aside0.mk (blk_below (g := gb211) (o := .cells #[.int .i64 ((rd_T25 l0_4 x9_1).f0), .string ((rd_T25 l0_4 x9_1).f1), .int .i64 ((rd_T25 l0_4 x9_1).f2), .int .i64 ((rd_T25 l0_4 x9_1).f3), .slice A210_4 ((rd_T25 l0_4 x9_1).f4).length c210_4] 25 (0, 0)) (by (with_reducible repeat (first | refine blk_drewN ?_ _ | refine blk_drew ?_ | refine blk_alloc ?_ _)); refine blk_put (cs := #[.int .i64 ((rd_T25 l0_4 x9_1).f0), .string ((rd_T25 l0_4 x9_1).f1), .int .i64 ((rd_T25 l0_4 x9_1).f2), .int .i64 ((rd_T25 l0_4 x9_1).f3), .slice none 0 0]) ?_ 4 _ rfl; (with_reducible repeat (first | refine blk_drewN ?_ _ | refine blk_drew ?_ | refine blk_alloc ?_ _)); refine blk_put (cs := #[.int .i64 ((rd_T25 l0_4 x9_1).f0), .string ((rd_T25 l0_4 x9_1).f1), .int .i64 ((rd_T25 l0_4 x9_1).f2), .int .i64 0, .slice none 0 0]) ?_ 3 _ rfl; (with_reducible repeat (first | refine blk_drewN ?_ _ | refine blk_drew ?_ | refine blk_alloc ?_ _)); refine blk_put (cs := #[.int .i64 ((rd_T25 l0_4 x9_1).f0), .string ((rd_T25 l0_4 x9_1).f1), .int .i64 0, .int .i64 0, .slice none 0 0]) ?_ 2 _ rfl; (with_reducible repeat (first | refine blk_drewN ?_ _ | refine blk_drew ?_ | refine blk_alloc ?_ _)); refine blk_put (cs := #[.int .i64 ((rd_T25 l0_4 x9_1).f0), .string (⟨#[]⟩ : ByteArray), .int .i64 0, .int .i64 0, .slice none 0 0]) ?_ 1 _ rfl; (with_reducible repeat (first | refine blk_drewN ?_ _ | refine blk_drew ?_ | refine blk_alloc ?_ _)); refine blk_put (cs := #[.int .i64 0, .string (⟨#[]⟩ : ByteArray), .int .i64 0, .int .i64 0, .slice none 0 0]) ?_ 0 _ rfl; (with_reducible repeat (first | refine blk_drewN ?_ _ | refine blk_drew ?_ | refine blk_alloc ?_ _)); exact BK211.out) hb); have n2_ := Aside0.mk (below_step (by repeat (first | (with_reducible first | exact HB.out | apply below_alloc | apply pw_below_drewN | apply below_drew1 | refine below_set ?_ GE209.out | refine below_set ?_ GE211.out) | exact HB.out)) hb); clear BK209; clear BK211; clear HB; have BK209 := n0_; have BK211 := n1_; have HB := n2_; clear n0_ n1_ n2_; (try clear hb); (try clear hb2); (try clear hk); (try clear hi)))
            go_roundg k1
            case measure => have := HK1.out; omega
            case rel => exact ⟨(ji8), (wrap64 (x9_1 + 1)), (by first | rfl | (simp; done) | (simp only [← hji8] <;> (first | rfl | simp)) | (simp [*]; done)), (by first | rfl | (simp; done) | (simp [*]; done)), H', ⟨by have := HK1.out; omega⟩, ⟨by (with_reducible repeat (first | refine blk_drewN ?_ _ | refine blk_drew ?_ | refine blk_alloc ?_ _)); exact BK209.out⟩, ⟨by repeat (first | (with_reducible first | exact HB.out | apply below_alloc | apply pw_below_drewN | apply below_drew1 | refine below_set ?_ GE209.out | refine below_set ?_ GE211.out) | exact HB.out)⟩⟩
          · rw [if_neg c6] at H
            exact absurd H (by simp)
        · rw [if_neg c5] at H
          exact absurd H (by simp)
      · rw [if_neg c4] at H
        have c4b0 : decide (x9_1 < (l0_4.length : Int)) = false := decide_eq_false c4
        clear c4
        obtain rfl := Option.some.inj H
        go_wp2
        go_ret
        exact ⟨by first | rfl | (simp [errW_none, errW_some] <;> rfl) | (simp [*, errW_none, errW_some] <;> rfl), by repeat (first | (with_reducible first | exact HB.out | apply below_alloc | apply pw_below_drewN | apply below_drew1 | refine below_set ?_ GE209.out) | exact HB.out)⟩

end Go.Proofs.YtajcnjdinmgpjaaGreatDoor.P
namespace Go.Proofs.YtajcnjdinmgpjaaGreatDoor.P
open Go.RowKit Go.Proofs.YtajcnjdinmgpjaaGreatDoorW.PrintWords Go.Proofs.YtajcnjdinmgpjaaGreatDoorW.PrintLast Go.Proofs.YtajcnjdinmgpjaaGreatDoorW.PrintMore
attribute [local go_sem] max2_int min2_int max_two min_two max_three min_three max_four min_four   -- for this text's walks alone
set_option linter.unusedVariables false
set_option linter.unusedSimpArgs false

/-! ### gossamerref02_One: function 7 -/
mutual
def gossamerref02_One.j0 : Nat → Bool → Int → ByteArray → Int → Int → List (S25) → Int → ByteArray → Int → Int → List (S25) → Option (Bool)
  | 0, _, _, _, _, _, _, _, _, _, _, _ => none
  | k + 1, x40, x215000, x215001, x215002, x215003, x215004, x216000, x216001, x216002, x216003, x216004 => if x40 = true then (some false) else (gossamerref02_One.l0 k 0 x215000 x215001 x215002 x215003 x215004 x216000 x216001 x216002 x216003 x216004)
def gossamerref02_One.l0 : Nat → Int → Int → ByteArray → Int → Int → List (S25) → Int → ByteArray → Int → Int → List (S25) → Option (Bool)
  | 0, _, _, _, _, _, _, _, _, _, _, _ => none
  | k + 1, x5, x215000, x215001, x215002, x215003, x215004, x216000, x216001, x216002, x216003, x216004 => if x5 < (x215004.length : Int) then (if 0 ≤ x5 then (if x5 < (x216004.length : Int) then ((gossamerref02_One.f k ((rd_T25 x215004 x5).f0) ((rd_T25 x215004 x5).f1) ((rd_T25 x215004 x5).f2) ((rd_T25 x215004 x5).f3) ((rd_T25 x215004 x5).f4) ((rd_T25 x216004 x5).f0) ((rd_T25 x216004 x5).f1) ((rd_T25 x216004 x5).f2) ((rd_T25 x216004 x5).f3) ((rd_T25 x216004 x5).f4)).bind fun t218 => (if t218 = true then (gossamerref02_One.l0 k (wrap64 (x5 + 1)) x215000 x215001 x215002 x215003 x215004 x216000 x216001 x216002 x216003 x216004) else (some false))) else (none)) else (none)) else (some true)
def gossamerref02_One.f : Nat → Int → ByteArray → Int → Int → List (S25) → Int → ByteArray → Int → Int → List (S25) → Option (Bool)
  | 0, _, _, _, _, _, _, _, _, _, _ => none
  | k + 1, a0_0, a0_1, a0_2, a0_3, l0_4, a1_0, a1_1, a1_2, a1_3, l1_4 => if a0_0 = a1_0 then (if a0_1.toList = a1_1.toList then (if a0_2 = a1_2 then (if a0_3 = a1_3 then (gossamerref02_One.j0 k ((l0_4.length : Int) != (l1_4.length : Int)) a0_0 a0_1 a0_2 a0_3 l0_4 a1_0 a1_1 a1_2 a1_3 l1_4) else (gossamerref02_One.j0 k true a0_0 a0_1 a0_2 a0_3 l0_4 a1_0 a1_1 a1_2 a1_3 l1_4)) else (gossamerref02_One.j0 k true a0_0 a0_1 a0_2 a0_3 l0_4 a1_0 a1_1 a1_2 a1_3 l1_4)) else (gossamerref02_One.j0 k true a0_0 a0_1 a0_2 a0_3 l0_4 a1_0 a1_1 a1_2 a1_3 l1_4)) else (gossamerref02_One.j0 k true a0_0 a0_1 a0_2 a0_3 l0_4 a1_0 a1_1 a1_2 a1_3 l1_4)
end
theorem gossamerref02_One.mono_l : ∀ k, (∀ y0 y1 y2 y3 y4 y5 y6 y7 y8 y9, LeO (gossamerref02_One.f k y0 y1 y2 y3 y4 y5 y6 y7 y8 y9) (gossamerref02_One.f (k + 1) y0 y1 y2 y3 y4 y5 y6 y7 y8 y9)) ∧ (∀ y0 y1 y2 y3 y4 y5 y6 y7 y8 y9 y10, LeO (gossamerref02_One.j0 k y0 y1 y2 y3 y4 y5 y6 y7 y8 y9 y10) (gossamerref02_One.j0 (k + 1) y0 y1 y2 y3 y4 y5 y6 y7 y8 y9 y10)) ∧ (∀ y0 y1 y2 y3 y4 y5 y6 y7 y8 y9 y10, LeO (gossamerref02_One.l0 k y0 y1 y2 y3 y4 y5 y6 y7 y8 y9 y10) (gossamerref02_One.l0 (k + 1) y0 y1 y2 y3 y4 y5 y6 y7 y8 y9 y10))
  | 0 => ⟨fun _ _ _ _ _ _ _ _ _ _ r h => by simp [gossamerref02_One.f] at h, fun _ _ _ _ _ _ _ _ _ _ _ r h => by simp [gossamerref02_One.j0] at h, fun _ _ _ _ _ _ _ _ _ _ _ r h => by simp [gossamerref02_One.l0] at h⟩
  | k + 1 => by
    obtain ⟨ih0, ih1, ih2⟩ := gossamerref02_One.mono_l k
    refine ⟨?_, ?_, ?_⟩
    · intro y0 y1 y2 y3 y4 y5 y6 y7 y8 y9
      unfold gossamerref02_One.f
      repeat' first
      | (with_reducible exact ih0 _ _ _ _ _ _ _ _ _ _)
      | (with_reducible exact ih1 _ _ _ _ _ _ _ _ _ _ _)
      | (with_reducible exact ih2 _ _ _ _ _ _ _ _ _ _ _)
      | (with_reducible exact LeO.refl _)
      | (with_reducible exact LeO.none _)
      | (with_reducible refine LeO.ite ?_ ?_)
      | (with_reducible refine LeO.bind ?_ (fun _ => ?_))
      | exact ih0 _ _ _ _ _ _ _ _ _ _
      | exact ih1 _ _ _ _ _ _ _ _ _ _ _
      | exact ih2 _ _ _ _ _ _ _ _ _ _ _
      | exact LeO.none _
      | refine LeO.ite ?_ ?_
      | refine LeO.bind ?_ (fun _ => ?_)
    · intro y0 y1 y2 y3 y4 y5 y6 y7 y8 y9 y10
      unfold gossamerref02_One.j0
      repeat' first
      | (with_reducible exact ih0 _ _ _ _ _ _ _ _ _ _)
      | (with_reducible exact ih1 _ _ _ _ _ _ _ _ _ _ _)
      | (with_reducible exact ih2 _ _ _ _ _ _ _ _ _ _ _)
      | (with_reducible exact LeO.refl _)
      | (with_reducible exact LeO.none _)
      | (with_reducible refine LeO.ite ?_ ?_)
      | (with_reducible refine LeO.bind ?_ (fun _ => ?_))
      | exact ih0 _ _ _ _ _ _ _ _ _ _
      | exact ih1 _ _ _ _ _ _ _ _ _ _ _
      | exact ih2 _ _ _ _ _ _ _ _ _ _ _
      | exact LeO.none _
      | refine LeO.ite ?_ ?_
      | refine LeO.bind ?_ (fun _ => ?_)
    · intro y0 y1 y2 y3 y4 y5 y6 y7 y8 y9 y10
      unfold gossamerref02_One.l0
      repeat' first
      | (with_reducible exact ih0 _ _ _ _ _ _ _ _ _ _)
      | (with_reducible exact ih1 _ _ _ _ _ _ _ _ _ _ _)
      | (with_reducible exact ih2 _ _ _ _ _ _ _ _ _ _ _)
      | (with_reducible exact LeO.refl _)
      | (with_reducible exact LeO.none _)
      | (with_reducible refine LeO.ite ?_ ?_)
      | (with_reducible refine LeO.bind ?_ (fun _ => ?_))
      | exact ih0 _ _ _ _ _ _ _ _ _ _
      | exact ih1 _ _ _ _ _ _ _ _ _ _ _
      | exact ih2 _ _ _ _ _ _ _ _ _ _ _
      | exact LeO.none _
      | refine LeO.ite ?_ ?_
      | refine LeO.bind ?_ (fun _ => ?_)
theorem gossamerref02_One.mono : ∀ a0 a1 a2 a3 a4 a5 a6 a7 a8 a9 k, LeO (gossamerref02_One.f k a0 a1 a2 a3 a4 a5 a6 a7 a8 a9) (gossamerref02_One.f (k + 1) a0 a1 a2 a3 a4 a5 a6 a7 a8 a9) := by
  intro a0 a1 a2 a3 a4 a5 a6 a7 a8 a9 k
  obtain ⟨ih0, ih1, ih2⟩ := gossamerref02_One.mono_l k
  exact ih0 a0 a1 a2 a3 a4 a5 a6 a7 a8 a9
def gossamerref02_One.T6 : Bool × List (List Nat × List Nat) := (true, [([], []), ([0], [0]), ([], []), ([1, 2], [1, 2]), ([3], [3]), ([], []), ([5], [5]), ([], []), ([6, 7], [6, 7]), ([8], [8]), ([4, 9], [4, 9]), ([10], [10])])
def gossamerref02_One.B6 : List Nat := [0, 1, 0, 7, 15, 0, 32, 0, 224, 480, 1023, 2047]
theorem gossamerref02_One.tab6 : rtab .any (opsOf Tryz.f7 6) = gossamerref02_One.T6 := by kernel_rfl
theorem gossamerref02_One.bits6 : waitsOk gossamerref02_One.T6.2 gossamerref02_One.B6 = true := by kernel_rfl
set_option maxHeartbeats 8000000 in
set_option maxRecDepth 100000 in
theorem gossamerref02_One.calls (k : Nat) : ∀ (a0_0 : Int) (a0_1 : ByteArray) (a0_2 : Int) (a0_3 : Int) (A0_4 : Option Addr) (c0_4 : Nat) (l0_4 : List (S25)) (a1_0 : Int) (a1_1 : ByteArray) (a1_2 : Int) (a1_3 : Int) (A1_4 : Option Addr) (c1_4 : Nat) (l1_4 : List (S25)) (r : Bool) (w : World) (hr0_4 : Kd.C k25 w A0_4 l0_4.length l0_4) (hc0_4 : l0_4.length ≤ c0_4) (hr1_4 : Kd.C k25 w A1_4 l1_4.length l1_4) (hc1_4 : l1_4.length ≤ c1_4) (h : gossamerref02_One.f k a0_0 a0_1 a0_2 a0_3 l0_4 a1_0 a1_1 a1_2 a1_3 l1_4 = some r),
    Calls Tryz.prog 7 #[.agg #[.int .i64 a0_0, .string a0_1, .int .i64 a0_2, .int .i64 a0_3, .slice A0_4 l0_4.length c0_4], .agg #[.int .i64 a1_0, .string a1_1, .int .i64 a1_2, .int .i64 a1_3, .slice A1_4 l1_4.length c1_4]] w fun e w' => e = .returned (.bool r) ∧ Below w.heap.size w w' := by
  induction k using Nat.strongRecOn with
  | _ k ih =>
  intro a0_0 a0_1 a0_2 a0_3 A0_4 c0_4 l0_4 a1_0 a1_1 a1_2 a1_3 A1_4 c1_4 l1_4 r w hr0_4 hc0_4 hr1_4 hc1_4 h
  cases k with
  | zero => exact absurd h (by simp [gossamerref02_One.f])
  | succ k =>
  simp only [gossamerref02_One.f] at h
  have hu25 := Tryz.underlying25
  have HR0_4 := Aside0.mk hr0_4
  have HC0_4 := Aside0.mk hc0_4
  clear hr0_4 hc0_4
  have HR1_4 := Aside0.mk hr1_4
  have HC1_4 := Aside0.mk hc1_4
  clear hr1_4 hc1_4
  have HB := Aside0.mk (Below.refl w.heap.size w)
  have H : (if a0_0 = a1_0 then (if a0_1.toList = a1_1.toList then (if a0_2 = a1_2 then (if a0_3 = a1_3 then (gossamerref02_One.j0 k ((l0_4.length : Int) != (l1_4.length : Int)) a0_0 a0_1 a0_2 a0_3 l0_4 a1_0 a1_1 a1_2 a1_3 l1_4) else (gossamerref02_One.j0 k true a0_0 a0_1 a0_2 a0_3 l0_4 a1_0 a1_1 a1_2 a1_3 l1_4)) else (gossamerref02_One.j0 k true a0_0 a0_1 a0_2 a0_3 l0_4 a1_0 a1_1 a1_2 a1_3 l1_4)) else (gossamerref02_One.j0 k true a0_0 a0_1 a0_2 a0_3 l0_4 a1_0 a1_1 a1_2 a1_3 l1_4)) else (gossamerref02_One.j0 k true a0_0 a0_1 a0_2 a0_3 l0_4 a1_0 a1_1 a1_2 a1_3 l1_4)) = some r := h
  clear h
  have HC3 := Aside0.mk H
  clear H
  go_enter Tryz.func7, Tryz.ntmps7
  go_upto_region 1 with (first | ((with_reducible refine gate_dst (N := 2) rfl ?_); (try (refine gate_guard (by rfl) ?_; dsimp only)); refine box_event ?hg (N := 2) ?hd (cs := #[.int .i64 a0_0, .string a0_1, .int .i64 a0_2, .int .i64 a0_3, .slice A0_4 l0_4.length c0_4]) (t := 25) ?hr ?_; (case hd => rfl); (case hg => rfl); (case hr => first | (go_simp; done) | (go_simp; rfl)); intro gb214 hg w4 hbox hb; have n0_ := Aside0.mk (below_step (by repeat (first | (with_reducible first | exact HB.out | apply below_alloc | apply pw_below_drewN | apply below_drew1) | exact HB.out)) hb); have n1_ := Aside0.mk (hbox); have n2_ := Aside0.mk ((by rw [hg]; exact (below_size (by repeat (first | (with_reducible first | exact HB.out | apply below_alloc | apply pw_below_drewN | apply below_drew1) | exact HB.out))) : w.heap.size ≤ gb214)); have n3_ := Aside0.mk ((by rw [hg]; exact (below_size (by repeat (first | (with_reducible first | exact HB.out | apply below_alloc | apply pw_below_drewN | apply below_drew1) | exact HB.out))) : w.heap.size ≤ gb214)); clear HB; have HB := n0_; have BK214 := n1_; have GW214 := n2_; have GE214 := n3_; clear n0_ n1_ n2_ n3_; clear hb hbox hg) | ((with_reducible refine gate_dst (N := 3) rfl ?_); (try (refine gate_guard (by rfl) ?_; dsimp only)); refine box_event ?hg (N := 3) ?hd (cs := #[.int .i64 a1_0, .string a1_1, .int .i64 a1_2, .int .i64 a1_3, .slice A1_4 l1_4.length c1_4]) (t := 25) ?hr ?_; (case hd => rfl); (case hg => rfl); (case hr => first | (go_simp; done) | (go_simp; rfl)); intro gb215 hg w5 hbox hb; have n0_ := Aside0.mk (blk_below (g := gb214) (o := .cells #[.int .i64 a0_0, .string a0_1, .int .i64 a0_2, .int .i64 a0_3, .slice A0_4 l0_4.length c0_4] 25 (0, 0)) (by (with_reducible repeat (first | refine blk_drewN ?_ _ | refine blk_drew ?_ | refine blk_alloc ?_ _)); exact BK214.out) hb); have n1_ := Aside0.mk (below_step (by repeat (first | (with_reducible first | exact HB.out | apply below_alloc | apply pw_below_drewN | apply below_drew1 | refine below_set ?_ GE214.out) | exact HB.out)) hb); have n2_ := Aside0.mk (hbox); have n3_ := Aside0.mk ((by rw [hg]; exact (below_size (by repeat (first | (with_reducible first | exact HB.out | apply below_alloc | apply pw_below_drewN | apply below_drew1 | refine below_set ?_ GE214.out) | exact HB.out))) : w.heap.size ≤ gb215)); have n4_ := Aside0.mk ((by rw [hg]; exact (below_size (by repeat (first | (with_reducible first | exact HB.out | apply below_alloc | apply pw_below_drewN | apply below_drew1 | refine below_set ?_ GE214.out) | exact HB.out))) : w.heap.size ≤ gb215)); have n5_ := Aside0.mk ((by rw [hg]; exact Nat.ne_of_lt (blk_lt (g := gb214) (o := .cells #[.int .i64 a0_0, .string a0_1, .int .i64 a0_2, .int .i64 a0_3, .slice A0_4 l0_4.length c0_4] 25 (0, 0)) (by (with_reducible repeat (first | refine blk_drewN ?_ _ | refine blk_drew ?_ | refine blk_alloc ?_ _)); exact BK214.out)) : gb214 ≠ gb215)); have n6_ := Aside0.mk ((by rw [hg]; exact Nat.ne_of_gt (blk_lt (g := gb214) (o := .cells #[.int .i64 a0_0, .string a0_1, .int .i64 a0_2, .int .i64 a0_3, .slice A0_4 l0_4.length c0_4] 25 (0, 0)) (by (with_reducible repeat (first | refine blk_drewN ?_ _ | refine blk_drew ?_ | refine blk_alloc ?_ _)); exact BK214.out)) : gb215 ≠ gb214)); clear BK214; clear HB; have BK214 := n0_; have HB := n1_; have BK215 := n2_; have GW215 := n3_; have GE215 := n4_; have NB214_215 := n5_; have NB215_214 := n6_; clear n0_ n1_ n2_ n3_ n4_ n5_ n6_; clear hb hbox hg))
  (try simp only [Act.put, List.setIfInBounds_toArray, List.set_cons_zero, List.set_cons_succ])
  go_cut [40] (fun v40 wc => ∃ (kq : Nat) (x40_2 : Bool), v40 = .bool x40_2 ∧ Aside0 (gossamerref02_One.j0 kq x40_2 a0_0 a0_1 a0_2 a0_3 l0_4 a1_0 a1_1 a1_2 a1_3 l1_4 = some r) ∧ Aside0 (kq ≤ k) ∧ Aside0 (wc.heap[gb214]? = some (.cells #[.int .i64 a0_0, .string a0_1, .int .i64 a0_2, .int .i64 a0_3, (.slice A0_4 l0_4.length c0_4)] 25 (0, 0))) ∧ Aside0 (wc.heap[gb215]? = some (.cells #[.int .i64 a1_0, .string a1_1, .int .i64 a1_2, .int .i64 a1_3, (.slice A1_4 l1_4.length c1_4)] 25 (0, 0))) ∧ Aside0 (Below w.heap.size w wc))
  case first =>
    have H := HC3.out
    clear HC3
    by_cases c6 : a0_0 = a1_0
    · rw [if_pos c6] at H
      have c6b0 : (a0_0 == a1_0) = true := beq_iff_eq.mpr c6
      have c6b1 : (a0_0 != a1_0) = false := bne_eq_false_iff_eq.mpr c6
      clear c6
      (first | rw [c6b0] | (simp only [i64_w, i32_w]; rw [c6b0]) | skip)
      by_cases c7 : a0_1.toList = a1_1.toList
      · rw [if_pos c7] at H
        have c7b0 : (a0_1.toList == a1_1.toList) = true := beq_iff_eq.mpr c7
        have c7b1 : (a0_1.toList != a1_1.toList) = false := bne_eq_false_iff_eq.mpr c7
        clear c7
        by_cases c8 : a0_2 = a1_2
        · rw [if_pos c8] at H
          have c8b0 : (a0_2 == a1_2) = true := beq_iff_eq.mpr c8
          have c8b1 : (a0_2 != a1_2) = false := bne_eq_false_iff_eq.mpr c8
          clear c8
          by_cases c9 : a0_3 = a1_3
          · rw [if_pos c9] at H
            have c9b0 : (a0_3 == a1_3) = true := beq_iff_eq.mpr c9
            have c9b1 : (a0_3 != a1_3) = false := bne_eq_false_iff_eq.mpr c9
            clear c9
            have H' := Aside0.mk H
            clear H
            have hnb10 := NB214_215.out
            have hnc10 := NB215_214.out
            have hcz11_0 : w5.cell? ⟨gb214, 0, none⟩ = some (.int .i64 a0_0) := (blk_cell BK214.out 0).trans rfl
            have hcz11_1 : w5.cell? ⟨gb214, 1, none⟩ = some (.string a0_1) := (blk_cell BK214.out 1).trans rfl
            have hcz11_2 : w5.cell? ⟨gb214, 2, none⟩ = some (.int .i64 a0_2) := (blk_cell BK214.out 2).trans rfl
            have hcz11_3 : w5.cell? ⟨gb214, 3, none⟩ = some (.int .i64 a0_3) := (blk_cell BK214.out 3).trans rfl
            have hcz11_4 : w5.cell? ⟨gb214, 4, none⟩ = some (.slice A0_4 l0_4.length c0_4) := (blk_cell BK214.out 4).trans rfl
            have hfz11_0 := blk_frozen BK214.out 0
            have hfz11_1 := blk_frozen BK214.out 1
            have hfz11_2 := blk_frozen BK214.out 2
            have hfz11_3 := blk_frozen BK214.out 3
            have hfz11_4 := blk_frozen BK214.out 4
            have hcz12_0 : w5.cell? ⟨gb215, 0, none⟩ = some (.int .i64 a1_0) := (blk_cell BK215.out 0).trans rfl
            have hcz12_1 : w5.cell? ⟨gb215, 1, none⟩ = some (.string a1_1) := (blk_cell BK215.out 1).trans rfl
            have hcz12_2 : w5.cell? ⟨gb215, 2, none⟩ = some (.int .i64 a1_2) := (blk_cell BK215.out 2).trans rfl
            have hcz12_3 : w5.cell? ⟨gb215, 3, none⟩ = some (.int .i64 a1_3) := (blk_cell BK215.out 3).trans rfl
            have hcz12_4 : w5.cell? ⟨gb215, 4, none⟩ = some (.slice A1_4 l1_4.length c1_4) := (blk_cell BK215.out 4).trans rfl
            have hfz12_0 := blk_frozen BK215.out 0
            have hfz12_1 := blk_frozen BK215.out 1
            have hfz12_2 := blk_frozen BK215.out 2
            have hfz12_3 := blk_frozen BK215.out 3
            have hfz12_4 := blk_frozen BK215.out 4
            go_wp2
            go_meet
            case rel => exact ⟨_, (((l0_4.length : Int) != (l1_4.length : Int))), (by first | rfl | (simp; done) | (simp [*]; done)), H', ⟨by first | omega | exact Nat.le_refl _⟩, ⟨by (with_reducible repeat (first | refine blk_drewN ?_ _ | refine blk_drew ?_ | refine blk_alloc ?_ _)); exact BK214.out⟩, ⟨by (with_reducible repeat (first | refine blk_drewN ?_ _ | refine blk_drew ?_ | refine blk_alloc ?_ _)); exact BK215.out⟩, ⟨by repeat (first | (with_reducible first | exact HB.out | apply below_alloc | apply pw_below_drewN | apply below_drew1 | refine below_set ?_ GE214.out | refine below_set ?_ GE215.out) | exact HB.out)⟩⟩
          · rw [if_neg c9] at H
            have c9b0 : (a0_3 == a1_3) = false := beq_eq_false_iff_ne.mpr c9
            have c9b1 : (a0_3 != a1_3) = true := bne_iff_ne.mpr c9
            have H' := Aside0.mk H
            clear H
            have hnb13 := NB214_215.out
            have hnc13 := NB215_214.out
            have hcz14_0 : w5.cell? ⟨gb214, 0, none⟩ = some (.int .i64 a0_0) := (blk_cell BK214.out 0).trans rfl
            have hcz14_1 : w5.cell? ⟨gb214, 1, none⟩ = some (.string a0_1) := (blk_cell BK214.out 1).trans rfl
            have hcz14_2 : w5.cell? ⟨gb214, 2, none⟩ = some (.int .i64 a0_2) := (blk_cell BK214.out 2).trans rfl
            have hcz14_3 : w5.cell? ⟨gb214, 3, none⟩ = some (.int .i64 a0_3) := (blk_cell BK214.out 3).trans rfl
            have hcz14_4 : w5.cell? ⟨gb214, 4, none⟩ = some (.slice A0_4 l0_4.length c0_4) := (blk_cell BK214.out 4).trans rfl
            have hfz14_0 := blk_frozen BK214.out 0
            have hfz14_1 := blk_frozen BK214.out 1
            have hfz14_2 := blk_frozen BK214.out 2
            have hfz14_3 := blk_frozen BK214.out 3
            have hfz14_4 := blk_frozen BK214.out 4
            have hcz15_0 : w5.cell? ⟨gb215, 0, none⟩ = some (.int .i64 a1_0) := (blk_cell BK215.out 0).trans rfl
            have hcz15_1 : w5.cell? ⟨gb215, 1, none⟩ = some (.string a1_1) := (blk_cell BK215.out 1).trans rfl
            have hcz15_2 : w5.cell? ⟨gb215, 2, none⟩ = some (.int .i64 a1_2) := (blk_cell BK215.out 2).trans rfl
            have hcz15_3 : w5.cell? ⟨gb215, 3, none⟩ = some (.int .i64 a1_3) := (blk_cell BK215.out 3).trans rfl
            have hcz15_4 : w5.cell? ⟨gb215, 4, none⟩ = some (.slice A1_4 l1_4.length c1_4) := (blk_cell BK215.out 4).trans rfl
            have hfz15_0 := blk_frozen BK215.out 0
            have hfz15_1 := blk_frozen BK215.out 1
            have hfz15_2 := blk_frozen BK215.out 2
            have hfz15_3 := blk_frozen BK215.out 3
            have hfz15_4 := blk_frozen BK215.out 4
            go_wp2
            go_meet
            case rel => exact ⟨_, (true), (by first | rfl | (simp; done) | (simp [*]; done)), H', ⟨by first | omega | exact Nat.le_refl _⟩, ⟨by (with_reducible repeat (first | refine blk_drewN ?_ _ | refine blk_drew ?_ | refine blk_alloc ?_ _)); exact BK214.out⟩, ⟨by (with_reducible repeat (first | refine blk_drewN ?_ _ | refine blk_drew ?_ | refine blk_alloc ?_ _)); exact BK215.out⟩, ⟨by repeat (first | (with_reducible first | exact HB.out | apply below_alloc | apply pw_below_drewN | apply below_drew1 | refine below_set ?_ GE214.out | refine below_set ?_ GE215.out) | exact HB.out)⟩⟩
        · rw [if_neg c8] at H
          have c8b0 : (a0_2 == a1_2) = false := beq_eq_false_iff_ne.mpr c8
          have c8b1 : (a0_2 != a1_2) = true := bne_iff_ne.mpr c8
          have H' := Aside0.mk H
          clear H
          have hnb16 := NB214_215.out
          have hnc16 := NB215_214.out
          have hcz17_0 : w5.cell? ⟨gb214, 0, none⟩ = some (.int .i64 a0_0) := (blk_cell BK214.out 0).trans rfl
          have hcz17_1 : w5.cell? ⟨gb214, 1, none⟩ = some (.string a0_1) := (blk_cell BK214.out 1).trans rfl
          have hcz17_2 : w5.cell? ⟨gb214, 2, none⟩ = some (.int .i64 a0_2) := (blk_cell BK214.out 2).trans rfl
          have hcz17_3 : w5.cell? ⟨gb214, 3, none⟩ = some (.int .i64 a0_3) := (blk_cell BK214.out 3).trans rfl
          have hcz17_4 : w5.cell? ⟨gb214, 4, none⟩ = some (.slice A0_4 l0_4.length c0_4) := (blk_cell BK214.out 4).trans rfl
          have hfz17_0 := blk_frozen BK214.out 0
          have hfz17_1 := blk_frozen BK214.out 1
          have hfz17_2 := blk_frozen BK214.out 2
          have hfz17_3 := blk_frozen BK214.out 3
          have hfz17_4 := blk_frozen BK214.out 4
          have hcz18_0 : w5.cell? ⟨gb215, 0, none⟩ = some (.int .i64 a1_0) := (blk_cell BK215.out 0).trans rfl
          have hcz18_1 : w5.cell? ⟨gb215, 1, none⟩ = some (.string a1_1) := (blk_cell BK215.out 1).trans rfl
          have hcz18_2 : w5.cell? ⟨gb215, 2, none⟩ = some (.int .i64 a1_2) := (blk_cell BK215.out 2).trans rfl
          have hcz18_3 : w5.cell? ⟨gb215, 3, none⟩ = some (.int .i64 a1_3) := (blk_cell BK215.out 3).trans rfl
          have hcz18_4 : w5.cell? ⟨gb215, 4, none⟩ = some (.slice A1_4 l1_4.length c1_4) := (blk_cell BK215.out 4).trans rfl
          have hfz18_0 := blk_frozen BK215.out 0
          have hfz18_1 := blk_frozen BK215.out 1
          have hfz18_2 := blk_frozen BK215.out 2
          have hfz18_3 := blk_frozen BK215.out 3
          have hfz18_4 := blk_frozen BK215.out 4
          go_wp2
          go_meet
          case rel => exact ⟨_, (true), (by first | rfl | (simp; done) | (simp [*]; done)), H', ⟨by first | omega | exact Nat.le_refl _⟩, ⟨by (with_reducible repeat (first | refine blk_drewN ?_ _ | refine blk_drew ?_ | refine blk_alloc ?_ _)); exact BK214.out⟩, ⟨by (with_reducible repeat (first | refine blk_drewN ?_ _ | refine blk_drew ?_ | refine blk_alloc ?_ _)); exact BK215.out⟩, ⟨by repeat (first | (with_reducible first | exact HB.out | apply below_alloc | apply pw_below_drewN | apply below_drew1 | refine below_set ?_ GE214.out | refine below_set ?_ GE215.out) | exact HB.out)⟩⟩
      · rw [if_neg c7] at H
        have c7b0 : (a0_1.toList == a1_1.toList) = false := beq_eq_false_iff_ne.mpr c7
        have c7b1 : (a0_1.toList != a1_1.toList) = true := bne_iff_ne.mpr c7
        have H' := Aside0.mk H
        clear H
        have hnb19 := NB214_215.out
        have hnc19 := NB215_214.out
        have hcz20_0 : w5.cell? ⟨gb214, 0, none⟩ = some (.int .i64 a0_0) := (blk_cell BK214.out 0).trans rfl
        have hcz20_1 : w5.cell? ⟨gb214, 1, none⟩ = some (.string a0_1) := (blk_cell BK214.out 1).trans rfl
        have hcz20_2 : w5.cell? ⟨gb214, 2, none⟩ = some (.int .i64 a0_2) := (blk_cell BK214.out 2).trans rfl
        have hcz20_3 : w5.cell? ⟨gb214, 3, none⟩ = some (.int .i64 a0_3) := (blk_cell BK214.out 3).trans rfl
        have hcz20_4 : w5.cell? ⟨gb214, 4, none⟩ = some (.slice A0_4 l0_4.length c0_4) := (blk_cell BK214.out 4).trans rfl
        have hfz20_0 := blk_frozen BK214.out 0
        have hfz20_1 := blk_frozen BK214.out 1
        have hfz20_2 := blk_frozen BK214.out 2
        have hfz20_3 := blk_frozen BK214.out 3
        have hfz20_4 := blk_frozen BK214.out 4
        have hcz21_0 : w5.cell? ⟨gb215, 0, none⟩ = some (.int .i64 a1_0) := (blk_cell BK215.out 0).trans rfl
        have hcz21_1 : w5.cell? ⟨gb215, 1, none⟩ = some (.string a1_1) := (blk_cell BK215.out 1).trans rfl
        have hcz21_2 : w5.cell? ⟨gb215, 2, none⟩ = some (.int .i64 a1_2) := (blk_cell BK215.out 2).trans rfl
        have hcz21_3 : w5.cell? ⟨gb215, 3, none⟩ = some (.int .i64 a1_3) := (blk_cell BK215.out 3).trans rfl
        have hcz21_4 : w5.cell? ⟨gb215, 4, none⟩ = some (.slice A1_4 l1_4.length c1_4) := (blk_cell BK215.out 4).trans rfl
        have hfz21_0 := blk_frozen BK215.out 0
        have hfz21_1 := blk_frozen BK215.out 1
        have hfz21_2 := blk_frozen BK215.out 2
        have hfz21_3 := blk_frozen BK215.out 3
        have hfz21_4 := blk_frozen BK215.out 4
        go_wp2
        go_meet
        case rel => exact ⟨_, (true), (by first | rfl | (simp; done) | (simp [*]; done)), H', ⟨by first | omega | exact Nat.le_refl _⟩, ⟨by (with_reducible repeat (first | refine blk_drewN ?_ _ | refine blk_drew ?_ | refine blk_alloc ?_ _)); exact BK214.out⟩, ⟨by (with_reducible repeat (first | refine blk_drewN ?_ _ | refine blk_drew ?_ | refine blk_alloc ?_ _)); exact BK215.out⟩, ⟨by repeat (first | (with_reducible first | exact HB.out | apply below_alloc | apply pw_below_drewN | apply below_drew1 | refine below_set ?_ GE214.out | refine below_set ?_ GE215.out) | exact HB.out)⟩⟩
    · rw [if_neg c6] at H
      have c6b0 : (a0_0 == a1_0) = false := beq_eq_false_iff_ne.mpr c6
      have c6b1 : (a0_0 != a1_0) = true := bne_iff_ne.mpr c6
      (first | rw [c6b0] | (simp only [i64_w, i32_w]; rw [c6b0]) | skip)
      have H' := Aside0.mk H
      clear H
      have hnb22 := NB214_215.out
      have hnc22 := NB215_214.out
      have hcz23_0 : w5.cell? ⟨gb214, 0, none⟩ = some (.int .i64 a0_0) := (blk_cell BK214.out 0).trans rfl
      have hcz23_1 : w5.cell? ⟨gb214, 1, none⟩ = some (.string a0_1) := (blk_cell BK214.out 1).trans rfl
      have hcz23_2 : w5.cell? ⟨gb214, 2, none⟩ = some (.int .i64 a0_2) := (blk_cell BK214.out 2).trans rfl
      have hcz23_3 : w5.cell? ⟨gb214, 3, none⟩ = some (.int .i64 a0_3) := (blk_cell BK214.out 3).trans rfl
      have hcz23_4 : w5.cell? ⟨gb214, 4, none⟩ = some (.slice A0_4 l0_4.length c0_4) := (blk_cell BK214.out 4).trans rfl
      have hfz23_0 := blk_frozen BK214.out 0
      have hfz23_1 := blk_frozen BK214.out 1
      have hfz23_2 := blk_frozen BK214.out 2
      have hfz23_3 := blk_frozen BK214.out 3
      have hfz23_4 := blk_frozen BK214.out 4
      have hcz24_0 : w5.cell? ⟨gb215, 0, none⟩ = some (.int .i64 a1_0) := (blk_cell BK215.out 0).trans rfl
      have hcz24_1 : w5.cell? ⟨gb215, 1, none⟩ = some (.string a1_1) := (blk_cell BK215.out 1).trans rfl
      have hcz24_2 : w5.cell? ⟨gb215, 2, none⟩ = some (.int .i64 a1_2) := (blk_cell BK215.out 2).trans rfl
      have hcz24_3 : w5.cell? ⟨gb215, 3, none⟩ = some (.int .i64 a1_3) := (blk_cell BK215.out 3).trans rfl
      have hcz24_4 : w5.cell? ⟨gb215, 4, none⟩ = some (.slice A1_4 l1_4.length c1_4) := (blk_cell BK215.out 4).trans rfl
      have hfz24_0 := blk_frozen BK215.out 0
      have hfz24_1 := blk_frozen BK215.out 1
      have hfz24_2 := blk_frozen BK215.out 2
      have hfz24_3 := blk_frozen BK215.out 3
      have hfz24_4 := blk_frozen BK215.out 4
      go_wp2
      go_meet
      case rel => exact ⟨_, (true), (by first | rfl | (simp; done) | (simp [*]; done)), H', ⟨by first | omega | exact Nat.le_refl _⟩, ⟨by (with_reducible repeat (first | refine blk_drewN ?_ _ | refine blk_drew ?_ | refine blk_alloc ?_ _)); exact BK214.out⟩, ⟨by (with_reducible repeat (first | refine blk_drewN ?_ _ | refine blk_drew ?_ | refine blk_alloc ?_ _)); exact BK215.out⟩, ⟨by repeat (first | (with_reducible first | exact HB.out | apply below_alloc | apply pw_below_drewN | apply below_drew1 | refine below_set ?_ GE214.out | refine below_set ?_ GE215.out) | exact HB.out)⟩⟩
  case rest =>
    clear HC3
    try clear c1
    try clear c2
    try clear p2
    try clear c6
    try clear c6b0
    try clear c6b1
    try clear c7
    try clear c7b0
    try clear c7b1
    try clear c8
    try clear c8b0
    try clear c8b1
    try clear c9
    try clear c9b0
    try clear c9b1
    try clear c10
    try clear c13
    try clear c16
    try clear c19
    try clear c22
    try clear hcz11_0
    try clear hcz11_1
    try clear hcz11_2
    try clear hcz11_3
    try clear hcz11_4
    try clear hcz12_0
    try clear hcz12_1
    try clear hcz12_2
    try clear hcz12_3
    try clear hcz12_4
    try clear hcz14_0
    try clear hcz14_1
    try clear hcz14_2
    try clear hcz14_3
    try clear hcz14_4
    try clear hcz15_0
    try clear hcz15_1
    try clear hcz15_2
    try clear hcz15_3
    try clear hcz15_4
    try clear hcz17_0
    try clear hcz17_1
    try clear hcz17_2
    try clear hcz17_3
    try clear hcz17_4
    try clear hcz18_0
    try clear hcz18_1
    try clear hcz18_2
    try clear hcz18_3
    try clear hcz18_4
    try clear hcz20_0
    try clear hcz20_1
    try clear hcz20_2
    try clear hcz20_3
    try clear hcz20_4
    try clear hcz21_0
    try clear hcz21_1
    try clear hcz21_2
    try clear hcz21_3
    try clear hcz21_4
    try clear hcz23_0
    try clear hcz23_1
    try clear hcz23_2
    try clear hcz23_3
    try clear hcz23_4
    try clear hcz24_0
    try clear hcz24_1
    try clear hcz24_2
    try clear hcz24_3
    try clear hcz24_4
    try clear hfz11_0
    try clear hfz11_1
    try clear hfz11_2
    try clear hfz11_3
    try clear hfz11_4
    try clear hfz12_0
    try clear hfz12_1
    try clear hfz12_2
    try clear hfz12_3
    try clear hfz12_4
    try clear hfz14_0
    try clear hfz14_1
    try clear hfz14_2
    try clear hfz14_3
    try clear hfz14_4
    try clear hfz15_0
    try clear hfz15_1
    try clear hfz15_2
    try clear hfz15_3
    try clear hfz15_4
    try clear hfz17_0
    try clear hfz17_1
    try clear hfz17_2
    try clear hfz17_3
    try clear hfz17_4
    try clear hfz18_0
    try clear hfz18_1
    try clear hfz18_2
    try clear hfz18_3
    try clear hfz18_4
    try clear hfz20_0
    try clear hfz20_1
    try clear hfz20_2
    try clear hfz20_3
    try clear hfz20_4
    try clear hfz21_0
    try clear hfz21_1
    try clear hfz21_2
    try clear hfz21_3
    try clear hfz21_4
    try clear hfz23_0
    try clear hfz23_1
    try clear hfz23_2
    try clear hfz23_3
    try clear hfz23_4
    try clear hfz24_0
    try clear hfz24_1
    try clear hfz24_2
    try clear hfz24_3
    try clear hfz24_4
    obtain ⟨kq, x40_2, rfl, HA, HJ2, BK214, BK215, HB⟩ := hcut
    cases kq with
    | zero => exact absurd HA.out (by simp [gossamerref02_One.j0])
    | succ kj2 =>
      have H := HA.out
      clear HA
      simp only [gossamerref02_One.j0] at H
      by_cases c25 : x40_2 = true
      · subst c25
        have H1 : (some false) = some r := by rw [if_pos rfl] at H; exact H
        clear H
        have H := H1
        clear H1
        obtain rfl := Option.some.inj H
        go_wp2
        go_ret
        exact ⟨by first | rfl | (simp [errW_none, errW_some] <;> rfl) | (simp [*, errW_none, errW_some] <;> rfl), by repeat (first | (with_reducible first | exact HB.out | apply below_alloc | apply pw_below_drewN | apply below_drew1 | refine below_set ?_ GE214.out | refine below_set ?_ GE215.out) | exact HB.out)⟩
      · replace c25 := Bool.eq_false_iff.mpr c25
        subst c25
        have H1 : (gossamerref02_One.l0 kj2 0 a0_0 a0_1 a0_2 a0_3 l0_4 a1_0 a1_1 a1_2 a1_3 l1_4) = some r := by rw [if_neg (show ¬ (false = true) by decide)] at H; exact H
        clear H
        have H := H1
        clear H1
        have H' := Aside0.mk H
        clear H
        go_wp2
        go_loopg [5] kj2 (fun kq v5 w' => ∃ (x5_2 : Int), v5 = .int .i64 x5_2 ∧ Aside0 (gossamerref02_One.l0 kq x5_2 a0_0 a0_1 a0_2 a0_3 l0_4 a1_0 a1_1 a1_2 a1_3 l1_4 = some r) ∧ Aside0 (kq ≤ kj2) ∧ Aside0 (w'.heap[gb214]? = some (.cells #[.int .i64 a0_0, .string a0_1, .int .i64 a0_2, .int .i64 a0_3, (.slice A0_4 l0_4.length c0_4)] 25 (0, 0))) ∧ Aside0 (w'.heap[gb215]? = some (.cells #[.int .i64 a1_0, .string a1_1, .int .i64 a1_2, .int .i64 a1_3, (.slice A1_4 l1_4.length c1_4)] 25 (0, 0))) ∧ Aside0 (Below w.heap.size w w'))
        case atStart => exact ⟨(0), (by first | rfl | (simp; done) | (simp [*]; done)), H', ⟨Nat.le_refl _⟩, ⟨by (with_reducible repeat (first | refine blk_drewN ?_ _ | refine blk_drew ?_ | refine blk_alloc ?_ _)); exact BK214.out⟩, ⟨by (with_reducible repeat (first | refine blk_drewN ?_ _ | refine blk_drew ?_ | refine blk_alloc ?_ _)); exact BK215.out⟩, ⟨by repeat (first | (with_reducible first | exact HB.out | apply below_alloc | apply pw_below_drewN | apply below_drew1 | refine below_set ?_ GE214.out | refine below_set ?_ GE215.out) | exact HB.out)⟩⟩
        case round =>
          clear H'
          try clear c1
          try clear c2
          try clear p2
          try clear c6
          try clear c6b0
          try clear c6b1
          try clear c7
          try clear c7b0
          try clear c7b1
          try clear c8
          try clear c8b0
          try clear c8b1
          try clear c9
          try clear c9b0
          try clear c9b1
          try clear c10
          try clear c13
          try clear c16
          try clear c19
          try clear c22
          try clear c25
          try clear hcz11_0
          try clear hcz11_1
          try clear hcz11_2
          try clear hcz11_3
          try clear hcz11_4
          try clear hcz12_0
          try clear hcz12_1
          try clear hcz12_2
          try clear hcz12_3
          try clear hcz12_4
          try clear hcz14_0
          try clear hcz14_1
          try clear hcz14_2
          try clear hcz14_3
          try clear hcz14_4
          try clear hcz15_0
          try clear hcz15_1
          try clear hcz15_2
          try clear hcz15_3
          try clear hcz15_4
          try clear hcz17_0
          try clear hcz17_1
          try clear hcz17_2
          try clear hcz17_3
          try clear hcz17_4
          try clear hcz18_0
          try clear hcz18_1
          try clear hcz18_2
          try clear hcz18_3
          try clear hcz18_4
          try clear hcz20_0
          try clear hcz20_1
          try clear hcz20_2
          try clear hcz20_3
          try clear hcz20_4
          try clear hcz21_0
          try clear hcz21_1
          try clear hcz21_2
          try clear hcz21_3
          try clear hcz21_4
          try clear hcz23_0
          try clear hcz23_1
          try clear hcz23_2
          try clear hcz23_3
          try clear hcz23_4
          try clear hcz24_0
          try clear hcz24_1
          try clear hcz24_2
          try clear hcz24_3
          try clear hcz24_4
          try clear hfz11_0
          try clear hfz11_1
          try clear hfz11_2
          try clear hfz11_3
          try clear hfz11_4
          try clear hfz12_0
          try clear hfz12_1
          try clear hfz12_2
          try clear hfz12_3
          try clear hfz12_4
          try clear hfz14_0
          try clear hfz14_1
          try clear hfz14_2
          try clear hfz14_3
          try clear hfz14_4
          try clear hfz15_0
          try clear hfz15_1
          try clear hfz15_2
          try clear hfz15_3
          try clear hfz15_4
          try clear hfz17_0
          try clear hfz17_1
          try clear hfz17_2
          try clear hfz17_3
          try clear hfz17_4
          try clear hfz18_0
          try clear hfz18_1
          try clear hfz18_2
          try clear hfz18_3
          try clear hfz18_4
          try clear hfz20_0
          try clear hfz20_1
          try clear hfz20_2
          try clear hfz20_3
          try clear hfz20_4
          try clear hfz21_0
          try clear hfz21_1
          try clear hfz21_2
          try clear hfz21_3
          try clear hfz21_4
          try clear hfz23_0
          try clear hfz23_1
          try clear hfz23_2
          try clear hfz23_3
          try clear hfz23_4
          try clear hfz24_0
          try clear hfz24_1
          try clear hfz24_2
          try clear hfz24_3
          try clear hfz24_4
          try clear p2
          obtain ⟨x5_2, rfl, HA, HK2, BK214, BK215, HB⟩ := hrel
          cases gk with
          | zero => exact absurd HA.out (by simp [gossamerref02_One.l0])
          | succ k2 =>
            have H := HA.out
            clear HA
            simp only [gossamerref02_One.l0] at H
            by_cases c26 : x5_2 < (l0_4.length : Int)
            · rw [if_pos c26] at H
              have c26b0 : decide (x5_2 < (l0_4.length : Int)) = true := decide_eq_true c26
              clear c26
              by_cases c27 : 0 ≤ x5_2
              · rw [if_pos c27] at H
                have c27b0 : decide (0 ≤ x5_2) = true := decide_eq_true c27
                clear c27
                by_cases c28 : x5_2 < (l1_4.length : Int)
                · rw [if_pos c28] at H
                  have c28b0 : decide (x5_2 < (l1_4.length : Int)) = true := decide_eq_true c28
                  clear c28
                  replace H := Option.bind_eq_some_iff.mp H
                  obtain ⟨t218, A290, H⟩ := H
                  replace H : (if t218 = true then (gossamerref02_One.l0 k2 (wrap64 (x5_2 + 1)) a0_0 a0_1 a0_2 a0_3 l0_4 a1_0 a1_1 a1_2 a1_3 l1_4) else (some false)) = some r := H
                  have A29 := Aside0.mk A290
                  clear A290
                  by_cases c30 : t218 = true
                  · subst c30
                    have H1 : (gossamerref02_One.l0 k2 (wrap64 (x5_2 + 1)) a0_0 a0_1 a0_2 a0_3 l0_4 a1_0 a1_1 a1_2 a1_3 l1_4) = some r := by rw [if_pos rfl] at H; exact H
                    clear H
                    have H := H1
                    clear H1
                    have H' := Aside0.mk H
                    clear H
                    have hnb31 := NB214_215.out
                    have hnc31 := NB215_214.out
                    have hcz32_0 : wr.cell? ⟨gb214, 0, none⟩ = some (.int .i64 a0_0) := (blk_cell BK214.out 0).trans rfl
                    have hcz32_1 : wr.cell? ⟨gb214, 1, none⟩ = some (.string a0_1) := (blk_cell BK214.out 1).trans rfl
                    have hcz32_2 : wr.cell? ⟨gb214, 2, none⟩ = some (.int .i64 a0_2) := (blk_cell BK214.out 2).trans rfl
                    have hcz32_3 : wr.cell? ⟨gb214, 3, none⟩ = some (.int .i64 a0_3) := (blk_cell BK214.out 3).trans rfl
                    have hcz32_4 : wr.cell? ⟨gb214, 4, none⟩ = some (.slice A0_4 l0_4.length c0_4) := (blk_cell BK214.out 4).trans rfl
                    have hfz32_0 := blk_frozen BK214.out 0
                    have hfz32_1 := blk_frozen BK214.out 1
                    have hfz32_2 := blk_frozen BK214.out 2
                    have hfz32_3 := blk_frozen BK214.out 3
                    have hfz32_4 := blk_frozen BK214.out 4
                    try go_wp2
                    have n0_ := Aside0.mk (blk_drew BK214.out)
                    have n1_ := Aside0.mk (blk_drew BK215.out)
                    have n2_ := Aside0.mk (below_drew1 HB.out)
                    clear BK214
                    clear BK215
                    clear HB
                    have BK214 := n0_
                    have BK215 := n1_
                    have HB := n2_
                    clear n0_ n1_ n2_
                    have p216 : 0 ≤ (x5_2 : Int) := of_decide_eq_true (by first | (with_reducible assumption) | assumption)
                    have q216 : x5_2 < (l0_4.length : Int) := of_decide_eq_true (by first | (with_reducible assumption) | assumption)
                    obtain ⟨ad216, A216_4, c216_4, e216, hx216_0, hx216_1, hx216_2, hx216_3, hx216_4, hl216_4, hi216_4⟩ := at_T25 HR0_4.out x5_2 p216 q216
                    have hw216_4 := hx216_4
                    have hw216_3 := hx216_3
                    have hw216_2 := hx216_2
                    have hw216_1 := hx216_1
                    have hw216_0 := hx216_0
                    cases e216
                    replace hx216_0 := (HB.out.cell (World.block_lt_of_cell? w _ hx216_0)).trans hx216_0
                    replace hx216_1 := (HB.out.cell (World.block_lt_of_cell? w _ hx216_1)).trans hx216_1
                    replace hx216_2 := (HB.out.cell (World.block_lt_of_cell? w _ hx216_2)).trans hx216_2
                    replace hx216_3 := (HB.out.cell (World.block_lt_of_cell? w _ hx216_3)).trans hx216_3
                    replace hx216_4 := (HB.out.cell (World.block_lt_of_cell? w _ hx216_4)).trans hx216_4
                    have HR216_4 := Aside0.mk hi216_4
                    have HC216_4 := Aside0.mk hl216_4
                    clear hi216_4 hl216_4
                    replace p216 := eq_true p216
                    replace q216 := eq_true q216
                    have p217 : 0 ≤ (x5_2 : Int) := of_decide_eq_true (by first | (with_reducible assumption) | assumption)
                    have q217 : x5_2 < (l1_4.length : Int) := of_decide_eq_true (by first | (with_reducible assumption) | assumption)
                    obtain ⟨ad217, A217_4, c217_4, e217, hx217_0, hx217_1, hx217_2, hx217_3, hx217_4, hl217_4, hi217_4⟩ := at_T25 HR1_4.out x5_2 p217 q217
                    have hw217_4 := hx217_4
                    have hw217_3 := hx217_3
                    have hw217_2 := hx217_2
                    have hw217_1 := hx217_1
                    have hw217_0 := hx217_0
                    cases e217
                    replace hx217_0 := (HB.out.cell (World.block_lt_of_cell? w _ hx217_0)).trans hx217_0
                    replace hx217_1 := (HB.out.cell (World.block_lt_of_cell? w _ hx217_1)).trans hx217_1
                    replace hx217_2 := (HB.out.cell (World.block_lt_of_cell? w _ hx217_2)).trans hx217_2
                    replace hx217_3 := (HB.out.cell (World.block_lt_of_cell? w _ hx217_3)).trans hx217_3
                    replace hx217_4 := (HB.out.cell (World.block_lt_of_cell? w _ hx217_4)).trans hx217_4
                    have HR217_4 := Aside0.mk hi217_4
                    have HC217_4 := Aside0.mk hl217_4
                    clear hi217_4 hl217_4
                    replace p217 := eq_true p217
                    replace q217 := eq_true q217
                    refine start_ (n := 12) (S := fun w' => w'.cell? ⟨gb214, 0, none⟩ = some (.int .i64 a0_0) ∧ w'.cell? ⟨gb214, 1, none⟩ = some (.string a0_1) ∧ w'.cell? ⟨gb214, 2, none⟩ = some (.int .i64 a0_2) ∧ w'.cell? ⟨gb214, 3, none⟩ = some (.int .i64 a0_3) ∧ w'.cell? ⟨gb214, 4, none⟩ = some (.slice (some ad216) l0_4.length c0_4) ∧ w'.cell? ⟨gb215, 0, none⟩ = some (.int .i64 a1_0) ∧ w'.cell? ⟨gb215, 1, none⟩ = some (.string a1_1) ∧ w'.cell? ⟨gb215, 2, none⟩ = some (.int .i64 a1_2) ∧ w'.cell? ⟨gb215, 3, none⟩ = some (.int .i64 a1_3) ∧ w'.cell? ⟨gb215, 4, none⟩ = some (.slice (some ad217) l1_4.length c1_4) ∧ w'.cell? (ad216.add ((x5_2).toNat * 5)) = some (.int .i64 ((rd_T25 l0_4 x5_2).f0)) ∧ w'.cell? ⟨(ad216.add ((x5_2).toNat * 5)).block, (ad216.add ((x5_2).toNat * 5)).off + 1, none⟩ = some (.string ((rd_T25 l0_4 x5_2).f1)) ∧ w'.cell? ⟨(ad216.add ((x5_2).toNat * 5)).block, (ad216.add ((x5_2).toNat * 5)).off + 2, none⟩ = some (.int .i64 ((rd_T25 l0_4 x5_2).f2)) ∧ w'.cell? ⟨(ad216.add ((x5_2).toNat * 5)).block, (ad216.add ((x5_2).toNat * 5)).off + 3, none⟩ = some (.int .i64 ((rd_T25 l0_4 x5_2).f3)) ∧ w'.cell? ⟨(ad216.add ((x5_2).toNat * 5)).block, (ad216.add ((x5_2).toNat * 5)).off + 4, none⟩ = some (.slice A216_4 ((rd_T25 l0_4 x5_2).f4).length c216_4) ∧ w'.cell? (ad217.add ((x5_2).toNat * 5)) = some (.int .i64 ((rd_T25 l1_4 x5_2).f0)) ∧ w'.cell? ⟨(ad217.add ((x5_2).toNat * 5)).block, (ad217.add ((x5_2).toNat * 5)).off + 1, none⟩ = some (.string ((rd_T25 l1_4 x5_2).f1)) ∧ w'.cell? ⟨(ad217.add ((x5_2).toNat * 5)).block, (ad217.add ((x5_2).toNat * 5)).off + 2, none⟩ = some (.int .i64 ((rd_T25 l1_4 x5_2).f2)) ∧ w'.cell? ⟨(ad217.add ((x5_2).toNat * 5)).block, (ad217.add ((x5_2).toNat * 5)).off + 3, none⟩ = some (.int .i64 ((rd_T25 l1_4 x5_2).f3)) ∧ w'.cell? ⟨(ad217.add ((x5_2).toNat * 5)).block, (ad217.add ((x5_2).toNat * 5)).off + 4, none⟩ = some (.slice A217_4 ((rd_T25 l1_4 x5_2).f4).length c217_4)) (ds := []) #[false, false, false, false, false, false, false, false, false, false, false, false] (by kernel_rfl) rfl rfl ⟨(blk_cell BK214.out 0).trans rfl, (blk_cell BK214.out 1).trans rfl, (blk_cell BK214.out 2).trans rfl, (blk_cell BK214.out 3).trans rfl, (blk_cell BK214.out 4).trans rfl, (blk_cell BK215.out 0).trans rfl, (blk_cell BK215.out 1).trans rfl, (blk_cell BK215.out 2).trans rfl, (blk_cell BK215.out 3).trans rfl, (blk_cell BK215.out 4).trans rfl, ((HB.out.cell (World.block_lt_of_cell? w _ hw216_0)).trans hw216_0), ((HB.out.cell (World.block_lt_of_cell? w _ hw216_1)).trans hw216_1), ((HB.out.cell (World.block_lt_of_cell? w _ hw216_2)).trans hw216_2), ((HB.out.cell (World.block_lt_of_cell? w _ hw216_3)).trans hw216_3), ((HB.out.cell (World.block_lt_of_cell? w _ hw216_4)).trans hw216_4), ((HB.out.cell (World.block_lt_of_cell? w _ hw217_0)).trans hw217_0), ((HB.out.cell (World.block_lt_of_cell? w _ hw217_1)).trans hw217_1), ((HB.out.cell (World.block_lt_of_cell? w _ hw217_2)).trans hw217_2), ((HB.out.cell (World.block_lt_of_cell? w _ hw217_3)).trans hw217_3), ((HB.out.cell (World.block_lt_of_cell? w _ hw217_4)).trans hw217_4)⟩ (fun hHeld => ?_); refine with_tabW gossamerref02_One.tab6 gossamerref02_One.bits6 (fun HT_ HW_ => ?_)
                    generalize wr.drew = w33 at BK214 BK215 HB HR216_4 HR217_4 hx216_0 hx216_1 hx216_2 hx216_3 hx216_4 hx217_0 hx217_1 hx217_2 hx217_3 hx217_4 hHeld ⊢
                    refine pure_ (i := 0) (N := some 48) (v := ?_) (a' := ?_) #[true, false, false, false, false, false, false, false, false, false, false, false] rfl rfl (any_of HT_.out (by kernel_rfl)) (fun _ _ _ h => h) (Or.inl ⟨by rfl, ?_⟩) ?_ ?_
                    rotate_left
                    · intro w'
                      go_simp
                      with_reducible rfl
                    rotate_left
                    · simp only [Act.put, List.setIfInBounds_toArray, List.set_cons_zero, List.set_cons_succ, i64_w, i32_w]
                      rfl
                    refine pure_ (i := 2) (N := some 50) (v := ?_) (a' := ?_) #[true, false, true, false, false, false, false, false, false, false, false, false] rfl rfl (any_of HT_.out (by kernel_rfl)) (fun _ _ _ h => h) (Or.inl ⟨by rfl, ?_⟩) ?_ ?_
                    rotate_left
                    · intro w'
                      go_simp
                      with_reducible rfl
                    rotate_left
                    · simp only [Act.put, List.setIfInBounds_toArray, List.set_cons_zero, List.set_cons_succ, i64_w, i32_w]
                      rfl
                    refine pure_ (i := 5) (N := some 53) (v := ?_) (a' := ?_) #[true, false, true, false, false, true, false, false, false, false, false, false] rfl rfl (any_of HT_.out (by kernel_rfl)) (fun _ _ _ h => h) (Or.inl ⟨by rfl, ?_⟩) ?_ ?_
                    rotate_left
                    · intro w'
                      go_simp
                      with_reducible rfl
                    rotate_left
                    · simp only [Act.put, List.setIfInBounds_toArray, List.set_cons_zero, List.set_cons_succ, i64_w, i32_w]
                      rfl
                    refine pure_ (i := 7) (N := some 55) (v := ?_) (a' := ?_) #[true, false, true, false, false, true, false, true, false, false, false, false] rfl rfl (any_of HT_.out (by kernel_rfl)) (fun _ _ _ h => h) (Or.inl ⟨by rfl, ?_⟩) ?_ ?_
                    rotate_left
                    · intro w'
                      go_simp
                      with_reducible rfl
                    rotate_left
                    · simp only [Act.put, List.setIfInBounds_toArray, List.set_cons_zero, List.set_cons_succ, i64_w, i32_w]
                      rfl
                    refine take_ (i := 1) (N := some 49) (v := ?_) (a' := ?_) #[true, true, true, false, false, true, false, true, false, false, false, false] rfl rfl (take_ofW HT_.out HW_.out (by kernel_rfl)) (fun _ _ _ h => h) (Or.inl ⟨by rfl, ?_⟩) hHeld ?_ ?_
                    rotate_left
                    · rintro w' ⟨s0, s1, s2, s3, s4, s5, s6, s7, s8, s9, s10, s11, s12, s13, s14, s15, s16, s17, s18, s19⟩
                      go_simp
                      with_reducible rfl
                    rotate_left
                    · simp only [Act.put, List.setIfInBounds_toArray, List.set_cons_zero, List.set_cons_succ, i64_w, i32_w]
                      rfl
                    refine pure_ (i := 3) (N := some 51) (v := ?_) (a' := ?_) #[true, true, true, true, false, true, false, true, false, false, false, false] rfl rfl (any_of HT_.out (by kernel_rfl)) (fun _ _ _ h => h) (Or.inl ⟨by rfl, ?_⟩) ?_ ?_
                    rotate_left
                    · intro w'
                      go_simp
                      with_reducible rfl
                    rotate_left
                    · simp only [Act.put, List.setIfInBounds_toArray, List.set_cons_zero, List.set_cons_succ, i64_w, i32_w]
                      rfl
                    refine take_ (i := 4) (N := some 52) (v := ?_) (a' := ?_) #[true, true, true, true, true, true, false, true, false, false, false, false] rfl rfl (take_ofW HT_.out HW_.out (by kernel_rfl)) (fun _ _ _ h => h) (Or.inl ⟨by rfl, ?_⟩) hHeld ?_ ?_
                    rotate_left
                    · rintro w' ⟨s0, s1, s2, s3, s4, s5, s6, s7, s8, s9, s10, s11, s12, s13, s14, s15, s16, s17, s18, s19⟩
                      go_simp
                      with_reducible rfl
                    rotate_left
                    · simp only [Act.put, List.setIfInBounds_toArray, List.set_cons_zero, List.set_cons_succ, i64_w, i32_w]
                      rfl
                    refine take_ (i := 6) (N := some 54) (v := ?_) (a' := ?_) #[true, true, true, true, true, true, true, true, false, false, false, false] rfl rfl (take_ofW HT_.out HW_.out (by kernel_rfl)) (fun _ _ _ h => h) (Or.inl ⟨by rfl, ?_⟩) hHeld ?_ ?_
                    rotate_left
                    · rintro w' ⟨s0, s1, s2, s3, s4, s5, s6, s7, s8, s9, s10, s11, s12, s13, s14, s15, s16, s17, s18, s19⟩
                      go_simp
                      with_reducible rfl
                    rotate_left
                    · simp only [Act.put, List.setIfInBounds_toArray, List.set_cons_zero, List.set_cons_succ, i64_w, i32_w]
                      rfl
                    refine pure_ (i := 8) (N := some 56) (v := ?_) (a' := ?_) #[true, true, true, true, true, true, true, true, true, false, false, false] rfl rfl (any_of HT_.out (by kernel_rfl)) (fun _ _ _ h => h) (Or.inl ⟨by rfl, ?_⟩) ?_ ?_
                    rotate_left
                    · intro w'
                      go_simp
                      with_reducible rfl
                    rotate_left
                    · simp only [Act.put, List.setIfInBounds_toArray, List.set_cons_zero, List.set_cons_succ, i64_w, i32_w]
                      rfl
                    refine take_ (i := 9) (N := some 57) (v := ?_) (a' := ?_) #[true, true, true, true, true, true, true, true, true, true, false, false] rfl rfl (take_ofW HT_.out HW_.out (by kernel_rfl)) (fun _ _ _ h => h) (Or.inl ⟨by rfl, ?_⟩) hHeld ?_ ?_
                    rotate_left
                    · rintro w' ⟨s0, s1, s2, s3, s4, s5, s6, s7, s8, s9, s10, s11, s12, s13, s14, s15, s16, s17, s18, s19⟩
                      go_simp
                      with_reducible rfl
                    rotate_left
                    · simp only [Act.put, List.setIfInBounds_toArray, List.set_cons_zero, List.set_cons_succ, i64_w, i32_w]
                      rfl
                    refine one_ (i := 10) (N := some 58) #[true, true, true, true, true, true, true, true, true, true, true, false] rfl rfl (one_of HT_.out (by kernel_rfl)) (by decide) (fun K hK => ?_)
                    refine goes_ Tryz.func7 (by kernel_rfl) rfl #[.agg #[.int .i64 ((rd_T25 l0_4 x5_2).f0), .string ((rd_T25 l0_4 x5_2).f1), .int .i64 ((rd_T25 l0_4 x5_2).f2), .int .i64 ((rd_T25 l0_4 x5_2).f3), .slice A216_4 ((rd_T25 l0_4 x5_2).f4).length c216_4], .agg #[.int .i64 ((rd_T25 l1_4 x5_2).f0), .string ((rd_T25 l1_4 x5_2).f1), .int .i64 ((rd_T25 l1_4 x5_2).f2), .int .i64 ((rd_T25 l1_4 x5_2).f3), .slice A217_4 ((rd_T25 l1_4 x5_2).f4).length c217_4]] (by rfl) rfl rfl (by (try simp only [List.map_toArray, List.map_cons, List.map_nil]); first | done | rfl | (simp only [List.length_drop, List.length_take]; rfl)) ?_
                    with_reducible refine (ih k2 (by have := HJ2.out; have := HK2.out; omega) ((rd_T25 l0_4 x5_2).f0) ((rd_T25 l0_4 x5_2).f1) ((rd_T25 l0_4 x5_2).f2) ((rd_T25 l0_4 x5_2).f3) _ _ ((rd_T25 l0_4 x5_2).f4) ((rd_T25 l1_4 x5_2).f0) ((rd_T25 l1_4 x5_2).f1) ((rd_T25 l1_4 x5_2).f2) ((rd_T25 l1_4 x5_2).f3) _ _ ((rd_T25 l1_4 x5_2).f4) true _ ?side1 ?side2 ?side3 ?side4 A29.out).mono ?_
                    (case side1 => repeat (first | exact (Kd.C_below HR216_4.out HB.out) | (with_reducible refine Kd.C_alloc ?_ _) | (with_reducible refine Kd.C_drewN ?_ _) | (with_reducible refine Kd.C_drew ?_)))
                    (case side2 => exact HC216_4.out)
                    (case side3 => repeat (first | exact (Kd.C_below HR217_4.out HB.out) | (with_reducible refine Kd.C_alloc ?_ _) | (with_reducible refine Kd.C_drewN ?_ _) | (with_reducible refine Kd.C_drew ?_)))
                    (case side4 => exact HC217_4.out)
                    rintro e w34 ⟨rfl, hb⟩
                    refine ⟨_, rfl, ?_⟩
                    have n0_ := Aside0.mk (blk_below (g := gb214) (o := .cells #[.int .i64 a0_0, .string a0_1, .int .i64 a0_2, .int .i64 a0_3, .slice (some ad216) l0_4.length c0_4] 25 (0, 0)) (by (with_reducible repeat (first | refine blk_drewN ?_ _ | refine blk_drew ?_ | refine blk_alloc ?_ _)); exact BK214.out) hb)
                    have n1_ := Aside0.mk (blk_below (g := gb215) (o := .cells #[.int .i64 a1_0, .string a1_1, .int .i64 a1_2, .int .i64 a1_3, .slice (some ad217) l1_4.length c1_4] 25 (0, 0)) (by (with_reducible repeat (first | refine blk_drewN ?_ _ | refine blk_drew ?_ | refine blk_alloc ?_ _)); exact BK215.out) hb)
                    have n2_ := Aside0.mk (below_step (by repeat (first | (with_reducible first | exact HB.out | apply below_alloc | apply pw_below_drewN | apply below_drew1 | refine below_set ?_ GE214.out | refine below_set ?_ GE215.out) | exact HB.out)) hb)
                    clear BK214
                    clear BK215
                    clear HB
                    have BK214 := n0_
                    have BK215 := n1_
                    have HB := n2_
                    clear n0_ n1_ n2_
                    (try clear hb)
                    (try clear hb2)
                    (try clear hk)
                    (try clear hi)
                    refine hK.out _ _ ⟨(blk_cell BK214.out 0).trans rfl, (blk_cell BK214.out 1).trans rfl, (blk_cell BK214.out 2).trans rfl, (blk_cell BK214.out 3).trans rfl, (blk_cell BK214.out 4).trans rfl, (blk_cell BK215.out 0).trans rfl, (blk_cell BK215.out 1).trans rfl, (blk_cell BK215.out 2).trans rfl, (blk_cell BK215.out 3).trans rfl, (blk_cell BK215.out 4).trans rfl, ((HB.out.cell (World.block_lt_of_cell? w _ hw216_0)).trans hw216_0), ((HB.out.cell (World.block_lt_of_cell? w _ hw216_1)).trans hw216_1), ((HB.out.cell (World.block_lt_of_cell? w _ hw216_2)).trans hw216_2), ((HB.out.cell (World.block_lt_of_cell? w _ hw216_3)).trans hw216_3), ((HB.out.cell (World.block_lt_of_cell? w _ hw216_4)).trans hw216_4), ((HB.out.cell (World.block_lt_of_cell? w _ hw217_0)).trans hw217_0), ((HB.out.cell (World.block_lt_of_cell? w _ hw217_1)).trans hw217_1), ((HB.out.cell (World.block_lt_of_cell? w _ hw217_2)).trans hw217_2), ((HB.out.cell (World.block_lt_of_cell? w _ hw217_3)).trans hw217_3), ((HB.out.cell (World.block_lt_of_cell? w _ hw217_4)).trans hw217_4)⟩ (fun hHeld => ?_)
                    clear hK K
                    refine norm_ (a' := ?_) ?_ ?_
                    rotate_left
                    · show Act.put _ (some 58) _ = _
                      simp only [Act.put, List.setIfInBounds_toArray, List.set_cons_zero, List.set_cons_succ, i64_w, i32_w]
                      rfl
                    refine pure_ (i := 11) (N := some 59) (v := ?_) (a' := ?_) #[true, true, true, true, true, true, true, true, true, true, true, true] rfl rfl (any_of HT_.out (by kernel_rfl)) (fun _ _ _ h => h) (Or.inl ⟨by rfl, ?_⟩) ?_ ?_
                    rotate_left
                    · intro w'
                      go_simp
                      with_reducible rfl
                    rotate_left
                    · simp only [Act.put, List.setIfInBounds_toArray, List.set_cons_zero, List.set_cons_succ, i64_w, i32_w]
                      rfl
                    refine done_ (done_of HT_.out (by kernel_rfl)) ?_
                    try go_wp2
                    go_roundg k2
                    case measure => have := HJ2.out; have := HK2.out; omega
                    case rel => exact ⟨(wrap64 (x5_2 + 1)), (by first | rfl | (simp; done) | (simp [*]; done)), H', ⟨by have := HJ2.out; have := HK2.out; omega⟩, ⟨by (with_reducible repeat (first | refine blk_drewN ?_ _ | refine blk_drew ?_ | refine blk_alloc ?_ _)); exact BK214.out⟩, ⟨by (with_reducible repeat (first | refine blk_drewN ?_ _ | refine blk_drew ?_ | refine blk_alloc ?_ _)); exact BK215.out⟩, ⟨by repeat (first | (with_reducible first | exact HB.out | apply below_alloc | apply pw_below_drewN | apply below_drew1 | refine below_set ?_ GE214.out | refine below_set ?_ GE215.out) | exact HB.out)⟩⟩
                  · replace c30 := Bool.eq_false_iff.mpr c30
                    subst c30
                    have H1 : (some false) = some r := by rw [if_neg (show ¬ (false = true) by decide)] at H; exact H
                    clear H
                    have H := H1
                    clear H1
                    obtain rfl := Option.some.inj H
                    have hnb35 := NB214_215.out
                    have hnc35 := NB215_214.out
                    have hcz36_0 : wr.cell? ⟨gb214, 0, none⟩ = some (.int .i64 a0_0) := (blk_cell BK214.out 0).trans rfl
                    have hcz36_1 : wr.cell? ⟨gb214, 1, none⟩ = some (.string a0_1) := (blk_cell BK214.out 1).trans rfl
                    have hcz36_2 : wr.cell? ⟨gb214, 2, none⟩ = some (.int .i64 a0_2) := (blk_cell BK214.out 2).trans rfl
                    have hcz36_3 : wr.cell? ⟨gb214, 3, none⟩ = some (.int .i64 a0_3) := (blk_cell BK214.out 3).trans rfl
                    have hcz36_4 : wr.cell? ⟨gb214, 4, none⟩ = some (.slice A0_4 l0_4.length c0_4) := (blk_cell BK214.out 4).trans rfl
                    have hfz36_0 := blk_frozen BK214.out 0
                    have hfz36_1 := blk_frozen BK214.out 1
                    have hfz36_2 := blk_frozen BK214.out 2
                    have hfz36_3 := blk_frozen BK214.out 3
                    have hfz36_4 := blk_frozen BK214.out 4
                    try go_wp2
                    have n0_ := Aside0.mk (blk_drew BK214.out)
                    have n1_ := Aside0.mk (blk_drew BK215.out)
                    have n2_ := Aside0.mk (below_drew1 HB.out)
                    clear BK214
                    clear BK215
                    clear HB
                    have BK214 := n0_
                    have BK215 := n1_
                    have HB := n2_
                    clear n0_ n1_ n2_
                    have p216 : 0 ≤ (x5_2 : Int) := of_decide_eq_true (by first | (with_reducible assumption) | assumption)
                    have q216 : x5_2 < (l0_4.length : Int) := of_decide_eq_true (by first | (with_reducible assumption) | assumption)
                    obtain ⟨ad216, A216_4, c216_4, e216, hx216_0, hx216_1, hx216_2, hx216_3, hx216_4, hl216_4, hi216_4⟩ := at_T25 HR0_4.out x5_2 p216 q216
                    have hw216_4 := hx216_4
                    have hw216_3 := hx216_3
                    have hw216_2 := hx216_2
                    have hw216_1 := hx216_1
                    have hw216_0 := hx216_0
                    cases e216
                    replace hx216_0 := (HB.out.cell (World.block_lt_of_cell? w _ hx216_0)).trans hx216_0
                    replace hx216_1 := (HB.out.cell (World.block_lt_of_cell? w _ hx216_1)).trans hx216_1
                    replace hx216_2 := (HB.out.cell (World.block_lt_of_cell? w _ hx216_2)).trans hx216_2
                    replace hx216_3 := (HB.out.cell (World.block_lt_of_cell? w _ hx216_3)).trans hx216_3
                    replace hx216_4 := (HB.out.cell (World.block_lt_of_cell? w _ hx216_4)).trans hx216_4
                    have HR216_4 := Aside0.mk hi216_4
                    have HC216_4 := Aside0.mk hl216_4
                    clear hi216_4 hl216_4
                    replace p216 := eq_true p216
                    replace q216 := eq_true q216
                    have p217 : 0 ≤ (x5_2 : Int) := of_decide_eq_true (by first | (with_reducible assumption) | assumption)
                    have q217 : x5_2 < (l1_4.length : Int) := of_decide_eq_true (by first | (with_reducible assumption) | assumption)
                    obtain ⟨ad217, A217_4, c217_4, e217, hx217_0, hx217_1, hx217_2, hx217_3, hx217_4, hl217_4, hi217_4⟩ := at_T25 HR1_4.out x5_2 p217 q217
                    have hw217_4 := hx217_4
                    have hw217_3 := hx217_3
                    have hw217_2 := hx217_2
                    have hw217_1 := hx217_1
                    have hw217_0 := hx217_0
                    cases e217
                    replace hx217_0 := (HB.out.cell (World.block_lt_of_cell? w _ hx217_0)).trans hx217_0
                    replace hx217_1 := (HB.out.cell (World.block_lt_of_cell? w _ hx217_1)).trans hx217_1
                    replace hx217_2 := (HB.out.cell (World.block_lt_of_cell? w _ hx217_2)).trans hx217_2
                    replace hx217_3 := (HB.out.cell (World.block_lt_of_cell? w _ hx217_3)).trans hx217_3
                    replace hx217_4 := (HB.out.cell (World.block_lt_of_cell? w _ hx217_4)).trans hx217_4
                    have HR217_4 := Aside0.mk hi217_4
                    have HC217_4 := Aside0.mk hl217_4
                    clear hi217_4 hl217_4
                    replace p217 := eq_true p217
                    replace q217 := eq_true q217
                    refine start_ (n := 12) (S := fun w' => w'.cell? ⟨gb214, 0, none⟩ = some (.int .i64 a0_0) ∧ w'.cell? ⟨gb214, 1, none⟩ = some (.string a0_1) ∧ w'.cell? ⟨gb214, 2, none⟩ = some (.int .i64 a0_2) ∧ w'.cell? ⟨gb214, 3, none⟩ = some (.int .i64 a0_3) ∧ w'.cell? ⟨gb214, 4, none⟩ = some (.slice (some ad216) l0_4.length c0_4) ∧ w'.cell? ⟨gb215, 0, none⟩ = some (.int .i64 a1_0) ∧ w'.cell? ⟨gb215, 1, none⟩ = some (.string a1_1) ∧ w'.cell? ⟨gb215, 2, none⟩ = some (.int .i64 a1_2) ∧ w'.cell? ⟨gb215, 3, none⟩ = some (.int .i64 a1_3) ∧ w'.cell? ⟨gb215, 4, none⟩ = some (.slice (some ad217) l1_4.length c1_4) ∧ w'.cell? (ad216.add ((x5_2).toNat * 5)) = some (.int .i64 ((rd_T25 l0_4 x5_2).f0)) ∧ w'.cell? ⟨(ad216.add ((x5_2).toNat * 5)).block, (ad216.add ((x5_2).toNat * 5)).off + 1, none⟩ = some (.string ((rd_T25 l0_4 x5_2).f1)) ∧ w'.cell? ⟨(ad216.add ((x5_2).toNat * 5)).block, (ad216.add ((x5_2).toNat * 5)).off + 2, none⟩ = some (.int .i64 ((rd_T25 l0_4 x5_2).f2)) ∧ w'.cell? ⟨(ad216.add ((x5_2).toNat * 5)).block, (ad216.add ((x5_2).toNat * 5)).off + 3, none⟩ = some (.int .i64 ((rd_T25 l0_4 x5_2).f3)) ∧ w'.cell? ⟨(ad216.add ((x5_2).toNat * 5)).block, (ad216.add ((x5_2).toNat * 5)).off + 4, none⟩ = some (.slice A216_4 ((rd_T25 l0_4 x5_2).f4).length c216_4) ∧ w'.cell? (ad217.add ((x5_2).toNat * 5)) = some (.int .i64 ((rd_T25 l1_4 x5_2).f0)) ∧ w'.cell? ⟨(ad217.add ((x5_2).toNat * 5)).block, (ad217.add ((x5_2).toNat * 5)).off + 1, none⟩ = some (.string ((rd_T25 l1_4 x5_2).f1)) ∧ w'.cell? ⟨(ad217.add ((x5_2).toNat * 5)).block, (ad217.add ((x5_2).toNat * 5)).off + 2, none⟩ = some (.int .i64 ((rd_T25 l1_4 x5_2).f2)) ∧ w'.cell? ⟨(ad217.add ((x5_2).toNat * 5)).block, (ad217.add ((x5_2).toNat * 5)).off + 3, none⟩ = some (.int .i64 ((rd_T25 l1_4 x5_2).f3)) ∧ w'.cell? ⟨(ad217.add ((x5_2).toNat * 5)).block, (ad217.add ((x5_2).toNat * 5)).off + 4, none⟩ = some (.slice A217_4 ((rd_T25 l1_4 x5_2).f4).length c217_4)) (ds := []) #[false, false, false, false, false, false, false, false, false, false, false, false] (by kernel_rfl) rfl rfl ⟨(blk_cell BK214.out 0).trans rfl, (blk_cell BK214.out 1).trans rfl, (blk_cell BK214.out 2).trans rfl, (blk_cell BK214.out 3).trans rfl, (blk_cell BK214.out 4).trans rfl, (blk_cell BK215.out 0).trans rfl, (blk_cell BK215.out 1).trans rfl, (blk_cell BK215.out 2).trans rfl, (blk_cell BK215.out 3).trans rfl, (blk_cell BK215.out 4).trans rfl, ((HB.out.cell (World.block_lt_of_cell? w _ hw216_0)).trans hw216_0), ((HB.out.cell (World.block_lt_of_cell? w _ hw216_1)).trans hw216_1), ((HB.out.cell (World.block_lt_of_cell? w _ hw216_2)).trans hw216_2), ((HB.out.cell (World.block_lt_of_cell? w _ hw216_3)).trans hw216_3), ((HB.out.cell (World.block_lt_of_cell? w _ hw216_4)).trans hw216_4), ((HB.out.cell (World.block_lt_of_cell? w _ hw217_0)).trans hw217_0), ((HB.out.cell (World.block_lt_of_cell? w _ hw217_1)).trans hw217_1), ((HB.out.cell (World.block_lt_of_cell? w _ hw217_2)).trans hw217_2), ((HB.out.cell (World.block_lt_of_cell? w _ hw217_3)).trans hw217_3), ((HB.out.cell (World.block_lt_of_cell? w _ hw217_4)).trans hw217_4)⟩ (fun hHeld => ?_); refine with_tabW gossamerref02_One.tab6 gossamerref02_One.bits6 (fun HT_ HW_ => ?_)
                    generalize wr.drew = w37 at BK214 BK215 HB HR216_4 HR217_4 hx216_0 hx216_1 hx216_2 hx216_3 hx216_4 hx217_0 hx217_1 hx217_2 hx217_3 hx217_4 hHeld ⊢
                    refine pure_ (i := 0) (N := some 48) (v := ?_) (a' := ?_) #[true, false, false, false, false, false, false, false, false, false, false, false] rfl rfl (any_of HT_.out (by kernel_rfl)) (fun _ _ _ h => h) (Or.inl ⟨by rfl, ?_⟩) ?_ ?_
                    rotate_left
                    · intro w'
                      go_simp
                      with_reducible rfl
                    rotate_left
                    · simp only [Act.put, List.setIfInBounds_toArray, List.set_cons_zero, List.set_cons_succ, i64_w, i32_w]
                      rfl
                    refine pure_ (i := 2) (N := some 50) (v := ?_) (a' := ?_) #[true, false, true, false, false, false, false, false, false, false, false, false] rfl rfl (any_of HT_.out (by kernel_rfl)) (fun _ _ _ h => h) (Or.inl ⟨by rfl, ?_⟩) ?_ ?_
                    rotate_left
                    · intro w'
                      go_simp
                      with_reducible rfl
                    rotate_left
                    · simp only [Act.put, List.setIfInBounds_toArray, List.set_cons_zero, List.set_cons_succ, i64_w, i32_w]
                      rfl
                    refine pure_ (i := 5) (N := some 53) (v := ?_) (a' := ?_) #[true, false, true, false, false, true, false, false, false, false, false, false] rfl rfl (any_of HT_.out (by kernel_rfl)) (fun _ _ _ h => h) (Or.inl ⟨by rfl, ?_⟩) ?_ ?_
                    rotate_left
                    · intro w'
                      go_simp
                      with_reducible rfl
                    rotate_left
                    · simp only [Act.put, List.setIfInBounds_toArray, List.set_cons_zero, List.set_cons_succ, i64_w, i32_w]
                      rfl
                    refine pure_ (i := 7) (N := some 55) (v := ?_) (a' := ?_) #[true, false, true, false, false, true, false, true, false, false, false, false] rfl rfl (any_of HT_.out (by kernel_rfl)) (fun _ _ _ h => h) (Or.inl ⟨by rfl, ?_⟩) ?_ ?_
                    rotate_left
                    · intro w'
                      go_simp
                      with_reducible rfl
                    rotate_left
                    · simp only [Act.put, List.setIfInBounds_toArray, List.set_cons_zero, List.set_cons_succ, i64_w, i32_w]
                      rfl
                    refine take_ (i := 1) (N := some 49) (v := ?_) (a' := ?_) #[true, true, true, false, false, true, false, true, false, false, false, false] rfl rfl (take_ofW HT_.out HW_.out (by kernel_rfl)) (fun _ _ _ h => h) (Or.inl ⟨by rfl, ?_⟩) hHeld ?_ ?_
                    rotate_left
                    · rintro w' ⟨s0, s1, s2, s3, s4, s5, s6, s7, s8, s9, s10, s11, s12, s13, s14, s15, s16, s17, s18, s19⟩
                      go_simp
                      with_reducible rfl
                    rotate_left
                    · simp only [Act.put, List.setIfInBounds_toArray, List.set_cons_zero, List.set_cons_succ, i64_w, i32_w]
                      rfl
                    refine pure_ (i := 3) (N := some 51) (v := ?_) (a' := ?_) #[true, true, true, true, false, true, false, true, false, false, false, false] rfl rfl (any_of HT_.out (by kernel_rfl)) (fun _ _ _ h => h) (Or.inl ⟨by rfl, ?_⟩) ?_ ?_
                    rotate_left
                    · intro w'
                      go_simp
                      with_reducible rfl
                    rotate_left
                    · simp only [Act.put, List.setIfInBounds_toArray, List.set_cons_zero, List.set_cons_succ, i64_w, i32_w]
                      rfl
                    refine take_ (i := 4) (N := some 52) (v := ?_) (a' := ?_) #[true, true, true, true, true, true, false, true, false, false, false, false] rfl rfl (take_ofW HT_.out HW_.out (by kernel_rfl)) (fun _ _ _ h => h) (Or.inl ⟨by rfl, ?_⟩) hHeld ?_ ?_
                    rotate_left
                    · rintro w' ⟨s0, s1, s2, s3, s4, s5, s6, s7, s8, s9, s10, s11, s12, s13, s14, s15, s16, s17, s18, s19⟩
                      go_simp
                      with_reducible rfl
                    rotate_left
                    · simp only [Act.put, List.setIfInBounds_toArray, List.set_cons_zero, List.set_cons_succ, i64_w, i32_w]
                      rfl
                    refine take_ (i := 6) (N := some 54) (v := ?_) (a' := ?_) #[true, true, true, true, true, true, true, true, false, false, false, false] rfl rfl (take_ofW HT_.out HW_.out (by kernel_rfl)) (fun _ _ _ h => h) (Or.inl ⟨by rfl, ?_⟩) hHeld ?_ ?_
                    rotate_left
                    · rintro w' ⟨s0, s1, s2, s3, s4, s5, s6, s7, s8, s9, s10, s11, s12, s13, s14, s15, s16, s17, s18, s19⟩
                      go_simp
                      with_reducible rfl
                    rotate_left
                    · simp only [Act.put, List.setIfInBounds_toArray, List.set_cons_zero, List.set_cons_succ, i64_w, i32_w]
                      rfl
                    refine pure_ (i := 8) (N := some 56) (v := ?_) (a' := ?_) #[true, true, true, true, true, true, true, true, true, false, false, false] rfl rfl (any_of HT_.out (by kernel_rfl)) (fun _ _ _ h => h) (Or.inl ⟨by rfl, ?_⟩) ?_ ?_
                    rotate_left
                    · intro w'
                      go_simp
                      with_reducible rfl
                    rotate_left
                    · simp only [Act.put, List.setIfInBounds_toArray, List.set_cons_zero, List.set_cons_succ, i64_w, i32_w]
                      rfl
                    refine take_ (i := 9) (N := some 57) (v := ?_) (a' := ?_) #[true, true, true, true, true, true, true, true, true, true, false, false] rfl rfl (take_ofW HT_.out HW_.out (by kernel_rfl)) (fun _ _ _ h => h) (Or.inl ⟨by rfl, ?_⟩) hHeld ?_ ?_
                    rotate_left
                    · rintro w' ⟨s0, s1, s2, s3, s4, s5, s6, s7, s8, s9, s10, s11, s12, s13, s14, s15, s16, s17, s18, s19⟩
                      go_simp
                      with_reducible rfl
                    rotate_left
                    · simp only [Act.put, List.setIfInBounds_toArray, List.set_cons_zero, List.set_cons_succ, i64_w, i32_w]
                      rfl
                    refine one_ (i := 10) (N := some 58) #[true, true, true, true, true, true, true, true, true, true, true, false] rfl rfl (one_of HT_.out (by kernel_rfl)) (by decide) (fun K hK => ?_)
                    refine goes_ Tryz.func7 (by kernel_rfl) rfl #[.agg #[.int .i64 ((rd_T25 l0_4 x5_2).f0), .string ((rd_T25 l0_4 x5_2).f1), .int .i64 ((rd_T25 l0_4 x5_2).f2), .int .i64 ((rd_T25 l0_4 x5_2).f3), .slice A216_4 ((rd_T25 l0_4 x5_2).f4).length c216_4], .agg #[.int .i64 ((rd_T25 l1_4 x5_2).f0), .string ((rd_T25 l1_4 x5_2).f1), .int .i64 ((rd_T25 l1_4 x5_2).f2), .int .i64 ((rd_T25 l1_4 x5_2).f3), .slice A217_4 ((rd_T25 l1_4 x5_2).f4).length c217_4]] (by rfl) rfl rfl (by (try simp only [List.map_toArray, List.map_cons, List.map_nil]); first | done | rfl | (simp only [List.length_drop, List.length_take]; rfl)) ?_
                    with_reducible refine (ih k2 (by have := HJ2.out; have := HK2.out; omega) ((rd_T25 l0_4 x5_2).f0) ((rd_T25 l0_4 x5_2).f1) ((rd_T25 l0_4 x5_2).f2) ((rd_T25 l0_4 x5_2).f3) _ _ ((rd_T25 l0_4 x5_2).f4) ((rd_T25 l1_4 x5_2).f0) ((rd_T25 l1_4 x5_2).f1) ((rd_T25 l1_4 x5_2).f2) ((rd_T25 l1_4 x5_2).f3) _ _ ((rd_T25 l1_4 x5_2).f4) false _ ?side1 ?side2 ?side3 ?side4 A29.out).mono ?_
                    (case side1 => repeat (first | exact (Kd.C_below HR216_4.out HB.out) | (with_reducible refine Kd.C_alloc ?_ _) | (with_reducible refine Kd.C_drewN ?_ _) | (with_reducible refine Kd.C_drew ?_)))
                    (case side2 => exact HC216_4.out)
                    (case side3 => repeat (first | exact (Kd.C_below HR217_4.out HB.out) | (with_reducible refine Kd.C_alloc ?_ _) | (with_reducible refine Kd.C_drewN ?_ _) | (with_reducible refine Kd.C_drew ?_)))
                    (case side4 => exact HC217_4.out)
                    rintro e w38 ⟨rfl, hb⟩
                    refine ⟨_, rfl, ?_⟩
                    have n0_ := Aside0.mk (blk_below (g := gb214) (o := .cells #[.int .i64 a0_0, .string a0_1, .int .i64 a0_2, .int .i64 a0_3, .slice (some ad216) l0_4.length c0_4] 25 (0, 0)) (by (with_reducible repeat (first | refine blk_drewN ?_ _ | refine blk_drew ?_ | refine blk_alloc ?_ _)); exact BK214.out) hb)
                    have n1_ := Aside0.mk (blk_below (g := gb215) (o := .cells #[.int .i64 a1_0, .string a1_1, .int .i64 a1_2, .int .i64 a1_3, .slice (some ad217) l1_4.length c1_4] 25 (0, 0)) (by (with_reducible repeat (first | refine blk_drewN ?_ _ | refine blk_drew ?_ | refine blk_alloc ?_ _)); exact BK215.out) hb)
                    have n2_ := Aside0.mk (below_step (by repeat (first | (with_reducible first | exact HB.out | apply below_alloc | apply pw_below_drewN | apply below_drew1 | refine below_set ?_ GE214.out | refine below_set ?_ GE215.out) | exact HB.out)) hb)
                    clear BK214
                    clear BK215
                    clear HB
                    have BK214 := n0_
                    have BK215 := n1_
                    have HB := n2_
                    clear n0_ n1_ n2_
                    (try clear hb)
                    (try clear hb2)
                    (try clear hk)
                    (try clear hi)
                    refine hK.out _ _ ⟨(blk_cell BK214.out 0).trans rfl, (blk_cell BK214.out 1).trans rfl, (blk_cell BK214.out 2).trans rfl, (blk_cell BK214.out 3).trans rfl, (blk_cell BK214.out 4).trans rfl, (blk_cell BK215.out 0).trans rfl, (blk_cell BK215.out 1).trans rfl, (blk_cell BK215.out 2).trans rfl, (blk_cell BK215.out 3).trans rfl, (blk_cell BK215.out 4).trans rfl, ((HB.out.cell (World.block_lt_of_cell? w _ hw216_0)).trans hw216_0), ((HB.out.cell (World.block_lt_of_cell? w _ hw216_1)).trans hw216_1), ((HB.out.cell (World.block_lt_of_cell? w _ hw216_2)).trans hw216_2), ((HB.out.cell (World.block_lt_of_cell? w _ hw216_3)).trans hw216_3), ((HB.out.cell (World.block_lt_of_cell? w _ hw216_4)).trans hw216_4), ((HB.out.cell (World.block_lt_of_cell? w _ hw217_0)).trans hw217_0), ((HB.out.cell (World.block_lt_of_cell? w _ hw217_1)).trans hw217_1), ((HB.out.cell (World.block_lt_of_cell? w _ hw217_2)).trans hw217_2), ((HB.out.cell (World.block_lt_of_cell? w _ hw217_3)).trans hw217_3), ((HB.out.cell (World.block_lt_of_cell? w _ hw217_4)).trans hw217_4)⟩ (fun hHeld => ?_)
                    clear hK K
                    refine norm_ (a' := ?_) ?_ ?_
                    rotate_left
                    · show Act.put _ (some 58) _ = _
                      simp only [Act.put, List.setIfInBounds_toArray, List.set_cons_zero, List.set_cons_succ, i64_w, i32_w]
                      rfl
                    refine pure_ (i := 11) (N := some 59) (v := ?_) (a' := ?_) #[true, true, true, true, true, true, true, true, true, true, true, true] rfl rfl (any_of HT_.out (by kernel_rfl)) (fun _ _ _ h => h) (Or.inl ⟨by rfl, ?_⟩) ?_ ?_
                    rotate_left
                    · intro w'
                      go_simp
                      with_reducible rfl
                    rotate_left
                    · simp only [Act.put, List.setIfInBounds_toArray, List.set_cons_zero, List.set_cons_succ, i64_w, i32_w]
                      rfl
                    refine done_ (done_of HT_.out (by kernel_rfl)) ?_
                    try go_wp2
                    go_ret
                    exact ⟨by first | rfl | (simp [errW_none, errW_some] <;> rfl) | (simp [*, errW_none, errW_some] <;> rfl), by repeat (first | (with_reducible first | exact HB.out | apply below_alloc | apply pw_below_drewN | apply below_drew1 | refine below_set ?_ GE214.out | refine below_set ?_ GE215.out) | exact HB.out)⟩
                · rw [if_neg c28] at H
                  exact absurd H (by simp)
              · rw [if_neg c27] at H
                exact absurd H (by simp)
            · rw [if_neg c26] at H
              have c26b0 : decide (x5_2 < (l0_4.length : Int)) = false := decide_eq_false c26
              clear c26
              obtain rfl := Option.some.inj H
              have hnb39 := NB214_215.out
              have hnc39 := NB215_214.out
              have hcz40_0 : wr.cell? ⟨gb214, 0, none⟩ = some (.int .i64 a0_0) := (blk_cell BK214.out 0).trans rfl
              have hcz40_1 : wr.cell? ⟨gb214, 1, none⟩ = some (.string a0_1) := (blk_cell BK214.out 1).trans rfl
              have hcz40_2 : wr.cell? ⟨gb214, 2, none⟩ = some (.int .i64 a0_2) := (blk_cell BK214.out 2).trans rfl
              have hcz40_3 : wr.cell? ⟨gb214, 3, none⟩ = some (.int .i64 a0_3) := (blk_cell BK214.out 3).trans rfl
              have hcz40_4 : wr.cell? ⟨gb214, 4, none⟩ = some (.slice A0_4 l0_4.length c0_4) := (blk_cell BK214.out 4).trans rfl
              have hfz40_0 := blk_frozen BK214.out 0
              have hfz40_1 := blk_frozen BK214.out 1
              have hfz40_2 := blk_frozen BK214.out 2
              have hfz40_3 := blk_frozen BK214.out 3
              have hfz40_4 := blk_frozen BK214.out 4
              go_wp2
              go_ret
              exact ⟨by first | rfl | (simp [errW_none, errW_some] <;> rfl) | (simp [*, errW_none, errW_some] <;> rfl), by repeat (first | (with_reducible first | exact HB.out | apply below_alloc | apply pw_below_drewN | apply below_drew1 | refine below_set ?_ GE214.out | refine below_set ?_ GE215.out) | exact HB.out)⟩

end Go.Proofs.YtajcnjdinmgpjaaGreatDoor.P
namespace Go.Proofs.YtajcnjdinmgpjaaGreatDoor.P
open Go.RowKit Go.Proofs.YtajcnjdinmgpjaaGreatDoorW.PrintWords Go.Proofs.YtajcnjdinmgpjaaGreatDoorW.PrintLast Go.Proofs.YtajcnjdinmgpjaaGreatDoorW.PrintMore
attribute [local go_sem] max2_int min2_int max_two min_two max_three min_three max_four min_four   -- for this text's walks alone
set_option linter.unusedVariables false
set_option linter.unusedSimpArgs false

/-! ### gossamerref02_Same: function 14 -/
end Go.Proofs.YtajcnjdinmgpjaaGreatDoor.P
/- Depth, sameness and equality of trees, as the printed functions have them. -/
namespace Go.Proofs.YtajcnjdinmgpjaaGreatDoor.X
open Go.RowKit Go.Proofs.YtajcnjdinmgpjaaGreatDoorW.PrintWords Go.Proofs.YtajcnjdinmgpjaaGreatDoorW.PrintLast Go.Proofs.YtajcnjdinmgpjaaGreatDoorW.PrintMore Go.Proofs.YtajcnjdinmgpjaaGreatDoor.P
mutual
def tsz : Tree → Nat
  | ⟨_, _, _, _, l⟩ => tszL l + 1
def tszL : List Tree → Nat
  | [] => 0
  | t :: l => tsz t + tszL l
end
mutual
def tdp : Tree → Nat
  | ⟨_, _, _, _, l⟩ => tdpL l + 1
def tdpL : List Tree → Nat
  | [] => 0
  | t :: l => max (tdp t) (tdpL l)
end
theorem tsz_eq (t : Tree) : tsz t = tszL t.f4 + 1 := by cases t; rw [tsz]
theorem tdp_eq (t : Tree) : tdp t = tdpL t.f4 + 1 := by cases t; rw [tdp]
theorem tsz_pos (t : Tree) : 0 < tsz t := by rw [tsz_eq]; omega
theorem tszL_cons (t : Tree) (l : List Tree) : tszL (t :: l) = tsz t + tszL l := by rw [tszL]
theorem tdpL_cons (t : Tree) (l : List Tree) : tdpL (t :: l) = max (tdp t) (tdpL l) := by rw [tdpL]
theorem tszL_nil : tszL [] = 0 := by rw [tszL]
theorem tdpL_nil : tdpL [] = 0 := by rw [tdpL]
theorem tszL_append : ∀ (a b : List Tree), tszL (a ++ b) = tszL a + tszL b
  | [], b => by simp [tszL_nil]
  | x :: a, b => by rw [List.cons_append, tszL_cons, tszL_cons, tszL_append a b]; omega
theorem tszL_len : ∀ (a : List Tree), a.length ≤ tszL a
  | [] => by simp
  | x :: a => by have := tszL_len a; have := tsz_pos x; rw [tszL_cons]; simp; omega
mutual
theorem tdp_tsz : ∀ t, tdp t ≤ tsz t
  | ⟨_, _, _, _, l⟩ => by rw [tdp, tsz]; have := tdpL_tszL l; omega
theorem tdpL_tszL : ∀ l, tdpL l ≤ tszL l
  | [] => by rw [tdpL_nil]; omega
  | t :: l => by rw [tdpL_cons, tszL_cons]; have := tdp_tsz t; have := tdpL_tszL l; omega
end
theorem rd_drop (xs : List Tree) (i : Nat) (h : i < xs.length) : xs.drop i = rd_T25 xs (i : Int) :: xs.drop (i + 1) := by
  rw [List.drop_eq_getElem_cons h]
  congr 1
  simp [rd_T25, h]
theorem wrap_small (a : Int) (h0 : -9223372036854775808 ≤ a) (h1 : a < 9223372036854775808) : wrap64 a = a := by
  unfold wrap64
  omega
theorem Depth_l0 (n : Nat) (ih : ∀ t, tsz t ≤ n → ∀ k, 2 * tsz t ≤ k → tree_Depth.f k t.f0 t.f1 t.f2 t.f3 t.f4 = some ((tdp t : Nat) : Int)) (xs : List Tree) (hsz : tszL xs ≤ n) (hn : n ≤ 1000000000000) :
    ∀ (m i : Nat) (x : Nat) (k : Nat), xs.length - i = m → i ≤ xs.length → 2 * tszL (xs.drop i) + 1 ≤ k → x ≤ n → tree_Depth.l0 k (x : Int) xs (xs.length : Int) (i : Int) = some ((max x (tdpL (xs.drop i)) + 1 : Nat) : Int)
  | 0, i, x, k, hm, hi, hk, hx => by
    obtain ⟨k, rfl⟩ : ∃ j, k = j + 1 := ⟨k - 1, by omega⟩
    unfold tree_Depth.l0
    rw [if_neg (by omega), List.drop_eq_nil_of_le (by omega), tdpL_nil, wrap_small _ (by omega) (by omega)]
    congr 1
    omega
  | m + 1, i, x, k, hm, hi, hk, hx => by
    obtain ⟨k, rfl⟩ : ∃ j, k = j + 1 := ⟨k - 1, by omega⟩
    have hd := rd_drop xs i (by omega)
    rw [hd, tszL_cons] at hk
    have hle : tszL (xs.drop i) ≤ tszL xs := by
      have := tszL_append (xs.take i) (xs.drop i)
      rw [List.take_append_drop] at this
      omega
    rw [hd, tszL_cons] at hle
    have h1 := tsz_pos (rd_T25 xs (i : Int))
    have h2 := tdp_tsz (rd_T25 xs (i : Int))
    unfold tree_Depth.l0
    rw [if_pos (by omega), if_pos (by omega), if_pos (by omega), ih _ (by omega) k (by omega)]
    show tree_Depth.l0 k (mx (x : Int) _) xs _ (wrap64 ((i : Int) + 1)) = _
    have hlen : (xs.length : Int) ≤ 1000000000000 := by have := tszL_len xs; omega
    have hmx : mx (x : Int) ((tdp (rd_T25 xs (i : Int)) : Nat) : Int) = ((max x (tdp (rd_T25 xs (i : Int))) : Nat) : Int) := by unfold mx; omega
    rw [wrap_small _ (by omega) (by omega), hmx, show ((i : Int) + 1) = ((i + 1 : Nat) : Int) by omega, Depth_l0 n ih xs hsz hn m (i + 1) _ k (by omega) (by omega) (by omega) (by omega), hd, tdpL_cons]
    congr 2
    omega
theorem Depth_f : ∀ (n : Nat) (t : Tree), tsz t ≤ n → n ≤ 1000000000000 → ∀ k, 2 * tsz t ≤ k → tree_Depth.f k t.f0 t.f1 t.f2 t.f3 t.f4 = some ((tdp t : Nat) : Int)
  | 0, t, h, _, _, _ => by have := tsz_pos t; omega
  | n + 1, t, h, hn, k, hk => by
    obtain ⟨k, rfl⟩ : ∃ j, k = j + 1 := ⟨k - 1, by have := tsz_pos t; omega⟩
    rw [tsz_eq] at h hk
    unfold tree_Depth.f
    have := Depth_l0 n (fun t ht k hk => Depth_f n t ht (by omega) k hk) t.f4 (by omega) (by omega) t.f4.length 0 0 k (by omega) (by omega) (by simp; omega) (by omega)
    simp only [List.drop_zero, Nat.zero_max] at this
    rw [tdp_eq]
    exact this
/-! ### trees that are the same, but for places -/
mutual
inductive Sm : Tree → Tree → Prop
  | mk (a : Int) (b : ByteArray) (n p p' : Int) (l l' : List Tree) : SmL l l' → Sm ⟨a, b, n, p, l⟩ ⟨a, b, n, p', l'⟩
inductive SmL : List Tree → List Tree → Prop
  | nil : SmL [] []
  | cons (t t' : Tree) (l l' : List Tree) : Sm t t' → SmL l l' → SmL (t :: l) (t' :: l')
end
theorem SmL.drop : ∀ {l l' : List Tree} (i : Nat), SmL l l' → SmL (l.drop i) (l'.drop i)
  | _, _, 0, h => h
  | _, _, _ + 1, .nil => .nil
  | _, _, i + 1, .cons _ _ _ _ _ h => h.drop i
theorem SmL.append : ∀ {l l' m m' : List Tree}, SmL l l' → SmL m m' → SmL (l ++ m) (l' ++ m')
  | _, _, _, _, .nil, k => k
  | _, _, _, _, .cons _ _ _ _ a h, k => .cons _ _ _ _ a (h.append k)
mutual
theorem Sm.refl : ∀ t, Sm t t
  | ⟨a, b, n, p, l⟩ => .mk a b n p p l l (SmL.refl l)
theorem SmL.refl : ∀ l, SmL l l
  | [] => .nil
  | t :: l => .cons _ _ _ _ (Sm.refl t) (SmL.refl l)
end
mutual
theorem Sm.symm : ∀ {t t'}, Sm t t' → Sm t' t
  | _, _, .mk a b n p p' l l' h => .mk a b n p' p l' l h.symm
theorem SmL.symm : ∀ {l l'}, SmL l l' → SmL l' l
  | _, _, .nil => .nil
  | _, _, .cons _ _ _ _ h k => .cons _ _ _ _ h.symm k.symm
end
mutual
theorem Sm.tdp : ∀ {t t'}, Sm t t' → tdp t = tdp t'
  | _, _, .mk a b n p p' l l' h => by rw [X.tdp, X.tdp, h.tdpL]
theorem SmL.tdpL : ∀ {l l'}, SmL l l' → tdpL l = tdpL l'
  | _, _, .nil => rfl
  | _, _, .cons _ _ _ _ h k => by rw [tdpL_cons, tdpL_cons, h.tdp, k.tdpL]
end
mutual
theorem Sm.tsz : ∀ {t t'}, Sm t t' → tsz t = tsz t'
  | _, _, .mk a b n p p' l l' h => by rw [X.tsz, X.tsz, h.tszL]
theorem SmL.tszL : ∀ {l l'}, SmL l l' → tszL l = tszL l'
  | _, _, .nil => rfl
  | _, _, .cons _ _ _ _ h k => by rw [tszL_cons, tszL_cons, h.tsz, k.tszL]
end
theorem Sm.parts {t t' : Tree} (h : Sm t t') : t.f0 = t'.f0 ∧ t.f1 = t'.f1 ∧ t.f2 = t'.f2 ∧ SmL t.f4 t'.f4 := by
  cases h with
  | mk a b n p p' l l' h => exact ⟨rfl, rfl, rfl, h⟩
theorem SmL.head {t t' : Tree} {l l' : List Tree} (h : SmL (t :: l) (t' :: l')) : Sm t t' ∧ SmL l l' := by
  cases h with
  | cons _ _ _ _ h k => exact ⟨h, k⟩
theorem One_l0 (n : Nat) (ih : ∀ t : Tree, tsz t ≤ n → ∀ k, 3 * tsz t ≤ k → gossamerref02_One.f k t.f0 t.f1 t.f2 t.f3 t.f4 t.f0 t.f1 t.f2 t.f3 t.f4 = some true) (a0 : Int) (a1 : ByteArray) (a2 a3 : Int) (b0 : Int) (b1 : ByteArray) (b2 b3 : Int) (xs : List Tree) (hsz : tszL xs ≤ n) (hn : n ≤ 1000000000000) :
    ∀ (m i : Nat) (k : Nat), xs.length - i = m → i ≤ xs.length → 3 * tszL (xs.drop i) + 1 ≤ k → gossamerref02_One.l0 k (i : Int) a0 a1 a2 a3 xs b0 b1 b2 b3 xs = some true
  | 0, i, k, hm, hi, hk => by
    obtain ⟨k, rfl⟩ : ∃ j, k = j + 1 := ⟨k - 1, by omega⟩
    unfold gossamerref02_One.l0
    rw [if_neg (by omega)]
  | m + 1, i, k, hm, hi, hk => by
    obtain ⟨k, rfl⟩ : ∃ j, k = j + 1 := ⟨k - 1, by omega⟩
    have hd := rd_drop xs i (by omega)
    rw [hd, tszL_cons] at hk
    have hle : tszL (xs.drop i) ≤ tszL xs := by
      have := tszL_append (xs.take i) (xs.drop i)
      rw [List.take_append_drop] at this
      omega
    rw [hd, tszL_cons] at hle
    have h1 := tsz_pos (rd_T25 xs (i : Int))
    have hlen : (xs.length : Int) ≤ 1000000000000 := by have := tszL_len xs; omega
    unfold gossamerref02_One.l0
    rw [if_pos (by omega), if_pos (by omega), if_pos (by omega), ih _ (by omega) k (by omega)]
    show (if true = true then gossamerref02_One.l0 k (wrap64 ((i : Int) + 1)) _ _ _ _ xs _ _ _ _ xs else some false) = _
    rw [if_pos rfl, wrap_small _ (by omega) (by omega), show ((i : Int) + 1) = ((i + 1 : Nat) : Int) by omega]
    exact One_l0 n ih a0 a1 a2 a3 b0 b1 b2 b3 xs hsz hn m (i + 1) k (by omega) (by omega) (by omega)
theorem One_f : ∀ (n : Nat) (t : Tree), tsz t ≤ n → n ≤ 1000000000000 → ∀ k, 3 * tsz t ≤ k → gossamerref02_One.f k t.f0 t.f1 t.f2 t.f3 t.f4 t.f0 t.f1 t.f2 t.f3 t.f4 = some true
  | 0, t, h, _, _, _ => by have := tsz_pos t; omega
  | n + 1, t, h, hn, k, hk => by
    rw [tsz_eq] at h hk
    obtain ⟨k, rfl⟩ : ∃ j, k = j + 1 + 1 := ⟨k - 2, by omega⟩
    unfold gossamerref02_One.f
    rw [if_pos rfl, if_pos rfl, if_pos rfl, if_pos rfl]
    unfold gossamerref02_One.j0
    rw [if_neg (by simp)]
    exact One_l0 n (fun t ht k hk => One_f n t ht (by omega) k hk) _ _ _ _ _ _ _ _ t.f4 (by omega) (by omega) t.f4.length 0 k (by omega) (by omega) (by simp; omega)

/-! ### how large what is read is -/
def base : N → Nat
  | .args _ t => tsz t
  | .ops _ t => tsz t
  | .alts _ ts => tszL ts + 1
  | _ => 0
def one (nt : N) : Nat := if tight nt then 1 else 0
theorem one_sub (b : Bool) : one (sub b) = 1 := by cases b <;> rfl
theorem base_sub (b : Bool) : base (sub b) = 0 := by cases b <;> rfl
theorem tszL_vars : ∀ (vs : List Tok), tszL (vs.map varT) = vs.length
  | [] => by simp [tszL_nil]
  | v :: vs => by rw [List.map_cons, tszL_cons, tszL_vars vs, tsz_eq]; simp [varT, tszL_nil]; omega
theorem der_tsz {nt : N} {l : List Tok} {t : Tree} {r : List Tok} (h : Der nt l t r) : tsz t + 2 * r.length + one nt ≤ base nt + 2 * l.length := by
  induction h with
  | lam a x d l b r _ _ _ _ ih => simp [base, one, tight, tsz_eq ⟨_, _, _, _, _⟩, tszL_cons, tszL_nil] at ih ⊢; omega
  | let_ k a x e i l l2 v b r _ _ _ _ _ _ ih1 ih2 => simp [base, one, tight, tsz_eq ⟨_, _, _, _, _⟩, tszL_cons, tszL_nil] at ih1 ih2 ⊢; omega
  | case_ a o c l l2 l3 v b t r _ _ _ _ _ _ ih1 ih2 ih3 => simp [base, one, tight, tszL_cons, tszL_nil] at ih1 ih2 ih3 ⊢; omega
  | altsMore at_ ts p l a r t r' _ _ _ _ ih1 ih2 => simp [base, one, tight, tszL_append, tszL_cons, tszL_nil] at ih1 ih2 ⊢; omega
  | altsEnd at_ ts q r _ => simp [base, one, tight, tsz_eq ⟨_, _, _, _, _⟩]; omega
  | alt_ c vs a l b r _ _ _ _ _ ih => simp [base, one, tight, tsz_eq ⟨_, _, _, _, _⟩, tszL_append, tszL_cons, tszL_nil, tszL_vars] at ih ⊢; omega
  | cmpE l t r _ ih => exact ih
  | cmp0 l t r _ _ _ ih => exact ih
  | cmp1 l t o r1 b r _ _ _ ih1 ih2 => simp [base, one, tight, opT, tsz_eq ⟨_, _, _, _, _⟩, tszL_cons, tszL_nil] at ih1 ih2 ⊢; omega
  | lev b l t r1 t' r _ _ ih1 ih2 => rw [one_sub, base_sub] at ih1; simp [base, one, tight] at ih1 ih2 ⊢; omega
  | ops0 b t r _ _ => simp [base, one, tight]
  | ops1 b t o l x r t' r' _ _ _ ih1 ih2 => rw [one_sub, base_sub] at ih1; simp [base, one, tight, opT, tsz_eq ⟨_, _, _, _, _⟩, tszL_cons, tszL_nil] at ih1 ih2 ⊢; omega
  | app l t r1 t' r _ _ ih1 ih2 => simp [base, one, tight] at ih1 ih2 ⊢; omega
  | args0 c t r _ => simp [base, one, tight]
  | argsC t l a r t' r' _ _ _ ih1 ih2 =>
    have e : tsz ⟨t.f0, t.f1, t.f2, t.f3, t.f4 ++ [a]⟩ = tsz t + tsz a := by rw [tsz_eq, tsz_eq t, tszL_append, tszL_cons, tszL_nil]; omega
    simp [base, one, tight, e] at ih1 ih2 ⊢
    omega
  | argsA t l a r t' r' _ _ ih1 ih2 =>
    have e : tsz ⟨3, ⟨#[]⟩, 0, t.f3, [t, a]⟩ = tsz t + tsz a + 1 := by rw [tsz_eq, tszL_cons, tszL_cons, tszL_nil]; omega
    simp [base, one, tight, e] at ih1 ih2 ⊢
    omega
  | paren a q l t r _ _ _ ih => simp [base, one, tight] at ih ⊢; omega
  | var x r _ => simp [base, one, tight, tsz_eq ⟨_, _, _, _, _⟩, tszL_nil]; omega
  | con x r _ => simp [base, one, tight, tsz_eq ⟨_, _, _, _, _⟩, tszL_nil]; omega
  | int x r _ => simp [base, one, tight, tsz_eq ⟨_, _, _, _, _⟩, tszL_nil]; omega
end Go.Proofs.YtajcnjdinmgpjaaGreatDoor.X
/- The walks of the reader: Parse. -/
namespace Go.Proofs.YtajcnjdinmgpjaaGreatDoor.X
open Go.RowKit Go.Proofs.YtajcnjdinmgpjaaGreatDoorW.PrintWords Go.Proofs.YtajcnjdinmgpjaaGreatDoorW.PrintLast Go.Proofs.YtajcnjdinmgpjaaGreatDoorW.PrintMore Go.Proofs.YtajcnjdinmgpjaaGreatDoor.P
/-- What a text is parsed as: a tree; or where, and by what, it is none. -/
def parseM (s : ByteArray) (deep : Int) : Except (Int × Int) Tree :=
  if deep < 1 ∨ 200 < deep then .error (0, 1) else if 4096 < s.size then .error (0, 32)
  else match lexAll s with
    | .error (p, c) => .error ((p : Int), c)
    | .ok l => match pWhole l with
      | .fail r => .error ((hd r (s.size : Int)).f3, 30)
      | .ok t _ => if deep < ((tdp t : Nat) : Int) then .error (0, 31) else .ok t
def QRel (w : World) (R : Except (Int × Int) Tree) (e : Ending) (w' : World) : Prop :=
  match R with
  | .ok t => ∃ A c, e = .returned (.tuple #[treeV t A c, .int .i64 0, .int .i64 0]) ∧ TAt w' (Iv w.heap.size w'.heap.size) t A c ∧ Below w.heap.size w w'
  | .error (p, c) => e = .returned (.tuple #[treeZ, .int .i64 p, .int .i64 c]) ∧ Below w.heap.size w w'
theorem kpBelow {w W w' : World} {g : Nat} (h : Below w.heap.size w W) (k : Kp W w' g none) (hg : w.heap.size ≤ g) : Below w.heap.size w w' :=
  ⟨k.os.trans h.os, k.tape.trans h.tape, k.output.trans h.output, Nat.le_trans h.size k.size, fun i hi => (k.blks i (Nat.lt_of_lt_of_le hi h.size) (by omega) (by simp)).trans (h.block i hi)⟩
theorem lexLoop_len (s : ByteArray) : ∀ (m a : Nat) (xs l : List Tok), lexLoop s m a xs = .ok l → a ≤ s.size → xs.length ≤ a → l.length ≤ s.size
  | 0, a, xs, l, h, ha, hx => by cases h; omega
  | m + 1, a, xs, l, h, ha, hx => by
    unfold lexLoop at h
    have hsk := skip_ge s a ha
    split at h
    · cases h; omega
    · split at h
      · cases h
      · rename_i t ht
        have hpos : 0 < (s.extract (skip s a) s.size).size := by rw [extract_size _ _ hsk.2]; omega
        have hts := lexFirst_size hpos ht
        rw [extract_size _ _ hsk.2] at hts
        exact lexLoop_len s m _ _ l h (by omega) (by simp; omega)
theorem lexAll_len {s : ByteArray} {l : List Tok} (h : lexAll s = .ok l) : l.length ≤ s.size := lexLoop_len s _ 0 [] l h (by omega) (by simp)
theorem whole_tsz {l : List Tok} {t : Tree} {r : List Tok} (h : pWhole l = .ok t r) : tsz t ≤ 2 * l.length ∧ Der .expr l t [] := by
  unfold pWhole at h
  obtain ⟨t', r', h1, h2⟩ := PR.bind_inv h
  split at h2
  · rename_i hr
    cases h2
    have hr' : r' = [] := List.length_eq_zero_iff.1 hr
    subst hr'
    have hd := expr_der _ _ _ _ h1
    have := der_tsz hd
    simp [base] at this
    exact ⟨by omega, hd⟩
  · cases h2
theorem lexNamed_err {s : ByteArray} {c0 c : Int} (h : lexNamed s c0 = .error c) : c = 10 ∨ c = 11 := by
  unfold lexNamed at h
  repeat' split at h
  all_goals first | (cases h; first | exact .inl rfl | exact .inr rfl) | cases h
theorem lexFirst_err {s : ByteArray} {c : Int} (h : lexFirst s = .error c) : c = 10 ∨ c = 11 := by
  unfold lexFirst at h
  split at h
  · split at h
    · cases h
    · cases h; exact .inl rfl
  · cases hl : lexNamed (s.extract 0 (lenW s)) (c0 s) with
    | ok p => obtain ⟨k, n⟩ := p; rw [hl] at h; cases h
    | error c' => rw [hl] at h; cases h; exact lexNamed_err hl
theorem lexLoop_err (s : ByteArray) : ∀ (m a : Nat) (xs : List Tok) (p : Nat) (c : Int), lexLoop s m a xs = .error (p, c) → c = 10 ∨ c = 11
  | 0, a, xs, p, c, h => by cases h
  | m + 1, a, xs, p, c, h => by
    unfold lexLoop at h
    split at h
    · cases h
    · split at h
      · rename_i ht
        cases h
        exact lexFirst_err ht
      · exact lexLoop_err s m _ _ p c h
theorem lexAll_err {s : ByteArray} {p : Nat} {c : Int} (h : lexAll s = .error (p, c)) : c = 10 ∨ c = 11 := lexLoop_err s _ 0 [] p c h
theorem Depth_calls (t : Tree) (A : Option Addr) (c : Nat) (ok : Nat → Prop) (w : World) (h : TAt w ok t A c) (hs : tsz t ≤ 1000000000000) :
    Calls Tryz.prog 17 #[treeV t A c] w fun e w' => e = .returned (.int .i64 ((tdp t : Nat) : Int)) ∧ Below w.heap.size w w' :=
  tree_Depth.calls (2 * tsz t) t.f0 t.f1 t.f2 t.f3 A c t.f4 _ w (Kd.F_now h.2.1) h.1 (Depth_f (tsz t) t (Nat.le_refl _) hs _ (Nat.le_refl _))
theorem close5 {w W : World} {v0 v1 v2 v3 v4 : Value} (hz : W.heap[w.heap.size]? = some (.cells #[v0, v1, v2, v3, v4] 25 (0, 0))) (hB : Below w.heap.size w W) (u0 u1 u2 u3 u4 : Value) :
    (((((W.setCell ⟨w.heap.size, 0, none⟩ u0).setCell ⟨w.heap.size, 1, none⟩ u1).setCell ⟨w.heap.size, 2, none⟩ u2).setCell ⟨w.heap.size, 3, none⟩ u3).setCell ⟨w.heap.size, 4, none⟩ u4).heap[w.heap.size]? = some (.cells #[u0, u1, u2, u3, u4] 25 (0, 0)) ∧
      Below w.heap.size w (((((W.setCell ⟨w.heap.size, 0, none⟩ u0).setCell ⟨w.heap.size, 1, none⟩ u1).setCell ⟨w.heap.size, 2, none⟩ u2).setCell ⟨w.heap.size, 3, none⟩ u3).setCell ⟨w.heap.size, 4, none⟩ u4) :=
  ⟨set5 hz, ((((hB.setCell (p := ⟨w.heap.size, 0, none⟩) (Nat.le_refl _) u0).setCell (p := ⟨w.heap.size, 1, none⟩) (Nat.le_refl _) u1).setCell (p := ⟨w.heap.size, 2, none⟩) (Nat.le_refl _) u2).setCell (p := ⟨w.heap.size, 3, none⟩) (Nat.le_refl _) u3).setCell (p := ⟨w.heap.size, 4, none⟩) (Nat.le_refl _) u4⟩
set_option maxRecDepth 100000 in
set_option maxHeartbeats 4000000 in
theorem Parse_calls (s : ByteArray) (deep : Int) (w : World) : Calls Tryz.prog 6 #[.string s, .int .i64 deep] w (QRel w (parseM s deep)) := by
  obtain ⟨R, hR⟩ : ∃ R, R = parseM s deep := ⟨_, rfl⟩
  rw [← hR]
  unfold parseM at hR
  have hz := blk_new w (.cells #[.int .i64 0, .string ⟨#[]⟩, .int .i64 0, .int .i64 0, .slice none 0 0] 25)
  have hB0 : Below w.heap.size w (w.alloc (.cells #[.int .i64 0, .string ⟨#[]⟩, .int .i64 0, .int .i64 0, .slice none 0 0] 25)) := below_alloc (Below.refl _ _) _
  have HZ := Lib.hid (And.intro hz hB0)
  clear hz hB0
  by_cases h12 : deep < 1 ∨ 200 < deep
  · rw [if_pos h12] at hR
    have HR := Lib.hid hR
    clear hR
    by_cases h1 : deep < 1
    · have n1 : decide (deep < 1) = true := decide_eq_true h1
      go_enter Tryz.func6, Tryz.ntmps6
      go_wp2
      obtain ⟨hz, hB⟩ := HZ.out
      obtain ⟨c0, c1, c2, c3, c4, cf, cl⟩ := open5 hz
      refine bodyPost_ret (v := .tuple #[treeZ, .int .i64 0, .int .i64 1]) (by simp [results, Tryz.results6, go_sem, c0, c1, c2, c3, c4, treeZ]) rfl ?_
      rw [HR.out]
      exact ⟨rfl, hB⟩
    · have n1 : decide (deep < 1) = false := decide_eq_false h1
      have n2 : decide (200 < deep) = true := decide_eq_true (by omega)
      go_enter Tryz.func6, Tryz.ntmps6
      go_wp2
      obtain ⟨hz, hB⟩ := HZ.out
      obtain ⟨c0, c1, c2, c3, c4, cf, cl⟩ := open5 hz
      refine bodyPost_ret (v := .tuple #[treeZ, .int .i64 0, .int .i64 1]) (by simp [results, Tryz.results6, go_sem, c0, c1, c2, c3, c4, treeZ]) rfl ?_
      rw [HR.out]
      exact ⟨rfl, hB⟩
  rw [if_neg h12] at hR
  have n1 : decide (deep < 1) = false := decide_eq_false (by omega)
  have n2 : decide (200 < deep) = false := decide_eq_false (by omega)
  by_cases h3 : 4096 < s.size
  · rw [if_pos h3] at hR
    have HR := Lib.hid hR
    clear hR
    have n3 : decide ((4096 : Int) < (s.size : Int)) = true := decide_eq_true (by omega)
    go_enter Tryz.func6, Tryz.ntmps6
    go_wp2
    obtain ⟨hz, hB⟩ := HZ.out
    obtain ⟨c0, c1, c2, c3, c4, cf, cl⟩ := open5 hz
    refine bodyPost_ret (v := .tuple #[treeZ, .int .i64 0, .int .i64 32]) (by simp [results, Tryz.results6, go_sem, c0, c1, c2, c3, c4, treeZ]) rfl ?_
    rw [HR.out]
    exact ⟨rfl, hB⟩
  rw [if_neg h3] at hR
  have n3 : decide ((4096 : Int) < (s.size : Int)) = false := decide_eq_false (by omega)
  have HA := All_calls s (by omega) (w.alloc (.cells #[.int .i64 0, .string ⟨#[]⟩, .int .i64 0, .int .i64 0, .slice none 0 0] 25))
  cases hl : lexAll s with
  | error pc =>
    obtain ⟨p, c⟩ := pc
    have hc := lexAll_err hl
    rw [hl] at hR HA
    have HR := Lib.hid hR
    have HA' := Lib.hid HA
    clear hR HA hl
    have n4 : (c == 0) = false := by rcases hc with rfl | rfl <;> rfl
    clear hc
    go_enter Tryz.func6, Tryz.ntmps6
    go_wp2_with fail
    refine HA'.out.mono ?_
    rintro e w1 ⟨rfl, hB1⟩
    have hz1 := blk_below (HZ.out.1) hB1
    have hBB := HZ.out.2.trans (hB1.mono (by simp))
    clear hB1
    obtain ⟨c0, c1, c2, c3, c4, cf, cl⟩ := open5 hz1
    have HZ1 := Lib.hid (And.intro hz1 hBB)
    clear hz1 hBB HZ
    go_wp2
    obtain ⟨hz, hB⟩ := HZ1.out
    have hz5 := set5 (u0 := .int .i64 0) (u1 := .string ⟨#[]⟩) (u2 := .int .i64 0) (u3 := .int .i64 0) (u4 := .slice none 0 0) hz
    have hB5 := ((((hB.setCell (p := ⟨w.heap.size, 0, none⟩) (by simp) (.int .i64 0)).setCell (p := ⟨w.heap.size, 1, none⟩) (by simp) (.string ⟨#[]⟩)).setCell (p := ⟨w.heap.size, 2, none⟩) (by simp) (.int .i64 0)).setCell (p := ⟨w.heap.size, 3, none⟩) (by simp) (.int .i64 0)).setCell (p := ⟨w.heap.size, 4, none⟩) (by simp) (.slice none 0 0)
    obtain ⟨W5, hW⟩ : ∃ W5, W5 = (((((w1.setCell ⟨w.heap.size, 0, none⟩ (.int .i64 0)).setCell ⟨w.heap.size, 1, none⟩ (.string ⟨#[]⟩)).setCell ⟨w.heap.size, 2, none⟩ (.int .i64 0)).setCell ⟨w.heap.size, 3, none⟩ (.int .i64 0)).setCell ⟨w.heap.size, 4, none⟩ (.slice none 0 0)) := ⟨_, rfl⟩
    rw [← hW] at hz5 hB5 ⊢
    clear hW hz hB c0 c1 c2 c3 c4 cf cl
    obtain ⟨c0, c1, c2, c3, c4, cf, cl⟩ := open5 hz5
    refine bodyPost_ret (v := .tuple #[treeZ, .int .i64 (p : Int), .int .i64 c]) (by simp [results, Tryz.results6, go_sem, c0, c1, c2, c3, c4, treeZ]) rfl ?_
    rw [HR.out]
    exact ⟨rfl, hB5⟩
  | ok l =>
    rw [hl] at hR HA
    have hlen := lexAll_len hl
    have HA' := Lib.hid HA
    have HR0 := Lib.hid hR
    clear HA hl hR
    go_enter Tryz.func6, Tryz.ntmps6
    go_wp2_with fail
    refine HA'.out.mono ?_
    rintro e w1 ⟨A, c, rfl, hlc, hC, hB1⟩
    have hz1 := blk_below HZ.out.1 hB1
    have hBB := HZ.out.2.trans (hB1.mono (by simp))
    clear hB1 HZ HA'
    obtain ⟨c0, c1, c2, c3, c4, cf, cl⟩ := open5 hz1
    have HZ1 := Lib.hid (And.intro hz1 hBB)
    clear hz1 hBB
    go_wp2_with fail
    have hI : Rdr w1 (w1.alloc (.cells #[.slice A l.length c, .int .i64 (s.size : Int)] 42)) w1.heap.size l (s.size : Int) := ⟨A, c, blk_new _ _, hlc, Nat.le_refl _, hC, below_alloc (Below.refl _ _) _⟩
    refine (whole_calls w1 _ w1.heap.size (s.size : Int) l (by omega) hI).mono ?_
    clear hI hC
    intro e w2 hw2
    obtain ⟨hz1, hBB⟩ := HZ1.out
    cases hp : pWhole l with
    | fail r =>
      rw [hp] at hw2
      have HR1 := HR0.out
      rw [hp] at HR1
      have HR := Lib.hid HR1
      clear HR1 HR0 hp
      obtain ⟨rfl, hK⟩ := hw2
      have hz2 := hK.blk (blk_alloc hz1 _) (by omega) (by simp)
      have hB2 := kpBelow (hBB.alloc (Nat.le_of_lt cl) _) hK (by omega)
      clear hz1 hBB HZ1 hK c0 c1 c2 c3 c4 cf
      obtain ⟨c0, c1, c2, c3, c4, cf, cl2⟩ := open5 hz2
      have HZ2 := Lib.hid (And.intro hz2 hB2)
      clear hz2 hB2
      unfold treeZ
      go_wp2
      obtain ⟨hz, hB⟩ := HZ2.out
      obtain ⟨hz5, hB5⟩ := close5 hz hB (.int .i64 0) (.string ⟨#[]⟩) (.int .i64 0) (.int .i64 0) (.slice none 0 0)
      have hz6 := blk_alloc hz5 (.cells #[.int .i64 0, .string ⟨#[]⟩, .int .i64 0, .int .i64 0, .slice none 0 0] 25)
      have hB6 := hB5.alloc hB5.size (.cells #[.int .i64 0, .string ⟨#[]⟩, .int .i64 0, .int .i64 0, .slice none 0 0] 25)
      obtain ⟨W5, hW⟩ : ∃ W5, W5 = ((((((w2.setCell ⟨w.heap.size, 0, none⟩ (.int .i64 0)).setCell ⟨w.heap.size, 1, none⟩ (.string ⟨#[]⟩)).setCell ⟨w.heap.size, 2, none⟩ (.int .i64 0)).setCell ⟨w.heap.size, 3, none⟩ (.int .i64 0)).setCell ⟨w.heap.size, 4, none⟩ (.slice none 0 0)).alloc (.cells #[.int .i64 0, .string ⟨#[]⟩, .int .i64 0, .int .i64 0, .slice none 0 0] 25)) := ⟨_, rfl⟩
      rw [← hW] at hz6 hB6 ⊢
      clear hW hz hB hz5 hB5 c0 c1 c2 c3 c4 cf
      obtain ⟨c0, c1, c2, c3, c4, cf, cl⟩ := open5 hz6
      refine bodyPost_ret (v := .tuple #[treeZ, .int .i64 (hd r (s.size : Int)).f3, .int .i64 30]) (by simp [results, Tryz.results6, go_sem, c0, c1, c2, c3, c4, treeZ]) rfl ?_
      rw [HR.out]
      exact ⟨rfl, hB6⟩
    | ok t r =>
      rw [hp] at hw2
      have HR1 := HR0.out
      rw [hp] at HR1
      have HR := Lib.hid HR1
      have hts := (whole_tsz hp).1
      clear HR1 HR0 hp
      obtain ⟨A2, cc2, rfl, hT, hK⟩ := hw2
      have hz2 := hK.blk (blk_alloc hz1 _) (by omega) (by simp)
      have hB2 := kpBelow (hBB.alloc (Nat.le_of_lt cl) _) hK (by omega)
      have hTT : TAt w2 (Iv (w.heap.size + 1) w2.heap.size) t A2 cc2 := hT.iv (by simp; omega) (Nat.le_refl _)
      have hsz2 : w.heap.size < w2.heap.size := blk_lt hz2
      clear hz1 hBB HZ1 hK c0 c1 c2 c3 c4 cf hT
      have hz3 := blk_alloc hz2 (.cells #[.int .i64 t.f0, .string t.f1, .int .i64 t.f2, .int .i64 t.f3, .slice A2 t.f4.length cc2] 25)
      have hn3 := blk_new w2 (.cells #[.int .i64 t.f0, .string t.f1, .int .i64 t.f2, .int .i64 t.f3, .slice A2 t.f4.length cc2] 25)
      have hB3 := hB2.alloc (Nat.le_of_lt hsz2) (.cells #[.int .i64 t.f0, .string t.f1, .int .i64 t.f2, .int .i64 t.f3, .slice A2 t.f4.length cc2] 25)
      have hT3 := hTT.below (below_alloc (Below.refl _ _) (.cells #[.int .i64 t.f0, .string t.f1, .int .i64 t.f2, .int .i64 t.f3, .slice A2 t.f4.length cc2] 25))
      have HZ3 := Lib.hid (And.intro hz3 (And.intro hn3 (And.intro hB3 hT3)))
      clear hz2 hB2 hTT hz3 hn3 hB3 hT3
      unfold treeV
      go_wp2_with fail
      obtain ⟨hz3, hn3, hB3, hT3⟩ := HZ3.out
      refine (Depth_calls t A2 cc2 _ _ hT3 (by omega)).mono ?_
      rintro e w4 ⟨rfl, hB4⟩
      have hz4 := blk_below hz3 hB4
      have hn4 := blk_below hn3 hB4
      have hBB4 := below_then hB3 hB3.size hB4
      have hT4 := hT3.below hB4
      have hsz4 : w2.heap.size < w4.heap.size := blk_lt hn4
      clear hz3 hn3 hB3 hT3 HZ3 hB4
      obtain ⟨c0, c1, c2, c3, c4, cf, cl4⟩ := open5 hz4
      obtain ⟨d0, d1, d2, d3, d4, df, dl4⟩ := open5 hn4
      have HZ4 := Lib.hid (And.intro hz4 (And.intro hBB4 hT4))
      clear hz4 hn4 hBB4 hT4
      by_cases hd : deep < ((tdp t : Nat) : Int)
      · have HR1 := HR.out
        have HR1 : R = if deep < ((tdp t : Nat) : Int) then .error (0, 31) else .ok t := HR1
        rw [if_pos hd] at HR1
        have HR2 := Lib.hid HR1
        have n5 : decide (deep < ((tdp t : Nat) : Int)) = true := decide_eq_true hd
        clear HR HR1 hd
        go_wp2
        obtain ⟨hz, hB, hT⟩ := HZ4.out
        obtain ⟨hz6, hB6⟩ := close5 hz hB (.int .i64 0) (.string ⟨#[]⟩) (.int .i64 0) (.int .i64 0) (.slice none 0 0)
        obtain ⟨W5, hW⟩ : ∃ W5, W5 = (((((w4.setCell ⟨w.heap.size, 0, none⟩ (.int .i64 0)).setCell ⟨w.heap.size, 1, none⟩ (.string ⟨#[]⟩)).setCell ⟨w.heap.size, 2, none⟩ (.int .i64 0)).setCell ⟨w.heap.size, 3, none⟩ (.int .i64 0)).setCell ⟨w.heap.size, 4, none⟩ (.slice none 0 0)) := ⟨_, rfl⟩
        rw [← hW] at hz6 hB6 ⊢
        clear hW hz hB hT HZ4 c0 c1 c2 c3 c4 cf d0 d1 d2 d3 d4 df
        obtain ⟨c0, c1, c2, c3, c4, cf, cl⟩ := open5 hz6
        refine bodyPost_ret (v := .tuple #[treeZ, .int .i64 0, .int .i64 31]) (by simp [results, Tryz.results6, go_sem, c0, c1, c2, c3, c4, treeZ]) rfl ?_
        rw [HR2.out]
        exact ⟨rfl, hB6⟩
      · have HR1 := HR.out
        have HR1 : R = if deep < ((tdp t : Nat) : Int) then .error (0, 31) else .ok t := HR1
        rw [if_neg hd] at HR1
        have HR2 := Lib.hid HR1
        have n5 : decide (deep < ((tdp t : Nat) : Int)) = false := decide_eq_false hd
        clear HR HR1 hd
        go_wp2
        obtain ⟨hz, hB, hT⟩ := HZ4.out
        obtain ⟨hz6, hB6⟩ := close5 hz hB (.int .i64 t.f0) (.string t.f1) (.int .i64 t.f2) (.int .i64 t.f3) (.slice A2 t.f4.length cc2)
        have hT6 := hT.far5 (R := w.heap.size) (v0 := .int .i64 t.f0) (v1 := .string t.f1) (v2 := .int .i64 t.f2) (v3 := .int .i64 t.f3) (v4 := .slice A2 t.f4.length cc2) (fun h => by have := h.1; omega)
        have hsz5 : (((((w4.setCell ⟨w.heap.size, 0, none⟩ (.int .i64 t.f0)).setCell ⟨w.heap.size, 1, none⟩ (.string t.f1)).setCell ⟨w.heap.size, 2, none⟩ (.int .i64 t.f2)).setCell ⟨w.heap.size, 3, none⟩ (.int .i64 t.f3)).setCell ⟨w.heap.size, 4, none⟩ (.slice A2 t.f4.length cc2)).heap.size = w4.heap.size := by simp
        obtain ⟨W5, hW⟩ : ∃ W5, W5 = (((((w4.setCell ⟨w.heap.size, 0, none⟩ (.int .i64 t.f0)).setCell ⟨w.heap.size, 1, none⟩ (.string t.f1)).setCell ⟨w.heap.size, 2, none⟩ (.int .i64 t.f2)).setCell ⟨w.heap.size, 3, none⟩ (.int .i64 t.f3)).setCell ⟨w.heap.size, 4, none⟩ (.slice A2 t.f4.length cc2)) := ⟨_, rfl⟩
        rw [← hW] at hz6 hB6 hT6 hsz5 ⊢
        clear hW hz hB hT HZ4 c0 c1 c2 c3 c4 cf d0 d1 d2 d3 d4 df
        obtain ⟨c0, c1, c2, c3, c4, cf, cl⟩ := open5 hz6
        refine bodyPost_ret (v := .tuple #[treeV t A2 cc2, .int .i64 0, .int .i64 0]) (by simp [results, Tryz.results6, go_sem, c0, c1, c2, c3, c4, treeV]) rfl ?_
        rw [HR2.out]
        exact ⟨A2, cc2, rfl, hT6.iv (by omega) (by omega), hB6⟩
end Go.Proofs.YtajcnjdinmgpjaaGreatDoor.X
/- The words, on lists of bytes. -/
namespace Go.Proofs.YtajcnjdinmgpjaaGreatDoor.X
open Go.RowKit Go.Proofs.YtajcnjdinmgpjaaGreatDoorW.PrintWords Go.Proofs.YtajcnjdinmgpjaaGreatDoorW.PrintLast Go.Proofs.YtajcnjdinmgpjaaGreatDoorW.PrintMore Go.Proofs.YtajcnjdinmgpjaaGreatDoor.P
def wB (b : UInt8) : Bool := wordI (b.toNat : Int)
def wl (l : List UInt8) : Nat := (l.takeWhile wB).length
def sg1L : List UInt8 := [92, 46, 40, 41, 61, 123, 125, 124, 43, 45, 42, 47, 60]
/-- how long the sign at the front is -/
def sgn : List UInt8 → Nat
  | [] => 0
  | b :: r => if (b = 45 ∧ r.head? = some 62) ∨ (b = 61 ∧ r.head? = some 61) then 2 else if sg1L.contains b then 1 else 0
def h0 (l : List UInt8) : Int := match l with | [] => 0 | b :: _ => (b.toNat : Int)
def wordsL : List (List UInt8) := [[108, 101, 116], [108, 101, 116, 114, 101, 99], [105, 110], [99, 97, 115, 101], [111, 102]]
def big (b : UInt8) : Bool := decide (57 < (b.toNat : Int))
/-- letters and digits: kind and number, or the fault -/
def specW (w : List UInt8) : Except Int (Int × Int) :=
  if digI (h0 w) then (if w.any big then .error 10 else if 18 < w.length ∨ (1 < w.length ∧ h0 w = 48) then .error 11 else .ok (3, (Lib.atoi w).getD 0))
  else if 16 < w.length then .error 11 else if wordsL.contains w then .ok (4, 0) else if upI (h0 w) then .ok (2, 0) else .ok (1, 0)
/-- the token at the front: kind, length, number -/
def specF (l : List UInt8) : Except Int (Int × Nat × Int) :=
  if wl l = 0 then (if sgn l = 0 then .error 10 else .ok (5, sgn l, 0))
  else match specW (l.take (wl l)) with
    | .ok (k, n) => .ok (k, wl l, n)
    | .error c => .error c
theorem notW_wB (b : UInt8) : notW (b.toNat : Int) = !wB b := by
  unfold notW wB
  by_cases h : 127 < (b.toNat : Int)
  · have : wordI (b.toNat : Int) = false := by
      simp [wordI, lowI, upI, digI]
      omega
    simp [h, this]
  · simp [h]
theorem ixF_while (p : UInt8 → Bool) : ∀ (l : List UInt8) (i : Nat), ixF p l i = if (l.takeWhile fun b => !p b).length < l.length then ((i + (l.takeWhile fun b => !p b).length : Nat) : Int) else -1
  | [], i => rfl
  | b :: r, i => by
    unfold ixF
    by_cases h : p b = true
    · simp [h]
    · have h' : p b = false := by simpa using h
      rw [if_neg h, ixF_while p r (i + 1)]
      simp only [List.takeWhile_cons, h', Bool.not_false, if_true, List.length_cons]
      by_cases hl : (r.takeWhile fun b => !p b).length < r.length
      · rw [if_pos hl, if_pos (by omega)]
        congr 1
        omega
      · rw [if_neg hl, if_neg (by omega)]
theorem takeWhile_notW (l : List UInt8) : (l.takeWhile fun b => !notW (b.toNat : Int)) = l.takeWhile wB := by
  congr 1
  funext b
  rw [notW_wB]
  simp
theorem wl_le (l : List UInt8) : wl l ≤ l.length := (List.takeWhile_prefix _).length_le
theorem endW_wl (s : ByteArray) : endW s = if wl s.data.toList < s.size then ((wl s.data.toList : Nat) : Int) else -1 := by
  unfold endW
  rw [ixF_while, takeWhile_notW]
  simp only [Nat.zero_add]
  rfl
theorem lenW_wl (s : ByteArray) : lenW s = wl s.data.toList := by
  have h := wl_le s.data.toList
  have hs : s.data.toList.length = s.size := rfl
  unfold lenW
  rw [endW_wl]
  by_cases hl : wl s.data.toList < s.size
  · rw [if_pos hl, if_neg (by omega)]
    rfl
  · rw [if_neg hl, if_pos (by omega)]
    omega
theorem endW_zero (s : ByteArray) (h : 0 < s.size) : endW s = 0 ↔ wl s.data.toList = 0 := by
  rw [endW_wl]
  by_cases hl : wl s.data.toList < s.size
  · rw [if_pos hl]; omega
  · rw [if_neg hl]; omega
theorem c0_h0 (s : ByteArray) : c0 s = h0 s.data.toList := rfl
theorem ixF_any (p : UInt8 → Bool) : ∀ (l : List UInt8) (i : Nat), 0 ≤ ixF p l i ↔ l.any p = true
  | [], i => by simp [ixF]
  | b :: r, i => by
    unfold ixF
    by_cases h : p b = true
    · simp [h]
    · have h' : p b = false := by simpa using h
      rw [if_neg h, ixF_any p r (i + 1)]
      simp [h']
theorem bytes_ext {a b : ByteArray} (h : a.data.toList = b.data.toList) : a = b := ByteArray.ext (Array.toList_inj.1 h)
theorem isWordB_spec (s : ByteArray) : isWordB s = wordsL.contains s.data.toList := by
  have e : ∀ x y : List UInt8, (x == y) = decide (x = y) := fun x y => by
    by_cases h : x = y
    · simp [h]
    · simp [h]
  unfold isWordB wordsL
  simp only [ByteArray.toList_eq, List.any_cons, List.any_nil, List.contains_cons, List.contains_nil]
theorem head_take {l : List UInt8} {k : Nat} (h : 0 < k) : h0 (l.take k) = h0 l := by
  cases l with
  | nil => simp [h0]
  | cons b r =>
    cases k with
    | zero => omega
    | succ k => simp [h0]
theorem lexNamed_spec (s : ByteArray) (h : 0 < lenW s) : lexNamed (s.extract 0 (lenW s)) (c0 s) = specW (s.data.toList.take (wl s.data.toList)) := by
  have e1 : (s.extract 0 (lenW s)).data.toList = s.data.toList.take (wl s.data.toList) := by rw [take_list, lenW_wl]
  have e2 : (s.extract 0 (lenW s)).size = (s.data.toList.take (wl s.data.toList)).length := by rw [← e1]; rfl
  have e3 : c0 s = h0 (s.data.toList.take (wl s.data.toList)) := by rw [c0_h0, head_take (by rw [← lenW_wl]; exact h)]
  unfold lexNamed specW
  rw [e1, e2, e3, isWordB_spec, e1]
  by_cases hd : digI (h0 (s.data.toList.take (wl s.data.toList))) = true
  · rw [if_pos hd, if_pos hd]
    by_cases ha : 0 ≤ ixF (fun b => decide (57 < (b.toNat : Int))) (s.data.toList.take (wl s.data.toList)) 0
    · rw [if_pos ha, if_pos (by have := (ixF_any _ _ _).1 ha; exact this)]
    · rw [if_neg ha, if_neg (show ¬ (s.data.toList.take (wl s.data.toList)).any big = true from fun h' => ha ((ixF_any _ _ _).2 h'))]
  · rw [if_neg hd, if_neg hd]
theorem firstSign_spec (s : ByteArray) (b : UInt8) (r : List UInt8) (hs : s.data.toList = b :: r) : (sgn s.data.toList = 0 ∧ firstSign s signL = none) ∨ (0 < sgn s.data.toList ∧ firstSign s signL = some (s.extract 0 (sgn s.data.toList))) := by
  have key : ∀ (x : ByteArray) (k : Nat), sgn s.data.toList = k → x.data.toList = s.data.toList.take k → some x = some (s.extract 0 (sgn s.data.toList)) := by
    intro x k hk hx
    rw [hk, bytes_ext (hx.trans (take_list s k).symm)]
  by_cases h1 : b = 45 ∧ r.head? = some 62
  · obtain ⟨rfl, hr⟩ := h1
    obtain ⟨r, rfl⟩ : ∃ q, r = 62 :: q := by cases r <;> simp_all
    have hk : sgn s.data.toList = 2 := by rw [hs]; rfl
    refine .inr ⟨by omega, ?_⟩
    rw [show firstSign s signL = some ⟨#[45, 62]⟩ by simp [firstSign, signL, Lib.hasPrefix, hs, List.isPrefixOf]]
    exact key _ 2 hk (by rw [hs]; rfl)
  · by_cases h2 : b = 61 ∧ r.head? = some 61
    · obtain ⟨rfl, hr⟩ := h2
      obtain ⟨r, rfl⟩ : ∃ q, r = 61 :: q := by cases r <;> simp_all
      have hk : sgn s.data.toList = 2 := by rw [hs]; rfl
      refine .inr ⟨by omega, ?_⟩
      rw [show firstSign s signL = some ⟨#[61, 61]⟩ by simp [firstSign, signL, Lib.hasPrefix, hs, List.isPrefixOf]]
      exact key _ 2 hk (by rw [hs]; rfl)
    · have n1 : Lib.hasPrefix s.data.toList [45, 62] = false := by
        rw [hs]
        cases r with
        | nil => simp [Lib.hasPrefix, List.isPrefixOf]
        | cons c r =>
          simp [Lib.hasPrefix, List.isPrefixOf] at h1 ⊢
          exact fun e => fun e' => h1 e.symm e'.symm
      have n2 : Lib.hasPrefix s.data.toList [61, 61] = false := by
        rw [hs]
        cases r with
        | nil => simp [Lib.hasPrefix, List.isPrefixOf]
        | cons c r =>
          simp [Lib.hasPrefix, List.isPrefixOf] at h2 ⊢
          exact fun e => fun e' => h2 e.symm e'.symm
      have n3 : ∀ x : UInt8, Lib.hasPrefix s.data.toList [x] = (x == b) := by
        intro x
        rw [hs]
        simp [Lib.hasPrefix, List.isPrefixOf]
      have hk : sgn s.data.toList = if sg1L.contains b then 1 else 0 := by
        rw [hs]
        show (if _ then _ else _) = _
        rw [if_neg (by rintro (h | h); exact h1 h; exact h2 h)]
      by_cases hm : b ∈ sg1L
      · rw [if_pos (by simpa using hm)] at hk
        refine .inr ⟨by omega, ?_⟩
        refine Eq.trans (b := some ⟨#[b]⟩) ?_ (key ⟨#[b]⟩ 1 hk (by rw [hs]; rfl))
        simp only [firstSign, signL, n1, n2, n3]
        simp [sg1L] at hm
        rcases hm with rfl | rfl | rfl | rfl | rfl | rfl | rfl | rfl | rfl | rfl | rfl | rfl | rfl <;> rfl
      · rw [if_neg (by simpa using hm)] at hk
        refine .inl ⟨hk, ?_⟩
        simp [sg1L] at hm
        obtain ⟨a1, a2, a3, a4, a5, a6, a7, a8, a9, a10, a11, a12, a13⟩ := hm
        have f : ∀ x : UInt8, b ≠ x → (x == b) = false := fun x h => by simpa using fun e => h e.symm
        simp only [firstSign, signL, n1, n2, n3, f _ a1, f _ a2, f _ a3, f _ a4, f _ a5, f _ a6, f _ a7, f _ a8, f _ a9, f _ a10, f _ a11, f _ a12, f _ a13]
        rfl
/-- what the front token is, by lists -/
theorem lexFirst_spec (s : ByteArray) (hs : 0 < s.size) : lexFirst s = match specF s.data.toList with | .ok (k, m, n) => .ok ⟨k, s.extract 0 m, n, 0⟩ | .error c => .error c := by
  unfold lexFirst specF
  by_cases hz : endW s = 0
  · rw [if_pos hz, if_pos ((endW_zero s hs).1 hz)]
    cases hl : s.data.toList with
    | nil => have : s.data.toList.length = s.size := rfl; rw [hl] at this; simp at this; omega
    | cons b r =>
      rw [← hl]
      rcases firstSign_spec s b r hl with ⟨h1, h2⟩ | ⟨h1, h2⟩
      · rw [if_pos h1, h2]
      · rw [if_neg (by omega), h2]
  · have hn := mt (endW_zero s hs).2 hz
    rw [if_neg hz, if_neg hn, lexNamed_spec s (by rw [lenW_wl]; omega), lenW_wl]
    cases specW (s.data.toList.take (wl s.data.toList)) with
    | ok p => rfl
    | error c => rfl
end Go.Proofs.YtajcnjdinmgpjaaGreatDoor.X
namespace Go.Proofs.YtajcnjdinmgpjaaGreatDoor.P
open Go.RowKit Go.Proofs.YtajcnjdinmgpjaaGreatDoorW.PrintWords Go.Proofs.YtajcnjdinmgpjaaGreatDoorW.PrintLast Go.Proofs.YtajcnjdinmgpjaaGreatDoorW.PrintMore
attribute [local go_sem] max2_int min2_int max_two min_two max_three min_three max_four min_four   -- for this text's walks alone
set_option linter.unusedVariables false
set_option linter.unusedSimpArgs false

/-! ### gossamerref01_class: function 18 -/
mutual
def gossamerref01_class.j0 : Nat → Int → Bool → Option (Int)
  | 0, _, _ => none
  | k + 1, x0, x8 => if x8 = true then (some 1) else (if x0 ≥ 65 then (gossamerref01_class.j1 k x0 (decide (x0 ≤ 90))) else (gossamerref01_class.j1 k x0 false))
def gossamerref01_class.j1 : Nat → Int → Bool → Option (Int)
  | 0, _, _ => none
  | k + 1, x0, x14 => if x14 = true then (some 2) else (if x0 ≥ 48 then (gossamerref01_class.j2 k x0 (decide (x0 ≤ 57))) else (gossamerref01_class.j2 k x0 false))
def gossamerref01_class.j2 : Nat → Int → Bool → Option (Int)
  | 0, _, _ => none
  | k + 1, x0, x20 => if x20 = true then (some 3) else (if x0 = 32 then (some 4) else (if x0 = 10 then (some 4) else (if x0 = 9 then (some 4) else (some 0))))
end
def gossamerref01_class.f (k : Nat) (a0 : Int) : Option (Int) := if a0 ≥ 97 then (gossamerref01_class.j0 k a0 (decide (a0 ≤ 122))) else (gossamerref01_class.j0 k a0 false)
theorem gossamerref01_class.mono_l : ∀ k, (∀ y0 y1, LeO (gossamerref01_class.j0 k y0 y1) (gossamerref01_class.j0 (k + 1) y0 y1)) ∧ (∀ y0 y1, LeO (gossamerref01_class.j1 k y0 y1) (gossamerref01_class.j1 (k + 1) y0 y1)) ∧ (∀ y0 y1, LeO (gossamerref01_class.j2 k y0 y1) (gossamerref01_class.j2 (k + 1) y0 y1))
  | 0 => ⟨fun _ _ r h => by simp [gossamerref01_class.j0] at h, fun _ _ r h => by simp [gossamerref01_class.j1] at h, fun _ _ r h => by simp [gossamerref01_class.j2] at h⟩
  | k + 1 => by
    obtain ⟨ih0, ih1, ih2⟩ := gossamerref01_class.mono_l k
    refine ⟨?_, ?_, ?_⟩
    · intro y0 y1
      unfold gossamerref01_class.j0
      repeat' first
      | (with_reducible exact ih0 _ _)
      | (with_reducible exact ih1 _ _)
      | (with_reducible exact ih2 _ _)
      | (with_reducible exact LeO.refl _)
      | (with_reducible exact LeO.none _)
      | (with_reducible refine LeO.ite ?_ ?_)
      | (with_reducible refine LeO.bind ?_ (fun _ => ?_))
      | exact ih0 _ _
      | exact ih1 _ _
      | exact ih2 _ _
      | exact LeO.none _
      | refine LeO.ite ?_ ?_
      | refine LeO.bind ?_ (fun _ => ?_)
    · intro y0 y1
      unfold gossamerref01_class.j1
      repeat' first
      | (with_reducible exact ih0 _ _)
      | (with_reducible exact ih1 _ _)
      | (with_reducible exact ih2 _ _)
      | (with_reducible exact LeO.refl _)
      | (with_reducible exact LeO.none _)
      | (with_reducible refine LeO.ite ?_ ?_)
      | (with_reducible refine LeO.bind ?_ (fun _ => ?_))
      | exact ih0 _ _
      | exact ih1 _ _
      | exact ih2 _ _
      | exact LeO.none _
      | refine LeO.ite ?_ ?_
      | refine LeO.bind ?_ (fun _ => ?_)
    · intro y0 y1
      unfold gossamerref01_class.j2
      repeat' first
      | (with_reducible exact ih0 _ _)
      | (with_reducible exact ih1 _ _)
      | (with_reducible exact ih2 _ _)
      | (with_reducible exact LeO.refl _)
      | (with_reducible exact LeO.none _)
      | (with_reducible refine LeO.ite ?_ ?_)
      | (with_reducible refine LeO.bind ?_ (fun _ => ?_))
      | exact ih0 _ _
      | exact ih1 _ _
      | exact ih2 _ _
      | exact LeO.none _
      | refine LeO.ite ?_ ?_
      | refine LeO.bind ?_ (fun _ => ?_)
theorem gossamerref01_class.mono : ∀ a0 k, LeO (gossamerref01_class.f k a0) (gossamerref01_class.f (k + 1) a0) := by
  intro a0 k
  obtain ⟨ih0, ih1, ih2⟩ := gossamerref01_class.mono_l k
  unfold gossamerref01_class.f
  repeat' first
      | (with_reducible exact ih0 _ _)
      | (with_reducible exact ih1 _ _)
      | (with_reducible exact ih2 _ _)
      | (with_reducible exact LeO.refl _)
      | (with_reducible exact LeO.none _)
      | (with_reducible refine LeO.ite ?_ ?_)
      | (with_reducible refine LeO.bind ?_ (fun _ => ?_))
      | exact ih0 _ _
      | exact ih1 _ _
      | exact ih2 _ _
      | exact LeO.none _
      | refine LeO.ite ?_ ?_
      | refine LeO.bind ?_ (fun _ => ?_)
set_option maxHeartbeats 8000000 in
set_option maxRecDepth 100000 in
theorem gossamerref01_class.calls (k : Nat) (a0 : Int) (r : Int) (w : World) (h : gossamerref01_class.f k a0 = some r) :
    Calls Tryz.prog 18 #[.int .u8 a0] w fun e w' => e = .returned (.int .i64 r) ∧ Drawn0 w w' := by
  have H : (if a0 ≥ 97 then (gossamerref01_class.j0 k a0 (decide (a0 ≤ 122))) else (gossamerref01_class.j0 k a0 false)) = some r := h
  clear h
  have HC2 := Aside0.mk H
  clear H
  go_enter Tryz.func18, Tryz.ntmps18
  go_upto_region 1 with (fail)
  go_cut [8] (fun v8 wc => ∃ (kq : Nat) (x8_1 : Bool), v8 = .bool x8_1 ∧ Aside0 (gossamerref01_class.j0 kq a0 x8_1 = some r) ∧ Aside0 (kq ≤ k) ∧ Drawn0 w wc)
  case first =>
    have H := HC2.out
    clear HC2
    by_cases c3 : a0 ≥ 97
    · rw [if_pos c3] at H
      have c3b0 : decide (97 ≤ a0) = true := decide_eq_true c3
      clear c3
      (first | rw [c3b0] | (simp only [i64_w, i32_w]; rw [c3b0]) | skip)
      have H' := Aside0.mk H
      clear H
      go_wp2
      go_meet
      case rel => exact ⟨_, (decide (a0 ≤ 122)), (by first | rfl | (simp; done) | (simp [*]; done)), H', ⟨by first | omega | exact Nat.le_refl _⟩, by repeat (first | exact Drawn0.refl _ | apply Drawn0.step)⟩
    · rw [if_neg c3] at H
      have c3b0 : decide (97 ≤ a0) = false := decide_eq_false c3
      clear c3
      (first | rw [c3b0] | (simp only [i64_w, i32_w]; rw [c3b0]) | skip)
      have H' := Aside0.mk H
      clear H
      go_wp2
      go_meet
      case rel => exact ⟨_, (false), (by first | rfl | (simp; done) | (simp [*]; done)), H', ⟨by first | omega | exact Nat.le_refl _⟩, by repeat (first | exact Drawn0.refl _ | apply Drawn0.step)⟩
  case rest =>
    clear HC2
    try clear c1
    try clear p2
    try clear c3
    try clear c3b0
    obtain ⟨kq, x8_1, rfl, HA, HJ1, ⟨mc1, rfl⟩⟩ := hcut
    cases kq with
    | zero => exact absurd HA.out (by simp [gossamerref01_class.j0])
    | succ kj1 =>
      have H := HA.out
      clear HA
      simp only [gossamerref01_class.j0] at H
      by_cases c4 : x8_1 = true
      · subst c4
        have H1 : (some 1) = some r := by rw [if_pos rfl] at H; exact H
        clear H
        have H := H1
        clear H1
        obtain rfl := Option.some.inj H
        go_wp2
        go_ret
        exact ⟨by first | rfl | (simp; done) | (simp [*]; done), by repeat (first | exact Drawn0.refl _ | apply Drawn0.step)⟩
      · replace c4 := Bool.eq_false_iff.mpr c4
        subst c4
        have H1 : (if a0 ≥ 65 then (gossamerref01_class.j1 kj1 a0 (decide (a0 ≤ 90))) else (gossamerref01_class.j1 kj1 a0 false)) = some r := by rw [if_neg (show ¬ (false = true) by decide)] at H; exact H
        clear H
        have H := H1
        clear H1
        have HC5 := Aside0.mk H
        clear H
        go_upto_region 3 with (fail)
        go_cut [14] (fun v14 wc => ∃ (kq : Nat) (x14_4 : Bool), v14 = .bool x14_4 ∧ Aside0 (gossamerref01_class.j1 kq a0 x14_4 = some r) ∧ Aside0 (kq ≤ kj1) ∧ Drawn0 w wc)
        case first =>
          have H := HC5.out
          clear HC5
          by_cases c6 : a0 ≥ 65
          · rw [if_pos c6] at H
            have c6b0 : decide (65 ≤ a0) = true := decide_eq_true c6
            clear c6
            (first | rw [c6b0] | (simp only [i64_w, i32_w]; rw [c6b0]) | skip)
            have H' := Aside0.mk H
            clear H
            go_wp2
            go_meet
            case rel => exact ⟨_, (decide (a0 ≤ 90)), (by first | rfl | (simp; done) | (simp [*]; done)), H', ⟨by have := HJ1.out; first | omega | exact Nat.le_refl _⟩, by repeat (first | exact Drawn0.refl _ | apply Drawn0.step)⟩
          · rw [if_neg c6] at H
            have c6b0 : decide (65 ≤ a0) = false := decide_eq_false c6
            clear c6
            (first | rw [c6b0] | (simp only [i64_w, i32_w]; rw [c6b0]) | skip)
            have H' := Aside0.mk H
            clear H
            go_wp2
            go_meet
            case rel => exact ⟨_, (false), (by first | rfl | (simp; done) | (simp [*]; done)), H', ⟨by have := HJ1.out; first | omega | exact Nat.le_refl _⟩, by repeat (first | exact Drawn0.refl _ | apply Drawn0.step)⟩
        case rest =>
          clear HC5
          try clear c1
          try clear p2
          try clear c3
          try clear c3b0
          try clear c4
          try clear c6
          try clear c6b0
          try clear p2
          obtain ⟨kq, x14_4, rfl, HA, HJ4, ⟨mc4, rfl⟩⟩ := hcut
          cases kq with
          | zero => exact absurd HA.out (by simp [gossamerref01_class.j1])
          | succ kj4 =>
            have H := HA.out
            clear HA
            simp only [gossamerref01_class.j1] at H
            by_cases c7 : x14_4 = true
            · subst c7
              have H1 : (some 2) = some r := by rw [if_pos rfl] at H; exact H
              clear H
              have H := H1
              clear H1
              obtain rfl := Option.some.inj H
              go_wp2
              go_ret
              exact ⟨by first | rfl | (simp; done) | (simp [*]; done), by repeat (first | exact Drawn0.refl _ | apply Drawn0.step)⟩
            · replace c7 := Bool.eq_false_iff.mpr c7
              subst c7
              have H1 : (if a0 ≥ 48 then (gossamerref01_class.j2 kj4 a0 (decide (a0 ≤ 57))) else (gossamerref01_class.j2 kj4 a0 false)) = some r := by rw [if_neg (show ¬ (false = true) by decide)] at H; exact H
              clear H
              have H := H1
              clear H1
              have HC8 := Aside0.mk H
              clear H
              go_upto_region 5 with (fail)
              go_cut [20] (fun v20 wc => ∃ (kq : Nat) (x20_7 : Bool), v20 = .bool x20_7 ∧ Aside0 (gossamerref01_class.j2 kq a0 x20_7 = some r) ∧ Aside0 (kq ≤ kj4) ∧ Drawn0 w wc)
              case first =>
                have H := HC8.out
                clear HC8
                by_cases c9 : a0 ≥ 48
                · rw [if_pos c9] at H
                  have c9b0 : decide (48 ≤ a0) = true := decide_eq_true c9
                  clear c9
                  (first | rw [c9b0] | (simp only [i64_w, i32_w]; rw [c9b0]) | skip)
                  have H' := Aside0.mk H
                  clear H
                  go_wp2
                  go_meet
                  case rel => exact ⟨_, (decide (a0 ≤ 57)), (by first | rfl | (simp; done) | (simp [*]; done)), H', ⟨by have := HJ1.out; have := HJ4.out; first | omega | exact Nat.le_refl _⟩, by repeat (first | exact Drawn0.refl _ | apply Drawn0.step)⟩
                · rw [if_neg c9] at H
                  have c9b0 : decide (48 ≤ a0) = false := decide_eq_false c9
                  clear c9
                  (first | rw [c9b0] | (simp only [i64_w, i32_w]; rw [c9b0]) | skip)
                  have H' := Aside0.mk H
                  clear H
                  go_wp2
                  go_meet
                  case rel => exact ⟨_, (false), (by first | rfl | (simp; done) | (simp [*]; done)), H', ⟨by have := HJ1.out; have := HJ4.out; first | omega | exact Nat.le_refl _⟩, by repeat (first | exact Drawn0.refl _ | apply Drawn0.step)⟩
              case rest =>
                clear HC8
                try clear c1
                try clear p2
                try clear c3
                try clear c3b0
                try clear c4
                try clear c6
                try clear c6b0
                try clear c7
                try clear c9
                try clear c9b0
                try clear p2
                obtain ⟨kq, x20_7, rfl, HA, HJ7, ⟨mc7, rfl⟩⟩ := hcut
                cases kq with
                | zero => exact absurd HA.out (by simp [gossamerref01_class.j2])
                | succ kj7 =>
                  have H := HA.out
                  clear HA
                  simp only [gossamerref01_class.j2] at H
                  by_cases c10 : x20_7 = true
                  · subst c10
                    have H1 : (some 3) = some r := by rw [if_pos rfl] at H; exact H
                    clear H
                    have H := H1
                    clear H1
                    obtain rfl := Option.some.inj H
                    go_wp2
                    go_ret
                    exact ⟨by first | rfl | (simp; done) | (simp [*]; done), by repeat (first | exact Drawn0.refl _ | apply Drawn0.step)⟩
                  · replace c10 := Bool.eq_false_iff.mpr c10
                    subst c10
                    have H1 : (if a0 = 32 then (some 4) else (if a0 = 10 then (some 4) else (if a0 = 9 then (some 4) else (some 0)))) = some r := by rw [if_neg (show ¬ (false = true) by decide)] at H; exact H
                    clear H
                    have H := H1
                    clear H1
                    by_cases c11 : a0 = 32
                    · rw [if_pos c11] at H
                      have c11b0 : (a0 == 32) = true := beq_iff_eq.mpr c11
                      have c11b1 : (a0 != 32) = false := bne_eq_false_iff_eq.mpr c11
                      clear c11
                      obtain rfl := Option.some.inj H
                      go_wp2
                      go_ret
                      exact ⟨by first | rfl | (simp; done) | (simp [*]; done), by repeat (first | exact Drawn0.refl _ | apply Drawn0.step)⟩
                    · rw [if_neg c11] at H
                      have c11b0 : (a0 == 32) = false := beq_eq_false_iff_ne.mpr c11
                      have c11b1 : (a0 != 32) = true := bne_iff_ne.mpr c11
                      by_cases c12 : a0 = 10
                      · rw [if_pos c12] at H
                        have c12b0 : (a0 == 10) = true := beq_iff_eq.mpr c12
                        have c12b1 : (a0 != 10) = false := bne_eq_false_iff_eq.mpr c12
                        clear c12
                        obtain rfl := Option.some.inj H
                        go_wp2
                        go_ret
                        exact ⟨by first | rfl | (simp; done) | (simp [*]; done), by repeat (first | exact Drawn0.refl _ | apply Drawn0.step)⟩
                      · rw [if_neg c12] at H
                        have c12b0 : (a0 == 10) = false := beq_eq_false_iff_ne.mpr c12
                        have c12b1 : (a0 != 10) = true := bne_iff_ne.mpr c12
                        by_cases c13 : a0 = 9
                        · rw [if_pos c13] at H
                          have c13b0 : (a0 == 9) = true := beq_iff_eq.mpr c13
                          have c13b1 : (a0 != 9) = false := bne_eq_false_iff_eq.mpr c13
                          clear c13
                          obtain rfl := Option.some.inj H
                          go_wp2
                          go_ret
                          exact ⟨by first | rfl | (simp; done) | (simp [*]; done), by repeat (first | exact Drawn0.refl _ | apply Drawn0.step)⟩
                        · rw [if_neg c13] at H
                          have c13b0 : (a0 == 9) = false := beq_eq_false_iff_ne.mpr c13
                          have c13b1 : (a0 != 9) = true := bne_iff_ne.mpr c13
                          obtain rfl := Option.some.inj H
                          go_wp2
                          go_ret
                          exact ⟨by first | rfl | (simp; done) | (simp [*]; done), by repeat (first | exact Drawn0.refl _ | apply Drawn0.step)⟩

end Go.Proofs.YtajcnjdinmgpjaaGreatDoor.P
