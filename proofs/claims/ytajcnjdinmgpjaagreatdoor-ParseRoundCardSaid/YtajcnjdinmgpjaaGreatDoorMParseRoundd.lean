/- ParseRound: the row and its card: for every input the law returns true, and each argument reads as it did; a part of its proof: Xsim, Xlay, Xrnd, Qgref01Text, Qglaw03paired, Xlaw3, Xfix3, Xany, Xpr, XrowParseRound. The condition: the listed package-level variables hold what the program's text lays (the card ties that). -/
import Derived.Test.YtajcnjdinmgpjaaGreatDoorMParseRoundc
import Derived.WalkKit
import Derived.OpenShut
import Derived.ShutString
import Derived.ChangeOld
import Derived.Below
import Derived.SizedLaws
set_option linter.unusedVariables false
set_option linter.unusedSimpArgs false
/- What is read of tokens that stand elsewhere, and with signs ( ) around numbers. -/
namespace Go.Proofs.YtajcnjdinmgpjaaGreatDoor.X
open Go.Proofs.YtajcnjdinmgpjaaGreatDoor.P
set_option linter.unusedVariables false
def tokS (a b : Tok) : Prop := a.f0 = b.f0 ∧ a.f1 = b.f1 ∧ a.f2 = b.f2
theorem tokS.refl (a : Tok) : tokS a a := ⟨rfl, rfl, rfl⟩
theorem tokS.symm {a b : Tok} (h : tokS a b) : tokS b a := ⟨h.1.symm, h.2.1.symm, h.2.2.symm⟩
theorem tokS.isT {a b : Tok} (h : tokS a b) (s : ByteArray) : isT a s = isT b s := by unfold X.isT; rw [h.1, h.2.1]
inductive Rd : List Tok → List Tok → Prop
  | nil : Rd [] []
  | tok (a b : Tok) (l l' : List Tok) : tokS a b → Rd l l' → Rd (a :: l) (b :: l')
  | par (a b p q : Tok) (l l' : List Tok) : a.f0 = 3 → tokS a b → isT p ⟨#[40]⟩ = true → isT q ⟨#[41]⟩ = true → Rd l l' → Rd (a :: l) (p :: b :: q :: l')
theorem Rd.inv {a : Tok} {l l' : List Tok} (h : Rd (a :: l) l') (ha : a.f0 ≠ 3) : ∃ b r, l' = b :: r ∧ tokS a b ∧ Rd l r := by
  cases h with
  | tok _ b _ l' h1 h2 => exact ⟨b, l', rfl, h1, h2⟩
  | par _ b p q _ l' h1 => exact absurd h1 ha
theorem Rd.invT {a : Tok} {l l' : List Tok} {s : ByteArray} (h : Rd (a :: l) l') (ha : isT a s = true) : ∃ b r, l' = b :: r ∧ tokS a b ∧ isT b s = true ∧ Rd l r := by
  obtain ⟨b, r, e, h1, h2⟩ := h.inv (by rcases isT_kind ha with h | h <;> omega)
  exact ⟨b, r, e, h1, by rw [← h1.isT]; exact ha, h2⟩
theorem Rd.append {vs l l' : List Tok} (h : Rd (vs ++ l) l') (hv : ∀ v ∈ vs, v.f0 = 1) : ∃ vs' r, l' = vs' ++ r ∧ Rd l r ∧ (∀ v ∈ vs', v.f0 = 1) ∧ vs'.length = vs.length ∧ SmL (vs.map varT) (vs'.map varT) := by
  induction vs generalizing l' with
  | nil => exact ⟨[], l', rfl, h, by simp, rfl, .nil⟩
  | cons v vs ih =>
    have hv1 := hv v (by simp)
    obtain ⟨b, r, rfl, h1, h2⟩ := Rd.inv h (by omega)
    obtain ⟨vs', r', rfl, h3, h4, h5, h6⟩ := ih h2 (fun x hx => hv x (by simp [hx]))
    refine ⟨b :: vs', r', rfl, h3, ?_, by simp [h5], ?_⟩
    · intro x hx
      rcases List.mem_cons.1 hx with rfl | hx
      · rw [← h1.1]; exact hv1
      · exact h4 x hx
    · refine .cons _ _ _ _ ?_ h6
      show Sm ⟨1, v.f1, 0, v.f3, []⟩ ⟨1, b.f1, 0, b.f3, []⟩
      rw [← h1.2.1]
      exact .mk _ _ _ _ _ _ _ .nil
theorem Rd.stop {l l' : List Tok} (h : Rd l l') {s : ByteArray} (hs : s.data.toList ≠ [40]) (hl : isW l s = false) : isW l' s = false := by
  cases h with
  | nil => rfl
  | tok a b l l' h1 h2 => rw [isW_cons] at hl ⊢; rw [← h1.isT]; exact hl
  | par a b p q l l' h1 h2 h3 h4 h5 => rw [isW_cons]; exact isT_other h3 (fun e => hs e.symm)
theorem Rd.atom {l l' : List Tok} (h : Rd l l') : atomB l' = atomB l := by
  cases h with
  | nil => rfl
  | tok a b l l' h1 h2 =>
    unfold atomB
    rw [isW_cons, isW_cons, h1.isT, show kd (b :: l') = kd (a :: l) from h1.1.symm]
  | par a b p q l l' h1 h2 h3 h4 h5 => simp [atomB, isW_cons, h3, kd, h1]
theorem Rd.con {l l' : List Tok} (h : Rd l l') : (kd l' == 2) = (kd l == 2) := by
  cases h with
  | nil => rfl
  | tok a b l l' h1 h2 => show (b.f0 == 2) = (a.f0 == 2); rw [h1.1]
  | par a b p q l l' h1 h2 h3 h4 h5 =>
    show (p.f0 == 2) = (a.f0 == 2)
    have := isT_kind h3
    have e1 : (p.f0 == 2) = false := by simp; omega
    have e2 : (a.f0 == 2) = false := by simp; omega
    rw [e1, e2]
inductive NR : N → N → Prop
  | same (n : N) : fronted n = true ∨ n = .expr ∨ n = .alt → NR n n
  | args (c : Bool) (t t' : Tree) : Sm t t' → NR (.args c t) (.args c t')
  | ops (b : Bool) (t t' : Tree) : Sm t t' → NR (.ops b t) (.ops b t')
  | alts (a a' : Int) (l l' : List Tree) : SmL l l' → NR (.alts a l) (.alts a' l')
theorem NR.sub (b : Bool) : NR (X.sub b) (X.sub b) := .same _ (.inl (by cases b <;> rfl))
theorem sm1 {k : Int} {s : ByteArray} {n p p' : Int} {b b' : Tree} (h : Sm b b') : Sm ⟨k, s, n, p, [b]⟩ ⟨k, s, n, p', [b']⟩ := .mk _ _ _ _ _ _ _ (.cons _ _ _ _ h .nil)
theorem sm2 {k : Int} {s : ByteArray} {n p p' : Int} {a a' b b' : Tree} (g : Sm a a') (h : Sm b b') : Sm ⟨k, s, n, p, [a, b]⟩ ⟨k, s, n, p', [a', b']⟩ := .mk _ _ _ _ _ _ _ (.cons _ _ _ _ g (.cons _ _ _ _ h .nil))
/-- a number, ahead of a sign ) -/
theorem der_single (b q : Tok) (r : List Tok) (hb : b.f0 = 3) (hq : isT q ⟨#[41]⟩ = true) : Der .expr (b :: q :: r) ⟨9, ⟨#[]⟩, b.f2, b.f3, []⟩ (q :: r) := by
  have no : ∀ s : ByteArray, s.data.toList ≠ [41] → isW (q :: r) s = false := fun s hs => by rw [isW_cons]; exact isT_other hq (fun e => hs e.symm)
  have hk := isT_kind hq
  have hat : atomB (q :: r) = false := by
    unfold atomB
    rw [no _ (by decide)]
    show (false || (q.f0 == 1 || q.f0 == 2 || q.f0 == 3)) = false
    simp
    omega
  have h1 : Der .atom (b :: q :: r) ⟨9, ⟨#[]⟩, b.f2, b.f3, []⟩ (q :: r) := .int b _ hb
  have h2 : Der .app (b :: q :: r) ⟨9, ⟨#[]⟩, b.f2, b.f3, []⟩ (q :: r) := .app _ _ _ _ _ h1 (.args0 _ _ _ hat)
  have h3 : Der (.lev true) (b :: q :: r) ⟨9, ⟨#[]⟩, b.f2, b.f3, []⟩ (q :: r) := .lev true _ _ _ _ _ h2 (.ops0 true _ _ (no _ (by decide)) (no _ (by decide)))
  have h4 : Der (.lev false) (b :: q :: r) ⟨9, ⟨#[]⟩, b.f2, b.f3, []⟩ (q :: r) := .lev false _ _ _ _ _ h3 (.ops0 false _ _ (no _ (by decide)) (no _ (by decide)))
  exact .cmpE _ _ _ (.cmp0 _ _ _ h4 (no _ (by decide)) (no _ (by decide)))
theorem der_sim {nt : N} {l : List Tok} {t : Tree} {r : List Tok} (h : Der nt l t r) : ∀ nt' l', NR nt nt' → Rd l l' → ∃ t' r', Der nt' l' t' r' ∧ Sm t t' ∧ Rd r r' := by
  induction h with
  | lam a x d l b r ha hx hd_ hb ih =>
    intro nt' l' hn hr
    cases hn
    obtain ⟨a', r1, rfl, sa, ta, hr1⟩ := hr.invT ha
    obtain ⟨x', r2, rfl, sx, hr2⟩ := hr1.inv (by omega)
    obtain ⟨d', r3, rfl, sd, td, hr3⟩ := hr2.invT hd_
    obtain ⟨b', r', h1, h2, h3⟩ := ih _ _ (.same _ (.inr (.inl rfl))) hr3
    exact ⟨_, r', .lam a' x' d' r3 b' r' ta (by rw [← sx.1]; exact hx) td h1, by rw [sx.2.1]; exact sm1 h2, h3⟩
  | let_ k a x e i l l2 v b r hk hx he hv hi hb ih1 ih2 =>
    intro nt' l' hn hr
    cases hn
    have hka : ∃ s, isT a s = true := by rcases hk with ⟨h, _⟩ | ⟨h, _⟩ <;> exact ⟨_, h⟩
    obtain ⟨s, hs⟩ := hka
    obtain ⟨a', r1, rfl, sa, _, hr1⟩ := hr.invT hs
    obtain ⟨x', r2, rfl, sx, hr2⟩ := hr1.inv (by omega)
    obtain ⟨e', r3, rfl, se, te, hr3⟩ := hr2.invT he
    obtain ⟨v', q1, h1, h2, h3⟩ := ih1 _ _ (.same _ (.inr (.inl rfl))) hr3
    obtain ⟨i', r4, rfl, si, ti, hr4⟩ := h3.invT hi
    obtain ⟨b', r', g1, g2, g3⟩ := ih2 _ _ (.same _ (.inr (.inl rfl))) hr4
    refine ⟨_, r', .let_ k a' x' e' i' r3 r4 v' b' r' ?_ (by rw [← sx.1]; exact hx) te h1 ti g1, by rw [sx.2.1]; exact sm2 h2 g2, g3⟩
    rcases hk with ⟨h, e⟩ | ⟨h, e⟩
    · exact .inl ⟨by rw [← sa.isT]; exact h, e⟩
    · exact .inr ⟨by rw [← sa.isT]; exact h, e⟩
  | case_ a o c l l2 l3 v b t r ha hv ho hc hb ht ih1 ih2 ih3 =>
    intro nt' l' hn hr
    cases hn
    obtain ⟨a', r1, rfl, sa, ta, hr1⟩ := hr.invT ha
    obtain ⟨v', q1, h1, h2, h3⟩ := ih1 _ _ (.same _ (.inr (.inl rfl))) hr1
    obtain ⟨o', r2, rfl, so, tto, hr2⟩ := h3.invT ho
    obtain ⟨c', r3, rfl, sc, tc, hr3⟩ := hr2.invT hc
    obtain ⟨b', q2, g1, g2, g3⟩ := ih2 _ _ (.same _ (.inr (.inr rfl))) hr3
    obtain ⟨t', r', k1, k2, k3⟩ := ih3 _ _ (.alts a.f3 a'.f3 [v, b] [v', b'] (.cons _ _ _ _ h2 (.cons _ _ _ _ g2 .nil))) g3
    exact ⟨t', r', .case_ a' o' c' r1 r3 q2 v' b' t' r' ta h1 tto tc g1 k1, k2, k3⟩
  | altsMore at_ ts p l a r t r' hp hlen ha ht ih1 ih2 =>
    intro nt' l' hn hr
    cases hn with
    | same _ h => rcases h with h | h | h <;> cases h
    | alts _ a' _ ts' hs =>
      obtain ⟨p', r1, rfl, sp, tp, hr1⟩ := hr.invT hp
      obtain ⟨x', q1, h1, h2, h3⟩ := ih1 _ _ (.same _ (.inr (.inr rfl))) hr1
      obtain ⟨t', q2, k1, k2, k3⟩ := ih2 _ _ (.alts at_ a' (ts ++ [a]) (ts' ++ [x']) (hs.append (.cons _ _ _ _ h2 .nil))) h3
      exact ⟨t', q2, .altsMore a' ts' p' r1 x' q1 t' q2 tp (by rw [← hs.len]; exact hlen) h1 k1, k2, k3⟩
  | altsEnd at_ ts q r hq =>
    intro nt' l' hn hr
    cases hn with
    | same _ h => rcases h with h | h | h <;> cases h
    | alts _ a' _ ts' hs =>
      obtain ⟨q', r1, rfl, sq, tq, hr1⟩ := hr.invT hq
      exact ⟨_, r1, .altsEnd a' ts' q' r1 tq, .mk _ _ _ _ _ _ _ hs, hr1⟩
  | alt_ c vs a l b r hc hv hlen ha hb ih =>
    intro nt' l' hn hr
    cases hn
    obtain ⟨c', r1, rfl, sc, hr1⟩ := hr.inv (by omega)
    obtain ⟨vs', r2, rfl, hr2, hv', hl', hsm⟩ := hr1.append hv
    obtain ⟨a', r3, rfl, sa, ta, hr3⟩ := hr2.invT ha
    obtain ⟨b', r', g1, g2, g3⟩ := ih _ _ (.same _ (.inr (.inl rfl))) hr3
    refine ⟨_, r', .alt_ c' vs' a' r3 b' r' (by rw [← sc.1]; exact hc) hv' (by omega) ta g1, ?_, g3⟩
    rw [sc.2.1, hl']
    exact .mk _ _ _ _ _ _ _ (hsm.append (.cons _ _ _ _ g2 .nil))
  | cmpE l t r hc ih =>
    intro nt' l' hn hr
    cases hn
    obtain ⟨t', r', g1, g2, g3⟩ := ih _ _ (.same _ (.inl rfl)) hr
    exact ⟨t', r', .cmpE _ _ _ g1, g2, g3⟩
  | cmp0 l t r hs h1 h2 ih =>
    intro nt' l' hn hr
    cases hn
    obtain ⟨t', r', g1, g2, g3⟩ := ih _ _ (.same _ (.inl rfl)) hr
    exact ⟨t', r', .cmp0 _ _ _ g1 (g3.stop (by decide) h1) (g3.stop (by decide) h2), g2, g3⟩
  | cmp1 l t o r1 b r hs ho hb ih1 ih2 =>
    intro nt' l' hn hr
    cases hn
    obtain ⟨t', q1, g1, g2, g3⟩ := ih1 _ _ (.same _ (.inl rfl)) hr
    have hko : ∃ s, isT o s = true := by rcases ho with h | h <;> exact ⟨_, h⟩
    obtain ⟨s, hs'⟩ := hko
    obtain ⟨o', r2, rfl, so, _, hr2⟩ := g3.invT hs'
    obtain ⟨b', r', k1, k2, k3⟩ := ih2 _ _ (.same _ (.inl rfl)) hr2
    refine ⟨_, r', .cmp1 _ t' o' r2 b' r' g1 (by rw [← so.isT, ← so.isT]; exact ho) k1, ?_, k3⟩
    show Sm ⟨10, o.f1, 0, t.f3, [t, b]⟩ ⟨10, o'.f1, 0, t'.f3, [t', b']⟩
    rw [so.2.1]
    exact sm2 g2 k2
  | lev b l t r1 t' r hs ho ih1 ih2 =>
    intro nt' l' hn hr
    cases hn
    obtain ⟨u, q1, g1, g2, g3⟩ := ih1 _ _ (NR.sub b) hr
    obtain ⟨u', r', k1, k2, k3⟩ := ih2 _ _ (.ops b t u g2) g3
    exact ⟨u', r', .lev b _ u q1 u' r' g1 k1, k2, k3⟩
  | ops0 b t r h1 h2 =>
    intro nt' l' hn hr
    cases hn with
    | same _ h => rcases h with h | h | h <;> cases h
    | ops _ _ u hs => exact ⟨u, l', .ops0 b u l' (hr.stop (by cases b <;> decide) h1) (hr.stop (by cases b <;> decide) h2), hs, hr⟩
  | ops1 b t o l x r t' r' ho hx ht ih1 ih2 =>
    intro nt' l' hn hr
    cases hn with
    | same _ h => rcases h with h | h | h <;> cases h
    | ops _ _ u hs =>
      have hko : ∃ s, isT o s = true := by rcases ho with h | h <;> exact ⟨_, h⟩
      obtain ⟨s, hs'⟩ := hko
      obtain ⟨o', r2, rfl, so, _, hr2⟩ := hr.invT hs'
      obtain ⟨x', q1, g1, g2, g3⟩ := ih1 _ _ (NR.sub b) hr2
      obtain ⟨u', r3, k1, k2, k3⟩ := ih2 _ _ (.ops b _ (opT o'.f1 u x') (by
        show Sm ⟨10, o.f1, 0, t.f3, [t, x]⟩ ⟨10, o'.f1, 0, u.f3, [u, x']⟩
        rw [so.2.1]
        exact sm2 hs g2)) g3
      exact ⟨u', r3, .ops1 b u o' r2 x' q1 u' r3 (by rw [← so.isT, ← so.isT]; exact ho) g1 k1, k2, k3⟩
  | app l t r1 t' r ha ht ih1 ih2 =>
    intro nt' l' hn hr
    cases hn
    obtain ⟨u, q1, g1, g2, g3⟩ := ih1 _ _ (.same _ (.inl rfl)) hr
    obtain ⟨u', r', k1, k2, k3⟩ := ih2 _ _ (.args _ t u g2) g3
    exact ⟨u', r', .app _ u q1 u' r' g1 (by rw [hr.con]; exact k1), k2, k3⟩
  | args0 c t r h =>
    intro nt' l' hn hr
    cases hn with
    | same _ h => rcases h with h | h | h <;> cases h
    | args _ _ u hs => exact ⟨u, l', .args0 c u l' (by rw [hr.atom]; exact h), hs, hr⟩
  | argsC t l a r t' r' hlen ha ht ih1 ih2 =>
    intro nt' l' hn hr
    cases hn with
    | same _ h => rcases h with h | h | h <;> cases h
    | args _ _ u hs =>
      obtain ⟨a', q1, g1, g2, g3⟩ := ih1 _ _ (.same _ (.inl rfl)) hr
      obtain ⟨e0, e1, e2, e4⟩ := hs.parts
      obtain ⟨u', r3, k1, k2, k3⟩ := ih2 _ _ (.args true _ ⟨u.f0, u.f1, u.f2, u.f3, u.f4 ++ [a']⟩ (by
        rw [e0, e1, e2]
        exact .mk _ _ _ _ _ _ _ (e4.append (.cons _ _ _ _ g2 .nil)))) g3
      exact ⟨u', r3, .argsC u _ a' q1 u' r3 (by rw [← e4.len]; exact hlen) g1 k1, k2, k3⟩
  | argsA t l a r t' r' ha ht ih1 ih2 =>
    intro nt' l' hn hr
    cases hn with
    | same _ h => rcases h with h | h | h <;> cases h
    | args _ _ u hs =>
      obtain ⟨a', q1, g1, g2, g3⟩ := ih1 _ _ (.same _ (.inl rfl)) hr
      obtain ⟨u', r3, k1, k2, k3⟩ := ih2 _ _ (.args false _ ⟨3, ⟨#[]⟩, 0, u.f3, [u, a']⟩ (sm2 hs g2)) g3
      exact ⟨u', r3, .argsA u _ a' q1 u' r3 g1 k1, k2, k3⟩
  | paren a q l t r ha ht hq ih =>
    intro nt' l' hn hr
    cases hn
    obtain ⟨a', r1, rfl, sa, ta, hr1⟩ := hr.invT ha
    obtain ⟨t', q1, g1, g2, g3⟩ := ih _ _ (.same _ (.inr (.inl rfl))) hr1
    obtain ⟨q', r2, rfl, sq, tq, hr2⟩ := g3.invT hq
    exact ⟨t', r2, .paren a' q' r1 t' r2 ta g1 tq, g2, hr2⟩
  | var x r h =>
    intro nt' l' hn hr
    cases hn
    obtain ⟨x', r1, rfl, sx, hr1⟩ := hr.inv (by omega)
    exact ⟨_, r1, .var x' r1 (by rw [← sx.1]; exact h), by rw [sx.2.1]; exact .mk _ _ _ _ _ _ _ .nil, hr1⟩
  | con x r h =>
    intro nt' l' hn hr
    cases hn
    obtain ⟨x', r1, rfl, sx, hr1⟩ := hr.inv (by omega)
    exact ⟨_, r1, .con x' r1 (by rw [← sx.1]; exact h), by rw [sx.2.1]; exact .mk _ _ _ _ _ _ _ .nil, hr1⟩
  | int x r h =>
    intro nt' l' hn hr
    cases hn
    cases hr with
    | tok _ b _ l' h1 h2 => exact ⟨_, l', .int b l' (by rw [← h1.1]; exact h), by rw [h1.2.2]; exact .mk _ _ _ _ _ _ _ .nil, h2⟩
    | par _ b p q _ l' h1 h2 h3 h4 h5 => exact ⟨_, l', .paren p q _ _ _ h3 (der_single b q l' (by rw [← h2.1]; exact h) h4) h4, by rw [h2.2.2]; exact .mk _ _ _ _ _ _ _ .nil, h5⟩
end Go.Proofs.YtajcnjdinmgpjaaGreatDoor.X
/- Texts that are made of tokens. -/
namespace Go.Proofs.YtajcnjdinmgpjaaGreatDoor.X
open Go.Proofs.YtajcnjdinmgpjaaGreatDoor.P
theorem parse_of_der {s : ByteArray} {l : List Tok} {t : Tree} {d : Int} (hs : s.size ≤ 4096) (hl : lexAll s = .ok l) (hd : Der .expr l t []) (h1 : 1 ≤ d) (h2 : d ≤ 200) (ht : ((tdp t : Nat) : Int) ≤ d) : parseM s d = .ok t := by
  have hlen := lexAll_len hl
  have hw : pWhole l = .ok t [] := by
    unfold pWhole
    rw [(expr_iff 5000 l t [] (by omega)).2 hd, PR.bind_ok]
    rfl
  unfold parseM
  rw [if_neg (by omega), if_neg (by omega), hl]
  simp only
  rw [hw]
  show (if d < ((tdp t : Nat) : Int) then _ else _) = _
  rw [if_neg (by omega)]
theorem parse_inv {s : ByteArray} {t : Tree} {d : Int} (h : parseM s d = .ok t) : s.size ≤ 4096 ∧ 1 ≤ d ∧ d ≤ 200 ∧ ((tdp t : Nat) : Int) ≤ d ∧ ∃ l, lexAll s = .ok l ∧ Der .expr l t [] := by
  unfold parseM at h
  split at h
  · cases h
  · split at h
    · cases h
    · cases hl : lexAll s with
      | error e => obtain ⟨a, c⟩ := e; rw [hl] at h; cases h
      | ok l =>
        rw [hl] at h
        simp only at h
        cases hw : pWhole l with
        | fail r => rw [hw] at h; cases h
        | ok t' r =>
          rw [hw] at h
          simp only at h
          split at h
          · cases h
          · cases h
            exact ⟨by omega, by omega, by omega, by omega, l, rfl, (whole_tsz hw).2⟩
/-! ### a token's own text -/
def vt (t : Tok) : Prop := specF t.f1.data.toList = .ok (t.f0, t.f1.data.toList.length, t.f2)
theorem sgn_plain (b : UInt8) (r : List UInt8) (h1 : b ≠ 45) (h2 : b ≠ 61) (h3 : sg1L.contains b = false) : sgn (b :: r) = 0 := by
  show (if (b = 45 ∧ r.head? = some 62) ∨ (b = 61 ∧ r.head? = some 61) then 2 else if sg1L.contains b then 1 else 0) = 0
  rw [if_neg (by rintro (h | h); exact h1 h.1; exact h2 h.1), h3]
  rfl
theorem sgn_one (b : UInt8) (r : List UInt8) (h1 : b ≠ 45) (h2 : b ≠ 61) (h3 : sg1L.contains b = true) : sgn (b :: r) = 1 := by
  show (if (b = 45 ∧ r.head? = some 62) ∨ (b = 61 ∧ r.head? = some 61) then 2 else if sg1L.contains b then 1 else 0) = 1
  rw [if_neg (by rintro (h | h); exact h1 h.1; exact h2 h.1), h3]
  rfl
theorem specF_head {x : List UInt8} {p : Int × Nat × Int} (h : specF x = .ok p) : x.dropWhile isBlank = x := by
  obtain ⟨k, n, v⟩ := p
  have hsz := specF_size h
  cases x with
  | nil => rfl
  | cons b r =>
    rw [List.dropWhile_cons]
    by_cases hb : isBlank b = true
    · exfalso
      have hb' : b = 32 ∨ b = 10 ∨ b = 9 := by
        unfold isBlank blanks at hb
        simpa using hb
      unfold specF at h
      rcases hb' with rfl | rfl | rfl
      all_goals
        rw [if_pos (by unfold wl; rw [List.takeWhile_cons, if_neg (by decide)]; rfl), if_pos (sgn_plain _ r (by decide) (by decide) (by decide))] at h
        cases h
    · rw [if_neg hb]
theorem LT_vt : ∀ (N : Nat) (s : List UInt8) (off : Nat) (ts : List Tok), s.length ≤ N → LT s off = .ok ts → ∀ t ∈ ts, vt t
  | N, s, off, ts, hN, h => by
    rcases LT_cases h with ⟨h1, rfl⟩ | ⟨k, n, v, ts', h1, h2, h3, rfl⟩
    · intro t ht; cases ht
    · have hns := specF_size h2
      have hle := dw_le s
      have hdl : ((s.dropWhile isBlank).drop n).length = (s.dropWhile isBlank).length - n := List.length_drop
      intro t ht
      rcases List.mem_cons.1 ht with rfl | ht
      · have e : ((s.dropWhile isBlank).take n).length = n := by rw [List.length_take]; omega
        show specF ((s.dropWhile isBlank).take n) = .ok (k, ((s.dropWhile isBlank).take n).length, v)
        rw [e]
        refine specF_same h2 (by rw [List.take_take, Nat.min_self]) (.inl ?_)
        rw [List.drop_take, Nat.sub_self, List.take_zero]
        rfl
      · cases N with
        | zero => omega
        | succ N => exact LT_vt N _ _ ts' (by omega) h3 t ht
theorem LT_blank {b : UInt8} (hb : isBlank b = true) (y : List UInt8) (off : Nat) : LT (b :: y) off = LT y (off + 1) := by
  have hd : (b :: y).dropWhile isBlank = y.dropWhile isBlank := by rw [List.dropWhile_cons, if_pos hb]
  have hle := dw_le y
  rw [LT_eq (b :: y), LT_eq y, hd, show off + ((b :: y).length - (y.dropWhile isBlank).length) = off + 1 + (y.length - (y.dropWhile isBlank).length) by rw [List.length_cons]; omega]
theorem LT_nil (off : Nat) : LT [] off = .ok [] := by rw [LT_eq]; rfl
/-- A token's text, and what does not touch it. -/
theorem LT_tok {t : Tok} (ht : vt t) (y : List UInt8) (off : Nat) (hy : y.head? = none ∨ ∃ c, y.head? = some c ∧ sep c) : LT (t.f1.data.toList ++ y) off = match LT y (off + t.f1.data.toList.length) with | .error e => .error e | .ok ts => .ok (mkTok t.f0 t.f1.data.toList t.f2 off :: ts) := by
  have hsz := specF_size ht
  have hdr : (t.f1.data.toList ++ y).drop t.f1.data.toList.length = y := List.drop_left
  have hsp : specF (t.f1.data.toList ++ y) = .ok (t.f0, t.f1.data.toList.length, t.f2) := by
    refine specF_same ht (by rw [List.take_left, List.take_length]) ?_
    unfold Nx
    rw [hdr]
    rcases hy with hy | ⟨c, hy, hc⟩
    · exact .inl hy
    · exact .inr (.inr ⟨c, hy, hc⟩)
  have hd := specF_head hsp
  rw [LT_next (by rw [hd]; intro e; rw [List.append_eq_nil_iff] at e; rw [e.1] at hsz; simp at hsz) (by rw [hd]; exact hsp), hd, Nat.sub_self, Nat.add_zero, hdr, List.take_left]
  cases LT y (off + t.f1.data.toList.length) <;> rfl
theorem mk_same (t : Tok) (off : Nat) : tokS t (mkTok t.f0 t.f1.data.toList t.f2 off) := ⟨rfl, by show t.f1 = ⟨t.f1.data.toList.toArray⟩; rw [Array.toArray_toList], rfl⟩
def wideL (l : List Tok) : List UInt8 := l.flatMap fun t => [10, 9, 32] ++ t.f1.data.toList ++ [32, 32]
def roundL (l : List Tok) : List UInt8 := l.flatMap fun t => if t.f0 = 3 then [32, 40] ++ t.f1.data.toList ++ [41, 32] else [32] ++ t.f1.data.toList
theorem wide_LT : ∀ (l : List Tok) (off : Nat), (∀ t ∈ l, vt t) → ∃ lw, LT (wideL l) off = .ok lw ∧ Rd l lw
  | [], off, _ => ⟨[], LT_nil off, .nil⟩
  | t :: l, off, h => by
    have ht := h t (by simp)
    have e : wideL (t :: l) = 10 :: 9 :: 32 :: (t.f1.data.toList ++ 32 :: 32 :: wideL l) := by
      unfold wideL
      simp [List.flatMap_cons]
    obtain ⟨lw, h1, h2⟩ := wide_LT l (off + 1 + 1 + 1 + t.f1.data.toList.length + 1 + 1) (fun x hx => h x (by simp [hx]))
    refine ⟨mkTok t.f0 t.f1.data.toList t.f2 (off + 1 + 1 + 1) :: lw, ?_, .tok _ _ _ _ (mk_same _ _) h2⟩
    rw [e, LT_blank (by decide), LT_blank (by decide), LT_blank (by decide), LT_tok ht _ _ (.inr ⟨32, rfl, sep32⟩), LT_blank (by decide), LT_blank (by decide), h1]
def tOpen : Tok := ⟨5, ⟨#[40]⟩, 0, 0⟩
def tShut : Tok := ⟨5, ⟨#[41]⟩, 0, 0⟩
theorem sep41 : sep 41 := ⟨by decide, by decide, by decide⟩
theorem isT_mk (t : Tok) (off : Nat) (s : ByteArray) : isT (mkTok t.f0 t.f1.data.toList t.f2 off) s = isT t s := ((mk_same t off).isT s).symm
/-- a sign ( or ) of its own, whatever comes behind -/
theorem LT_open (y : List UInt8) (off : Nat) : LT (40 :: y) off = match LT y (off + 1) with | .error e => .error e | .ok ts => .ok (mkTok 5 [40] 0 off :: ts) := by
  have hsp : specF (40 :: y) = .ok (5, 1, 0) := by
    unfold specF
    have h1 : wl (40 :: y) = 0 := by unfold wl; rw [List.takeWhile_cons, if_neg (by decide)]; rfl
    have h2 : sgn (40 :: y) = 1 := sgn_one _ y (by decide) (by decide) (by decide)
    rw [if_pos h1, h2, if_neg (by decide)]
  have hd := specF_head hsp
  rw [LT_next (by rw [hd]; simp) (by rw [hd]; exact hsp), hd, Nat.sub_self, Nat.add_zero]
  rfl
theorem LT_shut (y : List UInt8) (off : Nat) : LT (41 :: y) off = match LT y (off + 1) with | .error e => .error e | .ok ts => .ok (mkTok 5 [41] 0 off :: ts) := by
  have hsp : specF (41 :: y) = .ok (5, 1, 0) := by
    unfold specF
    have h1 : wl (41 :: y) = 0 := by unfold wl; rw [List.takeWhile_cons, if_neg (by decide)]; rfl
    have h2 : sgn (41 :: y) = 1 := sgn_one _ y (by decide) (by decide) (by decide)
    rw [if_pos h1, h2, if_neg (by decide)]
  have hd := specF_head hsp
  rw [LT_next (by rw [hd]; simp) (by rw [hd]; exact hsp), hd, Nat.sub_self, Nat.add_zero]
  rfl
theorem round_head (l : List Tok) : (roundL l).head? = none ∨ ∃ c, (roundL l).head? = some c ∧ sep c := by
  cases l with
  | nil => exact .inl rfl
  | cons t l =>
    right
    refine ⟨32, ?_, sep32⟩
    unfold roundL
    rw [List.flatMap_cons]
    split <;> rfl
theorem round_LT : ∀ (l : List Tok) (off : Nat), (∀ t ∈ l, vt t) → ∃ lr, LT (roundL l) off = .ok lr ∧ Rd l lr
  | [], off, _ => ⟨[], LT_nil off, .nil⟩
  | t :: l, off, h => by
    have ht := h t (by simp)
    by_cases h3 : t.f0 = 3
    · have e : roundL (t :: l) = 32 :: 40 :: (t.f1.data.toList ++ 41 :: 32 :: roundL l) := by
        unfold roundL
        rw [List.flatMap_cons, if_pos h3]
        simp
      obtain ⟨lr, h1, h2⟩ := round_LT l (off + 1 + 1 + t.f1.data.toList.length + 1 + 1) (fun x hx => h x (by simp [hx]))
      refine ⟨mkTok 5 [40] 0 (off + 1) :: mkTok t.f0 t.f1.data.toList t.f2 (off + 1 + 1) :: mkTok 5 [41] 0 (off + 1 + 1 + t.f1.data.toList.length) :: lr, ?_, .par _ _ _ _ _ _ h3 (mk_same _ _) ?_ ?_ h2⟩
      · rw [e, LT_blank (by decide), LT_open, LT_tok ht _ _ (.inr ⟨41, rfl, sep41⟩), LT_shut, LT_blank (by decide), h1]
      · show isT (mkTok tOpen.f0 tOpen.f1.data.toList tOpen.f2 _) _ = true
        rw [isT_mk]
        simp [isT, tOpen]
      · show isT (mkTok tShut.f0 tShut.f1.data.toList tShut.f2 _) _ = true
        rw [isT_mk]
        simp [isT, tShut]
    · have e : roundL (t :: l) = 32 :: (t.f1.data.toList ++ roundL l) := by
        unfold roundL
        rw [List.flatMap_cons, if_neg h3]
        simp
      obtain ⟨lr, h1, h2⟩ := round_LT l (off + 1 + t.f1.data.toList.length) (fun x hx => h x (by simp [hx]))
      refine ⟨mkTok t.f0 t.f1.data.toList t.f2 (off + 1) :: lr, ?_, .tok _ _ _ _ (mk_same _ _) h2⟩
      rw [e, LT_blank (by decide), LT_tok ht _ _ (round_head l), h1]
/-- What is read of a text is read of what is made of its tokens. -/
theorem parse_like {s s' : ByteArray} {t : Tree} {l : List Tok} (h : parseM s 200 = .ok t) (hl : lexAll s = .ok l) (hs' : s'.size ≤ 4096) (hr : ∃ l', LT s'.data.toList 0 = .ok l' ∧ Rd l l') : ∃ u, parseM s' 200 = .ok u ∧ Sm t u := by
  obtain ⟨h1, _, _, h4, l2, h5, h6⟩ := parse_inv h
  rw [hl] at h5
  cases h5
  obtain ⟨l', hl', hrd⟩ := hr
  obtain ⟨u, r', g1, g2, g3⟩ := der_sim h6 _ _ (.same _ (.inr (.inl rfl))) hrd
  cases g3
  exact ⟨u, parse_of_der hs' (by rw [lexAll_LT]; exact hl') g1 (by decide) (by decide) (by rw [← g2.tdp]; exact h4), g2⟩
theorem wide_parse {s w : ByteArray} {t : Tree} {l : List Tok} (h : parseM s 200 = .ok t) (hl : lexAll s = .ok l) (hw : w.data.toList = wideL l) (hs : w.size ≤ 4096) : ∃ u, parseM w 200 = .ok u ∧ Sm t u :=
  parse_like h hl hs (by rw [hw]; exact wide_LT l 0 (LT_vt _ _ 0 l (Nat.le_refl _) (by rw [← lexAll_LT]; exact hl)))
theorem round_parse {s w : ByteArray} {t : Tree} {l : List Tok} (h : parseM s 200 = .ok t) (hl : lexAll s = .ok l) (hw : w.data.toList = roundL l) (hs : w.size ≤ 4096) : ∃ u, parseM w 200 = .ok u ∧ Sm t u :=
  parse_like h hl hs (by rw [hw]; exact round_LT l 0 (LT_vt _ _ 0 l (Nat.le_refl _) (by rw [← lexAll_LT]; exact hl)))
end Go.Proofs.YtajcnjdinmgpjaaGreatDoor.X
/- Signs ( ) around a text; signs ( ) that pair. -/
namespace Go.Proofs.YtajcnjdinmgpjaaGreatDoor.X
open Go.Proofs.YtajcnjdinmgpjaaGreatDoor.P
set_option linter.unusedVariables false
/-- nothing, or a sign ) -/
def Cl (m : List Tok) : Prop := m = [] ∨ ∃ q r, m = q :: r ∧ isT q ⟨#[41]⟩ = true
theorem Cl.isW {m : List Tok} (h : Cl m) (s : ByteArray) (hs : s.data.toList ≠ [41]) : isW m s = false := by
  rcases h with rfl | ⟨q, r, rfl, hq⟩
  · rfl
  · rw [isW_cons]; exact isT_other hq (fun e => hs e.symm)
theorem Cl.atom {m : List Tok} (h : Cl m) : atomB m = false := by
  unfold atomB
  rw [h.isW _ (by decide)]
  rcases h with rfl | ⟨q, r, rfl, hq⟩
  · rfl
  · have := isT_kind hq
    show (false || (q.f0 == 1 || q.f0 == 2 || q.f0 == 3)) = false
    simp
    omega
theorem isW_cat {r m : List Tok} (hm : Cl m) (s : ByteArray) (hs : s.data.toList ≠ [41]) (h : isW r s = false) : isW (r ++ m) s = false := by
  cases r with
  | nil => exact hm.isW s hs
  | cons a r => exact h
theorem atom_cat {r m : List Tok} (hm : Cl m) (h : atomB r = false) : atomB (r ++ m) = false := by
  cases r with
  | nil => exact hm.atom
  | cons a r => exact h
theorem kd_cat {l m : List Tok} (h : l ≠ []) : kd (l ++ m) = kd l := by
  cases l with
  | nil => exact absurd rfl h
  | cons a r => rfl
theorem der_ne {nt : N} {l : List Tok} {t : Tree} {r : List Tok} (h : Der nt l t r) (ht : tight nt = true) : l ≠ [] := by
  have := (der_len h).2 ht
  intro e
  rw [e] at this
  simp at this
theorem der_close {nt : N} {l : List Tok} {t : Tree} {r m : List Tok} (h : Der nt l t r) (hm : Cl m) : Der nt (l ++ m) t (r ++ m) := by
  induction h with
  | lam a x d l b r ha hx hd_ hb ih => exact .lam a x d _ b _ ha hx hd_ ih
  | let_ k a x e i l l2 v b r hk hx he hv hi hb ih1 ih2 => exact .let_ k a x e i _ _ v b _ hk hx he ih1 hi ih2
  | case_ a o c l l2 l3 v b t r ha hv ho hc hb ht ih1 ih2 ih3 => exact .case_ a o c _ _ _ v b t _ ha ih1 ho hc ih2 ih3
  | altsMore at_ ts p l a r t r' hp hlen ha ht ih1 ih2 => exact .altsMore at_ ts p _ a _ t _ hp hlen ih1 ih2
  | altsEnd at_ ts q r hq => exact .altsEnd at_ ts q _ hq
  | alt_ c vs a l b r hc hv hlen ha hb ih =>
    have := Der.alt_ c vs a _ b _ hc hv hlen ha ih
    simpa using this
  | cmpE l t r hc ih => exact .cmpE _ t _ ih
  | cmp0 l t r hs h1 h2 ih => exact .cmp0 _ t _ ih (isW_cat hm _ (by decide) h1) (isW_cat hm _ (by decide) h2)
  | cmp1 l t o r1 b r hs ho hb ih1 ih2 => exact .cmp1 _ t o _ b _ ih1 ho ih2
  | lev b l t r1 t' r hs ho ih1 ih2 => exact .lev b _ t _ t' _ ih1 ih2
  | ops0 b t r h1 h2 => exact .ops0 b t _ (isW_cat hm _ (by cases b <;> decide) h1) (isW_cat hm _ (by cases b <;> decide) h2)
  | ops1 b t o l x r t' r' ho hx ht ih1 ih2 => exact .ops1 b t o _ x _ t' _ ho ih1 ih2
  | app l t r1 t' r ha ht ih1 ih2 => exact .app _ t _ t' _ ih1 (by rw [kd_cat (der_ne ha rfl)]; exact ih2)
  | args0 c t r h => exact .args0 c t _ (atom_cat hm h)
  | argsC t l a r t' r' hlen ha ht ih1 ih2 => exact .argsC t _ a _ t' _ hlen ih1 ih2
  | argsA t l a r t' r' ha ht ih1 ih2 => exact .argsA t _ a _ t' _ ih1 ih2
  | paren a q l t r ha ht hq ih => exact .paren a q _ t _ ha ih hq
  | var x r h => exact .var x _ h
  | con x r h => exact .con x _ h
  | int x r h => exact .int x _ h
/-- a text within signs ( ) -/
theorem der_paren {l : List Tok} {t : Tree} {a q : Tok} {m : List Tok} (h : Der .expr l t []) (ha : isT a ⟨#[40]⟩ = true) (hq : isT q ⟨#[41]⟩ = true) (hm : Cl m) : Der .expr (a :: (l ++ q :: m)) t m := by
  have h0 : Der .expr (l ++ q :: m) t (q :: m) := der_close h (.inr ⟨q, m, rfl, hq⟩)
  have h1 : Der .atom (a :: (l ++ q :: m)) t m := .paren a q _ t m ha h0 hq
  have h2 : Der .app (a :: (l ++ q :: m)) t m := .app _ _ _ _ _ h1 (.args0 _ _ _ hm.atom)
  have h3 : Der (.lev true) (a :: (l ++ q :: m)) t m := .lev true _ _ _ _ _ h2 (.ops0 true _ _ (hm.isW _ (by decide)) (hm.isW _ (by decide)))
  have h4 : Der (.lev false) (a :: (l ++ q :: m)) t m := .lev false _ _ _ _ _ h3 (.ops0 false _ _ (hm.isW _ (by decide)) (hm.isW _ (by decide)))
  exact .cmpE _ _ _ (.cmp0 _ _ _ h4 (hm.isW _ (by decide)) (hm.isW _ (by decide)))
theorem isW_less {r m : List Tok} (s : ByteArray) (h : isW (r ++ m) s = false) : isW r s = false := by
  cases r with
  | nil => rfl
  | cons a r => exact h
theorem atom_less {r m : List Tok} (h : atomB (r ++ m) = false) : atomB r = false := by
  cases r with
  | nil => rfl
  | cons a r => exact h
/-- what was read without looking at the end is read without it -/
theorem der_shrink {nt : N} {L : List Tok} {t : Tree} {R m : List Tok} (h : Der nt L t R) : ∀ r, R = r ++ m → ∃ l1, L = l1 ++ (r ++ m) ∧ Der nt (l1 ++ r) t r := by
  induction h with
  | lam a x d l b r ha hx hd_ hb ih =>
    rintro r0 rfl
    obtain ⟨l1, rfl, g⟩ := ih r0 rfl
    exact ⟨a :: x :: d :: l1, by simp, .lam a x d _ b _ ha hx hd_ g⟩
  | let_ k a x e i l l2 v b r hk hx he hv hi hb ih1 ih2 =>
    rintro r0 rfl
    obtain ⟨l2', rfl, g2⟩ := ih2 r0 rfl
    obtain ⟨l1', rfl, g1⟩ := ih1 (i :: (l2' ++ r0)) (by simp)
    refine ⟨a :: x :: e :: (l1' ++ i :: l2'), by simp, ?_⟩
    have := Der.let_ k a x e i _ _ v b _ hk hx he g1 hi g2
    simpa using this
  | case_ a o c l l2 l3 v b t r ha hv ho hc hb ht ih1 ih2 ih3 =>
    rintro r0 rfl
    obtain ⟨l3', rfl, g3⟩ := ih3 r0 rfl
    obtain ⟨l2', rfl, g2⟩ := ih2 (l3' ++ r0) (by simp)
    obtain ⟨l1', rfl, g1⟩ := ih1 (o :: c :: (l2' ++ (l3' ++ r0))) (by simp)
    refine ⟨a :: (l1' ++ o :: c :: (l2' ++ l3')), by simp, ?_⟩
    have := Der.case_ a o c _ _ _ v b t _ ha g1 ho hc g2 g3
    simpa using this
  | altsMore at_ ts p l a r t r' hp hlen ha ht ih1 ih2 =>
    rintro r0 rfl
    obtain ⟨l2', rfl, g2⟩ := ih2 r0 rfl
    obtain ⟨l1', rfl, g1⟩ := ih1 (l2' ++ r0) (by simp)
    refine ⟨p :: (l1' ++ l2'), by simp, ?_⟩
    have := Der.altsMore at_ ts p _ a _ t _ hp hlen g1 g2
    simpa using this
  | altsEnd at_ ts q r hq =>
    rintro r0 rfl
    exact ⟨[q], rfl, .altsEnd at_ ts q r0 hq⟩
  | alt_ c vs a l b r hc hv hlen ha hb ih =>
    rintro r0 rfl
    obtain ⟨l1', rfl, g1⟩ := ih r0 rfl
    refine ⟨c :: (vs ++ a :: l1'), by simp, ?_⟩
    have := Der.alt_ c vs a _ b _ hc hv hlen ha g1
    simpa using this
  | cmpE l t r hc ih =>
    rintro r0 rfl
    obtain ⟨l1, e, g⟩ := ih r0 rfl
    exact ⟨l1, e, .cmpE _ _ _ g⟩
  | cmp0 l t r hs h1 h2 ih =>
    rintro r0 rfl
    obtain ⟨l1, e, g⟩ := ih r0 rfl
    exact ⟨l1, e, .cmp0 _ _ _ g (isW_less _ h1) (isW_less _ h2)⟩
  | cmp1 l t o r1 b r hs ho hb ih1 ih2 =>
    rintro r0 rfl
    obtain ⟨l2', rfl, g2⟩ := ih2 r0 rfl
    obtain ⟨l1', rfl, g1⟩ := ih1 (o :: (l2' ++ r0)) (by simp)
    refine ⟨l1' ++ o :: l2', by simp, ?_⟩
    have := Der.cmp1 _ t o _ b _ g1 ho g2
    simpa using this
  | lev b l t r1 t' r hs ho ih1 ih2 =>
    rintro r0 rfl
    obtain ⟨l2', rfl, g2⟩ := ih2 r0 rfl
    obtain ⟨l1', rfl, g1⟩ := ih1 (l2' ++ r0) (by simp)
    refine ⟨l1' ++ l2', by simp, ?_⟩
    have := Der.lev b _ t _ t' _ g1 g2
    simpa using this
  | ops0 b t r h1 h2 =>
    rintro r0 rfl
    exact ⟨[], rfl, .ops0 b t r0 (isW_less _ h1) (isW_less _ h2)⟩
  | ops1 b t o l x r t' r' ho hx ht ih1 ih2 =>
    rintro r0 rfl
    obtain ⟨l2', rfl, g2⟩ := ih2 r0 rfl
    obtain ⟨l1', rfl, g1⟩ := ih1 (l2' ++ r0) (by simp)
    refine ⟨o :: (l1' ++ l2'), by simp, ?_⟩
    have := Der.ops1 b t o _ x _ t' _ ho g1 g2
    simpa using this
  | app l t r1 t' r ha ht ih1 ih2 =>
    rintro r0 rfl
    obtain ⟨l2', rfl, g2⟩ := ih2 r0 rfl
    obtain ⟨l1', rfl, g1⟩ := ih1 (l2' ++ r0) (by simp)
    refine ⟨l1' ++ l2', by simp, ?_⟩
    have hne := der_ne g1 rfl
    have hk : kd (l1' ++ (l2' ++ (r0 ++ m))) = kd (l1' ++ l2' ++ r0) := by
      have e : l1' ++ (l2' ++ (r0 ++ m)) = (l1' ++ l2' ++ r0) ++ m := by simp
      rw [e]
      exact kd_cat (by rw [List.append_assoc]; exact hne)
    simp only [List.append_assoc] at g2
    rw [hk] at g2
    exact .app _ t _ t' _ (by rw [List.append_assoc]; exact g1) g2
  | args0 c t r h =>
    rintro r0 rfl
    exact ⟨[], rfl, .args0 c t r0 (atom_less h)⟩
  | argsC t l a r t' r' hlen ha ht ih1 ih2 =>
    rintro r0 rfl
    obtain ⟨l2', rfl, g2⟩ := ih2 r0 rfl
    obtain ⟨l1', rfl, g1⟩ := ih1 (l2' ++ r0) (by simp)
    refine ⟨l1' ++ l2', by simp, ?_⟩
    have := Der.argsC t _ a _ t' _ hlen g1 g2
    simpa using this
  | argsA t l a r t' r' ha ht ih1 ih2 =>
    rintro r0 rfl
    obtain ⟨l2', rfl, g2⟩ := ih2 r0 rfl
    obtain ⟨l1', rfl, g1⟩ := ih1 (l2' ++ r0) (by simp)
    refine ⟨l1' ++ l2', by simp, ?_⟩
    have := Der.argsA t _ a _ t' _ g1 g2
    simpa using this
  | paren a q l t r ha ht hq ih =>
    rintro r0 rfl
    obtain ⟨l1, rfl, g⟩ := ih (q :: r0) (by simp)
    refine ⟨a :: (l1 ++ [q]), by simp, ?_⟩
    have := Der.paren a q _ t _ ha g hq
    simpa using this
  | var x r h => rintro r0 rfl; exact ⟨[x], rfl, .var x r0 h⟩
  | con x r h => rintro r0 rfl; exact ⟨[x], rfl, .con x r0 h⟩
  | int x r h => rintro r0 rfl; exact ⟨[x], rfl, .int x r0 h⟩
/-- what begins with a sign ( -/
theorem der_open {nt : N} {L : List Tok} {t : Tree} {R : List Tok} (h : Der nt L t R) : ∀ a l, L = a :: l → isT a ⟨#[40]⟩ = true → (fronted nt = true ∨ nt = .expr) → ∃ t0 q r1, Der .expr l t0 (q :: r1) ∧ isT q ⟨#[41]⟩ = true := by
  induction h with
  | lam a x d l b r ha hx hd_ hb ih =>
    intro a' l' e ht _
    cases e
    rw [isT_other ht (by decide)] at ha
    cases ha
  | let_ k a x e i l l2 v b r hk hx he hv hi hb ih1 ih2 =>
    intro a' l' e' ht _
    cases e'
    rcases hk with ⟨h, _⟩ | ⟨h, _⟩
    · rw [isT_other ht (by decide)] at h; cases h
    · rw [isT_other ht (by decide)] at h; cases h
  | case_ a o c l l2 l3 v b t r ha hv ho hc hb ht ih1 ih2 ih3 =>
    intro a' l' e ht _
    cases e
    rw [isT_other ht (by decide)] at ha
    cases ha
  | cmpE l t r hc ih => exact fun a l e ht _ => ih a l e ht (.inl rfl)
  | cmp0 l t r hs h1 h2 ih => exact fun a l e ht _ => ih a l e ht (.inl rfl)
  | cmp1 l t o r1 b r hs ho hb ih1 ih2 => exact fun a l e ht _ => ih1 a l e ht (.inl rfl)
  | lev b l t r1 t' r hs ho ih1 ih2 => exact fun a l e ht _ => ih1 a l e ht (.inl (by cases b <;> rfl))
  | app l t r1 t' r ha ht ih1 ih2 => exact fun a l e ht _ => ih1 a l e ht (.inl rfl)
  | paren a q l t r ha ht hq ih =>
    intro a' l' e _ _
    cases e
    exact ⟨t, q, r, ht, hq⟩
  | var x r h =>
    intro a' l' e ht _
    cases e
    have := isT_kind ht
    omega
  | con x r h =>
    intro a' l' e ht _
    cases e
    have := isT_kind ht
    omega
  | int x r h =>
    intro a' l' e ht _
    cases e
    have := isT_kind ht
    omega
  | _ => rintro a l e ht (h | h) <;> cases h
theorem der_unique {l : List Tok} {t t' : Tree} {r r' : List Tok} (h : Der .expr l t r) (h' : Der .expr l t' r') : t = t' ∧ r = r' := by
  have e1 := (expr_iff (l.length + 1) l t r (by omega)).2 h
  have e2 := (expr_iff (l.length + 1) l t' r' (by omega)).2 h'
  rw [e1] at e2
  injection e2 with a b
  exact ⟨a, b⟩
/-! ### how many signs ( are open -/
def step (t : Tok) : Int := if t.f1.data.toList = [40] then 1 else if t.f1.data.toList = [41] then -1 else 0
def cnt : List Tok → Int
  | [] => 0
  | t :: l => step t + cnt l
theorem cnt_append : ∀ (a b : List Tok), cnt (a ++ b) = cnt a + cnt b
  | [], b => by simp [cnt]
  | t :: a, b => by
    show step t + cnt (a ++ b) = step t + cnt a + cnt b
    rw [cnt_append a b]
    omega
theorem step_T {t : Tok} {s : ByteArray} (h : isT t s = true) (h1 : s.data.toList ≠ [40]) (h2 : s.data.toList ≠ [41]) : step t = 0 := by
  have e : t.f1.data.toList = s.data.toList := by
    unfold isT at h
    simp at h
    rw [← ByteArray.toList_eq, ← ByteArray.toList_eq]
    exact h.2
  unfold step
  rw [e, if_neg h1, if_neg h2]
theorem step_text {t : Tok} {s : ByteArray} (h : isT t s = true) : t.f1.data.toList = s.data.toList := by
  unfold isT at h
  simp at h
  rw [← ByteArray.toList_eq, ← ByteArray.toList_eq]
  exact h.2
/-- a name's or a number's text is no sign -/
def wt (t : Tok) : Prop := (t.f0 = 1 ∨ t.f0 = 2 ∨ t.f0 = 3) → step t = 0
theorem suf_all {l r : List Tok} {P : Tok → Prop} (h : ∃ l1, l = l1 ++ r) (hl : ∀ t ∈ l, P t) : ∀ t ∈ r, P t := by
  obtain ⟨l1, rfl⟩ := h
  exact fun t ht => hl t (by simp [ht])
theorem der_suf {nt : N} {l : List Tok} {t : Tree} {r : List Tok} (h : Der nt l t r) : ∃ l1, l = l1 ++ r := by
  obtain ⟨l1, e, _⟩ := der_suffix h
  exact ⟨l1, e⟩
theorem cnt_vars : ∀ (vs : List Tok), (∀ v ∈ vs, v.f0 = 1) → (∀ v ∈ vs, wt v) → cnt vs = 0
  | [], _, _ => rfl
  | v :: vs, h, hw => by
    show step v + cnt vs = 0
    rw [hw v (by simp) (.inl (h v (by simp))), cnt_vars vs (fun x hx => h x (by simp [hx])) (fun x hx => hw x (by simp [hx]))]
    rfl
theorem der_cnt {nt : N} {l : List Tok} {t : Tree} {r : List Tok} (h : Der nt l t r) : (∀ x ∈ l, wt x) → cnt l = cnt r := by
  induction h with
  | lam a x d l b r ha hx hd_ hb ih =>
    intro hw
    show step a + (step x + (step d + cnt l)) = _
    rw [step_T ha (by decide) (by decide), hw x (by simp) (.inl hx), step_T hd_ (by decide) (by decide), ih (fun y hy => hw y (by simp [hy]))]
    omega
  | let_ k a x e i l l2 v b r hk hx he hv hi hb ih1 ih2 =>
    intro hw
    have hl : ∀ y ∈ l, wt y := fun y hy => hw y (by simp [hy])
    have hl2 := suf_all (der_suf hv) hl
    have ha : step a = 0 := by rcases hk with ⟨h, _⟩ | ⟨h, _⟩ <;> exact step_T h (by decide) (by decide)
    have e1 := ih1 hl
    have e2 := ih2 (fun y hy => hl2 y (by simp [hy]))
    have e3 : cnt (i :: l2) = step i + cnt l2 := rfl
    show step a + (step x + (step e + cnt l)) = _
    rw [ha, hw x (by simp) (.inl hx), step_T he (by decide) (by decide), e1, e3, step_T hi (by decide) (by decide), e2]
    omega
  | case_ a o c l l2 l3 v b t r ha hv ho hc hb ht ih1 ih2 ih3 =>
    intro hw
    have hl : ∀ y ∈ l, wt y := fun y hy => hw y (by simp [hy])
    have hl2 := suf_all (der_suf hv) hl
    have hl3 := suf_all (der_suf hb) (fun y hy => hl2 y (by simp [hy]))
    have e1 := ih1 hl
    have e2 := ih2 (fun y hy => hl2 y (by simp [hy]))
    have e3 := ih3 hl3
    have e4 : cnt (o :: c :: l2) = step o + (step c + cnt l2) := rfl
    show step a + cnt l = _
    rw [step_T ha (by decide) (by decide), e1, e4, step_T ho (by decide) (by decide), step_T hc (by decide) (by decide), e2, e3]
    omega
  | altsMore at_ ts p l a r t r' hp hlen ha ht ih1 ih2 =>
    intro hw
    have hl : ∀ y ∈ l, wt y := fun y hy => hw y (by simp [hy])
    show step p + cnt l = _
    rw [step_T hp (by decide) (by decide), ih1 hl, ih2 (suf_all (der_suf ha) hl)]
    omega
  | altsEnd at_ ts q r hq =>
    intro hw
    show step q + cnt r = _
    rw [step_T hq (by decide) (by decide)]
    omega
  | alt_ c vs a l b r hc hv hlen ha hb ih =>
    intro hw
    show step c + cnt (vs ++ a :: l) = _
    rw [cnt_append, hw c (by simp) (.inr (.inl hc)), cnt_vars vs hv (fun y hy => hw y (by simp [hy]))]
    show 0 + (0 + (step a + cnt l)) = _
    rw [step_T ha (by decide) (by decide), ih (fun y hy => hw y (by simp [hy]))]
    omega
  | cmpE l t r hc ih => exact ih
  | cmp0 l t r hs h1 h2 ih => exact ih
  | cmp1 l t o r1 b r hs ho hb ih1 ih2 =>
    intro hw
    have hl := suf_all (der_suf hs) hw
    have e3 : cnt (o :: r1) = step o + cnt r1 := rfl
    have hso : step o = 0 := by rcases ho with h | h <;> exact step_T h (by decide) (by decide)
    rw [ih1 hw, e3, hso, ih2 (fun y hy => hl y (by simp [hy]))]
    omega
  | lev b l t r1 t' r hs ho ih1 ih2 => exact fun hw => (ih1 hw).trans (ih2 (suf_all (der_suf hs) hw))
  | ops0 b t r h1 h2 => exact fun _ => rfl
  | ops1 b t o l x r t' r' ho hx ht ih1 ih2 =>
    intro hw
    have hl : ∀ y ∈ l, wt y := fun y hy => hw y (by simp [hy])
    have hso : step o = 0 := by cases b <;> (rcases ho with h | h <;> exact step_T h (by decide) (by decide))
    show step o + cnt l = _
    rw [hso, ih1 hl, ih2 (suf_all (der_suf hx) hl)]
    omega
  | app l t r1 t' r ha ht ih1 ih2 => exact fun hw => (ih1 hw).trans (ih2 (suf_all (der_suf ha) hw))
  | args0 c t r h => exact fun _ => rfl
  | argsC t l a r t' r' hlen ha ht ih1 ih2 => exact fun hw => (ih1 hw).trans (ih2 (suf_all (der_suf ha) hw))
  | argsA t l a r t' r' ha ht ih1 ih2 => exact fun hw => (ih1 hw).trans (ih2 (suf_all (der_suf ha) hw))
  | paren a q l t r ha ht hq ih =>
    intro hw
    have e3 : cnt (q :: r) = step q + cnt r := rfl
    have ea : step a = 1 := by unfold step; rw [step_text ha]; rfl
    have eq : step q = -1 := by unfold step; rw [step_text hq]; rfl
    show step a + cnt l = _
    rw [ih (fun y hy => hw y (by simp [hy])), e3, ea, eq]
    omega
  | var x r h => intro hw; show step x + cnt r = _; rw [hw x (by simp) (.inl h)]; omega
  | con x r h => intro hw; show step x + cnt r = _; rw [hw x (by simp) (.inr (.inl h))]; omega
  | int x r h => intro hw; show step x + cnt r = _; rw [hw x (by simp) (.inr (.inr h))]; omega
end Go.Proofs.YtajcnjdinmgpjaaGreatDoor.X
namespace Go.Proofs.YtajcnjdinmgpjaaGreatDoor.P
open Go.RowKit Go.Proofs.YtajcnjdinmgpjaaGreatDoorW.PrintWords Go.Proofs.YtajcnjdinmgpjaaGreatDoorW.PrintLast Go.Proofs.YtajcnjdinmgpjaaGreatDoorW.PrintMore
attribute [local go_sem] max2_int min2_int max_two min_two max_three min_three max_four min_four   -- for this text's walks alone
set_option linter.unusedVariables false
set_option linter.unusedSimpArgs false

/-! ### gossamerref01_Text: function 12 -/
def gossamerref01_Text.l0 : Nat → List (S46) → ByteArray → Int → Option (ByteArray)
  | 0, _, _, _ => none
  | k + 1, x0, x3, x4 => if x4 < (x0.length : Int) then (if x4 > 0 then (if x3.size + 1 ≤ 9223372036854775807 then (if 0 ≤ x4 then (if (x3 ++ (⟨#[32]⟩ : ByteArray)).size + ((rd_T46 x0 x4).f1).size ≤ 9223372036854775807 then (gossamerref01_Text.l0 k x0 ((x3 ++ (⟨#[32]⟩ : ByteArray)) ++ ((rd_T46 x0 x4).f1)) (wrap64 (x4 + 1))) else (none)) else (none)) else (none)) else (if 0 ≤ x4 then (if x3.size + ((rd_T46 x0 x4).f1).size ≤ 9223372036854775807 then (gossamerref01_Text.l0 k x0 (x3 ++ ((rd_T46 x0 x4).f1)) (wrap64 (x4 + 1))) else (none)) else (none))) else (some x3)
def gossamerref01_Text.f (k : Nat) (l0 : List (S46)) : Option (ByteArray) := gossamerref01_Text.l0 k l0 (⟨#[]⟩ : ByteArray) 0
theorem gossamerref01_Text.mono_l : ∀ k, (∀ y0 y1 y2, LeO (gossamerref01_Text.l0 k y0 y1 y2) (gossamerref01_Text.l0 (k + 1) y0 y1 y2))
  | 0 => fun _ _ _ r h => by simp [gossamerref01_Text.l0] at h
  | k + 1 => by
    have ih0 := gossamerref01_Text.mono_l k
    · intro y0 y1 y2
      unfold gossamerref01_Text.l0
      repeat' first
      | (with_reducible exact ih0 _ _ _)
      | (with_reducible exact LeO.refl _)
      | (with_reducible exact LeO.none _)
      | (with_reducible refine LeO.ite ?_ ?_)
      | (with_reducible refine LeO.bind ?_ (fun _ => ?_))
      | exact ih0 _ _ _
      | exact LeO.none _
      | refine LeO.ite ?_ ?_
      | refine LeO.bind ?_ (fun _ => ?_)
theorem gossamerref01_Text.mono : ∀ a0 k, LeO (gossamerref01_Text.f k a0) (gossamerref01_Text.f (k + 1) a0) := by
  intro a0 k
  have ih0 := gossamerref01_Text.mono_l k
  unfold gossamerref01_Text.f
  repeat' first
      | (with_reducible exact ih0 _ _ _)
      | (with_reducible exact LeO.refl _)
      | (with_reducible exact LeO.none _)
      | (with_reducible refine LeO.ite ?_ ?_)
      | (with_reducible refine LeO.bind ?_ (fun _ => ?_))
      | exact ih0 _ _ _
      | exact LeO.none _
      | refine LeO.ite ?_ ?_
      | refine LeO.bind ?_ (fun _ => ?_)
set_option maxHeartbeats 8000000 in
set_option maxRecDepth 100000 in
theorem gossamerref01_Text.calls (k : Nat) (A0 : Option Addr) (c0 : Nat) (l0 : List (S46)) (r : ByteArray) (w : World) (hr0 : Kd.C k46 w A0 l0.length l0) (hc0 : l0.length ≤ c0) (h : gossamerref01_Text.f k l0 = some r) :
    Calls Tryz.prog 12 #[.slice A0 l0.length c0] w fun e w' => e = .returned (.string r) ∧ Drawn0 w w' := by
  have HR0 := Aside0.mk hr0
  have HC0 := Aside0.mk hc0
  clear hr0 hc0
  have H : (gossamerref01_Text.l0 k l0 (⟨#[]⟩ : ByteArray) 0) = some r := h
  clear h
  have H' := Aside0.mk H
  clear H
  go_enter Tryz.func12, Tryz.ntmps12
  go_wp2
  go_loopg [3, 4] k (fun kq v3 v4 w' => ∃ (x3_1 : ByteArray) (x4_1 : Int), v3 = .string x3_1 ∧ v4 = .int .i64 x4_1 ∧ Aside0 (gossamerref01_Text.l0 kq l0 x3_1 x4_1 = some r) ∧ Aside0 (kq ≤ k) ∧ Drawn0 w w')
  case atStart => exact ⟨((⟨#[]⟩ : ByteArray)), (0), (by first | rfl | (simp; done) | (simp [*]; done)), (by first | rfl | (simp; done) | (simp [*]; done)), H', ⟨Nat.le_refl _⟩, by repeat (first | exact Drawn0.refl _ | apply Drawn0.step)⟩
  case round =>
    clear H'
    try clear c1
    obtain ⟨x3_1, x4_1, rfl, rfl, HA, HK1, ⟨m1, rfl⟩⟩ := hrel
    cases gk with
    | zero => exact absurd HA.out (by simp [gossamerref01_Text.l0])
    | succ k1 =>
      have H := HA.out
      clear HA
      simp only [gossamerref01_Text.l0] at H
      by_cases c2 : x4_1 < (l0.length : Int)
      · rw [if_pos c2] at H
        have c2b0 : decide (x4_1 < (l0.length : Int)) = true := decide_eq_true c2
        clear c2
        by_cases c3 : x4_1 > 0
        · rw [if_pos c3] at H
          have c3b0 : decide (0 < x4_1) = true := decide_eq_true c3
          clear c3
          by_cases c4 : x3_1.size + 1 ≤ 9223372036854775807
          · rw [if_pos c4] at H
            have c4b0 := eq_true c4
            have c4b1 : decide (x3_1.size + 1 ≤ 9223372036854775807) = true := decide_eq_true c4
            try have c4b2 : (9223372036854775807 < x3_1.size + 1) = False := eq_false (Nat.not_lt.2 c4)
            by_cases c5 : 0 ≤ x4_1
            · rw [if_pos c5] at H
              have c5b0 : decide (0 ≤ x4_1) = true := decide_eq_true c5
              clear c5
              by_cases c6 : (x3_1 ++ (⟨#[32]⟩ : ByteArray)).size + ((rd_T46 l0 x4_1).f1).size ≤ 9223372036854775807
              · rw [if_pos c6] at H
                have c6b0 := eq_true c6
                have c6b1 : decide ((x3_1 ++ (⟨#[32]⟩ : ByteArray)).size + ((rd_T46 l0 x4_1).f1).size ≤ 9223372036854775807) = true := decide_eq_true c6
                try have c6b2 : (9223372036854775807 < (x3_1 ++ (⟨#[32]⟩ : ByteArray)).size + ((rd_T46 l0 x4_1).f1).size) = False := eq_false (Nat.not_lt.2 c6)
                have H' := Aside0.mk H
                clear H
                have p268 : 0 ≤ (x4_1 : Int) := of_decide_eq_true (by first | (with_reducible assumption) | assumption)
                have q268 : x4_1 < (l0.length : Int) := of_decide_eq_true (by first | (with_reducible assumption) | assumption)
                obtain ⟨ad268, e268, hx268_0, hx268_1, hx268_2, hx268_3⟩ := at_T46 HR0.out x4_1 p268 q268
                cases e268
                replace p268 := eq_true p268
                replace q268 := eq_true q268
                go_wp2
                go_roundg k1
                case measure => have := HK1.out; omega
                case rel => exact ⟨((x3_1 ++ (⟨#[32]⟩ : ByteArray)) ++ ((rd_T46 l0 x4_1).f1)), (wrap64 (x4_1 + 1)), (by first | rfl | (simp; done) | (simp [*]; done)), (by first | rfl | (simp; done) | (simp [*]; done)), H', ⟨by have := HK1.out; omega⟩, by repeat (first | exact Drawn0.refl _ | apply Drawn0.step)⟩
              · rw [if_neg c6] at H
                exact absurd H (by simp)
            · rw [if_neg c5] at H
              exact absurd H (by simp)
          · rw [if_neg c4] at H
            exact absurd H (by simp)
        · rw [if_neg c3] at H
          have c3b0 : decide (0 < x4_1) = false := decide_eq_false c3
          clear c3
          by_cases c7 : 0 ≤ x4_1
          · rw [if_pos c7] at H
            have c7b0 : decide (0 ≤ x4_1) = true := decide_eq_true c7
            clear c7
            by_cases c8 : x3_1.size + ((rd_T46 l0 x4_1).f1).size ≤ 9223372036854775807
            · rw [if_pos c8] at H
              have c8b0 := eq_true c8
              have c8b1 : decide (x3_1.size + ((rd_T46 l0 x4_1).f1).size ≤ 9223372036854775807) = true := decide_eq_true c8
              try have c8b2 : (9223372036854775807 < x3_1.size + ((rd_T46 l0 x4_1).f1).size) = False := eq_false (Nat.not_lt.2 c8)
              have H' := Aside0.mk H
              clear H
              have p269 : 0 ≤ (x4_1 : Int) := of_decide_eq_true (by first | (with_reducible assumption) | assumption)
              have q269 : x4_1 < (l0.length : Int) := of_decide_eq_true (by first | (with_reducible assumption) | assumption)
              obtain ⟨ad269, e269, hx269_0, hx269_1, hx269_2, hx269_3⟩ := at_T46 HR0.out x4_1 p269 q269
              cases e269
              replace p269 := eq_true p269
              replace q269 := eq_true q269
              go_wp2
              go_roundg k1
              case measure => have := HK1.out; omega
              case rel => exact ⟨(x3_1 ++ ((rd_T46 l0 x4_1).f1)), (wrap64 (x4_1 + 1)), (by first | rfl | (simp; done) | (simp [*]; done)), (by first | rfl | (simp; done) | (simp [*]; done)), H', ⟨by have := HK1.out; omega⟩, by repeat (first | exact Drawn0.refl _ | apply Drawn0.step)⟩
            · rw [if_neg c8] at H
              exact absurd H (by simp)
          · rw [if_neg c7] at H
            exact absurd H (by simp)
      · rw [if_neg c2] at H
        have c2b0 : decide (x4_1 < (l0.length : Int)) = false := decide_eq_false c2
        clear c2
        obtain rfl := Option.some.inj H
        go_wp2
        go_ret
        exact ⟨by first | rfl | (simp; done) | (simp [*]; done), by repeat (first | exact Drawn0.refl _ | apply Drawn0.step)⟩

end Go.Proofs.YtajcnjdinmgpjaaGreatDoor.P
namespace Go.Proofs.YtajcnjdinmgpjaaGreatDoor.P
open Go.RowKit Go.Proofs.YtajcnjdinmgpjaaGreatDoorW.PrintWords Go.Proofs.YtajcnjdinmgpjaaGreatDoorW.PrintLast Go.Proofs.YtajcnjdinmgpjaaGreatDoorW.PrintMore
attribute [local go_sem] max2_int min2_int max_two min_two max_three min_three max_four min_four   -- for this text's walks alone
set_option linter.unusedVariables false
set_option linter.unusedSimpArgs false

/-! ### gossamerlaw03_paired: function 13 -/
mutual
def gossamerlaw03_paired.l0 : Nat → List (S46) → Int → Int → Option (Bool)
  | 0, _, _, _ => none
  | k + 1, x0, x3, x4 => if x4 < (x0.length : Int) then (if 0 ≤ x4 then (if ((rd_T46 x0 x4).f1).toList = ([40] : List UInt8) then (gossamerlaw03_paired.j1 k x0 (wrap64 (x3 + 1)) x4) else (gossamerlaw03_paired.j1 k x0 x3 x4)) else (none)) else (some false)
def gossamerlaw03_paired.j1 : Nat → List (S46) → Int → Int → Option (Bool)
  | 0, _, _, _ => none
  | k + 1, x0, x3, x4 => if 0 ≤ x4 then (if x4 < (x0.length : Int) then (if ((rd_T46 x0 x4).f1).toList = ([41] : List UInt8) then (if (wrap64 (x3 - 1)) < 0 then (some true) else (gossamerlaw03_paired.l0 k x0 (wrap64 (x3 - 1)) (wrap64 (x4 + 1)))) else (if x3 < 0 then (some true) else (gossamerlaw03_paired.l0 k x0 x3 (wrap64 (x4 + 1))))) else (none)) else (none)
end
def gossamerlaw03_paired.f (k : Nat) (l0 : List (S46)) : Option (Bool) := gossamerlaw03_paired.l0 k l0 0 0
theorem gossamerlaw03_paired.mono_l : ∀ k, (∀ y0 y1 y2, LeO (gossamerlaw03_paired.l0 k y0 y1 y2) (gossamerlaw03_paired.l0 (k + 1) y0 y1 y2)) ∧ (∀ y0 y1 y2, LeO (gossamerlaw03_paired.j1 k y0 y1 y2) (gossamerlaw03_paired.j1 (k + 1) y0 y1 y2))
  | 0 => ⟨fun _ _ _ r h => by simp [gossamerlaw03_paired.l0] at h, fun _ _ _ r h => by simp [gossamerlaw03_paired.j1] at h⟩
  | k + 1 => by
    obtain ⟨ih0, ih1⟩ := gossamerlaw03_paired.mono_l k
    refine ⟨?_, ?_⟩
    · intro y0 y1 y2
      unfold gossamerlaw03_paired.l0
      repeat' first
      | (with_reducible exact ih0 _ _ _)
      | (with_reducible exact ih1 _ _ _)
      | (with_reducible exact LeO.refl _)
      | (with_reducible exact LeO.none _)
      | (with_reducible refine LeO.ite ?_ ?_)
      | (with_reducible refine LeO.bind ?_ (fun _ => ?_))
      | exact ih0 _ _ _
      | exact ih1 _ _ _
      | exact LeO.none _
      | refine LeO.ite ?_ ?_
      | refine LeO.bind ?_ (fun _ => ?_)
    · intro y0 y1 y2
      unfold gossamerlaw03_paired.j1
      repeat' first
      | (with_reducible exact ih0 _ _ _)
      | (with_reducible exact ih1 _ _ _)
      | (with_reducible exact LeO.refl _)
      | (with_reducible exact LeO.none _)
      | (with_reducible refine LeO.ite ?_ ?_)
      | (with_reducible refine LeO.bind ?_ (fun _ => ?_))
      | exact ih0 _ _ _
      | exact ih1 _ _ _
      | exact LeO.none _
      | refine LeO.ite ?_ ?_
      | refine LeO.bind ?_ (fun _ => ?_)
theorem gossamerlaw03_paired.mono : ∀ a0 k, LeO (gossamerlaw03_paired.f k a0) (gossamerlaw03_paired.f (k + 1) a0) := by
  intro a0 k
  obtain ⟨ih0, ih1⟩ := gossamerlaw03_paired.mono_l k
  unfold gossamerlaw03_paired.f
  repeat' first
      | (with_reducible exact ih0 _ _ _)
      | (with_reducible exact ih1 _ _ _)
      | (with_reducible exact LeO.refl _)
      | (with_reducible exact LeO.none _)
      | (with_reducible refine LeO.ite ?_ ?_)
      | (with_reducible refine LeO.bind ?_ (fun _ => ?_))
      | exact ih0 _ _ _
      | exact ih1 _ _ _
      | exact LeO.none _
      | refine LeO.ite ?_ ?_
      | refine LeO.bind ?_ (fun _ => ?_)
set_option maxHeartbeats 8000000 in
set_option maxRecDepth 100000 in
theorem gossamerlaw03_paired.calls (k : Nat) (A0 : Option Addr) (c0 : Nat) (l0 : List (S46)) (r : Bool) (w : World) (hr0 : Kd.C k46 w A0 l0.length l0) (hc0 : l0.length ≤ c0) (h : gossamerlaw03_paired.f k l0 = some r) :
    Calls Tryz.prog 13 #[.slice A0 l0.length c0] w fun e w' => e = .returned (.bool r) ∧ Drawn0 w w' := by
  have HR0 := Aside0.mk hr0
  have HC0 := Aside0.mk hc0
  clear hr0 hc0
  have H : (gossamerlaw03_paired.l0 k l0 0 0) = some r := h
  clear h
  have H' := Aside0.mk H
  clear H
  go_enter Tryz.func13, Tryz.ntmps13
  go_wp2
  go_loopg [3, 4] k (fun kq v3 v4 w' => ∃ (x3_1 : Int) (x4_1 : Int), v3 = .int .i64 x3_1 ∧ v4 = .int .i64 x4_1 ∧ Aside0 (gossamerlaw03_paired.l0 kq l0 x3_1 x4_1 = some r) ∧ Aside0 (kq ≤ k) ∧ Drawn0 w w')
  case atStart => exact ⟨(0), (0), (by first | rfl | (simp; done) | (simp [*]; done)), (by first | rfl | (simp; done) | (simp [*]; done)), H', ⟨Nat.le_refl _⟩, by repeat (first | exact Drawn0.refl _ | apply Drawn0.step)⟩
  case round =>
    clear H'
    try clear c1
    obtain ⟨x3_1, x4_1, rfl, rfl, HA, HK1, ⟨m1, rfl⟩⟩ := hrel
    cases gk with
    | zero => exact absurd HA.out (by simp [gossamerlaw03_paired.l0])
    | succ k1 =>
      have H := HA.out
      clear HA
      simp only [gossamerlaw03_paired.l0] at H
      by_cases c2 : x4_1 < (l0.length : Int)
      · rw [if_pos c2] at H
        have c2b0 : decide (x4_1 < (l0.length : Int)) = true := decide_eq_true c2
        clear c2
        by_cases c3 : 0 ≤ x4_1
        · rw [if_pos c3] at H
          have c3b0 : decide (0 ≤ x4_1) = true := decide_eq_true c3
          clear c3
          have HC4 := Aside0.mk H
          clear H
          have p270 : 0 ≤ (x4_1 : Int) := of_decide_eq_true (by first | (with_reducible assumption) | assumption)
          have q270 : x4_1 < (l0.length : Int) := of_decide_eq_true (by first | (with_reducible assumption) | assumption)
          obtain ⟨ad270, e270, hx270_0, hx270_1, hx270_2, hx270_3⟩ := at_T46 HR0.out x4_1 p270 q270
          cases e270
          replace p270 := eq_true p270
          replace q270 := eq_true q270
          go_upto_if 16 with (fail)
          go_cut [3] (fun v3 wc => ∃ (kq : Nat) (x3_3 : Int), v3 = .int .i64 x3_3 ∧ Aside0 (gossamerlaw03_paired.j1 kq l0 x3_3 x4_1 = some r) ∧ Aside0 (kq ≤ k1) ∧ Drawn0 w wc)
          case first =>
            have H := HC4.out
            clear HC4
            by_cases c5 : ((rd_T46 l0 x4_1).f1).toList = ([40] : List UInt8)
            · rw [if_pos c5] at H
              have c5b0 : (((rd_T46 l0 x4_1).f1).toList == ([40] : List UInt8)) = true := beq_iff_eq.mpr c5
              have c5b1 : (((rd_T46 l0 x4_1).f1).toList != ([40] : List UInt8)) = false := bne_eq_false_iff_eq.mpr c5
              clear c5
              (first | rw [c5b0] | (simp only [i64_w, i32_w]; rw [c5b0]) | skip)
              have H' := Aside0.mk H
              clear H
              go_wp2
              go_meet
              case rel => exact ⟨_, (wrap64 (x3_1 + 1)), (by first | rfl | (simp; done) | (simp [*]; done)), H', ⟨by have := HK1.out; first | omega | exact Nat.le_refl _⟩, by repeat (first | exact Drawn0.refl _ | apply Drawn0.step)⟩
            · rw [if_neg c5] at H
              have c5b0 : (((rd_T46 l0 x4_1).f1).toList == ([40] : List UInt8)) = false := beq_eq_false_iff_ne.mpr c5
              have c5b1 : (((rd_T46 l0 x4_1).f1).toList != ([40] : List UInt8)) = true := bne_iff_ne.mpr c5
              (first | rw [c5b0] | (simp only [i64_w, i32_w]; rw [c5b0]) | skip)
              have H' := Aside0.mk H
              clear H
              go_wp2
              go_meet
              case rel => exact ⟨_, (x3_1), (by first | rfl | (simp; done) | (simp [*]; done)), H', ⟨by have := HK1.out; first | omega | exact Nat.le_refl _⟩, by repeat (first | exact Drawn0.refl _ | apply Drawn0.step)⟩
          case rest =>
            clear HC4
            try clear c1
            try clear c2
            try clear c2b0
            try clear p2
            try clear q2
            try clear hx2
            try clear c3
            try clear c3b0
            try clear c5
            try clear c5b0
            try clear c5b1
            try clear hx270_0
            try clear hx270_1
            try clear hx270_2
            try clear hx270_3
            try clear p270
            try clear q270
            obtain ⟨kq, x3_3, rfl, HA, HJ3, ⟨mc3, rfl⟩⟩ := hcut
            cases kq with
            | zero => exact absurd HA.out (by simp [gossamerlaw03_paired.j1])
            | succ kj3 =>
              have H := HA.out
              clear HA
              simp only [gossamerlaw03_paired.j1] at H
              by_cases c6 : 0 ≤ x4_1
              · rw [if_pos c6] at H
                have c6b0 : decide (0 ≤ x4_1) = true := decide_eq_true c6
                clear c6
                by_cases c7 : x4_1 < (l0.length : Int)
                · rw [if_pos c7] at H
                  have c7b0 : decide (x4_1 < (l0.length : Int)) = true := decide_eq_true c7
                  clear c7
                  by_cases c8 : ((rd_T46 l0 x4_1).f1).toList = ([41] : List UInt8)
                  · rw [if_pos c8] at H
                    have c8b0 : (((rd_T46 l0 x4_1).f1).toList == ([41] : List UInt8)) = true := beq_iff_eq.mpr c8
                    have c8b1 : (((rd_T46 l0 x4_1).f1).toList != ([41] : List UInt8)) = false := bne_eq_false_iff_eq.mpr c8
                    clear c8
                    by_cases c9 : (wrap64 (x3_3 - 1)) < 0
                    · rw [if_pos c9] at H
                      have c9b0 : decide ((wrap64 (x3_3 - 1)) < 0) = true := decide_eq_true c9
                      clear c9
                      obtain rfl := Option.some.inj H
                      have p271 : 0 ≤ (x4_1 : Int) := of_decide_eq_true (by first | (with_reducible assumption) | assumption)
                      have q271 : x4_1 < (l0.length : Int) := of_decide_eq_true (by first | (with_reducible assumption) | assumption)
                      obtain ⟨ad271, e271, hx271_0, hx271_1, hx271_2, hx271_3⟩ := at_T46 HR0.out x4_1 p271 q271
                      obtain rfl : ad270 = ad271 := (by injection e271)
                      replace p271 := eq_true p271
                      replace q271 := eq_true q271
                      go_wp2
                      go_ret
                      exact ⟨by first | rfl | (simp; done) | (simp [*]; done), by repeat (first | exact Drawn0.refl _ | apply Drawn0.step)⟩
                    · rw [if_neg c9] at H
                      have c9b0 : decide ((wrap64 (x3_3 - 1)) < 0) = false := decide_eq_false c9
                      clear c9
                      have H' := Aside0.mk H
                      clear H
                      have p271 : 0 ≤ (x4_1 : Int) := of_decide_eq_true (by first | (with_reducible assumption) | assumption)
                      have q271 : x4_1 < (l0.length : Int) := of_decide_eq_true (by first | (with_reducible assumption) | assumption)
                      obtain ⟨ad271, e271, hx271_0, hx271_1, hx271_2, hx271_3⟩ := at_T46 HR0.out x4_1 p271 q271
                      obtain rfl : ad270 = ad271 := (by injection e271)
                      replace p271 := eq_true p271
                      replace q271 := eq_true q271
                      go_wp2
                      go_roundg kj3
                      case measure => have := HK1.out; have := HJ3.out; omega
                      case rel => exact ⟨(wrap64 (x3_3 - 1)), (wrap64 (x4_1 + 1)), (by first | rfl | (simp; done) | (simp [*]; done)), (by first | rfl | (simp; done) | (simp [*]; done)), H', ⟨by have := HK1.out; have := HJ3.out; omega⟩, by repeat (first | exact Drawn0.refl _ | apply Drawn0.step)⟩
                  · rw [if_neg c8] at H
                    have c8b0 : (((rd_T46 l0 x4_1).f1).toList == ([41] : List UInt8)) = false := beq_eq_false_iff_ne.mpr c8
                    have c8b1 : (((rd_T46 l0 x4_1).f1).toList != ([41] : List UInt8)) = true := bne_iff_ne.mpr c8
                    by_cases c10 : x3_3 < 0
                    · rw [if_pos c10] at H
                      have c10b0 : decide (x3_3 < 0) = true := decide_eq_true c10
                      clear c10
                      obtain rfl := Option.some.inj H
                      have p271 : 0 ≤ (x4_1 : Int) := of_decide_eq_true (by first | (with_reducible assumption) | assumption)
                      have q271 : x4_1 < (l0.length : Int) := of_decide_eq_true (by first | (with_reducible assumption) | assumption)
                      obtain ⟨ad271, e271, hx271_0, hx271_1, hx271_2, hx271_3⟩ := at_T46 HR0.out x4_1 p271 q271
                      obtain rfl : ad270 = ad271 := (by injection e271)
                      replace p271 := eq_true p271
                      replace q271 := eq_true q271
                      go_wp2
                      go_ret
                      exact ⟨by first | rfl | (simp; done) | (simp [*]; done), by repeat (first | exact Drawn0.refl _ | apply Drawn0.step)⟩
                    · rw [if_neg c10] at H
                      have c10b0 : decide (x3_3 < 0) = false := decide_eq_false c10
                      clear c10
                      have H' := Aside0.mk H
                      clear H
                      have p271 : 0 ≤ (x4_1 : Int) := of_decide_eq_true (by first | (with_reducible assumption) | assumption)
                      have q271 : x4_1 < (l0.length : Int) := of_decide_eq_true (by first | (with_reducible assumption) | assumption)
                      obtain ⟨ad271, e271, hx271_0, hx271_1, hx271_2, hx271_3⟩ := at_T46 HR0.out x4_1 p271 q271
                      obtain rfl : ad270 = ad271 := (by injection e271)
                      replace p271 := eq_true p271
                      replace q271 := eq_true q271
                      go_wp2
                      go_roundg kj3
                      case measure => have := HK1.out; have := HJ3.out; omega
                      case rel => exact ⟨(x3_3), (wrap64 (x4_1 + 1)), (by first | rfl | (simp; done) | (simp [*]; done)), (by first | rfl | (simp; done) | (simp [*]; done)), H', ⟨by have := HK1.out; have := HJ3.out; omega⟩, by repeat (first | exact Drawn0.refl _ | apply Drawn0.step)⟩
                · rw [if_neg c7] at H
                  exact absurd H (by simp)
              · rw [if_neg c6] at H
                exact absurd H (by simp)
        · rw [if_neg c3] at H
          exact absurd H (by simp)
      · rw [if_neg c2] at H
        have c2b0 : decide (x4_1 < (l0.length : Int)) = false := decide_eq_false c2
        clear c2
        obtain rfl := Option.some.inj H
        go_wp2
        go_ret
        exact ⟨by first | rfl | (simp; done) | (simp [*]; done), by repeat (first | exact Drawn0.refl _ | apply Drawn0.step)⟩

end Go.Proofs.YtajcnjdinmgpjaaGreatDoor.P
/- ParseRound: the plain law. -/
namespace Go.Proofs.YtajcnjdinmgpjaaGreatDoor.X
open Go.RowKit Go.Proofs.YtajcnjdinmgpjaaGreatDoorW.PrintWords Go.Proofs.YtajcnjdinmgpjaaGreatDoorW.PrintLast Go.Proofs.YtajcnjdinmgpjaaGreatDoorW.PrintMore Go.Proofs.YtajcnjdinmgpjaaGreatDoor.P
set_option linter.unusedVariables false
/-- the same tokens, elsewhere -/
inductive Pl : List Tok → List Tok → Prop
  | nil : Pl [] []
  | tok (a b : Tok) (l l' : List Tok) : tokS a b → Pl l l' → Pl (a :: l) (b :: l')
theorem Pl.rd : ∀ {l l' : List Tok}, Pl l l' → Rd l l'
  | _, _, .nil => .nil
  | _, _, .tok _ _ _ _ h k => .tok _ _ _ _ h k.rd
theorem Pl.symm : ∀ {l l' : List Tok}, Pl l l' → Pl l' l
  | _, _, .nil => .nil
  | _, _, .tok _ _ _ _ h k => .tok _ _ _ _ h.symm k.symm
theorem Pl.append : ∀ {l l' m m' : List Tok}, Pl l l' → Pl m m' → Pl (l ++ m) (l' ++ m')
  | _, _, _, _, .nil, k => k
  | _, _, _, _, .tok _ _ _ _ a h, k => .tok _ _ _ _ a (h.append k)
theorem tokS.step {a b : Tok} (h : tokS a b) : step a = step b := by unfold X.step; rw [h.2.1]
theorem Pl.split {l l2 r : List Tok} {q : Tok} (h : Pl l (l2 ++ q :: r)) : ∃ l2' q' r', l = l2' ++ q' :: r' ∧ cnt l2' = cnt l2 ∧ step q' = step q := by
  induction l2 generalizing l with
  | nil =>
    cases h with
    | tok a b l l' h1 h2 => exact ⟨[], a, l, rfl, rfl, h1.step⟩
  | cons x l2 ih =>
    cases h with
    | tok a b l l' h1 h2 =>
      obtain ⟨l2', q', r', rfl, e1, e2⟩ := ih h2
      exact ⟨a :: l2', q', r', rfl, by show X.step a + cnt l2' = X.step x + cnt l2; rw [h1.step, e1], e2⟩
theorem LT_shift : ∀ (N : Nat) (s : List UInt8) (off off' : Nat) (ts : List Tok), s.length ≤ N → LT s off = .ok ts → ∃ ts', LT s off' = .ok ts' ∧ Pl ts ts'
  | N, s, off, off', ts, hN, h => by
    rcases LT_cases h with ⟨h1, rfl⟩ | ⟨k, n, v, ts1, h1, h2, h3, rfl⟩
    · exact ⟨[], by rw [LT_eq, if_pos h1], .nil⟩
    · have hns := specF_size h2
      have hle := dw_le s
      have hdl : ((s.dropWhile isBlank).drop n).length = (s.dropWhile isBlank).length - n := List.length_drop
      cases N with
      | zero => omega
      | succ N =>
        obtain ⟨ts', g1, g2⟩ := LT_shift N _ _ (off' + (s.length - (s.dropWhile isBlank).length) + n) ts1 (by omega) h3
        exact ⟨mkTok k ((s.dropWhile isBlank).take n) v (off' + (s.length - (s.dropWhile isBlank).length)) :: ts', by rw [LT_next h1 h2, g1], .tok _ _ _ _ ⟨rfl, rfl, rfl⟩ g2⟩
/-- the bytes of all tokens, a blank ahead of each -/
def blkL (l : List Tok) : List UInt8 := l.flatMap fun t => 32 :: t.f1.data.toList
def joinL : List Tok → List UInt8
  | [] => []
  | t :: l => t.f1.data.toList ++ blkL l
theorem blk_head (l : List Tok) : (blkL l).head? = none ∨ ∃ c, (blkL l).head? = some c ∧ sep c := by
  cases l with
  | nil => exact .inl rfl
  | cons t l => exact .inr ⟨32, rfl, sep32⟩
theorem blk_cons (t : Tok) (l : List Tok) : blkL (t :: l) = 32 :: (t.f1.data.toList ++ blkL l) := by unfold blkL; rw [List.flatMap_cons]; simp
theorem blk_LT : ∀ (l : List Tok) (off : Nat), (∀ t ∈ l, vt t) → ∃ ls, LT (blkL l) off = .ok ls ∧ Pl l ls
  | [], off, _ => ⟨[], LT_nil off, .nil⟩
  | t :: l, off, h => by
    obtain ⟨ls, h1, h2⟩ := blk_LT l (off + 1 + t.f1.data.toList.length) (fun x hx => h x (by simp [hx]))
    refine ⟨mkTok t.f0 t.f1.data.toList t.f2 (off + 1) :: ls, ?_, .tok _ _ _ _ (mk_same _ _) h2⟩
    rw [blk_cons, LT_blank (by decide), LT_tok (h t (by simp)) _ _ (blk_head l), h1]
theorem join_LT (l : List Tok) (h : ∀ t ∈ l, vt t) : ∃ ls, LT (joinL l) 0 = .ok ls ∧ Pl l ls := by
  cases l with
  | nil => exact ⟨[], LT_nil 0, .nil⟩
  | cons t l =>
    obtain ⟨ls, h1, h2⟩ := blk_LT l (0 + t.f1.data.toList.length) (fun x hx => h x (by simp [hx]))
    refine ⟨mkTok t.f0 t.f1.data.toList t.f2 0 :: ls, ?_, .tok _ _ _ _ (mk_same _ _) h2⟩
    show LT (t.f1.data.toList ++ blkL l) 0 = _
    rw [LT_tok (h t (by simp)) _ _ (blk_head l), h1]
theorem LT_tot : ∀ (N : Nat) (s : List UInt8) (off : Nat) (ts : List Tok), s.length ≤ N → LT s off = .ok ts → (blkL ts).length ≤ s.length + ts.length
  | N, s, off, ts, hN, h => by
    rcases LT_cases h with ⟨h1, rfl⟩ | ⟨k, n, v, ts1, h1, h2, h3, rfl⟩
    · simp [blkL]
    · have hns := specF_size h2
      have hle := dw_le s
      have hdl : ((s.dropWhile isBlank).drop n).length = (s.dropWhile isBlank).length - n := List.length_drop
      cases N with
      | zero => omega
      | succ N =>
        have ih := LT_tot N _ _ ts1 (by omega) h3
        have e : (mkTok k ((s.dropWhile isBlank).take n) v (off + (s.length - (s.dropWhile isBlank).length))).f1.data.toList.length = n := by
          show ((s.dropWhile isBlank).take n).length = n
          rw [List.length_take]
          omega
        rw [blk_cons, List.length_cons, List.length_append, e, List.length_cons]
        omega
theorem join_le (l : List Tok) : (joinL l).length ≤ (blkL l).length := by
  cases l with
  | nil => simp [joinL]
  | cons t l => rw [blk_cons]; show (t.f1.data.toList ++ blkL l).length ≤ _; simp
/-! ### the printed functions -/
theorem rdT_drop (xs : List Tok) (i : Nat) (h : i < xs.length) : xs.drop i = rd_T46 xs (i : Int) :: xs.drop (i + 1) := by
  rw [List.drop_eq_getElem_cons h]
  congr 1
  simp [rd_T46, h]
theorem Text_l0 (xs : List Tok) (hx : xs.length ≤ 1000000000) : ∀ (m i k : Nat) (acc : ByteArray), xs.length - i = m → 0 < i → i ≤ xs.length → m + 1 ≤ k → acc.size + (blkL (xs.drop i)).length ≤ 1000000000 →
    ∃ r, gossamerref01_Text.l0 k xs acc (i : Int) = some r ∧ r.data.toList = acc.data.toList ++ blkL (xs.drop i)
  | 0, i, k, acc, hm, h0, hi, hk, hs => by
    obtain ⟨k, rfl⟩ : ∃ j, k = j + 1 := ⟨k - 1, by omega⟩
    refine ⟨acc, ?_, by rw [List.drop_eq_nil_of_le (by omega)]; simp [blkL]⟩
    unfold gossamerref01_Text.l0
    rw [if_neg (by omega)]
  | m + 1, i, k, acc, hm, h0, hi, hk, hs => by
    obtain ⟨k, rfl⟩ : ∃ j, k = j + 1 := ⟨k - 1, by omega⟩
    have hd := rdT_drop xs i (by omega)
    rw [hd, blk_cons] at hs
    have hsz : (rd_T46 xs (i : Int)).f1.data.toList.length = (rd_T46 xs (i : Int)).f1.size := rfl
    have h1 : (acc ++ (⟨#[32]⟩ : ByteArray)).size = acc.size + 1 := by rw [cat_size]; rfl
    rw [List.length_cons, List.length_append, hsz] at hs
    have h2 : (acc ++ (⟨#[32]⟩ : ByteArray) ++ (rd_T46 xs (i : Int)).f1).size = acc.size + 1 + (rd_T46 xs (i : Int)).f1.size := by rw [cat_size, h1]
    obtain ⟨r, g1, g2⟩ := Text_l0 xs hx m (i + 1) k (acc ++ (⟨#[32]⟩ : ByteArray) ++ (rd_T46 xs (i : Int)).f1) (by omega) (by omega) (by omega) (by omega) (by rw [h2]; omega)
    refine ⟨r, ?_, ?_⟩
    · unfold gossamerref01_Text.l0
      rw [if_pos (by omega), if_pos (by omega), if_pos (by omega), if_pos (by omega), if_pos (by rw [h1]; omega), wrap_small _ (by omega) (by omega), show ((i : Int) + 1) = ((i + 1 : Nat) : Int) by omega]
      exact g1
    · rw [g2, cat_list, cat_list, hd, blk_cons]
      simp
theorem Text_f (xs : List Tok) (hx : xs.length ≤ 1000000000) (hs : (blkL xs).length ≤ 1000000000) : ∃ r, gossamerref01_Text.f (xs.length + 1) xs = some r ∧ r.data.toList = joinL xs := by
  unfold gossamerref01_Text.f
  cases hl : xs with
  | nil => exact ⟨⟨#[]⟩, by unfold gossamerref01_Text.l0; rw [if_neg (by simp)], rfl⟩
  | cons t l =>
    rw [hl, blk_cons, List.length_cons, List.length_append] at hs
    have hsz : t.f1.data.toList.length = t.f1.size := rfl
    have h1 : ((⟨#[]⟩ : ByteArray) ++ t.f1).size = t.f1.size := by rw [cat_size]; show 0 + t.f1.size = _; omega
    have hr : rd_T46 (t :: l) (0 : Int) = t := rfl
    obtain ⟨r, g1, g2⟩ := Text_l0 (t :: l) (by rw [← hl]; exact hx) l.length 1 (l.length + 1) ((⟨#[]⟩ : ByteArray) ++ t.f1) (by simp) (by omega) (by simp) (by omega) (by rw [h1]; show t.f1.size + (blkL l).length ≤ _; omega)
    refine ⟨r, ?_, ?_⟩
    · unfold gossamerref01_Text.l0
      rw [if_pos (by simp), if_neg (by omega), if_pos (by omega), if_pos (by rw [hr]; show 0 + t.f1.size ≤ _; omega), hr, wrap_small _ (by omega) (by omega)]
      exact g1
    · rw [g2, cat_list]
      rfl
def negB : Int → List Tok → Bool
  | _, [] => false
  | n, t :: l => if n + step t < 0 then true else negB (n + step t) l
theorem negB_split : ∀ (l2 : List Tok) (n : Int) (q : Tok) (r : List Tok), n + cnt l2 + step q < 0 → negB n (l2 ++ q :: r) = true
  | [], n, q, r, h => by
    show (if n + step q < 0 then true else _) = true
    rw [if_pos (by simp only [cnt] at h; omega)]
  | t :: l2, n, q, r, h => by
    show (if n + step t < 0 then true else negB (n + step t) (l2 ++ q :: r)) = true
    by_cases hn : n + step t < 0
    · rw [if_pos hn]
    · rw [if_neg hn]
      exact negB_split l2 (n + step t) q r (by have : cnt (t :: l2) = step t + cnt l2 := rfl; omega)
theorem paired_j1 (k : Nat) (xs : List Tok) (n i : Int) : gossamerlaw03_paired.j1 (k + 1) xs n i = if 0 ≤ i then (if i < (xs.length : Int) then (if ((rd_T46 xs i).f1).toList = ([41] : List UInt8) then (if (wrap64 (n - 1)) < 0 then (some true) else (gossamerlaw03_paired.l0 k xs (wrap64 (n - 1)) (wrap64 (i + 1)))) else (if n < 0 then (some true) else (gossamerlaw03_paired.l0 k xs n (wrap64 (i + 1))))) else (none)) else (none) := rfl
theorem paired_l0 (xs : List Tok) (hx : xs.length ≤ 1000000000) : ∀ (m i k : Nat) (n : Nat), xs.length - i = m → i ≤ xs.length → 2 * m + 1 ≤ k → n ≤ i → gossamerlaw03_paired.l0 k xs (n : Int) (i : Int) = some (negB (n : Int) (xs.drop i))
  | 0, i, k, n, hm, hi, hk, hn => by
    obtain ⟨k, rfl⟩ : ∃ j, k = j + 1 := ⟨k - 1, by omega⟩
    unfold gossamerlaw03_paired.l0
    rw [if_neg (by omega), List.drop_eq_nil_of_le (by omega)]
    rfl
  | m + 1, i, k, n, hm, hi, hk, hn => by
    obtain ⟨k, rfl⟩ : ∃ j, k = j + 1 + 1 := ⟨k - 2, by omega⟩
    have hd := rdT_drop xs i (by omega)
    have ih := fun n' h' => paired_l0 xs hx m (i + 1) k n' (by omega) (by omega) (by omega) h'
    rw [hd]
    unfold gossamerlaw03_paired.l0
    have hi0 : (0 : Int) ≤ (i : Int) := by omega
    have hi1 : (i : Int) < (xs.length : Int) := by omega
    rw [if_pos hi1, if_pos hi0, paired_j1, paired_j1]
    simp only [if_pos hi0, if_pos hi1]
    rw [ByteArray.toList_eq, wrap_small ((i : Int) + 1) (by omega) (by omega), show ((i : Int) + 1) = ((i + 1 : Nat) : Int) by omega]
    show _ = some (if (n : Int) + step (rd_T46 xs (i : Int)) < 0 then true else negB ((n : Int) + step (rd_T46 xs (i : Int))) (xs.drop (i + 1)))
    by_cases h1 : (rd_T46 xs (i : Int)).f1.data.toList = [40]
    · have e : step (rd_T46 xs (i : Int)) = 1 := by unfold step; rw [if_pos h1]
      rw [if_pos h1, h1, if_neg (by decide), wrap_small ((n : Int) + 1) (by omega) (by omega), if_neg (by omega), e, if_neg (by omega), show ((n : Int) + 1) = ((n + 1 : Nat) : Int) by omega]
      exact ih (n + 1) (by omega)
    · rw [if_neg h1]
      by_cases h2 : (rd_T46 xs (i : Int)).f1.data.toList = [41]
      · have e : step (rd_T46 xs (i : Int)) = -1 := by unfold step; rw [if_neg h1, if_pos h2]
        rw [if_pos h2, wrap_small ((n : Int) - 1) (by omega) (by omega), e]
        by_cases h3 : (n : Int) - 1 < 0
        · rw [if_pos h3, if_pos (by omega)]
        · rw [if_neg h3, if_neg (by omega)]
          have := ih (n - 1) (by omega)
          rw [show ((n - 1 : Nat) : Int) = (n : Int) - 1 by omega] at this
          exact this
      · have e : step (rd_T46 xs (i : Int)) = 0 := by unfold step; rw [if_neg h1, if_neg h2]
        rw [if_neg h2, if_neg (by omega), e, if_neg (by omega), show (n : Int) + 0 = (n : Int) by omega]
        exact ih n (by omega)
/-! ### the law -/
theorem vt_wt {t : Tok} (h : vt t) : wt t := by
  intro hk
  unfold step
  by_cases h1 : t.f1.data.toList = [40]
  · exfalso
    unfold vt at h
    rw [h1, show specF [40] = .ok (5, 1, 0) by kernel_rfl] at h
    injection h with h
    injection h with h _
    omega
  · by_cases h2 : t.f1.data.toList = [41]
    · exfalso
      unfold vt at h
      rw [h2, show specF [41] = .ok (5, 1, 0) by kernel_rfl] at h
      injection h with h
      injection h with h _
      omega
    · rw [if_neg h1, if_neg h2]
def lP (off : Nat) : Tok := mkTok 5 [40] 0 off
def rP (off : Nat) : Tok := mkTok 5 [41] 0 off
theorem lP_T (off : Nat) : isT (lP off) ⟨#[40]⟩ = true := by simp [isT, lP, mkTok]
theorem rP_T (off : Nat) : isT (rP off) ⟨#[41]⟩ = true := by simp [isT, rP, mkTok]
/-- the tokens of a text within signs ( ) -/
theorem tok1 {s : List UInt8} {l : List Tok} (h : LT s 0 = .ok l) : ∃ l1, LT (40 :: (s ++ [41])) 0 = .ok (lP 0 :: (l1 ++ [rP (1 + s.length)])) ∧ Pl l l1 := by
  obtain ⟨l1, h1, h2⟩ := LT_shift _ s 0 1 l (Nat.le_refl _) h
  refine ⟨l1, ?_, h2⟩
  rw [LT_open, LT_append 41 [] sep41 _ s (0 + 1) l1 (Nat.le_refl _) h1, LT_shut, LT_nil]
  rfl
theorem tok2 {s : List UInt8} {l : List Tok} (h : LT s 0 = .ok l) : ∃ l1, LT (32 :: 40 :: 40 :: (s ++ [32, 41, 32, 41])) 0 = .ok (lP 1 :: lP 2 :: (l1 ++ [rP (3 + s.length + 1), rP (3 + s.length + 3)])) ∧ Pl l l1 := by
  obtain ⟨l1, h1, h2⟩ := LT_shift _ s 0 3 l (Nat.le_refl _) h
  refine ⟨l1, ?_, h2⟩
  rw [LT_blank (by decide), LT_open, LT_open, LT_append 32 [41, 32, 41] sep32 _ s (0 + 1 + 1 + 1) l1 (Nat.le_refl _) h1, LT_blank (by decide), LT_shut, LT_blank (by decide), LT_shut, LT_nil]
  rfl
/-- what a text with these tokens is parsed as -/
theorem parse_toks {s : ByteArray} {l : List Tok} {t : Tree} (hs : s.size ≤ 4096) (hl : lexAll s = .ok l) (hd : Der .expr l t []) : parseM s 200 = if 200 < tdp t then .error (0, 31) else .ok t := by
  have hlen := lexAll_len hl
  have hw : pWhole l = .ok t [] := by
    unfold pWhole
    rw [(expr_iff 5000 l t [] (by omega)).2 hd, PR.bind_ok]
    rfl
  unfold parseM
  rw [if_neg (by omega), if_neg (by omega), hl]
  simp only
  rw [hw]
  show (if (200 : Int) < ((tdp t : Nat) : Int) then _ else _) = _
  by_cases h : 200 < tdp t
  · rw [if_pos h, if_pos (by omega)]
  · rw [if_neg h, if_neg (by omega)]
theorem parse_none {s : ByteArray} {l : List Tok} (hs : s.size ≤ 4096) (hl : lexAll s = .ok l) (hd : ∀ t, ¬ Der .expr l t []) : ∃ p, parseM s 200 = .error (p, 30) := by
  unfold parseM
  rw [if_neg (by omega), if_neg (by omega), hl]
  simp only
  cases hw : pWhole l with
  | ok t r => exact absurd (whole_tsz hw).2 (hd t)
  | fail r => exact ⟨_, rfl⟩
theorem der_like {l l' : List Tok} {t : Tree} (h : Der .expr l t []) (hp : Rd l l') : ∃ u, Der .expr l' u [] ∧ Sm t u := by
  obtain ⟨u, r', g1, g2, g3⟩ := der_sim h _ _ (.same _ (.inr (.inl rfl))) hp
  cases g3
  exact ⟨u, g1, g2⟩
theorem round_ok {s x : ByteArray} {l : List Tok} {t : Tree} {m m' : List Tok} (hp : parseM s 200 = .ok t) (hl : lexAll s = .ok l) (hx : x.size ≤ 4096) (l1 : List Tok) (h2 : Pl l l1) {L : List Tok} (hL : lexAll x = .ok L) (hd : ∀ u, Der .expr l1 u [] → Der .expr L u []) : ∃ u, parseM x 200 = .ok u ∧ Sm t u := by
  obtain ⟨_, _, _, h4, l', hl', hd'⟩ := parse_inv hp
  rw [hl] at hl'
  cases hl'
  obtain ⟨u, g1, g2⟩ := der_like hd' h2.rd
  refine ⟨u, ?_, g2⟩
  have e := g2.tdp
  rw [parse_toks hx hL (hd u g1), if_neg (by omega)]
theorem roundA {s : ByteArray} {l : List Tok} {t : Tree} (hs : s.size ≤ 1500) (hp : parseM s 200 = .ok t) (hl : lexAll s = .ok l) :
    (∀ x : ByteArray, x.data.toList = joinL l → ∃ u, parseM x 200 = .ok u ∧ Sm t u) ∧ (∀ x : ByteArray, x.data.toList = 40 :: (s.data.toList ++ [41]) → ∃ u, parseM x 200 = .ok u ∧ Sm t u) ∧ (∀ x : ByteArray, x.data.toList = 32 :: 40 :: 40 :: (s.data.toList ++ [32, 41, 32, 41]) → ∃ u, parseM x 200 = .ok u ∧ Sm t u) := by
  have hLT : LT s.data.toList 0 = .ok l := by rw [← lexAll_LT]; exact hl
  have hsz : s.data.toList.length = s.size := rfl
  refine ⟨fun x hx => ?_, fun x hx => ?_, fun x hx => ?_⟩
  · have hxs : x.data.toList.length = x.size := rfl
    have h1 := LT_tot _ _ _ _ (Nat.le_refl _) hLT
    have h2 := join_le l
    have h3 := lexAll_len hl
    obtain ⟨ls, g1, g2⟩ := join_LT l (LT_vt _ _ _ _ (Nat.le_refl _) hLT)
    exact round_ok (m := []) (m' := []) hp hl (by rw [← hxs, hx]; omega) ls g2 (by rw [lexAll_LT, hx]; exact g1) (fun u h => h)
  · have hxs : x.data.toList.length = x.size := rfl
    obtain ⟨l1, g1, g2⟩ := tok1 hLT
    refine round_ok (m := []) (m' := []) hp hl (by rw [← hxs, hx]; simp; omega) l1 g2 (by rw [lexAll_LT, hx]; exact g1) (fun u h => ?_)
    exact der_paren h (lP_T _) (rP_T _) (.inl rfl)
  · have hxs : x.data.toList.length = x.size := rfl
    obtain ⟨l1, g1, g2⟩ := tok2 hLT
    refine round_ok (m := []) (m' := []) hp hl (by rw [← hxs, hx]; simp; omega) l1 g2 (by rw [lexAll_LT, hx]; exact g1) (fun u h => ?_)
    have h1 := der_paren (a := lP 2) (q := rP (3 + s.data.toList.length + 1)) (m := []) h (lP_T _) (rP_T _) (.inl rfl)
    have h2 := der_paren (a := lP 1) (q := rP (3 + s.data.toList.length + 3)) (m := []) h1 (lP_T _) (rP_T _) (.inl rfl)
    simpa using h2
theorem roundB {s : ByteArray} {l : List Tok} {p c : Int} (hs : s.size ≤ 1500) (hp : parseM s 200 = .error (p, c)) (hl : lexAll s = .ok l) :
    (∀ x : ByteArray, x.data.toList = joinL l → ∃ q, parseM x 200 = .error (q, c)) ∧ (∀ x : ByteArray, x.data.toList = 40 :: (s.data.toList ++ [41]) → (∃ u, parseM x 200 = .ok u) → negB 0 l = true) := by
  have hLT : LT s.data.toList 0 = .ok l := by rw [← lexAll_LT]; exact hl
  have hsz : s.data.toList.length = s.size := rfl
  have hcase : (∃ t, Der .expr l t [] ∧ 200 < tdp t ∧ c = 31) ∨ ((∀ t, ¬ Der .expr l t []) ∧ c = 30) := by
    by_cases h : ∃ t, Der .expr l t []
    · obtain ⟨t, hd⟩ := h
      rw [parse_toks (by omega) hl hd] at hp
      split at hp
      · cases hp; exact .inl ⟨t, hd, ‹_›, rfl⟩
      · cases hp
    · have hn : ∀ t, ¬ Der .expr l t [] := fun t ht => h ⟨t, ht⟩
      obtain ⟨q, e⟩ := parse_none (by omega) hl hn
      rw [e] at hp
      cases hp
      exact .inr ⟨hn, rfl⟩
  refine ⟨fun x hx => ?_, fun x hx => ?_⟩
  · have hxs : x.data.toList.length = x.size := rfl
    have h1 := LT_tot _ _ _ _ (Nat.le_refl _) hLT
    have h2 := join_le l
    have h3 := lexAll_len hl
    obtain ⟨ls, g1, g2⟩ := join_LT l (LT_vt _ _ _ _ (Nat.le_refl _) hLT)
    have hL : lexAll x = .ok ls := by rw [lexAll_LT, hx]; exact g1
    have hxz : x.size ≤ 4096 := by rw [← hxs, hx]; omega
    rcases hcase with ⟨t, hd, h200, rfl⟩ | ⟨hn, rfl⟩
    · obtain ⟨u, k1, k2⟩ := der_like hd g2.rd
      have := k2.tdp
      exact ⟨0, by rw [parse_toks hxz hL k1, if_pos (by omega)]⟩
    · exact parse_none hxz hL (fun t ht => by
        obtain ⟨u, k1, _⟩ := der_like ht g2.symm.rd
        exact hn u k1)
  · rintro ⟨u, hu⟩
    have hxs : x.data.toList.length = x.size := rfl
    obtain ⟨l1, g1, g2⟩ := tok1 hLT
    have hL : lexAll x = .ok (lP 0 :: (l1 ++ [rP (1 + s.data.toList.length)])) := by rw [lexAll_LT, hx]; exact g1
    obtain ⟨hx4, _, _, hdp, L', hL', hd⟩ := parse_inv hu
    rw [hL] at hL'
    cases hL'
    obtain ⟨t0, q, r1, k1, k2⟩ := der_open hd _ _ rfl (lP_T _) (.inr rfl)
    have hall : ∀ y ∈ l1 ++ [rP (1 + s.data.toList.length)], wt y := by
      have hv := LT_vt _ _ _ _ (Nat.le_refl _) g1
      exact fun y hy => vt_wt (hv y (by simp at hy ⊢; exact .inr hy))
    have hc := der_cnt k1 hall
    obtain ⟨l2, e⟩ := der_suf k1
    have hc2 : cnt l2 = 0 := by
      rw [e, cnt_append] at hc
      omega
    have hq : step q = -1 := by unfold step; rw [step_text k2]; rfl
    by_cases hr1 : r1 = []
    · exfalso
      subst hr1
      have e2 := List.append_inj' e rfl
      obtain ⟨rfl, e3⟩ := e2
      obtain ⟨l1', e4, k3⟩ := der_shrink (m := [q]) k1 [] rfl
      have e5 : l1' = l1 := by
        rw [e] at e4
        exact (List.append_inj' e4 rfl).1.symm
      rw [e5, List.append_nil] at k3
      obtain ⟨u0, k4, k5⟩ := der_like k3 g2.symm.rd
      rcases hcase with ⟨t, hd', h200, _⟩ | ⟨hn, _⟩
      · have e6 := (der_unique k4 hd').1
        have hw := der_paren (a := lP 0) (q := rP (1 + s.data.toList.length)) (m := []) k3 (lP_T _) (rP_T _) (.inl rfl)
        have e7 := (der_unique hw hd).1
        have e8 := k5.tdp
        rw [e6] at e8
        rw [← e7] at hdp
        omega
      · exact hn u0 k4
    · obtain ⟨r', z, rfl⟩ : ∃ r' z, r1 = r' ++ [z] := ⟨r1.dropLast, r1.getLast hr1, (List.dropLast_concat_getLast hr1).symm⟩
      have e2 : l1 ++ [rP (1 + s.data.toList.length)] = (l2 ++ q :: r') ++ [z] := by rw [e]; simp
      have e3 := (List.append_inj' e2 rfl).1
      rw [e3] at g2
      obtain ⟨l2', q', r'', rfl, f1, f2⟩ := g2.split
      exact negB_split l2' 0 q' r'' (by rw [f1, f2, hc2, hq]; decide)
end Go.Proofs.YtajcnjdinmgpjaaGreatDoor.X
/- The calls whose answers the document fixes, of layer 3. -/
namespace Go.Proofs.YtajcnjdinmgpjaaGreatDoor.X
open Go.RowKit Go.Proofs.YtajcnjdinmgpjaaGreatDoorW.PrintWords Go.Proofs.YtajcnjdinmgpjaaGreatDoorW.PrintLast Go.Proofs.YtajcnjdinmgpjaaGreatDoorW.PrintMore Go.Proofs.YtajcnjdinmgpjaaGreatDoor.P
def fxT : Tree := ⟨10, ⟨#[43]⟩, 0, 0, [⟨3, ⟨#[]⟩, 0, 0, [⟨1, ⟨#[102]⟩, 0, 0, []⟩, ⟨1, ⟨#[120]⟩, 0, 2, []⟩]⟩, ⟨9, ⟨#[]⟩, 1, 6, []⟩]⟩
def fxU : Tree := ⟨10, ⟨#[45]⟩, 0, 0, [⟨10, ⟨#[45]⟩, 0, 0, [⟨9, ⟨#[]⟩, 1, 0, []⟩, ⟨9, ⟨#[]⟩, 2, 4, []⟩]⟩, ⟨9, ⟨#[]⟩, 3, 8, []⟩]⟩
def fxV : Tree := ⟨6, ⟨#[65]⟩, 0, 0, [⟨6, ⟨#[66]⟩, 0, 3, []⟩, ⟨1, ⟨#[99]⟩, 0, 6, []⟩]⟩
theorem fx1 : parseM ⟨#[102, 32, 120, 32, 43, 32, 49]⟩ 9 = .ok fxT := by kernel_rfl
theorem fx2 : parseM ⟨#[102, 32, 120, 32, 43, 32, 49]⟩ 2 = .error (0, 31) := by kernel_rfl
theorem fx3 : parseM ⟨#[108, 101, 116, 32, 120, 32, 61, 32, 49]⟩ 9 = .error (9, 30) := by kernel_rfl
theorem fx4 : parseM ⟨#[99, 97, 115, 101, 32, 120, 32, 111, 102, 32, 123, 65, 32, 45, 62, 32, 49, 32, 124, 32, 125]⟩ 9 = .error (20, 30) := by kernel_rfl
theorem fx5 : parseM ⟨#[49, 32, 45, 32, 50, 32, 45, 32, 51]⟩ 9 = .ok fxU := by kernel_rfl
theorem fx6 : parseM ⟨#[49, 32, 60, 32, 50, 32, 60, 32, 51]⟩ 9 = .error (6, 30) := by kernel_rfl
theorem fx7 : parseM ⟨#[65, 32, 40, 66, 41, 32, 99]⟩ 9 = .ok fxV := by kernel_rfl
theorem fx8 : parseM ⟨#[120]⟩ 0 = .error (0, 1) := by kernel_rfl
/-- a tree lies in a block, and what it has -/
def At (w : World) (b : Nat) (t : Tree) (A : Option Addr) (c : Nat) : Prop := w.heap[b]? = some (.cells (cellsT t A c).toArray 25 (0, 0)) ∧ TAt w (fun _ => True) t A c
theorem At.below {w w1 : World} {b : Nat} {t : Tree} {A : Option Addr} {c : Nat} (h : At w b t A c) (hb : Below w.heap.size w w1) : At w1 b t A c := ⟨blk_below h.1 hb, h.2.below hb⟩
theorem At.alloc {w : World} {b : Nat} {t : Tree} {A : Option Addr} {c : Nat} (h : At w b t A c) (o : Obj) : At (w.alloc o) b t A c := h.below (below_alloc (Below.refl _ _) o)
theorem At.new {w : World} {ok : Nat → Prop} {t : Tree} {A : Option Addr} {c : Nat} (h : TAt w ok t A c) : At (w.alloc (.cells (cellsT t A c).toArray 25)) w.heap.size t A c := ⟨blk_new w _, (h.mono (fun _ _ => trivial)).below (below_alloc (Below.refl _ _) _)⟩
theorem errRel {w : World} {s : ByteArray} {d p c : Int} (h : parseM s d = .error (p, c)) : Calls Tryz.prog 6 #[.string s, .int .i64 d] w fun e w' => e = .returned (.tuple #[treeZ, .int .i64 p, .int .i64 c]) ∧ Below w.heap.size w w' := by
  have := Parse_calls s d w
  rw [h] at this
  exact this
theorem okRel {w : World} {s : ByteArray} {d : Int} {t : Tree} (h : parseM s d = .ok t) : Calls Tryz.prog 6 #[.string s, .int .i64 d] w fun e w' => ∃ A c, e = .returned (.tuple #[treeV t A c, .int .i64 0, .int .i64 0]) ∧ TAt w' (Iv w.heap.size w'.heap.size) t A c ∧ Below w.heap.size w w' := by
  have := Parse_calls s d w
  rw [h] at this
  exact this
theorem One_calls (t : Tree) (A A' : Option Addr) (c c' : Nat) (ok ok' : Nat → Prop) (w : World) (h : TAt w ok t A c) (h' : TAt w ok' t A' c') (hs : tsz t ≤ 1000000000000) :
    Calls Tryz.prog 7 #[treeV t A c, treeV t A' c'] w fun e w' => e = .returned (.bool true) ∧ Below w.heap.size w w' :=
  gossamerref02_One.calls (3 * tsz t) t.f0 t.f1 t.f2 t.f3 A c t.f4 t.f0 t.f1 t.f2 t.f3 A' c' t.f4 true w (Kd.F_now h.2.1) h.1 (Kd.F_now h'.2.1) h'.1 (One_f (tsz t) t (Nat.le_refl _) hs _ (Nat.le_refl _))
theorem Same_calls (t t' : Tree) (hS : Sm t t') (A A' : Option Addr) (c c' : Nat) (ok ok' : Nat → Prop) (w : World) (h : TAt w ok t A c) (h' : TAt w ok' t' A' c') (hs : tsz t ≤ 1000000000000) :
    Calls Tryz.prog 14 #[treeV t A c, treeV t' A' c'] w fun e w' => e = .returned (.bool true) ∧ Below w.heap.size w w' :=
  gossamerref02_Same.calls (3 * tsz t) t.f0 t.f1 t.f2 t.f3 A c t.f4 t'.f0 t'.f1 t'.f2 t'.f3 A' c' t'.f4 true w (Kd.F_now h.2.1) h.1 (Kd.F_now h'.2.1) h'.1 (Same_f (tsz t) t t' hS (Nat.le_refl _) hs _ (Nat.le_refl _))
theorem want_at (W : World) : At (((W.alloc (.cells #[.int .i64 1, .string ⟨#[102]⟩, .int .i64 0, .int .i64 0, .slice none 0 0, .int .i64 1, .string ⟨#[120]⟩, .int .i64 0, .int .i64 2, .slice none 0 0] 25)).alloc
      (.cells #[.int .i64 3, .string ⟨#[]⟩, .int .i64 0, .int .i64 0, .slice (some ⟨W.heap.size, 0, none⟩) 2 2, .int .i64 9, .string ⟨#[]⟩, .int .i64 1, .int .i64 6, .slice none 0 0] 25)).alloc
      (.cells #[.int .i64 10, .string ⟨#[43]⟩, .int .i64 0, .int .i64 0, .slice (some ⟨W.heap.size + 1, 0, none⟩) 2 2] 25)) (W.heap.size + 1 + 1) fxT (some ⟨W.heap.size + 1, 0, none⟩) 2 := by
  have b1 := blk_alloc (blk_alloc (blk_new W (.cells #[.int .i64 1, .string ⟨#[102]⟩, .int .i64 0, .int .i64 0, .slice none 0 0, .int .i64 1, .string ⟨#[120]⟩, .int .i64 0, .int .i64 2, .slice none 0 0] 25)) (.cells #[.int .i64 3, .string ⟨#[]⟩, .int .i64 0, .int .i64 0, .slice (some ⟨W.heap.size, 0, none⟩) 2 2, .int .i64 9, .string ⟨#[]⟩, .int .i64 1, .int .i64 6, .slice none 0 0] 25)) (.cells #[.int .i64 10, .string ⟨#[43]⟩, .int .i64 0, .int .i64 0, .slice (some ⟨W.heap.size + 1, 0, none⟩) 2 2] 25)
  have b2 := blk_alloc (blk_new (W.alloc (.cells #[.int .i64 1, .string ⟨#[102]⟩, .int .i64 0, .int .i64 0, .slice none 0 0, .int .i64 1, .string ⟨#[120]⟩, .int .i64 0, .int .i64 2, .slice none 0 0] 25)) (.cells #[.int .i64 3, .string ⟨#[]⟩, .int .i64 0, .int .i64 0, .slice (some ⟨W.heap.size, 0, none⟩) 2 2, .int .i64 9, .string ⟨#[]⟩, .int .i64 1, .int .i64 6, .slice none 0 0] 25)) (.cells #[.int .i64 10, .string ⟨#[43]⟩, .int .i64 0, .int .i64 0, .slice (some ⟨W.heap.size + 1, 0, none⟩) 2 2] 25)
  have b3 := blk_new ((W.alloc (.cells #[.int .i64 1, .string ⟨#[102]⟩, .int .i64 0, .int .i64 0, .slice none 0 0, .int .i64 1, .string ⟨#[120]⟩, .int .i64 0, .int .i64 2, .slice none 0 0] 25)).alloc (.cells #[.int .i64 3, .string ⟨#[]⟩, .int .i64 0, .int .i64 0, .slice (some ⟨W.heap.size, 0, none⟩) 2 2, .int .i64 9, .string ⟨#[]⟩, .int .i64 1, .int .i64 6, .slice none 0 0] 25)) (.cells #[.int .i64 10, .string ⟨#[43]⟩, .int .i64 0, .int .i64 0, .slice (some ⟨W.heap.size + 1, 0, none⟩) 2 2] 25)
  simp only [World.size_alloc] at b2 b3
  generalize ((W.alloc (.cells #[.int .i64 1, .string ⟨#[102]⟩, .int .i64 0, .int .i64 0, .slice none 0 0, .int .i64 1, .string ⟨#[120]⟩, .int .i64 0, .int .i64 2, .slice none 0 0] 25)).alloc (.cells #[.int .i64 3, .string ⟨#[]⟩, .int .i64 0, .int .i64 0, .slice (some ⟨W.heap.size, 0, none⟩) 2 2, .int .i64 9, .string ⟨#[]⟩, .int .i64 1, .int .i64 6, .slice none 0 0] 25)).alloc (.cells #[.int .i64 10, .string ⟨#[43]⟩, .int .i64 0, .int .i64 0, .slice (some ⟨W.heap.size + 1, 0, none⟩) 2 2] 25) = V at b1 b2 b3 ⊢
  have f1 : TAt V (fun _ => True) ⟨3, ⟨#[]⟩, 0, 0, [⟨1, ⟨#[102]⟩, 0, 0, []⟩, ⟨1, ⟨#[120]⟩, 0, 2, []⟩]⟩ (some ⟨W.heap.size, 0, none⟩) 2 :=
    TAt.with 3 ⟨#[]⟩ 0 0 (l := [⟨1, ⟨#[102]⟩, 0, 0, []⟩, ⟨1, ⟨#[120]⟩, 0, 2, []⟩]) (by decide) (F_two (x := ⟨1, ⟨#[102]⟩, 0, 0, []⟩) (y := ⟨1, ⟨#[120]⟩, 0, 2, []⟩) (A := none) (A' := none) (c := 0) (c' := 0) b1 trivial (TAt.nil _ _ _ _ _ _) (TAt.nil _ _ _ _ _ _)) (by simp)
  exact ⟨b3, TAt.with 10 ⟨#[43]⟩ 0 0 (l := [⟨3, ⟨#[]⟩, 0, 0, [⟨1, ⟨#[102]⟩, 0, 0, []⟩, ⟨1, ⟨#[120]⟩, 0, 2, []⟩]⟩, ⟨9, ⟨#[]⟩, 1, 6, []⟩]) (by decide) (F_two (x := ⟨3, ⟨#[]⟩, 0, 0, [⟨1, ⟨#[102]⟩, 0, 0, []⟩, ⟨1, ⟨#[120]⟩, 0, 2, []⟩]⟩) (y := ⟨9, ⟨#[]⟩, 1, 6, []⟩) (A := some ⟨W.heap.size, 0, none⟩) (A' := none) (c := 2) (c' := 0) b2 trivial f1 (TAt.nil _ _ _ _ _ _)) (by simp)⟩
abbrev fxW (W : World) (N : Nat) : World := ((W.alloc (.cells #[.int .i64 1, .string ⟨#[102]⟩, .int .i64 0, .int .i64 0, .slice none 0 0, .int .i64 1, .string ⟨#[120]⟩, .int .i64 0, .int .i64 2, .slice none 0 0] 25)).alloc
      (.cells #[.int .i64 3, .string ⟨#[]⟩, .int .i64 0, .int .i64 0, .slice (some ⟨N, 0, none⟩) 2 2, .int .i64 9, .string ⟨#[]⟩, .int .i64 1, .int .i64 6, .slice none 0 0] 25)).alloc
      (.cells #[.int .i64 10, .string ⟨#[43]⟩, .int .i64 0, .int .i64 0, .slice (some ⟨N + 1, 0, none⟩) 2 2] 25)
theorem below_end {w W V : World} (hB : Below w.heap.size w W) (h : Below W.heap.size W V) : Below w.heap.size w V := hB.trans (h.mono hB.size)
theorem fixA {w W : World} {b : Nat} {t : Tree} {A : Option Addr} {c : Nat} (h : At W b t A c) (hB : Below w.heap.size w W) {N : Nat} (hN : W.heap.size = N) : At (fxW W N) b t A c ∧ At (fxW W N) (N + 1 + 1) fxT (some ⟨N + 1, 0, none⟩) 2 ∧ Below w.heap.size w (fxW W N) := by
  subst hN
  exact ⟨((h.alloc _).alloc _).alloc _, want_at W, below_end hB (below_alloc (below_alloc (below_alloc (Below.refl _ _) _) _) _)⟩
/-- a tree that is no answer is stored -/
def objZ : Obj := .cells #[.int .i64 0, .string ⟨#[]⟩, .int .i64 0, .int .i64 0, .slice none 0 0] 25
abbrev objT (t : Tree) (A : Option Addr) (c : Nat) : Obj := .cells (cellsT t A c).toArray 25
/-- a call behind which an answer is stored -/
theorem At.step {w w1 : World} {b : Nat} {t : Tree} {A : Option Addr} {c : Nat} (h : At w b t A c) (hb : Below w.heap.size w w1) (o : Obj) : At (w1.alloc o) b t A c := (h.below hb).alloc o
theorem below_next {w W W1 : World} (hB : Below w.heap.size w W) (h : Below W.heap.size W W1) (o : Obj) : Below w.heap.size w (W1.alloc o) := below_end (below_end hB h) (below_alloc (Below.refl _ _) o)
set_option maxRecDepth 100000 in
set_option maxHeartbeats 4000000 in
theorem fixed_calls (w : World) : Calls Tryz.prog 5 #[] w fun e w' => e = .returned (.bool true) ∧ Below w.heap.size w w' := by
  go_enter Tryz.func5, Tryz.ntmps5
  go_wp2_with fail
  refine (okRel fx1).mono ?_
  rintro e w1 ⟨A1, c1, rfl, hT1, hB1⟩
  have H := Lib.hid (fixA (At.new hT1) (below_alloc hB1 (objT fxT A1 c1)) (N := w1.heap.size + 1) (World.size_alloc _ _))
  clear hT1 hB1
  have e1 : treeV fxT A1 c1 = .agg #[.int .i64 10, .string ⟨#[43]⟩, .int .i64 0, .int .i64 0, .slice A1 2 c1] := rfl
  rw [e1]
  clear e1
  go_wp2_with fail
  refine (errRel fx2).mono ?_
  rintro e w2 ⟨rfl, hB2⟩
  have H2 := Lib.hid (And.intro (H.out.1.step hB2 objZ) (And.intro (H.out.2.1.step hB2 objZ) (below_next H.out.2.2 hB2 objZ)))
  clear hB2 H
  unfold treeZ
  go_wp2_with fail
  refine (errRel fx3).mono ?_
  rintro e w3 ⟨rfl, hB3⟩
  have H3 := Lib.hid (And.intro (H2.out.1.step hB3 objZ) (And.intro (H2.out.2.1.step hB3 objZ) (below_next H2.out.2.2 hB3 objZ)))
  clear hB3 H2
  unfold treeZ
  go_wp2_with fail
  refine (errRel fx4).mono ?_
  rintro e w4 ⟨rfl, hB4⟩
  have H4 := Lib.hid (And.intro (H3.out.1.step hB4 objZ) (And.intro (H3.out.2.1.step hB4 objZ) (below_next H3.out.2.2 hB4 objZ)))
  clear hB4 H3
  unfold treeZ
  go_wp2_with fail
  refine (okRel fx5).mono ?_
  rintro e w5 ⟨A5, c5, rfl, hT5, hB5⟩
  have H5 := Lib.hid (And.intro (H4.out.1.step hB5 (objT fxU A5 c5)) (And.intro (H4.out.2.1.step hB5 (objT fxU A5 c5)) (And.intro (At.new hT5) (below_next H4.out.2.2 hB5 (objT fxU A5 c5)))))
  clear hT5 hB5 H4
  have e5 : treeV fxU A5 c5 = .agg #[.int .i64 10, .string ⟨#[45]⟩, .int .i64 0, .int .i64 0, .slice A5 2 c5] := rfl
  rw [e5]
  clear e5
  go_wp2_with fail
  refine (errRel fx6).mono ?_
  rintro e w6 ⟨rfl, hB6⟩
  have H6 := Lib.hid (And.intro (H5.out.1.step hB6 objZ) (And.intro (H5.out.2.1.step hB6 objZ) (And.intro (H5.out.2.2.1.step hB6 objZ) (below_next H5.out.2.2.2 hB6 objZ))))
  clear hB6 H5
  unfold treeZ
  go_wp2_with fail
  refine (okRel fx7).mono ?_
  rintro e w7 ⟨A7, c7, rfl, hT7, hB7⟩
  have H7 := Lib.hid (And.intro (H6.out.1.step hB7 (objT fxV A7 c7)) (And.intro (H6.out.2.1.step hB7 (objT fxV A7 c7)) (And.intro (H6.out.2.2.1.step hB7 (objT fxV A7 c7)) (And.intro (At.new hT7) (below_next H6.out.2.2.2 hB7 (objT fxV A7 c7))))))
  clear hT7 hB7 H6
  have e7 : treeV fxV A7 c7 = .agg #[.int .i64 6, .string ⟨#[65]⟩, .int .i64 0, .int .i64 0, .slice A7 2 c7] := rfl
  rw [e7]
  clear e7
  go_wp2_with fail
  refine (errRel fx8).mono ?_
  rintro e w8 ⟨rfl, hB8⟩
  have H8 := Lib.hid (And.intro (H7.out.1.step hB8 objZ) (And.intro (H7.out.2.1.step hB8 objZ) (And.intro (H7.out.2.2.1.step hB8 objZ) (And.intro (H7.out.2.2.2.1.step hB8 objZ) (below_next H7.out.2.2.2.2 hB8 objZ)))))
  clear hB8 H7
  unfold treeZ
  have b1 : (w8.alloc objZ).heap[w1.heap.size]? = some (.cells #[.int .i64 10, .string ⟨#[43]⟩, .int .i64 0, .int .i64 0, .slice A1 2 c1] 25 (0, 0)) := H8.out.1.1
  have b4 : (w8.alloc objZ).heap[w1.heap.size + 1 + 1 + 1]? = some (.cells #[.int .i64 10, .string ⟨#[43]⟩, .int .i64 0, .int .i64 0, .slice (some ⟨w1.heap.size + 1 + 1, 0, none⟩) 2 2] 25 (0, 0)) := H8.out.2.1.1
  have b5 : (w8.alloc objZ).heap[w5.heap.size]? = some (.cells #[.int .i64 10, .string ⟨#[45]⟩, .int .i64 0, .int .i64 0, .slice A5 2 c5] 25 (0, 0)) := H8.out.2.2.1.1
  have b7 : (w8.alloc objZ).heap[w7.heap.size]? = some (.cells #[.int .i64 6, .string ⟨#[65]⟩, .int .i64 0, .int .i64 0, .slice A7 2 c7] 25 (0, 0)) := H8.out.2.2.2.1.1
  have hc5 := H8.out.2.2.1.2.1
  obtain ⟨ad, A4, c4, rfl, _, _, g2, _⟩ := at_T25 (Kd.F_now H8.out.2.2.1.2.2.1) 1 (by decide) (by decide)
  have g2' : (w8.alloc objZ).cell? ⟨(ad.add 5).block, (ad.add 5).off + 2, none⟩ = some (.int .i64 3) := g2
  clear g2
  obtain ⟨x0, x1, x2, x3, x4, xf, xl⟩ := open5 b1
  obtain ⟨y0, y1, y2, y3, y4, yf, yl⟩ := open5 b4
  have HB := Lib.hid (And.intro b5 (And.intro b7 g2'))
  clear b1 b4 b5 b7 g2'
  unfold objZ at *
  go_wp2_with fail
  refine (One_calls fxT A1 (some ⟨w1.heap.size + 1 + 1, 0, none⟩) c1 2 _ _ _ H8.out.1.2 H8.out.2.1.2 (by decide)).mono ?_
  rintro e w9 ⟨rfl, hB9⟩
  obtain ⟨b5, b7, g2⟩ := HB.out
  have b5' := blk_below b5 hB9
  have b7' := blk_below b7 hB9
  have g3 := (hB9.cell (World.block_lt_of_cell? _ _ g2)).trans g2
  have g4 : w9.cell? ⟨ad.block, ad.off + 5 + 2, none⟩ = some (.int .i64 3) := g3
  have lt3 := World.block_lt_of_cell? _ _ g4
  clear g3
  have hBB := below_end H8.out.2.2.2.2 hB9
  clear b5 b7 g2 hB9 x0 x1 x2 x3 x4 xf xl y0 y1 y2 y3 y4 yf yl HB H8
  obtain ⟨x0, x1, x2, x3, x4, xf, xl⟩ := open5 b5'
  obtain ⟨y0, y1, y2, y3, y4, yf, yl⟩ := open5 b7'
  clear b5' b7' x0 x1 x2 x3 y1 y2 y3
  go_wp2
  go_ret
  exact ⟨rfl, hBB⟩
end Go.Proofs.YtajcnjdinmgpjaaGreatDoor.X
/- Contracts in one form. -/
namespace Go.Proofs.YtajcnjdinmgpjaaGreatDoor.X
open Go.RowKit Go.Proofs.YtajcnjdinmgpjaaGreatDoorW.PrintWords Go.Proofs.YtajcnjdinmgpjaaGreatDoorW.PrintLast Go.Proofs.YtajcnjdinmgpjaaGreatDoorW.PrintMore Go.Proofs.YtajcnjdinmgpjaaGreatDoor.P
/-- what a call of Parse hands back, in one form -/
def PAny (w : World) (R : Except (Int × Int) Tree) (e : Ending) (w' : World) : Prop :=
  ∃ (v : Value) (p c : Int), e = .returned (.tuple #[v, .int .i64 p, .int .i64 c]) ∧ Below w.heap.size w w' ∧ (∃ a b d e' A l cc, v = .agg #[.int .i64 a, .string b, .int .i64 d, .int .i64 e', .slice A l cc]) ∧ ((∃ t, R = .ok t ∧ p = 0 ∧ c = 0) ∨ R = .error (p, c))
theorem Parse_any (s : ByteArray) (d : Int) (w : World) : Calls Tryz.prog 6 #[.string s, .int .i64 d] w (PAny w (parseM s d)) := by
  refine (Parse_calls s d w).mono ?_
  intro e w' h
  cases hr : parseM s d with
  | ok t =>
    rw [hr] at h
    obtain ⟨A, c, rfl, _, hB⟩ := h
    exact ⟨_, 0, 0, rfl, hB, ⟨_, _, _, _, _, _, _, rfl⟩, .inl ⟨t, rfl, rfl, rfl⟩⟩
  | error pc =>
    obtain ⟨p, c⟩ := pc
    rw [hr] at h
    obtain ⟨rfl, hB⟩ := h
    exact ⟨_, p, c, rfl, hB, ⟨_, _, _, _, _, _, _, rfl⟩, .inr rfl⟩
def LAny (w : World) (R : Except (Nat × Int) (List Tok)) (e : Ending) (w' : World) : Prop :=
  ∃ (A : Option Addr) (n cc : Nat) (p c : Int), e = .returned (.tuple #[.slice A n cc, .int .i64 p, .int .i64 c]) ∧ Below w.heap.size w w' ∧ ((∃ l, R = .ok l ∧ c = 0) ∨ c = 10 ∨ c = 11)
theorem RAll_any (s : ByteArray) (hs : s.size ≤ 1000000000) (w : World) : Calls Tryz.prog 8 #[.string s] w (LAny w (lexAll s)) := by
  refine (RAll_calls s hs w).mono ?_
  intro e w' h
  cases hr : lexAll s with
  | ok l =>
    rw [hr] at h
    obtain ⟨A, c, rfl, _, _, hB⟩ := h
    exact ⟨_, _, _, _, _, rfl, hB, .inl ⟨l, rfl, rfl⟩⟩
  | error pc =>
    obtain ⟨p, c⟩ := pc
    have hc := lexAll_err hr
    rw [hr] at h
    obtain ⟨rfl, hB⟩ := h
    exact ⟨none, 0, 0, _, _, rfl, hB, .inr hc⟩
theorem parseM_err {s : ByteArray} {d p c : Int} (h : parseM s d = .error (p, c)) : c ≠ 0 := by
  unfold parseM at h
  split at h
  · cases h; decide
  · split at h
    · cases h; decide
    · cases hl : lexAll s with
      | error e =>
        obtain ⟨a, c'⟩ := e
        rw [hl] at h
        have := lexAll_err hl
        cases h
        omega
      | ok l =>
        rw [hl] at h
        simp only at h
        cases hw : pWhole l with
        | fail r => rw [hw] at h; cases h; decide
        | ok t r =>
          rw [hw] at h
          simp only at h
          split at h
          · cases h; decide
          · cases h
end Go.Proofs.YtajcnjdinmgpjaaGreatDoor.X
/- ParseRound: the walk. -/
namespace Go.Proofs.YtajcnjdinmgpjaaGreatDoor.X
open Go.RowKit Go.Proofs.YtajcnjdinmgpjaaGreatDoorW.PrintWords Go.Proofs.YtajcnjdinmgpjaaGreatDoorW.PrintLast Go.Proofs.YtajcnjdinmgpjaaGreatDoorW.PrintMore Go.Proofs.YtajcnjdinmgpjaaGreatDoor.P
theorem parseM_lex {s : ByteArray} {p : Nat} {c : Int} (hs : s.size ≤ 4096) (h : lexAll s = .error (p, c)) : parseM s 200 = .error ((p : Int), c) := by
  unfold parseM
  rw [if_neg (by omega), if_neg (by omega), h]
theorem RAll_err {s : ByteArray} {p : Nat} {c : Int} (hs : s.size ≤ 1000000000) (h : lexAll s = .error (p, c)) (w : World) : Calls Tryz.prog 8 #[.string s] w fun e w' => e = .returned (.tuple #[.slice none 0 0, .int .i64 (p : Int), .int .i64 c]) ∧ Below w.heap.size w w' := by
  have := RAll_calls s hs w
  rw [h] at this
  exact this
theorem RAll_ok {s : ByteArray} {l : List Tok} (hs : s.size ≤ 1000000000) (h : lexAll s = .ok l) (w : World) : Calls Tryz.prog 8 #[.string s] w fun e w' => ∃ A c, e = .returned (.tuple #[.slice A l.length c, .int .i64 0, .int .i64 0]) ∧ l.length ≤ c ∧ Kd.C k46 w' A l.length l ∧ Below w.heap.size w w' := by
  have := RAll_calls s hs w
  rw [h] at this
  exact this
theorem paired_calls (l : List Tok) (A : Option Addr) (c : Nat) (w : World) (hl : l.length ≤ 1000000000) (hC : Kd.C k46 w A l.length l) (hc : l.length ≤ c) : Calls Tryz.prog 13 #[.slice A l.length c] w fun e w' => e = .returned (.bool (negB 0 l)) ∧ Below w.heap.size w w' := by
  have h := paired_l0 l hl l.length 0 (2 * l.length + 1) 0 (by omega) (by omega) (by omega) (by omega)
  rw [List.drop_zero] at h
  exact (gossamerlaw03_paired.calls (2 * l.length + 1) A c l _ w hC hc h).mono fun _ _ h => ⟨h.1, h.2.below⟩
theorem Text_calls (l : List Tok) (r : ByteArray) (A : Option Addr) (c : Nat) (w : World) (hr : gossamerref01_Text.f (l.length + 1) l = some r) (hC : Kd.C k46 w A l.length l) (hc : l.length ≤ c) : Calls Tryz.prog 12 #[.slice A l.length c] w fun e w' => e = .returned (.string r) ∧ Below w.heap.size w w' :=
  (gossamerref01_Text.calls (l.length + 1) A c l r w hC hc hr).mono fun _ _ h => ⟨h.1, h.2.below⟩
theorem At.cells {w : World} {b : Nat} {t : Tree} {A : Option Addr} {c : Nat} (h : At w b t A c) : w.heap[b]? = some (.cells #[.int .i64 t.f0, .string t.f1, .int .i64 t.f2, .int .i64 t.f3, .slice A t.f4.length c] 25 (0, 0)) := h.1
theorem S1_list (a0 : ByteArray) : ((⟨#[40]⟩ : ByteArray) ++ a0 ++ ⟨#[41]⟩).data.toList = 40 :: (a0.data.toList ++ [41]) := by rw [cat_list, cat_list]; rfl
theorem S2_list (a0 : ByteArray) : ((⟨#[32, 40, 40]⟩ : ByteArray) ++ a0 ++ ⟨#[32, 41, 32, 41]⟩).data.toList = 32 :: 40 :: 40 :: (a0.data.toList ++ [32, 41, 32, 41]) := by rw [cat_list, cat_list]; rfl
set_option maxRecDepth 100000 in
set_option maxHeartbeats 4000000 in
theorem parseRound_walk (a0 : ByteArray) (w : World) (h0 : a0.size ≤ 140737488351232) : Calls Tryz.prog 4 #[.string a0] w fun e w' => e = .returned (.bool true) ∧ Below w.heap.size w w' := by
  by_cases hbig : 1500 < a0.size
  · have d0 : decide ((1500 : Int) < (a0.size : Int)) = true := decide_eq_true (by omega)
    go_enter Tryz.func4, Tryz.ntmps4
    go_wp2_with fail
    refine (fixed_calls _).mono ?_
    rintro e w1 ⟨rfl, hB1⟩
    go_wp2_with fail
    refine (fixed_calls _).mono ?_
    rintro e w2 ⟨rfl, hB2⟩
    go_wp2
    exact bodyPost_ret (results_tmp rfl _ _ _) rfl ⟨rfl, below_step hB1 hB2⟩
  have d0 : decide ((1500 : Int) < (a0.size : Int)) = false := decide_eq_false (by omega)
  cases hl : lexAll a0 with
  | error pc =>
    obtain ⟨p, c⟩ := pc
    have hc := lexAll_err hl
    have e1 : (c == 0) = false := by rcases hc with rfl | rfl <;> rfl
    have HP := Lib.hid (fun w => errRel (w := w) (parseM_lex (by omega) hl))
    have HA := Lib.hid (RAll_err (by omega) hl)
    clear hl hc
    go_enter Tryz.func4, Tryz.ntmps4
    go_wp2_with fail
    refine (fixed_calls _).mono ?_
    rintro e w1 ⟨rfl, hB1⟩
    go_wp2_with fail
    refine (HP.out _).mono ?_
    rintro e w2 ⟨rfl, hB2⟩
    unfold treeZ
    have hBB := Lib.hid (below_next hB1 hB2 objZ)
    clear hB1 hB2
    go_wp2_with fail
    refine (HA.out _).mono ?_
    rintro e w3 ⟨rfl, hB3⟩
    have hBB3 := Lib.hid (below_end hBB.out hB3)
    clear hB3 hBB
    go_wp2
    go_ret
    exact ⟨rfl, hBB3.out⟩
  | ok l =>
    have hlen := lexAll_len hl
    have hLT : LT a0.data.toList 0 = .ok l := by rw [← lexAll_LT]; exact hl
    have htot := LT_tot _ _ _ _ (Nat.le_refl _) hLT
    have hsz : a0.data.toList.length = a0.size := rfl
    obtain ⟨X, hX, hXl⟩ := Text_f l (by omega) (by omega)
    have HTX := Lib.hid hX
    have HA := Lib.hid (RAll_ok (by omega) hl)
    clear hLT htot hsz hX
    cases hp : parseM a0 200 with
    | error pc =>
      obtain ⟨p, c⟩ := pc
      have hc := parseM_err hp
      have e1 : (c == 0) = false := by simpa using hc
      obtain ⟨hT, hN⟩ := roundB (by omega) hp hl
      obtain ⟨q, hq⟩ := hT X hXl
      have HP := Lib.hid (fun w => errRel (w := w) hp)
      have HPX := Lib.hid (fun w => errRel (w := w) hq)
      have HN := Lib.hid (hN _ (S1_list a0))
      clear hp hl hc hT hN hq hXl
      go_enter Tryz.func4, Tryz.ntmps4
      go_wp2_with fail
      refine (fixed_calls _).mono ?_
      rintro e w1 ⟨rfl, hB1⟩
      go_wp2_with fail
      refine (HP.out _).mono ?_
      rintro e w2 ⟨rfl, hB2⟩
      unfold treeZ
      have hBB := Lib.hid (below_next hB1 hB2 objZ)
      clear hB1 hB2
      go_wp2_with fail
      refine (HA.out _).mono ?_
      rintro e w3 ⟨L, lc, rfl, hlc, hC, hB3⟩
      have H3 := Lib.hid (And.intro (below_end hBB.out hB3) hC)
      clear hB3 hBB hC
      go_wp2_with fail
      refine (Text_calls l X L lc _ HTX.out H3.out.2 hlc).mono ?_
      rintro e w4 ⟨rfl, hB4⟩
      have H4 := Lib.hid (And.intro (below_end H3.out.1 hB4) (Kd.C_below H3.out.2 hB4))
      clear H3 hB4
      go_wp2_with fail
      refine (HPX.out _).mono ?_
      rintro e w5 ⟨rfl, hB5⟩
      unfold treeZ
      have H5 := Lib.hid (And.intro (below_next H4.out.1 hB5 objZ) (Kd.C_below (Kd.C_below H4.out.2 hB5) (below_alloc (Below.refl _ _) objZ)))
      clear H4 hB5
      go_wp2_with fail
      with_reducible refine (Parse_any _ _ _).mono ?_
      rintro e w6 ⟨v6, y, h, rfl, hB6, ⟨z0, z1, z2, z3, Az, zl, zc, rfl⟩, hR6⟩
      have H6 := Lib.hid (And.intro (below_next H5.out.1 hB6 (.cells #[.int .i64 z0, .string z1, .int .i64 z2, .int .i64 z3, .slice Az zl zc] 25)) (Kd.C_below (Kd.C_below H5.out.2 hB6) (below_alloc (Below.refl _ _) (.cells #[.int .i64 z0, .string z1, .int .i64 z2, .int .i64 z3, .slice Az zl zc] 25))))
      have hh : h ≠ 0 ∨ (h = 0 ∧ negB 0 l = true) := by
        rcases hR6 with ⟨u, h6, _, rfl⟩ | h6
        · exact .inr ⟨rfl, HN.out ⟨u, h6⟩⟩
        · exact .inl (parseM_err h6)
      have HH := Lib.hid hh
      clear H5 hB6 hR6 hh
      go_wp2_with fail
      with_reducible refine (Parse_any _ _ _).mono ?_
      rintro e w7 ⟨v7, y7, h7, rfl, hB7, ⟨x0, x1, x2, x3, Ax, xl, xc, rfl⟩, hR7⟩
      have H7 := Lib.hid (And.intro (below_next H6.out.1 hB7 (.cells #[.int .i64 x0, .string x1, .int .i64 x2, .int .i64 x3, .slice Ax xl xc] 25)) (Kd.C_below (Kd.C_below H6.out.2 hB7) (below_alloc (Below.refl _ _) (.cells #[.int .i64 x0, .string x1, .int .i64 x2, .int .i64 x3, .slice Ax xl xc] 25))))
      clear H6 hB7 hR7
      rcases HH.out with hh | ⟨rfl, hn⟩
      · have e2 : (h == 0) = false := by simpa using hh
        have e3 : (h != 0) = true := by simpa using hh
        clear hh
        go_wp2
        go_ret
        exact ⟨by first | rfl | simp, H7.out.1⟩
      · have HNN := Lib.hid hn
        clear hn
        go_wp2_with fail
        refine (paired_calls l L lc _ (by omega) H7.out.2 hlc).mono ?_
        rintro e w8 ⟨rfl, hB8⟩
        rw [HNN.out]
        have H8 := Lib.hid (below_end H7.out.1 hB8)
        clear hB8 H7
        go_wp2
        go_ret
        exact ⟨by first | rfl | simp, H8.out⟩
    | ok t =>
      obtain ⟨hA1, hA2, hA3⟩ := roundA (by omega) hp hl
      obtain ⟨u1, k1, s1⟩ := hA1 X hXl
      obtain ⟨u2, k2, s2⟩ := hA2 _ (S1_list a0)
      obtain ⟨u3, k3, s3⟩ := hA3 _ (S2_list a0)
      have hts : tsz t ≤ 1000000000000 := by
        obtain ⟨_, _, _, _, l', hl', hd⟩ := parse_inv hp
        have := der_tsz hd
        have := lexAll_len hl'
        simp [base] at *
        omega
      have HP := Lib.hid (fun w => okRel (w := w) hp)
      have HP1 := Lib.hid (fun w => okRel (w := w) k1)
      have HP2 := Lib.hid (fun w => okRel (w := w) k2)
      have HP3 := Lib.hid (fun w => okRel (w := w) k3)
      have HS := Lib.hid (And.intro s1 (And.intro s2 s3))
      clear hp hl hA1 hA2 hA3 k1 k2 k3 s1 s2 s3 hXl
      go_enter Tryz.func4, Tryz.ntmps4
      go_wp2_with fail
      refine (fixed_calls _).mono ?_
      rintro e w1 ⟨rfl, hB1⟩
      go_wp2_with fail
      refine (HP.out _).mono ?_
      rintro e w2 ⟨A, c, rfl, hT, hB2⟩
      have H2 := Lib.hid (And.intro (At.new hT) (below_next hB1 hB2 (objT t A c)))
      clear hB1 hB2 hT
      unfold treeV
      go_wp2_with fail
      refine (HA.out _).mono ?_
      rintro e w3 ⟨L, lc, rfl, hlc, hC, hB3⟩
      have H3 := Lib.hid (And.intro (H2.out.1.below hB3) (And.intro (below_end H2.out.2 hB3) hC))
      clear hB3 H2 hC
      go_wp2_with fail
      refine (Text_calls l X L lc _ HTX.out H3.out.2.2 hlc).mono ?_
      rintro e w4 ⟨rfl, hB4⟩
      have H4 := Lib.hid (And.intro (H3.out.1.below hB4) (below_end H3.out.2.1 hB4))
      clear H3 hB4
      go_wp2_with fail
      refine (HP1.out _).mono ?_
      rintro e w5 ⟨A5, c5, rfl, hT5, hB5⟩
      have H5 := Lib.hid (And.intro (H4.out.1.step hB5 (objT u1 A5 c5)) (And.intro (At.new hT5) (below_next H4.out.2 hB5 (objT u1 A5 c5))))
      clear H4 hB5 hT5
      unfold treeV
      go_wp2_with fail
      with_reducible refine (HP2.out _).mono ?_
      rintro e w6 ⟨A6, c6, rfl, hT6, hB6⟩
      have H6 := Lib.hid (And.intro (H5.out.1.step hB6 (objT u2 A6 c6)) (And.intro (H5.out.2.1.step hB6 (objT u2 A6 c6)) (And.intro (At.new hT6) (below_next H5.out.2.2 hB6 (objT u2 A6 c6)))))
      clear H5 hB6 hT6
      unfold treeV
      go_wp2_with fail
      with_reducible refine (HP3.out _).mono ?_
      rintro e w7 ⟨A7, c7, rfl, hT7, hB7⟩
      have H7 := Lib.hid (And.intro (H6.out.1.step hB7 (objT u3 A7 c7)) (And.intro (H6.out.2.1.step hB7 (objT u3 A7 c7)) (And.intro (H6.out.2.2.1.step hB7 (objT u3 A7 c7)) (And.intro (At.new hT7) (below_next H6.out.2.2.2 hB7 (objT u3 A7 c7))))))
      clear H6 hB7 hT7
      unfold treeV
      obtain ⟨p0, p1, p2, p3, p4, pf, pl⟩ := open5 H7.out.1.cells
      obtain ⟨q0, q1, q2, q3, q4, qf, ql⟩ := open5 H7.out.2.1.cells
      have e1 : objT u3 A7 c7 = .cells #[.int .i64 u3.f0, .string u3.f1, .int .i64 u3.f2, .int .i64 u3.f3, .slice A7 u3.f4.length c7] 25 := rfl
      rw [e1] at p0 p1 p2 p3 p4 pf pl q0 q1 q2 q3 q4 qf ql
      clear e1
      go_wp2_with fail
      refine (Same_calls t u1 HS.out.1 A A5 c c5 _ _ _ H7.out.1.2 H7.out.2.1.2 hts).mono ?_
      rintro e w8 ⟨rfl, hB8⟩
      have H8 := Lib.hid (And.intro (H7.out.1.below hB8) (And.intro (H7.out.2.2.1.below hB8) (And.intro (H7.out.2.2.2.1.below hB8) (below_end H7.out.2.2.2.2 hB8))))
      clear H7 hB8 p0 p1 p2 p3 p4 pf pl q0 q1 q2 q3 q4 qf ql
      obtain ⟨p0, p1, p2, p3, p4, pf, pl⟩ := open5 H8.out.1.cells
      obtain ⟨q0, q1, q2, q3, q4, qf, ql⟩ := open5 H8.out.2.1.cells
      go_wp2_with fail
      refine (Same_calls t u2 HS.out.2.1 A A6 c c6 _ _ _ H8.out.1.2 H8.out.2.1.2 hts).mono ?_
      rintro e w9 ⟨rfl, hB9⟩
      have H9 := Lib.hid (And.intro (H8.out.1.below hB9) (And.intro (H8.out.2.2.1.below hB9) (below_end H8.out.2.2.2 hB9)))
      clear H8 hB9 p0 p1 p2 p3 p4 pf pl q0 q1 q2 q3 q4 qf ql
      obtain ⟨p0, p1, p2, p3, p4, pf, pl⟩ := open5 H9.out.1.cells
      obtain ⟨q0, q1, q2, q3, q4, qf, ql⟩ := open5 H9.out.2.1.cells
      go_wp2_with fail
      refine (Same_calls t u3 HS.out.2.2 A A7 c c7 _ _ _ H9.out.1.2 H9.out.2.1.2 hts).mono ?_
      rintro e w10 ⟨rfl, hB10⟩
      have H10 := Lib.hid (below_end H9.out.2.2 hB10)
      clear H9 hB10 p0 p1 p2 p3 p4 pf pl q0 q1 q2 q3 q4 qf ql
      go_wp2
      go_ret
      exact ⟨rfl, H10.out⟩
end Go.Proofs.YtajcnjdinmgpjaaGreatDoor.X
/- ParseRound: the row and its card: for every input the law returns true, and each argument reads as it did. The condition: the listed package-level variables hold what the program's text lays (the card ties that). -/
namespace Go.Proofs.YtajcnjdinmgpjaaGreatDoor.parseRound
open Go Go.ChangeShapes Go.WideShapes Go.ChangeAt Go.RowKit Go.Proofs.YtajcnjdinmgpjaaGreatDoor.X
open Go.ChangeMaps (open_string shut_string)
set_option linter.unusedVariables false
theorem own : ownKnob Tryz.prog.godebug = none := by kernel_rfl
set_option maxRecDepth 1000000 in
theorem laid_met (os : Os) (args : Array Value) : laidMet Tryz.prog Rows.parseRoundRow.laid ((laidWorld os).forCall (fun _ _ => 0) ⟨#[], args, []⟩).memory :=
  laidMet_of_run' 10 (by kernel_rfl) (by kernel_rfl)
theorem reads (os : Os) {H : Type} (enc : TypeId × Value → H) : ∃ places, DataW.whole enc Tryz.prog ((laidWorld os).forCall (fun _ _ => 0) ⟨#[], #[.string ByteArray.empty], []⟩).memory Tryz.f4.params.toList Rows.parseRoundSpec.vars false (#[.string ByteArray.empty] : Array Value).toList 8 = some ([.lit (.string [])], [], places) :=
  ⟨[], by kernel_rfl⟩
set_option maxRecDepth 1000000 in
theorem contract (H : Type) (enc : TypeId × Value → H) (W : World) (base : Nat) (args : Array Value) (ds gs : List (DataW H)) (before : List MemPlace)
    (hval0 : ∀ (j : Nat) t v, Tryz.f4.params[j]? = some t → args[j]? = some v → Value.okWide Tryz.prog W .any base t v)
    (hW : DataW.Whole enc Tryz.prog Tryz.f4.params.toList Rows.parseRoundSpec.vars false W args.toList ds gs before)
    (hsz0 : (DataW.weightsEach Tryz.prog (Tryz.f4.params.toList ++ (OpenSpec.ofChange Rows.parseRoundSpec).bare.plain.varTypes Tryz.prog) (ds ++ gs)).all (· ≤ reachBytes) = true) :
    Calls Tryz.prog 4 args W fun e W' => ∃ v, e = .returned v ∧ Rows.parseRoundSpec.post enc Tryz.prog Tryz.f4 false true false false W args v W' := by
  have hsz : (DataW.weightsEach Tryz.prog (Tryz.f4.params.toList ++ (OpenSpec.ofChange Rows.parseRoundSpec).bare.plain.varTypes Tryz.prog) (ds ++ gs)).all (· ≤ reachBytes) = true := hsz0
  have hval : ∀ (j : Nat) t v, Tryz.f4.params[j]? = some t → args[j]? = some v → Value.okWide Tryz.prog W .any base t v := hval0
  have hW' := hW
  obtain ⟨p, q, hA0, hV, rfl, hfz, hnd⟩ := hW
  have hA : DataW.TrodAll enc Tryz.prog W 0 (fun _ => true) true Tryz.f4.params.toList args.toList ds p := hA0
  rw [Tryz.params4] at hA hval hsz
  obtain ⟨v0, vs0, d0, ds0, p0, q0, hargs, rfl, rfl, h0, r0⟩ := trodAll_cons hA
  obtain ⟨rfl, rfl, rfl⟩ := trodAll_nil r0
  obtain rfl : args = #[v0] := Array.toList_inj.1 hargs
  obtain ⟨rfl, rfl⟩ := trodVars_none hV
  obtain ⟨a0, rfl, rfl, rfl, y0⟩ := open_string Tryz.underlying9 (hval 0 9 v0 rfl rfl) h0
  have w0 : a0.size ≤ 140737488351232 := by
    have z := sized_string hsz (j := 0) (t := 9) rfl rfl
    rw [Array.length_toList] at z
    exact z
  clear hA0 hval0 hsz0 hsz
  refine (X.parseRound_walk a0 W w0).mono fun e W' ⟨he, bel⟩ => ?_
  subst he
  exact ⟨_, rfl, _, _, _, [], _, [], hW', trodAll_mk1 (shut_bool Tryz.underlying4 _), (trodAll_cons_mk (shut_string Tryz.underlying9 y0) trodAll_mk0), rfl, bel.frame _, fun h => by cases h⟩
set_option maxRecDepth 100000 in
theorem lifted (os : Os) (started : os.Started) (H : Type) (enc : TypeId × Value → H) (F : Stop.Interp) :
    ReturnsInHanded {} Tryz.checked os 4 .any ((OpenSpec.ofChange Rows.parseRoundSpec).preRow enc Tryz.prog Tryz.f4 Rows.parseRoundRow.domain false Rows.parseRoundRow.laid) (((OpenSpec.ofChange Rows.parseRoundSpec).at F).post enc Tryz.prog Tryz.f4 false true false false) := by
  obtain ⟨places, hx⟩ := reads os enc
  refine returnsInHanded_of_row (C := Tryz.checked) (s := OpenSpec.ofChange Rows.parseRoundSpec) own started (by kernel_rfl) Tryz.func4
    (witness_row_atRef (enc := enc) (C := Tryz.checked) false (laidWorld os) #[.string ByteArray.empty] rfl (by kernel_rfl) (by kernel_rfl) (by kernel_rfl)
      (OpenSpec.preRow_of_cond 8 hx (by kernel_rfl) (fun k hk => by cases hk) (by kernel_rfl) (laid_met os _))) ?_
  intro W base args ds gs before hval hW _ _ hsz _ _ _
  exact contract H enc W base args ds gs before hval hW hsz
theorem said : Rows.ParseRoundSaid :=
  OpenClaim.holds_of_cond 4 Tryz.f4 rfl rfl rfl rfl rfl rfl rfl ⟨rfl, rfl, rfl, rfl, rfl⟩ rfl rfl rfl rfl rfl (by kernel_rfl) Tryz.func4 (by kernel_rfl)
    (of_decide_eq_true (by kernel_rfl)) (by unfold Func.isWrapper; first | (rw [if_pos (by decide +kernel)]; kernel_rfl) | (rw [if_neg (by decide +kernel)]; exact ⟨rfl, rfl⟩))
    (fun os started H enc _ F => by rw [OpenClaim.pre_eq_preRow]; exact lifted os started H enc F)
theorem plain (f : FuncId) (fn : Func) (hf : Tryz.pinned.checked.prog.funcNamed "gossamer/gossamerlaw03.ParseRound" = some f) (hfn : Tryz.pinned.checked.prog.funcs[f]? = some fn) :
    true = Tryz.pinned.checked.prog.looks [] ∧ ∀ (j : Nat) t, fn.params[j]? = some t → Tryz.pinned.checked.prog.wantsStandIn t = false := by
  obtain rfl : f = 4 := Option.some.inj ((show Tryz.prog.funcNamed "gossamer/gossamerlaw03.ParseRound" = some 4 by kernel_rfl).symm.trans hf) |>.symm
  obtain rfl : fn = Tryz.f4 := (Option.some.inj (Tryz.func4.symm.trans hfn)).symm
  refine ⟨by kernel_rfl, fun j t ht => ?_⟩
  rw [Tryz.params4] at ht
  have hm := Array.mem_of_getElem? ht
  obtain rfl : t = 9 := by simpa using hm
  exact (show Tryz.prog.wantsStandIn 9 = false by kernel_rfl)
theorem card : Rows.ParseRoundCardSaid :=
  Claim7.holds_tied_plain_at .later [] _ _ _ _ said (fun _ h => by cases h) (by kernel_rfl) (fun _ h => by cases h) parseRound_row_tie rfl ⟨rfl, rfl⟩ (by kernel_rfl) rfl plain (by kernel_rfl)
#print axioms card
end Go.Proofs.YtajcnjdinmgpjaaGreatDoor.parseRound
namespace Go.Proofs.YtajcnjdinmgpjaaGreatDoor
/-- The card, under a short name, for the claim. -/
theorem parseRound_card : Rows.ParseRoundCardSaid := parseRound.card
end Go.Proofs.YtajcnjdinmgpjaaGreatDoor
