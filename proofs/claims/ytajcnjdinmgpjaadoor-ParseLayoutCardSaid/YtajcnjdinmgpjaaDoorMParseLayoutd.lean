/- ParseLayout: the row and its card: for every input the law returns true, and each argument reads as it did; a part of its proof: Xsim, Xlay, Xfix3, Xany, Xpl, XrowParseLayout. The condition: the listed package-level variables hold what the program's text lays (the card ties that). -/
import Derived.Test.YtajcnjdinmgpjaaDoorMParseLayoutc
import Derived.WalkKit
import Derived.OpenShut
import Derived.ShutString
import Derived.ChangeOld
import Derived.Below
import Derived.SizedLaws
set_option linter.unusedVariables false
set_option linter.unusedSimpArgs false
/- What is read of tokens that stand elsewhere, and with signs ( ) around numbers. -/
namespace Go.Proofs.YtajcnjdinmgpjaaDoor.X
open Go.Proofs.YtajcnjdinmgpjaaDoor.P
set_option linter.unusedVariables false
def tokS (a b : Tok) : Prop := a.f0 = b.f0 ∧ a.f1 = b.f1 ∧ a.f2 = b.f2
theorem tokS.refl (a : Tok) : tokS a a := ⟨rfl, rfl, rfl⟩
theorem tokS.symm {a b : Tok} (h : tokS a b) : tokS b a := ⟨h.1.symm, h.2.1.symm, h.2.2.symm⟩
theorem tokS.isT {a b : Tok} (h : tokS a b) (s : ByteArray) : isT a s = isT b s := by unfold X.isT; rw [h.1, h.2.1]
inductive Rd : List Tok → List Tok → Prop
  | nil : Rd [] []
  | tok (a b : Tok) (l l' : List Tok) : tokS a b → Rd l l' → Rd (a :: l) (b :: l')
  | par (a b p q : Tok) (l l' : List Tok) : a.f0 = 3 → tokS a b → isT p ⟨#[40]⟩ = true → isT q ⟨#[41]⟩ = true → Rd l l' → Rd (a :: l) (p :: b :: q :: l')
theorem Rd.inv {a : Tok} {l l' : List Tok} (h : Rd (a :: l) l') (ha : a.f0 ≠ 3) : ∃ b r, l' = b :: r ∧ tokS a b ∧ Rd l r := by
  cases h with
  | tok _ b _ l' h1 h2 => exact ⟨b, l', rfl, h1, h2⟩
  | par _ b p q _ l' h1 => exact absurd h1 ha
theorem Rd.invT {a : Tok} {l l' : List Tok} {s : ByteArray} (h : Rd (a :: l) l') (ha : isT a s = true) : ∃ b r, l' = b :: r ∧ tokS a b ∧ isT b s = true ∧ Rd l r := by
  obtain ⟨b, r, e, h1, h2⟩ := h.inv (by rcases isT_kind ha with h | h <;> omega)
  exact ⟨b, r, e, h1, by rw [← h1.isT]; exact ha, h2⟩
theorem Rd.append {vs l l' : List Tok} (h : Rd (vs ++ l) l') (hv : ∀ v ∈ vs, v.f0 = 1) : ∃ vs' r, l' = vs' ++ r ∧ Rd l r ∧ (∀ v ∈ vs', v.f0 = 1) ∧ vs'.length = vs.length ∧ SmL (vs.map varT) (vs'.map varT) := by
  induction vs generalizing l' with
  | nil => exact ⟨[], l', rfl, h, by simp, rfl, .nil⟩
  | cons v vs ih =>
    have hv1 := hv v (by simp)
    obtain ⟨b, r, rfl, h1, h2⟩ := Rd.inv h (by omega)
    obtain ⟨vs', r', rfl, h3, h4, h5, h6⟩ := ih h2 (fun x hx => hv x (by simp [hx]))
    refine ⟨b :: vs', r', rfl, h3, ?_, by simp [h5], ?_⟩
    · intro x hx
      rcases List.mem_cons.1 hx with rfl | hx
      · rw [← h1.1]; exact hv1
      · exact h4 x hx
    · refine .cons _ _ _ _ ?_ h6
      show Sm ⟨1, v.f1, 0, v.f3, []⟩ ⟨1, b.f1, 0, b.f3, []⟩
      rw [← h1.2.1]
      exact .mk _ _ _ _ _ _ _ .nil
theorem Rd.stop {l l' : List Tok} (h : Rd l l') {s : ByteArray} (hs : s.data.toList ≠ [40]) (hl : isW l s = false) : isW l' s = false := by
  cases h with
  | nil => rfl
  | tok a b l l' h1 h2 => rw [isW_cons] at hl ⊢; rw [← h1.isT]; exact hl
  | par a b p q l l' h1 h2 h3 h4 h5 => rw [isW_cons]; exact isT_other h3 (fun e => hs e.symm)
theorem Rd.atom {l l' : List Tok} (h : Rd l l') : atomB l' = atomB l := by
  cases h with
  | nil => rfl
  | tok a b l l' h1 h2 =>
    unfold atomB
    rw [isW_cons, isW_cons, h1.isT, show kd (b :: l') = kd (a :: l) from h1.1.symm]
  | par a b p q l l' h1 h2 h3 h4 h5 => simp [atomB, isW_cons, h3, kd, h1]
theorem Rd.con {l l' : List Tok} (h : Rd l l') : (kd l' == 2) = (kd l == 2) := by
  cases h with
  | nil => rfl
  | tok a b l l' h1 h2 => show (b.f0 == 2) = (a.f0 == 2); rw [h1.1]
  | par a b p q l l' h1 h2 h3 h4 h5 =>
    show (p.f0 == 2) = (a.f0 == 2)
    have := isT_kind h3
    have e1 : (p.f0 == 2) = false := by simp; omega
    have e2 : (a.f0 == 2) = false := by simp; omega
    rw [e1, e2]
inductive NR : N → N → Prop
  | same (n : N) : fronted n = true ∨ n = .expr ∨ n = .alt → NR n n
  | args (c : Bool) (t t' : Tree) : Sm t t' → NR (.args c t) (.args c t')
  | ops (b : Bool) (t t' : Tree) : Sm t t' → NR (.ops b t) (.ops b t')
  | alts (a a' : Int) (l l' : List Tree) : SmL l l' → NR (.alts a l) (.alts a' l')
theorem NR.sub (b : Bool) : NR (X.sub b) (X.sub b) := .same _ (.inl (by cases b <;> rfl))
theorem sm1 {k : Int} {s : ByteArray} {n p p' : Int} {b b' : Tree} (h : Sm b b') : Sm ⟨k, s, n, p, [b]⟩ ⟨k, s, n, p', [b']⟩ := .mk _ _ _ _ _ _ _ (.cons _ _ _ _ h .nil)
theorem sm2 {k : Int} {s : ByteArray} {n p p' : Int} {a a' b b' : Tree} (g : Sm a a') (h : Sm b b') : Sm ⟨k, s, n, p, [a, b]⟩ ⟨k, s, n, p', [a', b']⟩ := .mk _ _ _ _ _ _ _ (.cons _ _ _ _ g (.cons _ _ _ _ h .nil))
/-- a number, ahead of a sign ) -/
theorem der_single (b q : Tok) (r : List Tok) (hb : b.f0 = 3) (hq : isT q ⟨#[41]⟩ = true) : Der .expr (b :: q :: r) ⟨9, ⟨#[]⟩, b.f2, b.f3, []⟩ (q :: r) := by
  have no : ∀ s : ByteArray, s.data.toList ≠ [41] → isW (q :: r) s = false := fun s hs => by rw [isW_cons]; exact isT_other hq (fun e => hs e.symm)
  have hk := isT_kind hq
  have hat : atomB (q :: r) = false := by
    unfold atomB
    rw [no _ (by decide)]
    show (false || (q.f0 == 1 || q.f0 == 2 || q.f0 == 3)) = false
    simp
    omega
  have h1 : Der .atom (b :: q :: r) ⟨9, ⟨#[]⟩, b.f2, b.f3, []⟩ (q :: r) := .int b _ hb
  have h2 : Der .app (b :: q :: r) ⟨9, ⟨#[]⟩, b.f2, b.f3, []⟩ (q :: r) := .app _ _ _ _ _ h1 (.args0 _ _ _ hat)
  have h3 : Der (.lev true) (b :: q :: r) ⟨9, ⟨#[]⟩, b.f2, b.f3, []⟩ (q :: r) := .lev true _ _ _ _ _ h2 (.ops0 true _ _ (no _ (by decide)) (no _ (by decide)))
  have h4 : Der (.lev false) (b :: q :: r) ⟨9, ⟨#[]⟩, b.f2, b.f3, []⟩ (q :: r) := .lev false _ _ _ _ _ h3 (.ops0 false _ _ (no _ (by decide)) (no _ (by decide)))
  exact .cmpE _ _ _ (.cmp0 _ _ _ h4 (no _ (by decide)) (no _ (by decide)))
theorem der_sim {nt : N} {l : List Tok} {t : Tree} {r : List Tok} (h : Der nt l t r) : ∀ nt' l', NR nt nt' → Rd l l' → ∃ t' r', Der nt' l' t' r' ∧ Sm t t' ∧ Rd r r' := by
  induction h with
  | lam a x d l b r ha hx hd_ hb ih =>
    intro nt' l' hn hr
    cases hn
    obtain ⟨a', r1, rfl, sa, ta, hr1⟩ := hr.invT ha
    obtain ⟨x', r2, rfl, sx, hr2⟩ := hr1.inv (by omega)
    obtain ⟨d', r3, rfl, sd, td, hr3⟩ := hr2.invT hd_
    obtain ⟨b', r', h1, h2, h3⟩ := ih _ _ (.same _ (.inr (.inl rfl))) hr3
    exact ⟨_, r', .lam a' x' d' r3 b' r' ta (by rw [← sx.1]; exact hx) td h1, by rw [sx.2.1]; exact sm1 h2, h3⟩
  | let_ k a x e i l l2 v b r hk hx he hv hi hb ih1 ih2 =>
    intro nt' l' hn hr
    cases hn
    have hka : ∃ s, isT a s = true := by rcases hk with ⟨h, _⟩ | ⟨h, _⟩ <;> exact ⟨_, h⟩
    obtain ⟨s, hs⟩ := hka
    obtain ⟨a', r1, rfl, sa, _, hr1⟩ := hr.invT hs
    obtain ⟨x', r2, rfl, sx, hr2⟩ := hr1.inv (by omega)
    obtain ⟨e', r3, rfl, se, te, hr3⟩ := hr2.invT he
    obtain ⟨v', q1, h1, h2, h3⟩ := ih1 _ _ (.same _ (.inr (.inl rfl))) hr3
    obtain ⟨i', r4, rfl, si, ti, hr4⟩ := h3.invT hi
    obtain ⟨b', r', g1, g2, g3⟩ := ih2 _ _ (.same _ (.inr (.inl rfl))) hr4
    refine ⟨_, r', .let_ k a' x' e' i' r3 r4 v' b' r' ?_ (by rw [← sx.1]; exact hx) te h1 ti g1, by rw [sx.2.1]; exact sm2 h2 g2, g3⟩
    rcases hk with ⟨h, e⟩ | ⟨h, e⟩
    · exact .inl ⟨by rw [← sa.isT]; exact h, e⟩
    · exact .inr ⟨by rw [← sa.isT]; exact h, e⟩
  | case_ a o c l l2 l3 v b t r ha hv ho hc hb ht ih1 ih2 ih3 =>
    intro nt' l' hn hr
    cases hn
    obtain ⟨a', r1, rfl, sa, ta, hr1⟩ := hr.invT ha
    obtain ⟨v', q1, h1, h2, h3⟩ := ih1 _ _ (.same _ (.inr (.inl rfl))) hr1
    obtain ⟨o', r2, rfl, so, tto, hr2⟩ := h3.invT ho
    obtain ⟨c', r3, rfl, sc, tc, hr3⟩ := hr2.invT hc
    obtain ⟨b', q2, g1, g2, g3⟩ := ih2 _ _ (.same _ (.inr (.inr rfl))) hr3
    obtain ⟨t', r', k1, k2, k3⟩ := ih3 _ _ (.alts a.f3 a'.f3 [v, b] [v', b'] (.cons _ _ _ _ h2 (.cons _ _ _ _ g2 .nil))) g3
    exact ⟨t', r', .case_ a' o' c' r1 r3 q2 v' b' t' r' ta h1 tto tc g1 k1, k2, k3⟩
  | altsMore at_ ts p l a r t r' hp hlen ha ht ih1 ih2 =>
    intro nt' l' hn hr
    cases hn with
    | same _ h => rcases h with h | h | h <;> cases h
    | alts _ a' _ ts' hs =>
      obtain ⟨p', r1, rfl, sp, tp, hr1⟩ := hr.invT hp
      obtain ⟨x', q1, h1, h2, h3⟩ := ih1 _ _ (.same _ (.inr (.inr rfl))) hr1
      obtain ⟨t', q2, k1, k2, k3⟩ := ih2 _ _ (.alts at_ a' (ts ++ [a]) (ts' ++ [x']) (hs.append (.cons _ _ _ _ h2 .nil))) h3
      exact ⟨t', q2, .altsMore a' ts' p' r1 x' q1 t' q2 tp (by rw [← hs.len]; exact hlen) h1 k1, k2, k3⟩
  | altsEnd at_ ts q r hq =>
    intro nt' l' hn hr
    cases hn with
    | same _ h => rcases h with h | h | h <;> cases h
    | alts _ a' _ ts' hs =>
      obtain ⟨q', r1, rfl, sq, tq, hr1⟩ := hr.invT hq
      exact ⟨_, r1, .altsEnd a' ts' q' r1 tq, .mk _ _ _ _ _ _ _ hs, hr1⟩
  | alt_ c vs a l b r hc hv hlen ha hb ih =>
    intro nt' l' hn hr
    cases hn
    obtain ⟨c', r1, rfl, sc, hr1⟩ := hr.inv (by omega)
    obtain ⟨vs', r2, rfl, hr2, hv', hl', hsm⟩ := hr1.append hv
    obtain ⟨a', r3, rfl, sa, ta, hr3⟩ := hr2.invT ha
    obtain ⟨b', r', g1, g2, g3⟩ := ih _ _ (.same _ (.inr (.inl rfl))) hr3
    refine ⟨_, r', .alt_ c' vs' a' r3 b' r' (by rw [← sc.1]; exact hc) hv' (by omega) ta g1, ?_, g3⟩
    rw [sc.2.1, hl']
    exact .mk _ _ _ _ _ _ _ (hsm.append (.cons _ _ _ _ g2 .nil))
  | cmpE l t r hc ih =>
    intro nt' l' hn hr
    cases hn
    obtain ⟨t', r', g1, g2, g3⟩ := ih _ _ (.same _ (.inl rfl)) hr
    exact ⟨t', r', .cmpE _ _ _ g1, g2, g3⟩
  | cmp0 l t r hs h1 h2 ih =>
    intro nt' l' hn hr
    cases hn
    obtain ⟨t', r', g1, g2, g3⟩ := ih _ _ (.same _ (.inl rfl)) hr
    exact ⟨t', r', .cmp0 _ _ _ g1 (g3.stop (by decide) h1) (g3.stop (by decide) h2), g2, g3⟩
  | cmp1 l t o r1 b r hs ho hb ih1 ih2 =>
    intro nt' l' hn hr
    cases hn
    obtain ⟨t', q1, g1, g2, g3⟩ := ih1 _ _ (.same _ (.inl rfl)) hr
    have hko : ∃ s, isT o s = true := by rcases ho with h | h <;> exact ⟨_, h⟩
    obtain ⟨s, hs'⟩ := hko
    obtain ⟨o', r2, rfl, so, _, hr2⟩ := g3.invT hs'
    obtain ⟨b', r', k1, k2, k3⟩ := ih2 _ _ (.same _ (.inl rfl)) hr2
    refine ⟨_, r', .cmp1 _ t' o' r2 b' r' g1 (by rw [← so.isT, ← so.isT]; exact ho) k1, ?_, k3⟩
    show Sm ⟨10, o.f1, 0, t.f3, [t, b]⟩ ⟨10, o'.f1, 0, t'.f3, [t', b']⟩
    rw [so.2.1]
    exact sm2 g2 k2
  | lev b l t r1 t' r hs ho ih1 ih2 =>
    intro nt' l' hn hr
    cases hn
    obtain ⟨u, q1, g1, g2, g3⟩ := ih1 _ _ (NR.sub b) hr
    obtain ⟨u', r', k1, k2, k3⟩ := ih2 _ _ (.ops b t u g2) g3
    exact ⟨u', r', .lev b _ u q1 u' r' g1 k1, k2, k3⟩
  | ops0 b t r h1 h2 =>
    intro nt' l' hn hr
    cases hn with
    | same _ h => rcases h with h | h | h <;> cases h
    | ops _ _ u hs => exact ⟨u, l', .ops0 b u l' (hr.stop (by cases b <;> decide) h1) (hr.stop (by cases b <;> decide) h2), hs, hr⟩
  | ops1 b t o l x r t' r' ho hx ht ih1 ih2 =>
    intro nt' l' hn hr
    cases hn with
    | same _ h => rcases h with h | h | h <;> cases h
    | ops _ _ u hs =>
      have hko : ∃ s, isT o s = true := by rcases ho with h | h <;> exact ⟨_, h⟩
      obtain ⟨s, hs'⟩ := hko
      obtain ⟨o', r2, rfl, so, _, hr2⟩ := hr.invT hs'
      obtain ⟨x', q1, g1, g2, g3⟩ := ih1 _ _ (NR.sub b) hr2
      obtain ⟨u', r3, k1, k2, k3⟩ := ih2 _ _ (.ops b _ (opT o'.f1 u x') (by
        show Sm ⟨10, o.f1, 0, t.f3, [t, x]⟩ ⟨10, o'.f1, 0, u.f3, [u, x']⟩
        rw [so.2.1]
        exact sm2 hs g2)) g3
      exact ⟨u', r3, .ops1 b u o' r2 x' q1 u' r3 (by rw [← so.isT, ← so.isT]; exact ho) g1 k1, k2, k3⟩
  | app l t r1 t' r ha ht ih1 ih2 =>
    intro nt' l' hn hr
    cases hn
    obtain ⟨u, q1, g1, g2, g3⟩ := ih1 _ _ (.same _ (.inl rfl)) hr
    obtain ⟨u', r', k1, k2, k3⟩ := ih2 _ _ (.args _ t u g2) g3
    exact ⟨u', r', .app _ u q1 u' r' g1 (by rw [hr.con]; exact k1), k2, k3⟩
  | args0 c t r h =>
    intro nt' l' hn hr
    cases hn with
    | same _ h => rcases h with h | h | h <;> cases h
    | args _ _ u hs => exact ⟨u, l', .args0 c u l' (by rw [hr.atom]; exact h), hs, hr⟩
  | argsC t l a r t' r' hlen ha ht ih1 ih2 =>
    intro nt' l' hn hr
    cases hn with
    | same _ h => rcases h with h | h | h <;> cases h
    | args _ _ u hs =>
      obtain ⟨a', q1, g1, g2, g3⟩ := ih1 _ _ (.same _ (.inl rfl)) hr
      obtain ⟨e0, e1, e2, e4⟩ := hs.parts
      obtain ⟨u', r3, k1, k2, k3⟩ := ih2 _ _ (.args true _ ⟨u.f0, u.f1, u.f2, u.f3, u.f4 ++ [a']⟩ (by
        rw [e0, e1, e2]
        exact .mk _ _ _ _ _ _ _ (e4.append (.cons _ _ _ _ g2 .nil)))) g3
      exact ⟨u', r3, .argsC u _ a' q1 u' r3 (by rw [← e4.len]; exact hlen) g1 k1, k2, k3⟩
  | argsA t l a r t' r' ha ht ih1 ih2 =>
    intro nt' l' hn hr
    cases hn with
    | same _ h => rcases h with h | h | h <;> cases h
    | args _ _ u hs =>
      obtain ⟨a', q1, g1, g2, g3⟩ := ih1 _ _ (.same _ (.inl rfl)) hr
      obtain ⟨u', r3, k1, k2, k3⟩ := ih2 _ _ (.args false _ ⟨3, ⟨#[]⟩, 0, u.f3, [u, a']⟩ (sm2 hs g2)) g3
      exact ⟨u', r3, .argsA u _ a' q1 u' r3 g1 k1, k2, k3⟩
  | paren a q l t r ha ht hq ih =>
    intro nt' l' hn hr
    cases hn
    obtain ⟨a', r1, rfl, sa, ta, hr1⟩ := hr.invT ha
    obtain ⟨t', q1, g1, g2, g3⟩ := ih _ _ (.same _ (.inr (.inl rfl))) hr1
    obtain ⟨q', r2, rfl, sq, tq, hr2⟩ := g3.invT hq
    exact ⟨t', r2, .paren a' q' r1 t' r2 ta g1 tq, g2, hr2⟩
  | var x r h =>
    intro nt' l' hn hr
    cases hn
    obtain ⟨x', r1, rfl, sx, hr1⟩ := hr.inv (by omega)
    exact ⟨_, r1, .var x' r1 (by rw [← sx.1]; exact h), by rw [sx.2.1]; exact .mk _ _ _ _ _ _ _ .nil, hr1⟩
  | con x r h =>
    intro nt' l' hn hr
    cases hn
    obtain ⟨x', r1, rfl, sx, hr1⟩ := hr.inv (by omega)
    exact ⟨_, r1, .con x' r1 (by rw [← sx.1]; exact h), by rw [sx.2.1]; exact .mk _ _ _ _ _ _ _ .nil, hr1⟩
  | int x r h =>
    intro nt' l' hn hr
    cases hn
    cases hr with
    | tok _ b _ l' h1 h2 => exact ⟨_, l', .int b l' (by rw [← h1.1]; exact h), by rw [h1.2.2]; exact .mk _ _ _ _ _ _ _ .nil, h2⟩
    | par _ b p q _ l' h1 h2 h3 h4 h5 => exact ⟨_, l', .paren p q _ _ _ h3 (der_single b q l' (by rw [← h2.1]; exact h) h4) h4, by rw [h2.2.2]; exact .mk _ _ _ _ _ _ _ .nil, h5⟩
end Go.Proofs.YtajcnjdinmgpjaaDoor.X
/- Texts that are made of tokens. -/
namespace Go.Proofs.YtajcnjdinmgpjaaDoor.X
open Go.Proofs.YtajcnjdinmgpjaaDoor.P
theorem parse_of_der {s : ByteArray} {l : List Tok} {t : Tree} {d : Int} (hs : s.size ≤ 4096) (hl : lexAll s = .ok l) (hd : Der .expr l t []) (h1 : 1 ≤ d) (h2 : d ≤ 200) (ht : ((tdp t : Nat) : Int) ≤ d) : parseM s d = .ok t := by
  have hlen := lexAll_len hl
  have hw : pWhole l = .ok t [] := by
    unfold pWhole
    rw [(expr_iff 5000 l t [] (by omega)).2 hd, PR.bind_ok]
    rfl
  unfold parseM
  rw [if_neg (by omega), if_neg (by omega), hl]
  simp only
  rw [hw]
  show (if d < ((tdp t : Nat) : Int) then _ else _) = _
  rw [if_neg (by omega)]
theorem parse_inv {s : ByteArray} {t : Tree} {d : Int} (h : parseM s d = .ok t) : s.size ≤ 4096 ∧ 1 ≤ d ∧ d ≤ 200 ∧ ((tdp t : Nat) : Int) ≤ d ∧ ∃ l, lexAll s = .ok l ∧ Der .expr l t [] := by
  unfold parseM at h
  split at h
  · cases h
  · split at h
    · cases h
    · cases hl : lexAll s with
      | error e => obtain ⟨a, c⟩ := e; rw [hl] at h; cases h
      | ok l =>
        rw [hl] at h
        simp only at h
        cases hw : pWhole l with
        | fail r => rw [hw] at h; cases h
        | ok t' r =>
          rw [hw] at h
          simp only at h
          split at h
          · cases h
          · cases h
            exact ⟨by omega, by omega, by omega, by omega, l, rfl, (whole_tsz hw).2⟩
/-! ### a token's own text -/
def vt (t : Tok) : Prop := specF t.f1.data.toList = .ok (t.f0, t.f1.data.toList.length, t.f2)
theorem sgn_plain (b : UInt8) (r : List UInt8) (h1 : b ≠ 45) (h2 : b ≠ 61) (h3 : sg1L.contains b = false) : sgn (b :: r) = 0 := by
  show (if (b = 45 ∧ r.head? = some 62) ∨ (b = 61 ∧ r.head? = some 61) then 2 else if sg1L.contains b then 1 else 0) = 0
  rw [if_neg (by rintro (h | h); exact h1 h.1; exact h2 h.1), h3]
  rfl
theorem sgn_one (b : UInt8) (r : List UInt8) (h1 : b ≠ 45) (h2 : b ≠ 61) (h3 : sg1L.contains b = true) : sgn (b :: r) = 1 := by
  show (if (b = 45 ∧ r.head? = some 62) ∨ (b = 61 ∧ r.head? = some 61) then 2 else if sg1L.contains b then 1 else 0) = 1
  rw [if_neg (by rintro (h | h); exact h1 h.1; exact h2 h.1), h3]
  rfl
theorem specF_head {x : List UInt8} {p : Int × Nat × Int} (h : specF x = .ok p) : x.dropWhile isBlank = x := by
  obtain ⟨k, n, v⟩ := p
  have hsz := specF_size h
  cases x with
  | nil => rfl
  | cons b r =>
    rw [List.dropWhile_cons]
    by_cases hb : isBlank b = true
    · exfalso
      have hb' : b = 32 ∨ b = 10 ∨ b = 9 := by
        unfold isBlank blanks at hb
        simpa using hb
      unfold specF at h
      rcases hb' with rfl | rfl | rfl
      all_goals
        rw [if_pos (by unfold wl; rw [List.takeWhile_cons, if_neg (by decide)]; rfl), if_pos (sgn_plain _ r (by decide) (by decide) (by decide))] at h
        cases h
    · rw [if_neg hb]
theorem LT_vt : ∀ (N : Nat) (s : List UInt8) (off : Nat) (ts : List Tok), s.length ≤ N → LT s off = .ok ts → ∀ t ∈ ts, vt t
  | N, s, off, ts, hN, h => by
    rcases LT_cases h with ⟨h1, rfl⟩ | ⟨k, n, v, ts', h1, h2, h3, rfl⟩
    · intro t ht; cases ht
    · have hns := specF_size h2
      have hle := dw_le s
      have hdl : ((s.dropWhile isBlank).drop n).length = (s.dropWhile isBlank).length - n := List.length_drop
      intro t ht
      rcases List.mem_cons.1 ht with rfl | ht
      · have e : ((s.dropWhile isBlank).take n).length = n := by rw [List.length_take]; omega
        show specF ((s.dropWhile isBlank).take n) = .ok (k, ((s.dropWhile isBlank).take n).length, v)
        rw [e]
        refine specF_same h2 (by rw [List.take_take, Nat.min_self]) (.inl ?_)
        rw [List.drop_take, Nat.sub_self, List.take_zero]
        rfl
      · cases N with
        | zero => omega
        | succ N => exact LT_vt N _ _ ts' (by omega) h3 t ht
theorem LT_blank {b : UInt8} (hb : isBlank b = true) (y : List UInt8) (off : Nat) : LT (b :: y) off = LT y (off + 1) := by
  have hd : (b :: y).dropWhile isBlank = y.dropWhile isBlank := by rw [List.dropWhile_cons, if_pos hb]
  have hle := dw_le y
  rw [LT_eq (b :: y), LT_eq y, hd, show off + ((b :: y).length - (y.dropWhile isBlank).length) = off + 1 + (y.length - (y.dropWhile isBlank).length) by rw [List.length_cons]; omega]
theorem LT_nil (off : Nat) : LT [] off = .ok [] := by rw [LT_eq]; rfl
/-- A token's text, and what does not touch it. -/
theorem LT_tok {t : Tok} (ht : vt t) (y : List UInt8) (off : Nat) (hy : y.head? = none ∨ ∃ c, y.head? = some c ∧ sep c) : LT (t.f1.data.toList ++ y) off = match LT y (off + t.f1.data.toList.length) with | .error e => .error e | .ok ts => .ok (mkTok t.f0 t.f1.data.toList t.f2 off :: ts) := by
  have hsz := specF_size ht
  have hdr : (t.f1.data.toList ++ y).drop t.f1.data.toList.length = y := List.drop_left
  have hsp : specF (t.f1.data.toList ++ y) = .ok (t.f0, t.f1.data.toList.length, t.f2) := by
    refine specF_same ht (by rw [List.take_left, List.take_length]) ?_
    unfold Nx
    rw [hdr]
    rcases hy with hy | ⟨c, hy, hc⟩
    · exact .inl hy
    · exact .inr (.inr ⟨c, hy, hc⟩)
  have hd := specF_head hsp
  rw [LT_next (by rw [hd]; intro e; rw [List.append_eq_nil_iff] at e; rw [e.1] at hsz; simp at hsz) (by rw [hd]; exact hsp), hd, Nat.sub_self, Nat.add_zero, hdr, List.take_left]
  cases LT y (off + t.f1.data.toList.length) <;> rfl
theorem mk_same (t : Tok) (off : Nat) : tokS t (mkTok t.f0 t.f1.data.toList t.f2 off) := ⟨rfl, by show t.f1 = ⟨t.f1.data.toList.toArray⟩; rw [Array.toArray_toList], rfl⟩
def wideL (l : List Tok) : List UInt8 := l.flatMap fun t => [10, 9, 32] ++ t.f1.data.toList ++ [32, 32]
def roundL (l : List Tok) : List UInt8 := l.flatMap fun t => if t.f0 = 3 then [32, 40] ++ t.f1.data.toList ++ [41, 32] else [32] ++ t.f1.data.toList
theorem wide_LT : ∀ (l : List Tok) (off : Nat), (∀ t ∈ l, vt t) → ∃ lw, LT (wideL l) off = .ok lw ∧ Rd l lw
  | [], off, _ => ⟨[], LT_nil off, .nil⟩
  | t :: l, off, h => by
    have ht := h t (by simp)
    have e : wideL (t :: l) = 10 :: 9 :: 32 :: (t.f1.data.toList ++ 32 :: 32 :: wideL l) := by
      unfold wideL
      simp [List.flatMap_cons]
    obtain ⟨lw, h1, h2⟩ := wide_LT l (off + 1 + 1 + 1 + t.f1.data.toList.length + 1 + 1) (fun x hx => h x (by simp [hx]))
    refine ⟨mkTok t.f0 t.f1.data.toList t.f2 (off + 1 + 1 + 1) :: lw, ?_, .tok _ _ _ _ (mk_same _ _) h2⟩
    rw [e, LT_blank (by decide), LT_blank (by decide), LT_blank (by decide), LT_tok ht _ _ (.inr ⟨32, rfl, sep32⟩), LT_blank (by decide), LT_blank (by decide), h1]
def tOpen : Tok := ⟨5, ⟨#[40]⟩, 0, 0⟩
def tShut : Tok := ⟨5, ⟨#[41]⟩, 0, 0⟩
theorem sep41 : sep 41 := ⟨by decide, by decide, by decide⟩
theorem isT_mk (t : Tok) (off : Nat) (s : ByteArray) : isT (mkTok t.f0 t.f1.data.toList t.f2 off) s = isT t s := ((mk_same t off).isT s).symm
/-- a sign ( or ) of its own, whatever comes behind -/
theorem LT_open (y : List UInt8) (off : Nat) : LT (40 :: y) off = match LT y (off + 1) with | .error e => .error e | .ok ts => .ok (mkTok 5 [40] 0 off :: ts) := by
  have hsp : specF (40 :: y) = .ok (5, 1, 0) := by
    unfold specF
    have h1 : wl (40 :: y) = 0 := by unfold wl; rw [List.takeWhile_cons, if_neg (by decide)]; rfl
    have h2 : sgn (40 :: y) = 1 := sgn_one _ y (by decide) (by decide) (by decide)
    rw [if_pos h1, h2, if_neg (by decide)]
  have hd := specF_head hsp
  rw [LT_next (by rw [hd]; simp) (by rw [hd]; exact hsp), hd, Nat.sub_self, Nat.add_zero]
  rfl
theorem LT_shut (y : List UInt8) (off : Nat) : LT (41 :: y) off = match LT y (off + 1) with | .error e => .error e | .ok ts => .ok (mkTok 5 [41] 0 off :: ts) := by
  have hsp : specF (41 :: y) = .ok (5, 1, 0) := by
    unfold specF
    have h1 : wl (41 :: y) = 0 := by unfold wl; rw [List.takeWhile_cons, if_neg (by decide)]; rfl
    have h2 : sgn (41 :: y) = 1 := sgn_one _ y (by decide) (by decide) (by decide)
    rw [if_pos h1, h2, if_neg (by decide)]
  have hd := specF_head hsp
  rw [LT_next (by rw [hd]; simp) (by rw [hd]; exact hsp), hd, Nat.sub_self, Nat.add_zero]
  rfl
theorem round_head (l : List Tok) : (roundL l).head? = none ∨ ∃ c, (roundL l).head? = some c ∧ sep c := by
  cases l with
  | nil => exact .inl rfl
  | cons t l =>
    right
    refine ⟨32, ?_, sep32⟩
    unfold roundL
    rw [List.flatMap_cons]
    split <;> rfl
theorem round_LT : ∀ (l : List Tok) (off : Nat), (∀ t ∈ l, vt t) → ∃ lr, LT (roundL l) off = .ok lr ∧ Rd l lr
  | [], off, _ => ⟨[], LT_nil off, .nil⟩
  | t :: l, off, h => by
    have ht := h t (by simp)
    by_cases h3 : t.f0 = 3
    · have e : roundL (t :: l) = 32 :: 40 :: (t.f1.data.toList ++ 41 :: 32 :: roundL l) := by
        unfold roundL
        rw [List.flatMap_cons, if_pos h3]
        simp
      obtain ⟨lr, h1, h2⟩ := round_LT l (off + 1 + 1 + t.f1.data.toList.length + 1 + 1) (fun x hx => h x (by simp [hx]))
      refine ⟨mkTok 5 [40] 0 (off + 1) :: mkTok t.f0 t.f1.data.toList t.f2 (off + 1 + 1) :: mkTok 5 [41] 0 (off + 1 + 1 + t.f1.data.toList.length) :: lr, ?_, .par _ _ _ _ _ _ h3 (mk_same _ _) ?_ ?_ h2⟩
      · rw [e, LT_blank (by decide), LT_open, LT_tok ht _ _ (.inr ⟨41, rfl, sep41⟩), LT_shut, LT_blank (by decide), h1]
      · show isT (mkTok tOpen.f0 tOpen.f1.data.toList tOpen.f2 _) _ = true
        rw [isT_mk]
        simp [isT, tOpen]
      · show isT (mkTok tShut.f0 tShut.f1.data.toList tShut.f2 _) _ = true
        rw [isT_mk]
        simp [isT, tShut]
    · have e : roundL (t :: l) = 32 :: (t.f1.data.toList ++ roundL l) := by
        unfold roundL
        rw [List.flatMap_cons, if_neg h3]
        simp
      obtain ⟨lr, h1, h2⟩ := round_LT l (off + 1 + t.f1.data.toList.length) (fun x hx => h x (by simp [hx]))
      refine ⟨mkTok t.f0 t.f1.data.toList t.f2 (off + 1) :: lr, ?_, .tok _ _ _ _ (mk_same _ _) h2⟩
      rw [e, LT_blank (by decide), LT_tok ht _ _ (round_head l), h1]
/-- What is read of a text is read of what is made of its tokens. -/
theorem parse_like {s s' : ByteArray} {t : Tree} {l : List Tok} (h : parseM s 200 = .ok t) (hl : lexAll s = .ok l) (hs' : s'.size ≤ 4096) (hr : ∃ l', LT s'.data.toList 0 = .ok l' ∧ Rd l l') : ∃ u, parseM s' 200 = .ok u ∧ Sm t u := by
  obtain ⟨h1, _, _, h4, l2, h5, h6⟩ := parse_inv h
  rw [hl] at h5
  cases h5
  obtain ⟨l', hl', hrd⟩ := hr
  obtain ⟨u, r', g1, g2, g3⟩ := der_sim h6 _ _ (.same _ (.inr (.inl rfl))) hrd
  cases g3
  exact ⟨u, parse_of_der hs' (by rw [lexAll_LT]; exact hl') g1 (by decide) (by decide) (by rw [← g2.tdp]; exact h4), g2⟩
theorem wide_parse {s w : ByteArray} {t : Tree} {l : List Tok} (h : parseM s 200 = .ok t) (hl : lexAll s = .ok l) (hw : w.data.toList = wideL l) (hs : w.size ≤ 4096) : ∃ u, parseM w 200 = .ok u ∧ Sm t u :=
  parse_like h hl hs (by rw [hw]; exact wide_LT l 0 (LT_vt _ _ 0 l (Nat.le_refl _) (by rw [← lexAll_LT]; exact hl)))
theorem round_parse {s w : ByteArray} {t : Tree} {l : List Tok} (h : parseM s 200 = .ok t) (hl : lexAll s = .ok l) (hw : w.data.toList = roundL l) (hs : w.size ≤ 4096) : ∃ u, parseM w 200 = .ok u ∧ Sm t u :=
  parse_like h hl hs (by rw [hw]; exact round_LT l 0 (LT_vt _ _ 0 l (Nat.le_refl _) (by rw [← lexAll_LT]; exact hl)))
end Go.Proofs.YtajcnjdinmgpjaaDoor.X
/- The calls whose answers the document fixes, of layer 3. -/
namespace Go.Proofs.YtajcnjdinmgpjaaDoor.X
open Go.RowKit Go.Proofs.YtajcnjdinmgpjaaDoorW.PrintWords Go.Proofs.YtajcnjdinmgpjaaDoorW.PrintLast Go.Proofs.YtajcnjdinmgpjaaDoorW.PrintMore Go.Proofs.YtajcnjdinmgpjaaDoor.P
def fxT : Tree := ⟨10, ⟨#[43]⟩, 0, 0, [⟨3, ⟨#[]⟩, 0, 0, [⟨1, ⟨#[102]⟩, 0, 0, []⟩, ⟨1, ⟨#[120]⟩, 0, 2, []⟩]⟩, ⟨9, ⟨#[]⟩, 1, 6, []⟩]⟩
def fxU : Tree := ⟨10, ⟨#[45]⟩, 0, 0, [⟨10, ⟨#[45]⟩, 0, 0, [⟨9, ⟨#[]⟩, 1, 0, []⟩, ⟨9, ⟨#[]⟩, 2, 4, []⟩]⟩, ⟨9, ⟨#[]⟩, 3, 8, []⟩]⟩
def fxV : Tree := ⟨6, ⟨#[65]⟩, 0, 0, [⟨6, ⟨#[66]⟩, 0, 3, []⟩, ⟨1, ⟨#[99]⟩, 0, 6, []⟩]⟩
theorem fx1 : parseM ⟨#[102, 32, 120, 32, 43, 32, 49]⟩ 9 = .ok fxT := by kernel_rfl
theorem fx2 : parseM ⟨#[102, 32, 120, 32, 43, 32, 49]⟩ 2 = .error (0, 31) := by kernel_rfl
theorem fx3 : parseM ⟨#[108, 101, 116, 32, 120, 32, 61, 32, 49]⟩ 9 = .error (9, 30) := by kernel_rfl
theorem fx4 : parseM ⟨#[99, 97, 115, 101, 32, 120, 32, 111, 102, 32, 123, 65, 32, 45, 62, 32, 49, 32, 124, 32, 125]⟩ 9 = .error (20, 30) := by kernel_rfl
theorem fx5 : parseM ⟨#[49, 32, 45, 32, 50, 32, 45, 32, 51]⟩ 9 = .ok fxU := by kernel_rfl
theorem fx6 : parseM ⟨#[49, 32, 60, 32, 50, 32, 60, 32, 51]⟩ 9 = .error (6, 30) := by kernel_rfl
theorem fx7 : parseM ⟨#[65, 32, 40, 66, 41, 32, 99]⟩ 9 = .ok fxV := by kernel_rfl
theorem fx8 : parseM ⟨#[120]⟩ 0 = .error (0, 1) := by kernel_rfl
/-- a tree lies in a block, and what it has -/
def At (w : World) (b : Nat) (t : Tree) (A : Option Addr) (c : Nat) : Prop := w.heap[b]? = some (.cells (cellsT t A c).toArray 25 (0, 0)) ∧ TAt w (fun _ => True) t A c
theorem At.below {w w1 : World} {b : Nat} {t : Tree} {A : Option Addr} {c : Nat} (h : At w b t A c) (hb : Below w.heap.size w w1) : At w1 b t A c := ⟨blk_below h.1 hb, h.2.below hb⟩
theorem At.alloc {w : World} {b : Nat} {t : Tree} {A : Option Addr} {c : Nat} (h : At w b t A c) (o : Obj) : At (w.alloc o) b t A c := h.below (below_alloc (Below.refl _ _) o)
theorem At.new {w : World} {ok : Nat → Prop} {t : Tree} {A : Option Addr} {c : Nat} (h : TAt w ok t A c) : At (w.alloc (.cells (cellsT t A c).toArray 25)) w.heap.size t A c := ⟨blk_new w _, (h.mono (fun _ _ => trivial)).below (below_alloc (Below.refl _ _) _)⟩
theorem errRel {w : World} {s : ByteArray} {d p c : Int} (h : parseM s d = .error (p, c)) : Calls Tryd.prog 7 #[.string s, .int .i64 d] w fun e w' => e = .returned (.tuple #[treeZ, .int .i64 p, .int .i64 c]) ∧ Below w.heap.size w w' := by
  have := Parse_calls s d w
  rw [h] at this
  exact this
theorem okRel {w : World} {s : ByteArray} {d : Int} {t : Tree} (h : parseM s d = .ok t) : Calls Tryd.prog 7 #[.string s, .int .i64 d] w fun e w' => ∃ A c, e = .returned (.tuple #[treeV t A c, .int .i64 0, .int .i64 0]) ∧ TAt w' (Iv w.heap.size w'.heap.size) t A c ∧ Below w.heap.size w w' := by
  have := Parse_calls s d w
  rw [h] at this
  exact this
theorem One_calls (t : Tree) (A A' : Option Addr) (c c' : Nat) (ok ok' : Nat → Prop) (w : World) (h : TAt w ok t A c) (h' : TAt w ok' t A' c') (hs : tsz t ≤ 1000000000000) :
    Calls Tryd.prog 14 #[treeV t A c, treeV t A' c'] w fun e w' => e = .returned (.bool true) ∧ Below w.heap.size w w' :=
  gossamerref02_One.calls (3 * tsz t) t.f0 t.f1 t.f2 t.f3 A c t.f4 t.f0 t.f1 t.f2 t.f3 A' c' t.f4 true w (Kd.F_now h.2.1) h.1 (Kd.F_now h'.2.1) h'.1 (One_f (tsz t) t (Nat.le_refl _) hs _ (Nat.le_refl _))
theorem Same_calls (t t' : Tree) (hS : Sm t t') (A A' : Option Addr) (c c' : Nat) (ok ok' : Nat → Prop) (w : World) (h : TAt w ok t A c) (h' : TAt w ok' t' A' c') (hs : tsz t ≤ 1000000000000) :
    Calls Tryd.prog 9 #[treeV t A c, treeV t' A' c'] w fun e w' => e = .returned (.bool true) ∧ Below w.heap.size w w' :=
  gossamerref02_Same.calls (3 * tsz t) t.f0 t.f1 t.f2 t.f3 A c t.f4 t'.f0 t'.f1 t'.f2 t'.f3 A' c' t'.f4 true w (Kd.F_now h.2.1) h.1 (Kd.F_now h'.2.1) h'.1 (Same_f (tsz t) t t' hS (Nat.le_refl _) hs _ (Nat.le_refl _))
theorem want_at (W : World) : At (((W.alloc (.cells #[.int .i64 1, .string ⟨#[102]⟩, .int .i64 0, .int .i64 0, .slice none 0 0, .int .i64 1, .string ⟨#[120]⟩, .int .i64 0, .int .i64 2, .slice none 0 0] 25)).alloc
      (.cells #[.int .i64 3, .string ⟨#[]⟩, .int .i64 0, .int .i64 0, .slice (some ⟨W.heap.size, 0, none⟩) 2 2, .int .i64 9, .string ⟨#[]⟩, .int .i64 1, .int .i64 6, .slice none 0 0] 25)).alloc
      (.cells #[.int .i64 10, .string ⟨#[43]⟩, .int .i64 0, .int .i64 0, .slice (some ⟨W.heap.size + 1, 0, none⟩) 2 2] 25)) (W.heap.size + 1 + 1) fxT (some ⟨W.heap.size + 1, 0, none⟩) 2 := by
  have b1 := blk_alloc (blk_alloc (blk_new W (.cells #[.int .i64 1, .string ⟨#[102]⟩, .int .i64 0, .int .i64 0, .slice none 0 0, .int .i64 1, .string ⟨#[120]⟩, .int .i64 0, .int .i64 2, .slice none 0 0] 25)) (.cells #[.int .i64 3, .string ⟨#[]⟩, .int .i64 0, .int .i64 0, .slice (some ⟨W.heap.size, 0, none⟩) 2 2, .int .i64 9, .string ⟨#[]⟩, .int .i64 1, .int .i64 6, .slice none 0 0] 25)) (.cells #[.int .i64 10, .string ⟨#[43]⟩, .int .i64 0, .int .i64 0, .slice (some ⟨W.heap.size + 1, 0, none⟩) 2 2] 25)
  have b2 := blk_alloc (blk_new (W.alloc (.cells #[.int .i64 1, .string ⟨#[102]⟩, .int .i64 0, .int .i64 0, .slice none 0 0, .int .i64 1, .string ⟨#[120]⟩, .int .i64 0, .int .i64 2, .slice none 0 0] 25)) (.cells #[.int .i64 3, .string ⟨#[]⟩, .int .i64 0, .int .i64 0, .slice (some ⟨W.heap.size, 0, none⟩) 2 2, .int .i64 9, .string ⟨#[]⟩, .int .i64 1, .int .i64 6, .slice none 0 0] 25)) (.cells #[.int .i64 10, .string ⟨#[43]⟩, .int .i64 0, .int .i64 0, .slice (some ⟨W.heap.size + 1, 0, none⟩) 2 2] 25)
  have b3 := blk_new ((W.alloc (.cells #[.int .i64 1, .string ⟨#[102]⟩, .int .i64 0, .int .i64 0, .slice none 0 0, .int .i64 1, .string ⟨#[120]⟩, .int .i64 0, .int .i64 2, .slice none 0 0] 25)).alloc (.cells #[.int .i64 3, .string ⟨#[]⟩, .int .i64 0, .int .i64 0, .slice (some ⟨W.heap.size, 0, none⟩) 2 2, .int .i64 9, .string ⟨#[]⟩, .int .i64 1, .int .i64 6, .slice none 0 0] 25)) (.cells #[.int .i64 10, .string ⟨#[43]⟩, .int .i64 0, .int .i64 0, .slice (some ⟨W.heap.size + 1, 0, none⟩) 2 2] 25)
  simp only [World.size_alloc] at b2 b3
  generalize ((W.alloc (.cells #[.int .i64 1, .string ⟨#[102]⟩, .int .i64 0, .int .i64 0, .slice none 0 0, .int .i64 1, .string ⟨#[120]⟩, .int .i64 0, .int .i64 2, .slice none 0 0] 25)).alloc (.cells #[.int .i64 3, .string ⟨#[]⟩, .int .i64 0, .int .i64 0, .slice (some ⟨W.heap.size, 0, none⟩) 2 2, .int .i64 9, .string ⟨#[]⟩, .int .i64 1, .int .i64 6, .slice none 0 0] 25)).alloc (.cells #[.int .i64 10, .string ⟨#[43]⟩, .int .i64 0, .int .i64 0, .slice (some ⟨W.heap.size + 1, 0, none⟩) 2 2] 25) = V at b1 b2 b3 ⊢
  have f1 : TAt V (fun _ => True) ⟨3, ⟨#[]⟩, 0, 0, [⟨1, ⟨#[102]⟩, 0, 0, []⟩, ⟨1, ⟨#[120]⟩, 0, 2, []⟩]⟩ (some ⟨W.heap.size, 0, none⟩) 2 :=
    TAt.with 3 ⟨#[]⟩ 0 0 (l := [⟨1, ⟨#[102]⟩, 0, 0, []⟩, ⟨1, ⟨#[120]⟩, 0, 2, []⟩]) (by decide) (F_two (x := ⟨1, ⟨#[102]⟩, 0, 0, []⟩) (y := ⟨1, ⟨#[120]⟩, 0, 2, []⟩) (A := none) (A' := none) (c := 0) (c' := 0) b1 trivial (TAt.nil _ _ _ _ _ _) (TAt.nil _ _ _ _ _ _)) (by simp)
  exact ⟨b3, TAt.with 10 ⟨#[43]⟩ 0 0 (l := [⟨3, ⟨#[]⟩, 0, 0, [⟨1, ⟨#[102]⟩, 0, 0, []⟩, ⟨1, ⟨#[120]⟩, 0, 2, []⟩]⟩, ⟨9, ⟨#[]⟩, 1, 6, []⟩]) (by decide) (F_two (x := ⟨3, ⟨#[]⟩, 0, 0, [⟨1, ⟨#[102]⟩, 0, 0, []⟩, ⟨1, ⟨#[120]⟩, 0, 2, []⟩]⟩) (y := ⟨9, ⟨#[]⟩, 1, 6, []⟩) (A := some ⟨W.heap.size, 0, none⟩) (A' := none) (c := 2) (c' := 0) b2 trivial f1 (TAt.nil _ _ _ _ _ _)) (by simp)⟩
abbrev fxW (W : World) (N : Nat) : World := ((W.alloc (.cells #[.int .i64 1, .string ⟨#[102]⟩, .int .i64 0, .int .i64 0, .slice none 0 0, .int .i64 1, .string ⟨#[120]⟩, .int .i64 0, .int .i64 2, .slice none 0 0] 25)).alloc
      (.cells #[.int .i64 3, .string ⟨#[]⟩, .int .i64 0, .int .i64 0, .slice (some ⟨N, 0, none⟩) 2 2, .int .i64 9, .string ⟨#[]⟩, .int .i64 1, .int .i64 6, .slice none 0 0] 25)).alloc
      (.cells #[.int .i64 10, .string ⟨#[43]⟩, .int .i64 0, .int .i64 0, .slice (some ⟨N + 1, 0, none⟩) 2 2] 25)
theorem below_end {w W V : World} (hB : Below w.heap.size w W) (h : Below W.heap.size W V) : Below w.heap.size w V := hB.trans (h.mono hB.size)
theorem fixA {w W : World} {b : Nat} {t : Tree} {A : Option Addr} {c : Nat} (h : At W b t A c) (hB : Below w.heap.size w W) {N : Nat} (hN : W.heap.size = N) : At (fxW W N) b t A c ∧ At (fxW W N) (N + 1 + 1) fxT (some ⟨N + 1, 0, none⟩) 2 ∧ Below w.heap.size w (fxW W N) := by
  subst hN
  exact ⟨((h.alloc _).alloc _).alloc _, want_at W, below_end hB (below_alloc (below_alloc (below_alloc (Below.refl _ _) _) _) _)⟩
/-- a tree that is no answer is stored -/
def objZ : Obj := .cells #[.int .i64 0, .string ⟨#[]⟩, .int .i64 0, .int .i64 0, .slice none 0 0] 25
abbrev objT (t : Tree) (A : Option Addr) (c : Nat) : Obj := .cells (cellsT t A c).toArray 25
/-- a call behind which an answer is stored -/
theorem At.step {w w1 : World} {b : Nat} {t : Tree} {A : Option Addr} {c : Nat} (h : At w b t A c) (hb : Below w.heap.size w w1) (o : Obj) : At (w1.alloc o) b t A c := (h.below hb).alloc o
theorem below_next {w W W1 : World} (hB : Below w.heap.size w W) (h : Below W.heap.size W W1) (o : Obj) : Below w.heap.size w (W1.alloc o) := below_end (below_end hB h) (below_alloc (Below.refl _ _) o)
set_option maxRecDepth 100000 in
set_option maxHeartbeats 4000000 in
theorem fixed_calls (w : World) : Calls Tryd.prog 6 #[] w fun e w' => e = .returned (.bool true) ∧ Below w.heap.size w w' := by
  go_enter Tryd.func6, Tryd.ntmps6
  go_wp2_with fail
  refine (okRel fx1).mono ?_
  rintro e w1 ⟨A1, c1, rfl, hT1, hB1⟩
  have H := Lib.hid (fixA (At.new hT1) (below_alloc hB1 (objT fxT A1 c1)) (N := w1.heap.size + 1) (World.size_alloc _ _))
  clear hT1 hB1
  have e1 : treeV fxT A1 c1 = .agg #[.int .i64 10, .string ⟨#[43]⟩, .int .i64 0, .int .i64 0, .slice A1 2 c1] := rfl
  rw [e1]
  clear e1
  go_wp2_with fail
  refine (errRel fx2).mono ?_
  rintro e w2 ⟨rfl, hB2⟩
  have H2 := Lib.hid (And.intro (H.out.1.step hB2 objZ) (And.intro (H.out.2.1.step hB2 objZ) (below_next H.out.2.2 hB2 objZ)))
  clear hB2 H
  unfold treeZ
  go_wp2_with fail
  refine (errRel fx3).mono ?_
  rintro e w3 ⟨rfl, hB3⟩
  have H3 := Lib.hid (And.intro (H2.out.1.step hB3 objZ) (And.intro (H2.out.2.1.step hB3 objZ) (below_next H2.out.2.2 hB3 objZ)))
  clear hB3 H2
  unfold treeZ
  go_wp2_with fail
  refine (errRel fx4).mono ?_
  rintro e w4 ⟨rfl, hB4⟩
  have H4 := Lib.hid (And.intro (H3.out.1.step hB4 objZ) (And.intro (H3.out.2.1.step hB4 objZ) (below_next H3.out.2.2 hB4 objZ)))
  clear hB4 H3
  unfold treeZ
  go_wp2_with fail
  refine (okRel fx5).mono ?_
  rintro e w5 ⟨A5, c5, rfl, hT5, hB5⟩
  have H5 := Lib.hid (And.intro (H4.out.1.step hB5 (objT fxU A5 c5)) (And.intro (H4.out.2.1.step hB5 (objT fxU A5 c5)) (And.intro (At.new hT5) (below_next H4.out.2.2 hB5 (objT fxU A5 c5)))))
  clear hT5 hB5 H4
  have e5 : treeV fxU A5 c5 = .agg #[.int .i64 10, .string ⟨#[45]⟩, .int .i64 0, .int .i64 0, .slice A5 2 c5] := rfl
  rw [e5]
  clear e5
  go_wp2_with fail
  refine (errRel fx6).mono ?_
  rintro e w6 ⟨rfl, hB6⟩
  have H6 := Lib.hid (And.intro (H5.out.1.step hB6 objZ) (And.intro (H5.out.2.1.step hB6 objZ) (And.intro (H5.out.2.2.1.step hB6 objZ) (below_next H5.out.2.2.2 hB6 objZ))))
  clear hB6 H5
  unfold treeZ
  go_wp2_with fail
  refine (okRel fx7).mono ?_
  rintro e w7 ⟨A7, c7, rfl, hT7, hB7⟩
  have H7 := Lib.hid (And.intro (H6.out.1.step hB7 (objT fxV A7 c7)) (And.intro (H6.out.2.1.step hB7 (objT fxV A7 c7)) (And.intro (H6.out.2.2.1.step hB7 (objT fxV A7 c7)) (And.intro (At.new hT7) (below_next H6.out.2.2.2 hB7 (objT fxV A7 c7))))))
  clear hT7 hB7 H6
  have e7 : treeV fxV A7 c7 = .agg #[.int .i64 6, .string ⟨#[65]⟩, .int .i64 0, .int .i64 0, .slice A7 2 c7] := rfl
  rw [e7]
  clear e7
  go_wp2_with fail
  refine (errRel fx8).mono ?_
  rintro e w8 ⟨rfl, hB8⟩
  have H8 := Lib.hid (And.intro (H7.out.1.step hB8 objZ) (And.intro (H7.out.2.1.step hB8 objZ) (And.intro (H7.out.2.2.1.step hB8 objZ) (And.intro (H7.out.2.2.2.1.step hB8 objZ) (below_next H7.out.2.2.2.2 hB8 objZ)))))
  clear hB8 H7
  unfold treeZ
  have b1 : (w8.alloc objZ).heap[w1.heap.size]? = some (.cells #[.int .i64 10, .string ⟨#[43]⟩, .int .i64 0, .int .i64 0, .slice A1 2 c1] 25 (0, 0)) := H8.out.1.1
  have b4 : (w8.alloc objZ).heap[w1.heap.size + 1 + 1 + 1]? = some (.cells #[.int .i64 10, .string ⟨#[43]⟩, .int .i64 0, .int .i64 0, .slice (some ⟨w1.heap.size + 1 + 1, 0, none⟩) 2 2] 25 (0, 0)) := H8.out.2.1.1
  have b5 : (w8.alloc objZ).heap[w5.heap.size]? = some (.cells #[.int .i64 10, .string ⟨#[45]⟩, .int .i64 0, .int .i64 0, .slice A5 2 c5] 25 (0, 0)) := H8.out.2.2.1.1
  have b7 : (w8.alloc objZ).heap[w7.heap.size]? = some (.cells #[.int .i64 6, .string ⟨#[65]⟩, .int .i64 0, .int .i64 0, .slice A7 2 c7] 25 (0, 0)) := H8.out.2.2.2.1.1
  have hc5 := H8.out.2.2.1.2.1
  obtain ⟨ad, A4, c4, rfl, _, _, g2, _⟩ := at_T25 (Kd.F_now H8.out.2.2.1.2.2.1) 1 (by decide) (by decide)
  have g2' : (w8.alloc objZ).cell? ⟨(ad.add 5).block, (ad.add 5).off + 2, none⟩ = some (.int .i64 3) := g2
  clear g2
  obtain ⟨x0, x1, x2, x3, x4, xf, xl⟩ := open5 b1
  obtain ⟨y0, y1, y2, y3, y4, yf, yl⟩ := open5 b4
  have HB := Lib.hid (And.intro b5 (And.intro b7 g2'))
  clear b1 b4 b5 b7 g2'
  unfold objZ at *
  go_wp2_with fail
  refine (One_calls fxT A1 (some ⟨w1.heap.size + 1 + 1, 0, none⟩) c1 2 _ _ _ H8.out.1.2 H8.out.2.1.2 (by decide)).mono ?_
  rintro e w9 ⟨rfl, hB9⟩
  obtain ⟨b5, b7, g2⟩ := HB.out
  have b5' := blk_below b5 hB9
  have b7' := blk_below b7 hB9
  have g3 := (hB9.cell (World.block_lt_of_cell? _ _ g2)).trans g2
  have g4 : w9.cell? ⟨ad.block, ad.off + 5 + 2, none⟩ = some (.int .i64 3) := g3
  have lt3 := World.block_lt_of_cell? _ _ g4
  clear g3
  have hBB := below_end H8.out.2.2.2.2 hB9
  clear b5 b7 g2 hB9 x0 x1 x2 x3 x4 xf xl y0 y1 y2 y3 y4 yf yl HB H8
  obtain ⟨x0, x1, x2, x3, x4, xf, xl⟩ := open5 b5'
  obtain ⟨y0, y1, y2, y3, y4, yf, yl⟩ := open5 b7'
  clear b5' b7' x0 x1 x2 x3 y1 y2 y3
  go_wp2
  go_ret
  exact ⟨rfl, hBB⟩
end Go.Proofs.YtajcnjdinmgpjaaDoor.X
/- Contracts in one form. -/
namespace Go.Proofs.YtajcnjdinmgpjaaDoor.X
open Go.RowKit Go.Proofs.YtajcnjdinmgpjaaDoorW.PrintWords Go.Proofs.YtajcnjdinmgpjaaDoorW.PrintLast Go.Proofs.YtajcnjdinmgpjaaDoorW.PrintMore Go.Proofs.YtajcnjdinmgpjaaDoor.P
/-- what a call of Parse hands back, in one form -/
def PAny (w : World) (R : Except (Int × Int) Tree) (e : Ending) (w' : World) : Prop :=
  ∃ (v : Value) (p c : Int), e = .returned (.tuple #[v, .int .i64 p, .int .i64 c]) ∧ Below w.heap.size w w' ∧ (∃ a b d e' A l cc, v = .agg #[.int .i64 a, .string b, .int .i64 d, .int .i64 e', .slice A l cc]) ∧ ((∃ t, R = .ok t ∧ p = 0 ∧ c = 0) ∨ R = .error (p, c))
theorem Parse_any (s : ByteArray) (d : Int) (w : World) : Calls Tryd.prog 7 #[.string s, .int .i64 d] w (PAny w (parseM s d)) := by
  refine (Parse_calls s d w).mono ?_
  intro e w' h
  cases hr : parseM s d with
  | ok t =>
    rw [hr] at h
    obtain ⟨A, c, rfl, _, hB⟩ := h
    exact ⟨_, 0, 0, rfl, hB, ⟨_, _, _, _, _, _, _, rfl⟩, .inl ⟨t, rfl, rfl, rfl⟩⟩
  | error pc =>
    obtain ⟨p, c⟩ := pc
    rw [hr] at h
    obtain ⟨rfl, hB⟩ := h
    exact ⟨_, p, c, rfl, hB, ⟨_, _, _, _, _, _, _, rfl⟩, .inr rfl⟩
def LAny (w : World) (R : Except (Nat × Int) (List Tok)) (e : Ending) (w' : World) : Prop :=
  ∃ (A : Option Addr) (n cc : Nat) (p c : Int), e = .returned (.tuple #[.slice A n cc, .int .i64 p, .int .i64 c]) ∧ Below w.heap.size w w' ∧ ((∃ l, R = .ok l ∧ c = 0) ∨ c = 10 ∨ c = 11)
theorem RAll_any (s : ByteArray) (hs : s.size ≤ 1000000000) (w : World) : Calls Tryd.prog 8 #[.string s] w (LAny w (lexAll s)) := by
  refine (RAll_calls s hs w).mono ?_
  intro e w' h
  cases hr : lexAll s with
  | ok l =>
    rw [hr] at h
    obtain ⟨A, c, rfl, _, _, hB⟩ := h
    exact ⟨_, _, _, _, _, rfl, hB, .inl ⟨l, rfl, rfl⟩⟩
  | error pc =>
    obtain ⟨p, c⟩ := pc
    have hc := lexAll_err hr
    rw [hr] at h
    obtain ⟨rfl, hB⟩ := h
    exact ⟨none, 0, 0, _, _, rfl, hB, .inr hc⟩
theorem parseM_err {s : ByteArray} {d p c : Int} (h : parseM s d = .error (p, c)) : c ≠ 0 := by
  unfold parseM at h
  split at h
  · cases h; decide
  · split at h
    · cases h; decide
    · cases hl : lexAll s with
      | error e =>
        obtain ⟨a, c'⟩ := e
        rw [hl] at h
        have := lexAll_err hl
        cases h
        omega
      | ok l =>
        rw [hl] at h
        simp only at h
        cases hw : pWhole l with
        | fail r => rw [hw] at h; cases h; decide
        | ok t r =>
          rw [hw] at h
          simp only at h
          split at h
          · cases h; decide
          · cases h
theorem At.cells {w : World} {b : Nat} {t : Tree} {A : Option Addr} {c : Nat} (h : At w b t A c) : w.heap[b]? = some (.cells #[.int .i64 t.f0, .string t.f1, .int .i64 t.f2, .int .i64 t.f3, .slice A t.f4.length c] 25 (0, 0)) := h.1
end Go.Proofs.YtajcnjdinmgpjaaDoor.X
/- ParseLayout: the walk. -/
namespace Go.Proofs.YtajcnjdinmgpjaaDoor.X
open Go.RowKit Go.Proofs.YtajcnjdinmgpjaaDoorW.PrintWords Go.Proofs.YtajcnjdinmgpjaaDoorW.PrintLast Go.Proofs.YtajcnjdinmgpjaaDoorW.PrintMore Go.Proofs.YtajcnjdinmgpjaaDoor.P
theorem LT_txt : ∀ (N : Nat) (s : List UInt8) (off : Nat) (ts : List Tok), s.length ≤ N → LT s off = .ok ts → ∀ t ∈ ts, t.f1.data.toList.length ≤ s.length
  | N, s, off, ts, hN, h => by
    rcases LT_cases h with ⟨h1, rfl⟩ | ⟨k, n, v, ts', h1, h2, h3, rfl⟩
    · intro t ht; cases ht
    · have hns := specF_size h2
      have hle := dw_le s
      have hdl : ((s.dropWhile isBlank).drop n).length = (s.dropWhile isBlank).length - n := List.length_drop
      intro t ht
      rcases List.mem_cons.1 ht with rfl | ht
      · show ((s.dropWhile isBlank).take n).length ≤ _
        rw [List.length_take]
        omega
      · cases N with
        | zero => omega
        | succ N =>
          have := LT_txt N _ _ ts' (by omega) h3 t ht
          omega
theorem txt_le {s : ByteArray} {l : List Tok} (h : lexAll s = .ok l) : ∀ t ∈ l, t.f1.size ≤ s.size := by
  rw [lexAll_LT] at h
  exact LT_txt _ _ _ _ (Nat.le_refl _) h
theorem wide_snoc (l : List Tok) (t : Tok) : wideL (l ++ [t]) = wideL l ++ ([10, 9, 32] ++ t.f1.data.toList ++ [32, 32]) := by unfold wideL; rw [List.flatMap_append]; simp
theorem round_snoc3 (l : List Tok) (t : Tok) (h : t.f0 = 3) : roundL (l ++ [t]) = roundL l ++ ([32, 40] ++ t.f1.data.toList ++ [41, 32]) := by unfold roundL; rw [List.flatMap_append]; simp [h]
theorem round_snoc (l : List Tok) (t : Tok) (h : ¬ t.f0 = 3) : roundL (l ++ [t]) = roundL l ++ ([32] ++ t.f1.data.toList) := by unfold roundL; rw [List.flatMap_append]; simp [h]
theorem wide_cat (W x : ByteArray) : (W ++ ((⟨#[10, 9, 32]⟩ : ByteArray) ++ x ++ ⟨#[32, 32]⟩)).data.toList = W.data.toList ++ ([10, 9, 32] ++ x.data.toList ++ [32, 32]) := by rw [cat_list, cat_list, cat_list]
theorem round_cat3 (W x : ByteArray) : (W ++ ((⟨#[32, 40]⟩ : ByteArray) ++ x ++ ⟨#[41, 32]⟩)).data.toList = W.data.toList ++ ([32, 40] ++ x.data.toList ++ [41, 32]) := by rw [cat_list, cat_list, cat_list]
theorem round_cat (W x : ByteArray) : (W ++ ((⟨#[32]⟩ : ByteArray) ++ x)).data.toList = W.data.toList ++ ([32] ++ x.data.toList) := by rw [cat_list, cat_list]
set_option maxRecDepth 100000 in
set_option maxHeartbeats 4000000 in
theorem parseLayout_walk (a0 : ByteArray) (w : World) (h0 : a0.size ≤ 140737488351232) : Calls Tryd.prog 4 #[.string a0] w fun e w' => e = .returned (.bool true) ∧ Below w.heap.size w w' := by
  by_cases hbig : 800 < a0.size
  · have d0 : decide ((800 : Int) < (a0.size : Int)) = true := decide_eq_true (by omega)
    go_enter Tryd.func4, Tryd.ntmps4
    go_wp2_with fail
    refine (fixed_calls _).mono ?_
    rintro e w1 ⟨rfl, hB1⟩
    go_wp2_with fail
    refine (fixed_calls _).mono ?_
    rintro e w2 ⟨rfl, hB2⟩
    go_wp2
    exact bodyPost_ret (results_tmp rfl _ _ _) rfl ⟨rfl, below_step hB1 hB2⟩
  have d0 : decide ((800 : Int) < (a0.size : Int)) = false := decide_eq_false (by omega)
  cases hp : parseM a0 200 with
  | error pc =>
    obtain ⟨p, c⟩ := pc
    have hc := parseM_err hp
    have e1 : (c == 0) = false := by simpa using hc
    have HP := Lib.hid (fun w => errRel (w := w) hp)
    clear hp hc
    go_enter Tryd.func4, Tryd.ntmps4
    go_wp2_with fail
    refine (fixed_calls _).mono ?_
    rintro e w1 ⟨rfl, hB1⟩
    go_wp2_with fail
    refine (HP.out _).mono ?_
    rintro e w2 ⟨rfl, hB2⟩
    unfold treeZ
    have hBB := Lib.hid (below_next hB1 hB2 objZ)
    clear hB1 hB2
    go_wp2_with fail
    with_reducible refine (RAll_any _ ?hs _).mono ?_
    case hs => omega
    rintro e w3 ⟨B, n, bc, x, f, rfl, hB3, hF⟩
    have hBB3 := Lib.hid (below_end hBB.out hB3)
    clear hB3 hBB hF
    go_wp2
    go_ret
    exact ⟨rfl, hBB3.out⟩
  | ok t =>
    obtain ⟨_, _, _, _, l, hl, hd⟩ := parse_inv hp
    have hA := fun w => RAll_calls a0 (by omega) w
    rw [hl] at hA
    have HA := Lib.hid hA
    have HP := Lib.hid (fun w => okRel (w := w) hp)
    have HPL := Lib.hid (And.intro hp hl)
    have hlen := lexAll_len hl
    have HTL := Lib.hid (txt_le hl)
    clear hp hl hd hA
    go_enter Tryd.func4, Tryd.ntmps4
    go_wp2_with fail
    refine (fixed_calls _).mono ?_
    rintro e w1 ⟨rfl, hB1⟩
    go_wp2_with fail
    refine (HP.out _).mono ?_
    rintro e w2 ⟨A, c, rfl, hT, hB2⟩
    have H2 := Lib.hid (And.intro (At.new hT) (below_next hB1 hB2 (objT t A c)))
    clear hT hB1 hB2
    unfold treeV
    go_wp2_with fail
    refine (HA.out _).mono ?_
    rintro e w3 ⟨L, lc, rfl, hlc, hC, hB3⟩
    have H3 := Lib.hid (And.intro (H2.out.1.below hB3) (And.intro (below_end H2.out.2 hB3) hC))
    clear hC hB3 H2
    go_wp2_with fail
    have HPL2 := Lib.hid (And.intro hlen hlc)
    go_loopg [9, 10, 11] (l.length + 1) (fun gf v9 v10 v11 wx => ∃ (i : Nat) (W R : ByteArray), v9 = .string W ∧ v10 = .string R ∧ v11 = .int .i64 (i : Int) ∧ i ≤ l.length ∧ l.length < i + gf ∧ W.data.toList = wideL (l.take i) ∧ R.data.toList = roundL (l.take i) ∧ W.size ≤ 1000 * i ∧ R.size ≤ 1000 * i ∧ wx = w3)
    case atStart => exact ⟨0, ⟨#[]⟩, ⟨#[]⟩, rfl, rfl, rfl, by omega, by omega, rfl, rfl, Nat.le_refl _, Nat.le_refl _, rfl⟩
    case round =>
      obtain ⟨i, W, R, rfl, rfl, rfl, hi, hg, hW, hRR, hWs, hRs, rfl⟩ := hrel
      obtain ⟨g', rfl⟩ : ∃ g', gk = g' + 1 := ⟨gk - 1, by omega⟩
      by_cases hlt : i < l.length
      · obtain ⟨ad, rfl, q0, q1, _, _⟩ := at_T34 H3.out.2.2 (i : Int) (by omega) (by omega)
        obtain ⟨tk, htk⟩ : ∃ tk, tk = rd_T34 l (i : Int) := ⟨_, rfl⟩
        have hd : l.take (i + 1) = l.take i ++ [tk] := by
          rw [htk, List.take_succ_eq_append_getElem hlt]
          congr 2
          simp [rd_T34, hlt]
        rw [← htk, Int.toNat_natCast] at q0 q1
        have hks : tk.f1.size ≤ a0.size := HTL.out tk (by rw [htk]; simp [rd_T34, hlt])
        have hks' : tk.f1.size ≤ 800 := by omega
        have hWs' : W.size ≤ 1000000 := by omega
        have hRs' : R.size ≤ 1000000 := by omega
        clear htk
        have HD := Lib.hid (And.intro hd (And.intro hW hRR))
        clear hd hW hRR
        by_cases h3 : tk.f0 = 3
        · have e3 : (tk.f0 == 3) = true := by simpa using h3
          go_wp2_with fail
          go_roundg g'
          case measure => omega
          case rel => exact ⟨i + 1, _, _, rfl, rfl, by go_num, by omega, by omega, by rw [HD.out.1, wide_snoc, ← HD.out.2.1]; exact wide_cat W tk.f1, by rw [HD.out.1, round_snoc3 _ _ h3, ← HD.out.2.2]; exact round_cat3 R tk.f1, by rw [cat_size, cat_size, cat_size]; show W.size + (3 + tk.f1.size + 2) ≤ _; omega, by rw [cat_size, cat_size, cat_size]; show R.size + (2 + tk.f1.size + 2) ≤ _; omega, rfl⟩
        · have e3 : (tk.f0 == 3) = false := by simpa using h3
          go_wp2_with fail
          go_roundg g'
          case measure => omega
          case rel => exact ⟨i + 1, _, _, rfl, rfl, by go_num, by omega, by omega, by rw [HD.out.1, wide_snoc, ← HD.out.2.1]; exact wide_cat W tk.f1, by rw [HD.out.1, round_snoc _ _ h3, ← HD.out.2.2]; exact round_cat R tk.f1, by rw [cat_size, cat_size, cat_size]; show W.size + (3 + tk.f1.size + 2) ≤ _; omega, by rw [cat_size, cat_size]; show R.size + (1 + tk.f1.size) ≤ _; omega, rfl⟩
      · obtain rfl : i = l.length := by omega
        rw [List.take_length] at hW hRR
        have HWR := Lib.hid (And.intro hW hRR)
        clear hW hRR hlt
        by_cases hb1 : 4096 < W.size
        · have d1 : decide ((4096 : Int) < (W.size : Int)) = true := decide_eq_true (by omega)
          go_wp2
          go_ret
          exact ⟨rfl, H3.out.2.1⟩
        · have d1 : decide ((4096 : Int) < (W.size : Int)) = false := decide_eq_false (by omega)
          by_cases hb2 : 4096 < R.size
          · have d2 : decide ((4096 : Int) < (R.size : Int)) = true := decide_eq_true (by omega)
            go_wp2
            go_ret
            exact ⟨rfl, H3.out.2.1⟩
          · have d2 : decide ((4096 : Int) < (R.size : Int)) = false := decide_eq_false (by omega)
            obtain ⟨u1, k1, s1⟩ := wide_parse HPL.out.1 HPL.out.2 HWR.out.1 (by omega)
            obtain ⟨u2, k2, s2⟩ := round_parse HPL.out.1 HPL.out.2 HWR.out.2 (by omega)
            have hts : tsz t ≤ 1000000000000 := by
              obtain ⟨_, _, _, _, l', hl', hd⟩ := parse_inv HPL.out.1
              have := der_tsz hd
              have := lexAll_len hl'
              simp [base] at *
              omega
            have HP1 := Lib.hid (fun w => okRel (w := w) k1)
            have HP2 := Lib.hid (fun w => okRel (w := w) k2)
            have HS := Lib.hid (And.intro s1 s2)
            clear k1 k2 s1 s2
            go_wp2_with fail
            refine (HP1.out _).mono ?_
            rintro e w5 ⟨A5, c5, rfl, hT5, hB5⟩
            have H5 := Lib.hid (And.intro (H3.out.1.step hB5 (objT u1 A5 c5)) (And.intro (At.new hT5) (below_next H3.out.2.1 hB5 (objT u1 A5 c5))))
            clear H3 hB5 hT5
            unfold treeV
            go_wp2_with fail
            refine (HP2.out _).mono ?_
            rintro e w6 ⟨A6, c6, rfl, hT6, hB6⟩
            have H6 := Lib.hid (And.intro (H5.out.1.step hB6 (objT u2 A6 c6)) (And.intro (H5.out.2.1.step hB6 (objT u2 A6 c6)) (And.intro (At.new hT6) (below_next H5.out.2.2 hB6 (objT u2 A6 c6)))))
            clear H5 hB6 hT6
            unfold treeV
            obtain ⟨p0, p1, p2, p3, p4, pf, pl⟩ := open5 H6.out.1.cells
            obtain ⟨q0, q1, q2, q3, q4, qf, ql⟩ := open5 H6.out.2.1.cells
            have e1 : objT u2 A6 c6 = .cells #[.int .i64 u2.f0, .string u2.f1, .int .i64 u2.f2, .int .i64 u2.f3, .slice A6 u2.f4.length c6] 25 := rfl
            rw [e1] at p0 p1 p2 p3 p4 pf pl q0 q1 q2 q3 q4 qf ql
            clear e1
            go_wp2_with fail
            refine (Same_calls t u1 HS.out.1 A A5 c c5 _ _ _ H6.out.1.2 H6.out.2.1.2 hts).mono ?_
            rintro e w8 ⟨rfl, hB8⟩
            have H8 := Lib.hid (And.intro (H6.out.1.below hB8) (And.intro (H6.out.2.2.1.below hB8) (below_end H6.out.2.2.2 hB8)))
            clear H6 hB8 p0 p1 p2 p3 p4 pf pl q0 q1 q2 q3 q4 qf ql
            obtain ⟨p0, p1, p2, p3, p4, pf, pl⟩ := open5 H8.out.1.cells
            obtain ⟨q0, q1, q2, q3, q4, qf, ql⟩ := open5 H8.out.2.1.cells
            go_wp2_with fail
            refine (Same_calls t u2 HS.out.2 A A6 c c6 _ _ _ H8.out.1.2 H8.out.2.1.2 hts).mono ?_
            rintro e w9 ⟨rfl, hB9⟩
            have H9 := Lib.hid (below_end H8.out.2.2 hB9)
            clear H8 hB9 p0 p1 p2 p3 p4 pf pl q0 q1 q2 q3 q4 qf ql
            go_wp2
            go_ret
            exact ⟨rfl, H9.out⟩
end Go.Proofs.YtajcnjdinmgpjaaDoor.X
/- ParseLayout: the row and its card: for every input the law returns true, and each argument reads as it did. The condition: the listed package-level variables hold what the program's text lays (the card ties that). -/
namespace Go.Proofs.YtajcnjdinmgpjaaDoor.parseLayout
open Go Go.ChangeShapes Go.WideShapes Go.ChangeAt Go.RowKit Go.Proofs.YtajcnjdinmgpjaaDoor.X
open Go.ChangeMaps (open_string shut_string)
set_option linter.unusedVariables false
theorem own : ownKnob Tryd.prog.godebug = none := by kernel_rfl
set_option maxRecDepth 1000000 in
theorem laid_met (os : Os) (args : Array Value) : laidMet Tryd.prog Rows.parseLayoutRow.laid ((laidWorld os).forCall (fun _ _ => 0) ⟨#[], args, []⟩).memory :=
  laidMet_of_run' 10 (by kernel_rfl) (by kernel_rfl)
theorem reads (os : Os) {H : Type} (enc : TypeId × Value → H) : ∃ places, DataW.whole enc Tryd.prog ((laidWorld os).forCall (fun _ _ => 0) ⟨#[], #[.string ByteArray.empty], []⟩).memory Tryd.f4.params.toList Rows.parseLayoutSpec.vars false (#[.string ByteArray.empty] : Array Value).toList 8 = some ([.lit (.string [])], [], places) :=
  ⟨[], by kernel_rfl⟩
set_option maxRecDepth 1000000 in
theorem contract (H : Type) (enc : TypeId × Value → H) (W : World) (base : Nat) (args : Array Value) (ds gs : List (DataW H)) (before : List MemPlace)
    (hval0 : ∀ (j : Nat) t v, Tryd.f4.params[j]? = some t → args[j]? = some v → Value.okWide Tryd.prog W .any base t v)
    (hW : DataW.Whole enc Tryd.prog Tryd.f4.params.toList Rows.parseLayoutSpec.vars false W args.toList ds gs before)
    (hsz0 : (DataW.weightsEach Tryd.prog (Tryd.f4.params.toList ++ (OpenSpec.ofChange Rows.parseLayoutSpec).bare.plain.varTypes Tryd.prog) (ds ++ gs)).all (· ≤ reachBytes) = true) :
    Calls Tryd.prog 4 args W fun e W' => ∃ v, e = .returned v ∧ Rows.parseLayoutSpec.post enc Tryd.prog Tryd.f4 false true false false W args v W' := by
  have hsz : (DataW.weightsEach Tryd.prog (Tryd.f4.params.toList ++ (OpenSpec.ofChange Rows.parseLayoutSpec).bare.plain.varTypes Tryd.prog) (ds ++ gs)).all (· ≤ reachBytes) = true := hsz0
  have hval : ∀ (j : Nat) t v, Tryd.f4.params[j]? = some t → args[j]? = some v → Value.okWide Tryd.prog W .any base t v := hval0
  have hW' := hW
  obtain ⟨p, q, hA0, hV, rfl, hfz, hnd⟩ := hW
  have hA : DataW.TrodAll enc Tryd.prog W 0 (fun _ => true) true Tryd.f4.params.toList args.toList ds p := hA0
  rw [Tryd.params4] at hA hval hsz
  obtain ⟨v0, vs0, d0, ds0, p0, q0, hargs, rfl, rfl, h0, r0⟩ := trodAll_cons hA
  obtain ⟨rfl, rfl, rfl⟩ := trodAll_nil r0
  obtain rfl : args = #[v0] := Array.toList_inj.1 hargs
  obtain ⟨rfl, rfl⟩ := trodVars_none hV
  obtain ⟨a0, rfl, rfl, rfl, y0⟩ := open_string Tryd.underlying9 (hval 0 9 v0 rfl rfl) h0
  have w0 : a0.size ≤ 140737488351232 := by
    have z := sized_string hsz (j := 0) (t := 9) rfl rfl
    rw [Array.length_toList] at z
    exact z
  clear hA0 hval0 hsz0 hsz
  refine (X.parseLayout_walk a0 W w0).mono fun e W' ⟨he, bel⟩ => ?_
  subst he
  exact ⟨_, rfl, _, _, _, [], _, [], hW', trodAll_mk1 (shut_bool Tryd.underlying4 _), (trodAll_cons_mk (shut_string Tryd.underlying9 y0) trodAll_mk0), rfl, bel.frame _, fun h => by cases h⟩
set_option maxRecDepth 100000 in
theorem lifted (os : Os) (started : os.Started) (H : Type) (enc : TypeId × Value → H) (F : Stop.Interp) :
    ReturnsInHanded {} Tryd.checked os 4 .any ((OpenSpec.ofChange Rows.parseLayoutSpec).preRow enc Tryd.prog Tryd.f4 Rows.parseLayoutRow.domain false Rows.parseLayoutRow.laid) (((OpenSpec.ofChange Rows.parseLayoutSpec).at F).post enc Tryd.prog Tryd.f4 false true false false) := by
  obtain ⟨places, hx⟩ := reads os enc
  refine returnsInHanded_of_row (C := Tryd.checked) (s := OpenSpec.ofChange Rows.parseLayoutSpec) own started (by kernel_rfl) Tryd.func4
    (witness_row_atRef (enc := enc) (C := Tryd.checked) false (laidWorld os) #[.string ByteArray.empty] rfl (by kernel_rfl) (by kernel_rfl) (by kernel_rfl)
      (OpenSpec.preRow_of_cond 8 hx (by kernel_rfl) (fun k hk => by cases hk) (by kernel_rfl) (laid_met os _))) ?_
  intro W base args ds gs before hval hW _ _ hsz _ _ _
  exact contract H enc W base args ds gs before hval hW hsz
theorem said : Rows.ParseLayoutSaid :=
  OpenClaim.holds_of_cond 4 Tryd.f4 rfl rfl rfl rfl rfl rfl rfl ⟨rfl, rfl, rfl, rfl, rfl⟩ rfl rfl rfl rfl rfl (by kernel_rfl) Tryd.func4 (by kernel_rfl)
    (of_decide_eq_true (by kernel_rfl)) (by unfold Func.isWrapper; first | (rw [if_pos (by decide +kernel)]; kernel_rfl) | (rw [if_neg (by decide +kernel)]; exact ⟨rfl, rfl⟩))
    (fun os started H enc _ F => by rw [OpenClaim.pre_eq_preRow]; exact lifted os started H enc F)
theorem plain (f : FuncId) (fn : Func) (hf : Tryd.pinned.checked.prog.funcNamed "gossamer/gossamerlaw03.ParseLayout" = some f) (hfn : Tryd.pinned.checked.prog.funcs[f]? = some fn) :
    true = Tryd.pinned.checked.prog.looks [] ∧ ∀ (j : Nat) t, fn.params[j]? = some t → Tryd.pinned.checked.prog.wantsStandIn t = false := by
  obtain rfl : f = 4 := Option.some.inj ((show Tryd.prog.funcNamed "gossamer/gossamerlaw03.ParseLayout" = some 4 by kernel_rfl).symm.trans hf) |>.symm
  obtain rfl : fn = Tryd.f4 := (Option.some.inj (Tryd.func4.symm.trans hfn)).symm
  refine ⟨by kernel_rfl, fun j t ht => ?_⟩
  rw [Tryd.params4] at ht
  have hm := Array.mem_of_getElem? ht
  obtain rfl : t = 9 := by simpa using hm
  exact (show Tryd.prog.wantsStandIn 9 = false by kernel_rfl)
theorem card : Rows.ParseLayoutCardSaid :=
  Claim7.holds_tied_plain_at .later [] _ _ _ _ said (fun _ h => by cases h) (by kernel_rfl) (fun _ h => by cases h) parseLayout_row_tie rfl ⟨rfl, rfl⟩ (by kernel_rfl) rfl plain (by kernel_rfl)
#print axioms card
end Go.Proofs.YtajcnjdinmgpjaaDoor.parseLayout
namespace Go.Proofs.YtajcnjdinmgpjaaDoor
/-- The card, under a short name, for the claim. -/
theorem parseLayout_card : Rows.ParseLayoutCardSaid := parseLayout.card
end Go.Proofs.YtajcnjdinmgpjaaDoor
