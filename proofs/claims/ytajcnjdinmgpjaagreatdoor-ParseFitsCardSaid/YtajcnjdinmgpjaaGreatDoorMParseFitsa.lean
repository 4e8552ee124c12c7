/- A part of the proof of ParseFits's card: walks of the functions that it calls, and plain lemmas: Xrow, Q0, Xmod, QslicesIndexintint, QslicesContainsintint, Xw, Xbase, Xlex1, Xlex2, Xshelf, Xlex3, QslicesIndexstringstring, QslicesContainsstringstring, QlexWord, Xlex0, Xlex4, Xlex5, Xlexm, Xcatch, Xlex6, Xtree, Xpar1, Xpar2, Xpar3, Xpar4, Xpar5, Xpar6, Xpar7. No condition of its own. -/
import Derived.Test.YtajcnjdinmgpjaaGreatDoorCards
import Derived.Test.YtajcnjdinmgpjaaGreatDoorTie
import Derived.Deep.DeepHandedRow
import Derived.Deep.DeepWitnessRowRef
import Derived.LaidLaws
import Derived.ProofKit
import Derived.Test.YtajcnjdinmgpjaaGreatDoorProg
import Derived.Below
import Derived.Deep.Draws
import Derived.Deep.AppendLies
import Derived.Maps.AppendAt
import Derived.OwnWalk
import Derived.Laws.BytesArg
import Derived.Laws.MakeOwn
import Derived.Laws.OwnMore
import Derived.Deep.OwnRows
import Derived.Tactics
import Derived.Lib.ConvBytes
import Derived.Laws.Slices
import Derived.WalkKit
import Derived.KernelRfl
import Derived.RowKit3
import Derived.Deep.LoopGhost
import Derived.Deep.QuietTactic
import Derived.BigQuiet
import Derived.WideLaws
import Derived.Deep.DeepCutAuto
import Derived.Deep.CutBlock
import Derived.Deep.RegionHeld3
import Derived.Laws.Rows
import Derived.Lib.AppendStr
import Derived.ArgAppend
import Derived.Laws.IdiomCopy
import Derived.OrdersHeld
import Derived.Laws.BitsLemmas
import Derived.RowKit
import Derived.Test.YtajcnjdinmgpjaaGreatDoorMParseFitswWords
import Derived.Test.YtajcnjdinmgpjaaGreatDoorMParseFitswLast
import Derived.Test.YtajcnjdinmgpjaaGreatDoorMParseFitswTab
import Derived.Test.YtajcnjdinmgpjaaGreatDoorMParseFitswFour
import Derived.Test.YtajcnjdinmgpjaaGreatDoorMParseFitswQPut
import Derived.Test.YtajcnjdinmgpjaaGreatDoorMParseFitswApart
import Derived.Test.YtajcnjdinmgpjaaGreatDoorMParseFitswArr
import Derived.Test.YtajcnjdinmgpjaaGreatDoorMParseFitswZeros
import Derived.Test.YtajcnjdinmgpjaaGreatDoorMParseFitswFoot
import Derived.Test.YtajcnjdinmgpjaaGreatDoorMParseFitswKept
import Derived.Test.YtajcnjdinmgpjaaGreatDoorMParseFitswShare
import Derived.Test.YtajcnjdinmgpjaaGreatDoorMParseFitswN
import Derived.Test.YtajcnjdinmgpjaaGreatDoorMParseFitswFootNe
import Derived.Test.YtajcnjdinmgpjaaGreatDoorMParseFitswAt
import Derived.Test.YtajcnjdinmgpjaaGreatDoorMParseFitswEqStruct
import Derived.Test.YtajcnjdinmgpjaaGreatDoorMParseFitswRepsOne
import Derived.Test.YtajcnjdinmgpjaaGreatDoorMParseFitswInv
import Derived.Test.YtajcnjdinmgpjaaGreatDoorMParseFitswInvWords
import Derived.Test.YtajcnjdinmgpjaaGreatDoorMParseFitswGuard
import Derived.Test.YtajcnjdinmgpjaaGreatDoorMParseFitswNEv
import Derived.Test.YtajcnjdinmgpjaaGreatDoorMParseFitswMore
import Derived.WalkLawsBesides
import Derived.Lib.Hide
import Derived.Laws.RangeAny
import Derived.Lib.OthersKept
import Derived.Shelf.Strconv.Atoi
import Derived.Shelf.LaysM
import Derived.Shelf.Strings.Prefix
import Derived.Shelf.Strings.AsciiSet
import Derived.Shelf.Strings.SlTrimAsciiWalks
import Derived.Deep.WholeRow
import Derived.Lib.Atoi
import Derived.Defers
import Derived.Recover
import Derived.Deep.RegionWith
set_option linter.unusedVariables false
set_option linter.unusedSimpArgs false
/- A world in which the listed variables hold what the program's text lays: for the witness of each row. -/
namespace Go.Proofs.YtajcnjdinmgpjaaGreatDoor.X
open Go
def lit1 : DataW Unit → Value
  | .lit (.int k n) => .int k n
  | _ => .int .i64 0
def flat1 : DataW Unit → List Value
  | .agg l => l.map lit1
  | d => [lit1 d]
def flat2 : DataW Unit → List Value
  | .agg l => l.flatMap flat1
  | d => [lit1 d]
/-- a variable's cells -/
def put (h : Array Obj) (g : Nat) (cs : Array Value) : Array Obj := h.modify g fun
  | .cells _ t frozen => .cells cs t frozen
  | o => o
noncomputable def laidWorld (os : Os) : World :=
  let N := (World.settled Tryz.prog os).heap.size
  let w0 := World.holding Tryz.prog os ⟨#[
    .cells #[.string ⟨#[118, 97, 108, 117, 101, 32, 111, 117, 116, 32, 111, 102, 32, 114, 97, 110, 103, 101]⟩] 122,
    .cells #[.string ⟨#[105, 110, 118, 97, 108, 105, 100, 32, 115, 121, 110, 116, 97, 120]⟩] 122], #[], []⟩
  let h := w0.heap
  let h := put h 4 #[.iface 120 (.pointer (some ⟨N, 0, none⟩))]
  let h := put h 3 #[.iface 120 (.pointer (some ⟨N + 1, 0, none⟩))]
  let h := put h 6 (flat1 Rows.laid_math_bits_deBruijn32tab).toArray
  let h := put h 7 (flat1 Rows.laid_math_bits_deBruijn64tab).toArray
  let h := put h 5 (flat1 Rows.laid_internal_strconv_uint64pow10).toArray
  let h := put h 1 (flat2 Rows.laid_unicode_utf8_acceptRanges).toArray
  let h := put h 0 (flat1 Rows.laid_unicode_utf8_first).toArray
  { w0 with heap := h }
end Go.Proofs.YtajcnjdinmgpjaaGreatDoor.X
namespace Go.Proofs.YtajcnjdinmgpjaaGreatDoor.P
open Go.RowKit Go.Proofs.YtajcnjdinmgpjaaGreatDoorW.PrintWords Go.Proofs.YtajcnjdinmgpjaaGreatDoorW.PrintLast Go.Proofs.YtajcnjdinmgpjaaGreatDoorW.PrintMore
attribute [local go_sem] max2_int min2_int max_two min_two max_three min_three max_four min_four   -- for this text's walks alone
set_option linter.unusedVariables false
set_option linter.unusedSimpArgs false



def errW : Option Int → Value
  | none => .nilIface
  | some c => .iface 102 (.int .i64 c)
theorem errW_none : errW none = .nilIface := rfl
theorem errW_some (c : Int) : errW (some c) = .iface 102 (.int .i64 c) := rfl

theorem info46 : (Tryz.prog.info? 46).map (fun i => (i.zero, i.size, i.bytes)) = some (some (.agg #[(.int .i64 0), (.string ⟨#[]⟩), (.int .i64 0), (.int .i64 0)]), 4, 40) := by kernel_rfl
-- the values' own types
/-! #### struct type 46 -/
structure S46 where
  f0 : Int
  f1 : ByteArray
  f2 : Int
  f3 : Int
def z46 : S46 := ⟨(0 : Int), (⟨#[]⟩ : ByteArray), (0 : Int), (0 : Int)⟩
def k46 : Kd S46 := Kd.iso (Kd.pair (Kd.int .i64) (Kd.pair Kd.string (Kd.pair (Kd.int .i64) (Kd.int .i64)))) (fun x : S46 => (x.f0, x.f1, x.f2, x.f3))
theorem k46_open {w : World} {x : S46} {cs : List Value} (h : k46.K w x cs) : cs = [.int .i64 x.f0, .string x.f1, .int .i64 x.f2, .int .i64 x.f3] := by
  obtain ⟨_, _, rfl, rfl, ⟨_, _, rfl, rfl, ⟨_, _, rfl, rfl, rfl⟩⟩⟩ := h
  exact rfl
theorem k46_mk (w : World) (x : S46)  : k46.K w x [.int .i64 x.f0, .string x.f1, .int .i64 x.f2, .int .i64 x.f3] := ⟨[.int .i64 x.f0], [.string x.f1, .int .i64 x.f2, .int .i64 x.f3], rfl, rfl, ⟨[.string x.f1], [.int .i64 x.f2, .int .i64 x.f3], rfl, rfl, ⟨[.int .i64 x.f2], [.int .i64 x.f3], rfl, rfl, rfl⟩⟩⟩
def rd_T46 (xs : List S46) (i : Int) : S46 := xs.getD i.toNat z46
theorem at_T46 {w : World} {A : Option Addr} {n : Nat} {xs : List S46} (h : Kd.C k46 w A n xs) (i : Int) (h0 : 0 ≤ i) (h1 : i < n) : ∃ ad , A = some ad ∧ w.cell? (ad.add (i.toNat * 4)) = some (.int .i64 (rd_T46 xs i).f0) ∧ w.cell? ⟨(ad.add (i.toNat * 4)).block, (ad.add (i.toNat * 4)).off + 1, none⟩ = some (.string (rd_T46 xs i).f1) ∧ w.cell? ⟨(ad.add (i.toNat * 4)).block, (ad.add (i.toNat * 4)).off + 2, none⟩ = some (.int .i64 (rd_T46 xs i).f2) ∧ w.cell? ⟨(ad.add (i.toNat * 4)).block, (ad.add (i.toNat * 4)).off + 3, none⟩ = some (.int .i64 (rd_T46 xs i).f3) := by
  obtain ⟨ad, c, e, _, hK, hc0⟩ := Kd.C_get h z46 i h0 h1
  have hc : ∀ j u, c[j]? = some u → w.cell? (ad.add (i.toNat * 4 + j)) = some u := hc0
  obtain rfl := k46_open hK
  exact ⟨ad, e, hc 0 _ rfl, by rw [← add_field _ _ 1 (by omega)]; exact hc 1 _ rfl, by rw [← add_field _ _ 2 (by omega)]; exact hc 2 _ rfl, by rw [← add_field _ _ 3 (by omega)]; exact hc 3 _ rfl⟩

/-! #### struct type 25, nested in itself -/
structure S25 where
  f0 : Int
  f1 : ByteArray
  f2 : Int
  f3 : Int
  f4 : (List S25)
def z25 : S25 := ⟨(0 : Int), (⟨#[]⟩ : ByteArray), (0 : Int), (0 : Int), ([] : List S25)⟩
def F25 (d : Kd S25) : Kd S25 := Kd.iso (Kd.pair (Kd.int .i64) (Kd.pair Kd.string (Kd.pair (Kd.int .i64) (Kd.pair (Kd.int .i64) (Kd.slice 25 d))))) (fun x : S25 => (x.f0, x.f1, x.f2, x.f3, x.f4))
theorem mono25 : Kd.Mono F25 := Kd.mono_iso _ (Kd.mono_pair (Kd.mono_const _) (Kd.mono_pair (Kd.mono_const _) (Kd.mono_pair (Kd.mono_const _) (Kd.mono_pair (Kd.mono_const _) (Kd.mono_slice 25 Kd.mono_id)))))
theorem sub25 : Kd.Sub F25 [25] := Kd.sub_iso _ (Kd.sub_pair (Kd.sub_const _ (by decide)) (Kd.sub_pair (Kd.sub_const _ (by decide)) (Kd.sub_pair (Kd.sub_const _ (by decide)) (Kd.sub_pair (Kd.sub_const _ (by decide)) (Kd.sub_slice 25 (by decide) Kd.sub_id)))))
theorem sz25 : ∀ n, (Kd.upto F25 5 [25] n).sz = 5 := Kd.upto_sz (fun _ => rfl)
def k25 : Kd S25 := Kd.fix F25 5 [25] sz25 (Kd.upto_E sub25)
theorem k25_open {w : World} {x : S25} {cs : List Value} (h : k25.K w x cs) : ∃ A4 c4, cs = [.int .i64 x.f0, .string x.f1, .int .i64 x.f2, .int .i64 x.f3, .slice A4 x.f4.length c4] ∧ x.f4.length ≤ c4 ∧ k25.C w A4 x.f4.length x.f4 := by
  obtain ⟨n, h⟩ := h
  cases n with
  | zero => exact h.elim
  | succ n =>
    obtain ⟨_, _, rfl, rfl, ⟨_, _, rfl, rfl, ⟨_, _, rfl, rfl, ⟨_, _, rfl, rfl, ⟨A4, c4, rfl, l4, g4⟩⟩⟩⟩⟩ := h
    exact ⟨A4, c4, rfl, l4, Kd.fix_C g4⟩
theorem k25_mk (w : World) (x : S25) {A4 : Option Addr} {c4 : Nat} (l4 : x.f4.length ≤ c4) (g4 : k25.C w A4 x.f4.length x.f4) : k25.K w x [.int .i64 x.f0, .string x.f1, .int .i64 x.f2, .int .i64 x.f3, .slice A4 x.f4.length c4] := by
  obtain ⟨n4, q4⟩ := Kd.fix_C_back mono25 g4
  have r4 := Kd.upto_C_le mono25 sz25 (show n4 ≤ n4 by omega) q4
  exact ⟨n4 + 1, ⟨[.int .i64 x.f0], [.string x.f1, .int .i64 x.f2, .int .i64 x.f3, .slice A4 x.f4.length c4], rfl, rfl, ⟨[.string x.f1], [.int .i64 x.f2, .int .i64 x.f3, .slice A4 x.f4.length c4], rfl, rfl, ⟨[.int .i64 x.f2], [.int .i64 x.f3, .slice A4 x.f4.length c4], rfl, rfl, ⟨[.int .i64 x.f3], [.slice A4 x.f4.length c4], rfl, rfl, ⟨A4, c4, rfl, l4, r4⟩⟩⟩⟩⟩⟩
def rd_T25 (xs : List S25) (i : Int) : S25 := xs.getD i.toNat z25
theorem at_T25 {w : World} {A : Option Addr} {n : Nat} {xs : List S25} (h : Kd.C k25 w A n xs) (i : Int) (h0 : 0 ≤ i) (h1 : i < n) : ∃ ad A4 c4, A = some ad ∧ w.cell? (ad.add (i.toNat * 5)) = some (.int .i64 (rd_T25 xs i).f0) ∧ w.cell? ⟨(ad.add (i.toNat * 5)).block, (ad.add (i.toNat * 5)).off + 1, none⟩ = some (.string (rd_T25 xs i).f1) ∧ w.cell? ⟨(ad.add (i.toNat * 5)).block, (ad.add (i.toNat * 5)).off + 2, none⟩ = some (.int .i64 (rd_T25 xs i).f2) ∧ w.cell? ⟨(ad.add (i.toNat * 5)).block, (ad.add (i.toNat * 5)).off + 3, none⟩ = some (.int .i64 (rd_T25 xs i).f3) ∧ w.cell? ⟨(ad.add (i.toNat * 5)).block, (ad.add (i.toNat * 5)).off + 4, none⟩ = some (.slice A4 (rd_T25 xs i).f4.length c4) ∧ (rd_T25 xs i).f4.length ≤ c4 ∧ k25.C w A4 (rd_T25 xs i).f4.length (rd_T25 xs i).f4 := by
  obtain ⟨ad, c, e, _, hK, hc0⟩ := Kd.C_get h z25 i h0 h1
  have hc : ∀ j u, c[j]? = some u → w.cell? (ad.add (i.toNat * 5 + j)) = some u := hc0
  obtain ⟨A4, c4, rfl, l4, g4⟩ := k25_open hK
  exact ⟨ad, A4, c4, e, hc 0 _ rfl, by rw [← add_field _ _ 1 (by omega)]; exact hc 1 _ rfl, by rw [← add_field _ _ 2 (by omega)]; exact hc 2 _ rfl, by rw [← add_field _ _ 3 (by omega)]; exact hc 3 _ rfl, by rw [← add_field _ _ 4 (by omega)]; exact hc 4 _ rfl, l4, g4⟩

end Go.Proofs.YtajcnjdinmgpjaaGreatDoor.P
/- The parser as a plain function on tokens. -/
namespace Go.Proofs.YtajcnjdinmgpjaaGreatDoor.X
open Go.Proofs.YtajcnjdinmgpjaaGreatDoor.P

abbrev Tok := S46
abbrev Tree := S25
/-- the token that comes -/
def hd (l : List Tok) (en : Int) : Tok := match l with | [] => ⟨0, ⟨#[]⟩, 0, en⟩ | t :: _ => t
/-- does a word, or a sign, come? -/
def isW (l : List Tok) (s : ByteArray) : Bool := match l with | [] => false | t :: _ => (t.f0 == 4 || t.f0 == 5) && (t.f1.toList == s.toList)
/-- the kind of the token that comes -/
def kd (l : List Tok) : Int := match l with | [] => 0 | t :: _ => t.f0
/-- the text of the token that comes -/
def tx (l : List Tok) : ByteArray := match l with | [] => ⟨#[]⟩ | t :: _ => t.f1
/-- does an atom come? -/
def atomB (l : List Tok) : Bool := isW l ⟨#[40]⟩ || (kd l == 1 || kd l == 2 || kd l == 3)

/-- What reading comes to: a tree, and what is left; or where nothing goes on. -/
inductive PR where
  | ok (t : Tree) (l : List Tok)
  | fail (l : List Tok)
def PR.bind (r : PR) (f : Tree → List Tok → PR) : PR := match r with | .ok t l => f t l | .fail l => .fail l
theorem PR.bind_ok (t : Tree) (l : List Tok) (f : Tree → List Tok → PR) : (PR.ok t l).bind f = f t l := rfl
theorem PR.bind_fail (l : List Tok) (f : Tree → List Tok → PR) : (PR.fail l).bind f = .fail l := rfl
def word (s : ByteArray) (l : List Tok) (f : List Tok → PR) : PR := if isW l s then f l.tail else .fail l
def kindP (k : Int) (l : List Tok) (f : Tok → List Tok → PR) : PR := if kd l = k then f (hd l 0) l.tail else .fail l

theorem word_pos {s : ByteArray} {l : List Tok} {f : List Tok → PR} (h : isW l s = true) : word s l f = f l.tail := if_pos h
theorem word_neg {s : ByteArray} {l : List Tok} {f : List Tok → PR} (h : ¬ isW l s = true) : word s l f = .fail l := if_neg h
theorem kindP_pos {k : Int} {l : List Tok} {f : Tok → List Tok → PR} (h : kd l = k) : kindP k l f = f (hd l 0) l.tail := if_pos h
theorem kindP_neg {k : Int} {l : List Tok} {f : Tok → List Tok → PR} (h : ¬ kd l = k) : kindP k l f = .fail l := if_neg h

def pAtom (ex : List Tok → PR) (l : List Tok) : PR :=
  if isW l ⟨#[40]⟩ then (ex l.tail).bind fun t l' => word ⟨#[41]⟩ l' fun r => .ok t r
  else match l with
    | [] => .fail []
    | x :: r => if x.f0 = 1 then .ok ⟨1, x.f1, 0, x.f3, []⟩ r else if x.f0 = 2 then .ok ⟨6, x.f1, 0, x.f3, []⟩ r else if x.f0 = 3 then .ok ⟨9, ⟨#[]⟩, x.f2, x.f3, []⟩ r else .fail l
def pArgs (ex : List Tok → PR) (con : Bool) : Nat → Tree → List Tok → PR
  | 0, _, l => .fail l
  | m + 1, t, l => if atomB l then (if con then (if t.f4.length < 8 then (pAtom ex l).bind fun a l' => pArgs ex con m ⟨t.f0, t.f1, t.f2, t.f3, t.f4 ++ [a]⟩ l' else .fail l)
      else (pAtom ex l).bind fun a l' => pArgs ex con m ⟨3, ⟨#[]⟩, 0, t.f3, [t, a]⟩ l') else .ok t l
def pApp (ex : List Tok → PR) (l : List Tok) : PR := (pAtom ex l).bind fun t l' => pArgs ex (kd l == 2) (l'.length + 1) t l'
/-- two, and the sign between them -/
def opT (s : ByteArray) (a b : Tree) : Tree := ⟨10, s, 0, a.f3, [a, b]⟩
def pOps (right : List Tok → PR) (s1 s2 : ByteArray) : Nat → Tree → List Tok → PR
  | 0, _, l => .fail l
  | m + 1, t, l => if isW l s1 || isW l s2 then (right l.tail).bind fun b l' => pOps right s1 s2 m (opT (tx l) t b) l' else .ok t l
def pProd (ex : List Tok → PR) (l : List Tok) : PR := (pApp ex l).bind fun t l' => pOps (pApp ex) ⟨#[42]⟩ ⟨#[47]⟩ (l'.length + 1) t l'
def pSum (ex : List Tok → PR) (l : List Tok) : PR := (pProd ex l).bind fun t l' => pOps (pProd ex) ⟨#[43]⟩ ⟨#[45]⟩ (l'.length + 1) t l'
def pCmp (ex : List Tok → PR) (l : List Tok) : PR :=
  (pSum ex l).bind fun t l' => if isW l' ⟨#[60]⟩ || isW l' ⟨#[61, 61]⟩ then (pSum ex l'.tail).bind fun b r => .ok (opT (tx l') t b) r else .ok t l'
def pLam (ex : List Tok → PR) (l : List Tok) : PR :=
  word ⟨#[92]⟩ l fun l1 => kindP 1 l1 fun x l2 => word ⟨#[46]⟩ l2 fun l3 => (ex l3).bind fun b r => .ok ⟨2, x.f1, 0, (hd l 0).f3, [b]⟩ r
def pLet (ex : List Tok → PR) (k : Int) (l : List Tok) : PR :=
  kindP 1 l.tail fun x l2 => word ⟨#[61]⟩ l2 fun l3 => (ex l3).bind fun a l4 => word ⟨#[105, 110]⟩ l4 fun l5 => (ex l5).bind fun b r => .ok ⟨k, x.f1, 0, (hd l 0).f3, [a, b]⟩ r
def varT (x : Tok) : Tree := ⟨1, x.f1, 0, x.f3, []⟩
/-- the variables of an alternative: what is there, and what comes -/
def pVars (f : List Tree → List Tok → PR) : Nat → List Tree → List Tok → PR
  | 0, _, l => .fail l
  | m + 1, vs, l => if kd l = 1 then (if vs.length < 8 then pVars f m (vs ++ [varT (hd l 0)]) l.tail else .fail l) else f vs l
def pAlt (ex : List Tok → PR) (l : List Tok) : PR :=
  kindP 2 l fun c l1 => pVars (fun vs l2 => word ⟨#[45, 62]⟩ l2 fun l3 => (ex l3).bind fun b r => .ok ⟨8, c.f1, (vs.length : Int), c.f3, vs ++ [b]⟩ r) (l1.length + 1) [] l1
def pAlts (ex : List Tok → PR) (at_ : Int) : Nat → List Tree → List Tok → PR
  | 0, _, l => .fail l
  | m + 1, ts, l => if isW l ⟨#[124]⟩ then (if ts.length ≤ 8 then (pAlt ex l.tail).bind fun a r => pAlts ex at_ m (ts ++ [a]) r else .fail l)
      else word ⟨#[125]⟩ l fun r => .ok ⟨7, ⟨#[]⟩, 0, at_, ts⟩ r
def pCase (ex : List Tok → PR) (l : List Tok) : PR :=
  word ⟨#[99, 97, 115, 101]⟩ l fun l1 => (ex l1).bind fun a l2 => word ⟨#[111, 102]⟩ l2 fun l3 => word ⟨#[123]⟩ l3 fun l4 => (pAlt ex l4).bind fun b l5 => pAlts ex (hd l 0).f3 (l5.length + 1) [a, b] l5
def pExpr : Nat → List Tok → PR
  | 0, l => .fail l
  | n + 1, l => if isW l ⟨#[92]⟩ then pLam (pExpr n) l else if isW l ⟨#[108, 101, 116]⟩ then pLet (pExpr n) 4 l
      else if isW l ⟨#[108, 101, 116, 114, 101, 99]⟩ then pLet (pExpr n) 5 l else if isW l ⟨#[99, 97, 115, 101]⟩ then pCase (pExpr n) l else pCmp (pExpr n) l

/-! ### What is read takes a token at least -/
def Sh (R : List Tok → PR) : Prop := ∀ l t l', R l = .ok t l' → l'.length < l.length
theorem PR.bind_inv {r : PR} {f : Tree → List Tok → PR} {t : Tree} {l : List Tok} (h : r.bind f = .ok t l) : ∃ t' l', r = .ok t' l' ∧ f t' l' = .ok t l := by
  cases r with
  | ok t' l' => exact ⟨t', l', rfl, h⟩
  | fail l' => cases h
theorem PR.bind_inv_fail {r : PR} {f : Tree → List Tok → Tree × List Tok} {l : List Tok} (h : (r.bind fun t l => .ok (f t l).1 (f t l).2) = .fail l) : r = .fail l := by
  cases r with
  | ok t' l' => cases h
  | fail l' => exact h
theorem word_inv {s : ByteArray} {l l' : List Tok} {f : List Tok → PR} {t : Tree} (h : word s l f = .ok t l') : isW l s = true ∧ f l.tail = .ok t l' := by
  unfold word at h
  split at h
  · exact ⟨‹_›, h⟩
  · cases h
theorem kindP_inv {k : Int} {l l' : List Tok} {f : Tok → List Tok → PR} {t : Tree} (h : kindP k l f = .ok t l') : kd l = k ∧ f (hd l 0) l.tail = .ok t l' := by
  unfold kindP at h
  split at h
  · exact ⟨‹_›, h⟩
  · cases h
theorem isW_tail {l : List Tok} {s : ByteArray} (h : isW l s = true) : l.tail.length < l.length := by cases l <;> simp_all [isW]
theorem kd_tail {l : List Tok} {k : Int} (h : kd l = k) (hk : k ≠ 0) : l.tail.length < l.length := by cases l <;> simp_all [kd]
theorem sh_atom {ex : List Tok → PR} (hex : Sh ex) : Sh (pAtom ex) := by
  intro l t l' h
  unfold pAtom at h
  split at h
  · obtain ⟨a, r, h1, h2⟩ := PR.bind_inv h
    obtain ⟨h3, h4⟩ := word_inv h2
    have := hex _ _ _ h1
    have := isW_tail h3
    have := isW_tail ‹isW l _ = true›
    cases h4
    omega
  · cases l with
    | nil => cases h
    | cons x r =>
      simp only at h
      split at h
      · cases h; simp
      · split at h
        · cases h; simp
        · split at h
          · cases h; simp
          · cases h
theorem sh_args {ex : List Tok → PR} (hex : Sh ex) (con : Bool) : ∀ m t l t' l', pArgs ex con m t l = .ok t' l' → l'.length ≤ l.length
  | 0, _, _, _, _, h => by cases h
  | m + 1, t, l, t', l', h => by
    unfold pArgs at h
    split at h
    · split at h
      · split at h
        · obtain ⟨a, r, h1, h2⟩ := PR.bind_inv h
          have := sh_atom hex _ _ _ h1
          have := sh_args hex con m _ _ _ _ h2
          omega
        · cases h
      · obtain ⟨a, r, h1, h2⟩ := PR.bind_inv h
        have := sh_atom hex _ _ _ h1
        have := sh_args hex con m _ _ _ _ h2
        omega
    · cases h; exact Nat.le_refl _
theorem sh_app {ex : List Tok → PR} (hex : Sh ex) : Sh (pApp ex) := by
  intro l t l' h
  obtain ⟨a, r, h1, h2⟩ := PR.bind_inv h
  have := sh_atom hex _ _ _ h1
  have := sh_args hex _ _ _ _ _ _ h2
  omega
theorem sh_ops {right : List Tok → PR} (hr : Sh right) (s1 s2 : ByteArray) : ∀ m t l t' l', pOps right s1 s2 m t l = .ok t' l' → l'.length ≤ l.length
  | 0, _, _, _, _, h => by cases h
  | m + 1, t, l, t', l', h => by
    unfold pOps at h
    split at h
    · obtain ⟨a, r, h1, h2⟩ := PR.bind_inv h
      have := hr _ _ _ h1
      have := sh_ops hr s1 s2 m _ _ _ _ h2
      have : l.tail.length ≤ l.length := by simp
      omega
    · cases h; exact Nat.le_refl _
theorem sh_prod {ex : List Tok → PR} (hex : Sh ex) : Sh (pProd ex) := by
  intro l t l' h
  obtain ⟨a, r, h1, h2⟩ := PR.bind_inv h
  have := sh_app hex _ _ _ h1
  have := sh_ops (sh_app hex) _ _ _ _ _ _ _ h2
  omega
theorem sh_sum {ex : List Tok → PR} (hex : Sh ex) : Sh (pSum ex) := by
  intro l t l' h
  obtain ⟨a, r, h1, h2⟩ := PR.bind_inv h
  have := sh_prod hex _ _ _ h1
  have := sh_ops (sh_prod hex) _ _ _ _ _ _ _ h2
  omega
theorem sh_cmp {ex : List Tok → PR} (hex : Sh ex) : Sh (pCmp ex) := by
  intro l t l' h
  obtain ⟨a, r, h1, h2⟩ := PR.bind_inv h
  have := sh_sum hex _ _ _ h1
  split at h2
  · obtain ⟨b, q, h3, h4⟩ := PR.bind_inv h2
    have := sh_sum hex _ _ _ h3
    have : r.tail.length ≤ r.length := by simp
    cases h4
    omega
  · cases h2; omega
theorem tail_le (l : List Tok) : l.tail.length ≤ l.length := by simp
theorem sh_lam {ex : List Tok → PR} (hex : Sh ex) : Sh (pLam ex) := by
  intro l t l' h
  obtain ⟨h1, h⟩ := word_inv h
  obtain ⟨h2, h⟩ := kindP_inv h
  obtain ⟨h3, h⟩ := word_inv h
  obtain ⟨a, r, h4, h⟩ := PR.bind_inv h
  have := hex _ _ _ h4
  have := isW_tail h1; have := kd_tail h2 (by omega); have := isW_tail h3
  cases h
  omega
theorem sh_let {ex : List Tok → PR} (hex : Sh ex) (k : Int) : Sh (pLet ex k) := by
  intro l t l' h
  obtain ⟨h2, h⟩ := kindP_inv h
  obtain ⟨h3, h⟩ := word_inv h
  obtain ⟨a, r, h4, h⟩ := PR.bind_inv h
  obtain ⟨h5, h⟩ := word_inv h
  obtain ⟨b, r', h6, h⟩ := PR.bind_inv h
  have := hex _ _ _ h4; have := hex _ _ _ h6
  have := tail_le l; have := kd_tail h2 (by omega); have := isW_tail h3; have := isW_tail h5
  cases h
  omega
theorem sh_vars {f : List Tree → List Tok → PR} (hf : ∀ vs l t l', f vs l = .ok t l' → l'.length < l.length) : ∀ m vs l t l', pVars f m vs l = .ok t l' → l'.length < l.length
  | 0, _, _, _, _, h => by cases h
  | m + 1, vs, l, t, l', h => by
    unfold pVars at h
    split at h
    · split at h
      · have := sh_vars hf m _ _ _ _ h
        have := tail_le l
        omega
      · cases h
    · exact hf _ _ _ _ h
theorem sh_alt {ex : List Tok → PR} (hex : Sh ex) : Sh (pAlt ex) := by
  intro l t l' h
  obtain ⟨h1, h⟩ := kindP_inv h
  have := sh_vars (fun vs l t l' h => by
    obtain ⟨h2, h⟩ := word_inv h
    obtain ⟨a, r, h4, h⟩ := PR.bind_inv h
    have := hex _ _ _ h4; have := isW_tail h2
    cases h
    omega) _ _ _ _ _ h
  have := kd_tail h1 (by omega)
  omega
theorem sh_alts {ex : List Tok → PR} (hex : Sh ex) (a : Int) : ∀ m ts l t l', pAlts ex a m ts l = .ok t l' → l'.length < l.length
  | 0, _, _, _, _, h => by cases h
  | m + 1, ts, l, t, l', h => by
    unfold pAlts at h
    split at h
    · split at h
      · obtain ⟨b, r, h4, h⟩ := PR.bind_inv h
        have := sh_alt hex _ _ _ h4
        have := sh_alts hex a m _ _ _ _ h
        have := tail_le l
        omega
      · cases h
    · obtain ⟨h2, h⟩ := word_inv h
      have := isW_tail h2
      cases h
      omega
theorem sh_case {ex : List Tok → PR} (hex : Sh ex) : Sh (pCase ex) := by
  intro l t l' h
  obtain ⟨h1, h⟩ := word_inv h
  obtain ⟨a, r, h4, h⟩ := PR.bind_inv h
  obtain ⟨h5, h⟩ := word_inv h
  obtain ⟨h6, h⟩ := word_inv h
  obtain ⟨b, r', h7, h⟩ := PR.bind_inv h
  have := hex _ _ _ h4; have := sh_alt hex _ _ _ h7; have := sh_alts hex _ _ _ _ _ _ h
  have := isW_tail h1; have := isW_tail h5; have := isW_tail h6
  omega
theorem sh_expr : ∀ n, Sh (pExpr n)
  | 0 => fun l t l' h => by cases h
  | n + 1 => fun l t l' h => by
    have hex := sh_expr n
    unfold pExpr at h
    split at h
    · exact sh_lam hex _ _ _ h
    · split at h
      · exact sh_let hex _ _ _ _ h
      · split at h
        · exact sh_let hex _ _ _ _ h
        · split at h
          · exact sh_case hex _ _ _ h
          · exact sh_cmp hex _ _ _ h
end Go.Proofs.YtajcnjdinmgpjaaGreatDoor.X
namespace Go.Proofs.YtajcnjdinmgpjaaGreatDoor.P
open Go.RowKit Go.Proofs.YtajcnjdinmgpjaaGreatDoorW.PrintWords Go.Proofs.YtajcnjdinmgpjaaGreatDoorW.PrintLast Go.Proofs.YtajcnjdinmgpjaaGreatDoorW.PrintMore
attribute [local go_sem] max2_int min2_int max_two min_two max_three min_three max_four min_four   -- for this text's walks alone
set_option linter.unusedVariables false
set_option linter.unusedSimpArgs false

/-! ### slices_Index_int_int: function 98 -/
def slices_Index_int_int.l0 : Nat → List Int → Int → Int → Int → Option (Int)
  | 0, _, _, _, _ => none
  | k + 1, x0, x1, x7, x8 => if x8 < x7 then (if 0 ≤ x8 then (if x8 < (x0.length : Int) then (if x1 = (rd x0 x8) then (some x8) else (slices_Index_int_int.l0 k x0 x1 x7 (wrap64 (x8 + 1)))) else (none)) else (none)) else (some (-1))
def slices_Index_int_int.f (k : Nat) (l0 : List Int) (a1 : Int) : Option (Int) := slices_Index_int_int.l0 k l0 a1 (l0.length : Int) 0
theorem slices_Index_int_int.mono_l : ∀ k, (∀ y0 y1 y2 y3, LeO (slices_Index_int_int.l0 k y0 y1 y2 y3) (slices_Index_int_int.l0 (k + 1) y0 y1 y2 y3))
  | 0 => fun _ _ _ _ r h => by simp [slices_Index_int_int.l0] at h
  | k + 1 => by
    have ih0 := slices_Index_int_int.mono_l k
    · intro y0 y1 y2 y3
      unfold slices_Index_int_int.l0
      repeat' first
      | (with_reducible exact ih0 _ _ _ _)
      | (with_reducible exact LeO.refl _)
      | (with_reducible exact LeO.none _)
      | (with_reducible refine LeO.ite ?_ ?_)
      | (with_reducible refine LeO.bind ?_ (fun _ => ?_))
      | exact ih0 _ _ _ _
      | exact LeO.none _
      | refine LeO.ite ?_ ?_
      | refine LeO.bind ?_ (fun _ => ?_)
theorem slices_Index_int_int.mono : ∀ a0 a1 k, LeO (slices_Index_int_int.f k a0 a1) (slices_Index_int_int.f (k + 1) a0 a1) := by
  intro a0 a1 k
  have ih0 := slices_Index_int_int.mono_l k
  unfold slices_Index_int_int.f
  repeat' first
      | (with_reducible exact ih0 _ _ _ _)
      | (with_reducible exact LeO.refl _)
      | (with_reducible exact LeO.none _)
      | (with_reducible refine LeO.ite ?_ ?_)
      | (with_reducible refine LeO.bind ?_ (fun _ => ?_))
      | exact ih0 _ _ _ _
      | exact LeO.none _
      | refine LeO.ite ?_ ?_
      | refine LeO.bind ?_ (fun _ => ?_)
set_option maxHeartbeats 8000000 in
set_option maxRecDepth 100000 in
theorem slices_Index_int_int.calls (k : Nat) (A0 : Option Addr) (c0 : Nat) (l0 : List Int) (a1 : Int) (r : Int) (w : World) (hr0 : Kd.C (Kd.int .i64) w A0 l0.length l0) (hc0 : l0.length ≤ c0) (h : slices_Index_int_int.f k l0 a1 = some r) :
    Calls Tryz.prog 98 #[.slice A0 l0.length c0, .int .i64 a1] w fun e w' => e = .returned (.int .i64 r) ∧ Drawn0 w w' := by
  have HR0 := Aside0.mk hr0
  have HC0 := Aside0.mk hc0
  clear hr0 hc0
  have H : (slices_Index_int_int.l0 k l0 a1 (l0.length : Int) 0) = some r := h
  clear h
  have H' := Aside0.mk H
  clear H
  go_enter Tryz.func98, Tryz.ntmps98
  go_wp2
  go_loopg [8] k (fun kq v8 w' => ∃ (x8_1 : Int), v8 = .int .i64 x8_1 ∧ Aside0 (slices_Index_int_int.l0 kq l0 a1 (l0.length : Int) x8_1 = some r) ∧ Aside0 (kq ≤ k) ∧ Drawn0 w w')
  case atStart => exact ⟨(0), (by first | rfl | (simp; done) | (simp [*]; done)), H', ⟨Nat.le_refl _⟩, by repeat (first | exact Drawn0.refl _ | apply Drawn0.step)⟩
  case round =>
    clear H'
    try clear p2
    obtain ⟨x8_1, rfl, HA, HK1, ⟨m1, rfl⟩⟩ := hrel
    cases gk with
    | zero => exact absurd HA.out (by simp [slices_Index_int_int.l0])
    | succ k1 =>
      have H := HA.out
      clear HA
      simp only [slices_Index_int_int.l0] at H
      by_cases c3 : x8_1 < (l0.length : Int)
      · rw [if_pos c3] at H
        have c3b0 : decide (x8_1 < (l0.length : Int)) = true := decide_eq_true c3
        clear c3
        by_cases c4 : 0 ≤ x8_1
        · rw [if_pos c4] at H
          have c4b0 : decide (0 ≤ x8_1) = true := decide_eq_true c4
          clear c4
          by_cases c5 : x8_1 < (l0.length : Int)
          · rw [if_pos c5] at H
            have c5b0 : decide (x8_1 < (l0.length : Int)) = true := decide_eq_true c5
            clear c5
            by_cases c6 : a1 = (rd l0 x8_1)
            · rw [if_pos c6] at H
              have c6b0 : (a1 == (rd l0 x8_1)) = true := beq_iff_eq.mpr c6
              have c6b1 : (a1 != (rd l0 x8_1)) = false := bne_eq_false_iff_eq.mpr c6
              clear c6
              obtain rfl := Option.some.inj H
              have p180 : 0 ≤ (x8_1 : Int) := of_decide_eq_true (by first | (with_reducible assumption) | assumption)
              have q180 : x8_1 < (l0.length : Int) := of_decide_eq_true (by first | (with_reducible assumption) | assumption)
              obtain ⟨ad180, e180, hx180_0⟩ := Kd.at_int HR0.out x8_1 p180 q180
              cases e180
              replace p180 := eq_true p180
              replace q180 := eq_true q180
              go_wp2
              go_ret
              exact ⟨by first | rfl | (simp; done) | (simp [*]; done), by repeat (first | exact Drawn0.refl _ | apply Drawn0.step)⟩
            · rw [if_neg c6] at H
              have c6b0 : (a1 == (rd l0 x8_1)) = false := beq_eq_false_iff_ne.mpr c6
              have c6b1 : (a1 != (rd l0 x8_1)) = true := bne_iff_ne.mpr c6
              have H' := Aside0.mk H
              clear H
              have p180 : 0 ≤ (x8_1 : Int) := of_decide_eq_true (by first | (with_reducible assumption) | assumption)
              have q180 : x8_1 < (l0.length : Int) := of_decide_eq_true (by first | (with_reducible assumption) | assumption)
              obtain ⟨ad180, e180, hx180_0⟩ := Kd.at_int HR0.out x8_1 p180 q180
              cases e180
              replace p180 := eq_true p180
              replace q180 := eq_true q180
              go_wp2
              go_roundg k1
              case measure => have := HK1.out; omega
              case rel => exact ⟨(wrap64 (x8_1 + 1)), (by first | rfl | (simp; done) | (simp [*]; done)), H', ⟨by have := HK1.out; omega⟩, by repeat (first | exact Drawn0.refl _ | apply Drawn0.step)⟩
          · rw [if_neg c5] at H
            exact absurd H (by simp)
        · rw [if_neg c4] at H
          exact absurd H (by simp)
      · rw [if_neg c3] at H
        have c3b0 : decide (x8_1 < (l0.length : Int)) = false := decide_eq_false c3
        clear c3
        obtain rfl := Option.some.inj H
        go_wp2
        go_ret
        exact ⟨by first | rfl | (simp; done) | (simp [*]; done), by repeat (first | exact Drawn0.refl _ | apply Drawn0.step)⟩

end Go.Proofs.YtajcnjdinmgpjaaGreatDoor.P
namespace Go.Proofs.YtajcnjdinmgpjaaGreatDoor.P
open Go.RowKit Go.Proofs.YtajcnjdinmgpjaaGreatDoorW.PrintWords Go.Proofs.YtajcnjdinmgpjaaGreatDoorW.PrintLast Go.Proofs.YtajcnjdinmgpjaaGreatDoorW.PrintMore
attribute [local go_sem] max2_int min2_int max_two min_two max_three min_three max_four min_four   -- for this text's walks alone
set_option linter.unusedVariables false
set_option linter.unusedSimpArgs false

/-! ### slices_Contains_int_int: function 96 -/
def slices_Contains_int_int.f (k : Nat) (l0 : List Int) (a1 : Int) : Option (Bool) := (slices_Index_int_int.f k l0 a1).bind fun t181 => (some (decide (t181 ≥ 0)))
theorem slices_Contains_int_int.mono : ∀ a0 a1 k, LeO (slices_Contains_int_int.f k a0 a1) (slices_Contains_int_int.f (k + 1) a0 a1) := by
  intro a0 a1 k
  unfold slices_Contains_int_int.f
  repeat' first
      | (with_reducible exact slices_Index_int_int.mono _ _ _)
      | (with_reducible exact LeO.refl _)
      | (with_reducible exact LeO.none _)
      | (with_reducible refine LeO.ite ?_ ?_)
      | (with_reducible refine LeO.bind ?_ (fun _ => ?_))
      | exact slices_Index_int_int.mono _ _ _
      | exact LeO.none _
      | refine LeO.ite ?_ ?_
      | refine LeO.bind ?_ (fun _ => ?_)
set_option maxHeartbeats 8000000 in
set_option maxRecDepth 100000 in
theorem slices_Contains_int_int.calls (k : Nat) (A0 : Option Addr) (c0 : Nat) (l0 : List Int) (a1 : Int) (r : Bool) (w : World) (hr0 : Kd.C (Kd.int .i64) w A0 l0.length l0) (hc0 : l0.length ≤ c0) (h : slices_Contains_int_int.f k l0 a1 = some r) :
    Calls Tryz.prog 96 #[.slice A0 l0.length c0, .int .i64 a1] w fun e w' => e = .returned (.bool r) ∧ Drawn0 w w' := by
  have HR0 := Aside0.mk hr0
  have HC0 := Aside0.mk hc0
  clear hr0 hc0
  have H : ((slices_Index_int_int.f k l0 a1).bind fun t181 => (some (decide (t181 ≥ 0)))) = some r := h
  clear h
  replace H := Option.bind_eq_some_iff.mp H
  obtain ⟨t181, A30, H⟩ := H
  replace H : (some (decide (t181 ≥ 0))) = some r := H
  have A3 := Aside0.mk A30
  clear A30
  obtain rfl := Option.some.inj H
  go_enter Tryz.func96, Tryz.ntmps96
  go_wp2_with (first | ((with_reducible refine gate_callee (f := 98) rfl ?_); refine goesL_ (some 7) rfl rfl Tryz.func98 (by kernel_rfl) rfl #[.slice A0 l0.length c0, .int .i64 a1] rfl (by (try simp only [List.map_toArray, List.map_cons, List.map_nil]); first | done | rfl | (simp only [List.length_drop, List.length_take]; rfl)) ?_; (with_reducible refine (slices_Index_int_int.calls k _ _ l0 a1 t181 _ ?side1 ?side2 A3.out).mono ?_); (case side1 => repeat (first | exact HR0.out | (with_reducible refine Kd.C_alloc ?_ _) | (with_reducible refine Kd.C_drewN ?_ _) | (with_reducible refine Kd.C_drew ?_))); (case side2 => exact HC0.out); rintro e w' ⟨rfl, ⟨nd, rfl⟩⟩; refine ⟨_, rfl, ?_⟩))
  go_ret
  exact ⟨by first | rfl | (simp; done) | (simp [*]; done), by repeat (first | exact Drawn0.refl _ | apply Drawn0.step)⟩

end Go.Proofs.YtajcnjdinmgpjaaGreatDoor.P
/- Words of this seat's own walks: a block's cells as the walk asks them. -/
namespace Go.Proofs.YtajcnjdinmgpjaaGreatDoor.X
open Go.RowKit Go.Proofs.YtajcnjdinmgpjaaGreatDoorW.PrintWords Go.Proofs.YtajcnjdinmgpjaaGreatDoorW.PrintLast Go.Proofs.YtajcnjdinmgpjaaGreatDoorW.PrintMore

theorem cz {w : World} {b : Nat} {t : TypeId} {cs : Array Value} (h : w.heap[b]? = some (.cells cs t (0, 0))) (i : Nat) {v : Value} (hv : cs[i]? = some v) : w.cell? ⟨b, i, none⟩ = some v := (blk_cell h i).trans hv
theorem fz {w : World} {b : Nat} {t : TypeId} {cs : Array Value} (h : w.heap[b]? = some (.cells cs t (0, 0))) : ∀ i, w.frozen? ⟨b, i, none⟩ = false := fun i => blk_frozen h i
theorem open1 {w : World} {b : Nat} {t : TypeId} {v0 : Value} (h : w.heap[b]? = some (.cells #[v0] t (0, 0))) : w.cell? ⟨b, 0, none⟩ = some v0 ∧ w.frozen? ⟨b, 0, none⟩ = false ∧ b < w.heap.size := ⟨cz h 0 rfl, fz h 0, blk_lt h⟩
theorem open2 {w : World} {b : Nat} {t : TypeId} {v0 v1 : Value} (h : w.heap[b]? = some (.cells #[v0, v1] t (0, 0))) : w.cell? ⟨b, 0, none⟩ = some v0 ∧ w.cell? ⟨b, 1, none⟩ = some v1 ∧ (∀ i, w.frozen? ⟨b, i, none⟩ = false) ∧ b < w.heap.size := ⟨cz h 0 rfl, cz h 1 rfl, fz h, blk_lt h⟩
theorem open4 {w : World} {b : Nat} {t : TypeId} {v0 v1 v2 v3 : Value} (h : w.heap[b]? = some (.cells #[v0, v1, v2, v3] t (0, 0))) : w.cell? ⟨b, 0, none⟩ = some v0 ∧ w.cell? ⟨b, 1, none⟩ = some v1 ∧ w.cell? ⟨b, 2, none⟩ = some v2 ∧ w.cell? ⟨b, 3, none⟩ = some v3 ∧ (∀ i, w.frozen? ⟨b, i, none⟩ = false) ∧ b < w.heap.size := ⟨cz h 0 rfl, cz h 1 rfl, cz h 2 rfl, cz h 3 rfl, fz h, blk_lt h⟩
theorem open5 {w : World} {b : Nat} {t : TypeId} {v0 v1 v2 v3 v4 : Value} (h : w.heap[b]? = some (.cells #[v0, v1, v2, v3, v4] t (0, 0))) : w.cell? ⟨b, 0, none⟩ = some v0 ∧ w.cell? ⟨b, 1, none⟩ = some v1 ∧ w.cell? ⟨b, 2, none⟩ = some v2 ∧ w.cell? ⟨b, 3, none⟩ = some v3 ∧ w.cell? ⟨b, 4, none⟩ = some v4 ∧ (∀ i, w.frozen? ⟨b, i, none⟩ = false) ∧ b < w.heap.size := ⟨cz h 0 rfl, cz h 1 rfl, cz h 2 rfl, cz h 3 rfl, cz h 4 rfl, fz h, blk_lt h⟩

/-- All blocks but g (and a row) are as they were, and so is all but the memory. -/
structure Kp (w w' : World) (g : Nat) (row : Option Nat) : Prop where
  size : w.heap.size ≤ w'.heap.size
  blks : ∀ i, i < w.heap.size → i ≠ g → some i ≠ row → w'.heap[i]? = w.heap[i]?
  os : w'.os = w.os
  tape : w'.tape = w.tape
  output : w'.output = w.output
theorem Kp.k {w w' : World} {g : Nat} {row : Option Nat} (h : Kp w w' g row) : KeepBut w w' g row := ⟨h.1, h.2⟩
theorem Kp.of {w w' : World} {g : Nat} {row : Option Nat} (h : KeepBut w w' g row) (k : Below 0 w w') : Kp w w' g row := ⟨h.1, h.2, k.os, k.tape, k.output⟩
theorem Kp.refl (w : World) (g : Nat) (row : Option Nat) : Kp w w g row := ⟨Nat.le_refl _, fun _ _ _ _ => rfl, rfl, rfl, rfl⟩
theorem Kp.of_grown {w w1 : World} {row : Option Nat} (h : w.grownBy w1 row) (g : Nat) : Kp w w1 g row := ⟨h.size, fun i hi _ hr => h.block i hi hr, h.os, h.tape, h.output⟩
theorem Kp.of_below {w w1 : World} (h : Below w.heap.size w w1) (g : Nat) (row : Option Nat) : Kp w w1 g row := ⟨h.size, fun i hi _ _ => h.block i hi, h.os, h.tape, h.output⟩
theorem Kp.trans {w w1 w2 : World} {g : Nat} {row row1 : Option Nat} (h : Kp w w1 g row) (k : Kp w1 w2 g row1) (hr : row1 = row ∨ ∃ b, row1 = some b ∧ w.heap.size ≤ b) : Kp w w2 g row :=
  have e := KeepBut.trans h.k k.k hr
  ⟨e.1, e.2, k.os.trans h.os, k.tape.trans h.tape, k.output.trans h.output⟩
theorem Kp.blk {w w1 : World} {g g' : Nat} {row : Option Nat} {o : Obj} (h : Kp w w1 g row) (hb : w.heap[g']? = some o) (hg : g' ≠ g) (hr : some g' ≠ row) : w1.heap[g']? = some o := h.k.blk hb hg hr
theorem Kp.set_ {w w1 : World} {g : Nat} {row : Option Nat} (h : Kp w w1 g row) (j : Nat) (u : Value) : Kp w (w1.setCell ⟨g, j, none⟩ u) g row :=
  have b := (Below.refl 0 w1).setCell (p := ⟨g, j, none⟩) (Nat.zero_le _) u
  have e := h.k.set_ j u
  ⟨e.1, e.2, b.os.trans h.os, b.tape.trans h.tape, b.output.trans h.output⟩
theorem kpAlloc {w W : World} {g : Nat} (h : Kp w W g none) (o : Obj) : Kp w (W.alloc o) g none := h.trans (Kp.of_grown (World.grownBy_alloc W o none) g) (.inl rfl)
theorem kpFar {w W : World} {g : Nat} {row : Option Nat} (h : Kp w W g row) {p : Addr} (hp : w.heap.size ≤ p.block) (u : Value) : Kp w (W.setCell p u) g row :=
  have b := (Below.refl 0 W).setCell (p := p) (Nat.zero_le _) u
  have e := keep_far h.k hp u
  ⟨e.1, e.2, b.os.trans h.os, b.tape.trans h.tape, b.output.trans h.output⟩
theorem kpDrew {w W : World} {g : Nat} {row : Option Nat} (h : Kp w W g row) : Kp w W.drew g row := ⟨h.1, h.2, h.os, h.tape, h.output⟩
theorem N_kp {α : Type} {d : Kd α} {e base : Nat} {ok : Nat → Prop} {w w1 : World} {v : Value} {xs : List α} {g : Nat} (h : Kd.N d e w base ok v xs) (hk : Kp w w1 g none) (hok : ∀ k, ok k → k ≠ g) : Kd.N d e w1 base ok v xs := Kd.N_keep h hk.k hok

/-- A block that was laid lives on in a call that keeps all but g. -/
theorem keepNew {W w1 : World} {g : Nat} {o : Obj} (hK : Kp (W.alloc o) w1 g none) (hg : g < W.heap.size) : w1.heap[W.heap.size]? = some o := hK.blk (blk_new W o) (by omega) (by simp)
theorem belowNew {W w1 : World} {o : Obj} (hB : Below (W.alloc o).heap.size (W.alloc o) w1) : w1.heap[W.heap.size]? = some o := blk_below (blk_new W o) hB
theorem set4 {w : World} {b : Nat} {t : TypeId} {v0 v1 v2 v3 u0 u1 u2 u3 : Value} (h : w.heap[b]? = some (.cells #[v0, v1, v2, v3] t (0, 0))) : ((((w.setCell ⟨b, 0, none⟩ u0).setCell ⟨b, 1, none⟩ u1).setCell ⟨b, 2, none⟩ u2).setCell ⟨b, 3, none⟩ u3).heap[b]? = some (.cells #[u0, u1, u2, u3] t (0, 0)) := blk_put (blk_put (blk_put (blk_put h 0 u0 rfl) 1 u1 rfl) 2 u2 rfl) 3 u3 rfl
theorem set5 {w : World} {b : Nat} {t : TypeId} {v0 v1 v2 v3 v4 u0 u1 u2 u3 u4 : Value} (h : w.heap[b]? = some (.cells #[v0, v1, v2, v3, v4] t (0, 0))) : (((((w.setCell ⟨b, 0, none⟩ u0).setCell ⟨b, 1, none⟩ u1).setCell ⟨b, 2, none⟩ u2).setCell ⟨b, 3, none⟩ u3).setCell ⟨b, 4, none⟩ u4).heap[b]? = some (.cells #[u0, u1, u2, u3, u4] t (0, 0)) := blk_put (blk_put (blk_put (blk_put (blk_put h 0 u0 rfl) 1 u1 rfl) 2 u2 rfl) 3 u3 rfl) 4 u4 rfl
theorem add_zero' (ad : Addr) : ad.add 0 = ad := by simp [Addr.add]
/-- The world behind a call in which only g, and what is new, may have turned: what is kept, in one. -/
theorem keep1 {w W w1 : World} {g : Nat} (h : Kp w W g none) (k : Kp W w1 g none) : Kp w w1 g none := h.trans k (.inl rfl)
theorem keepB {w W w1 : World} {g : Nat} (h : Kp w W g none) (k : Below W.heap.size W w1) : Kp w w1 g none := h.trans (Kp.of_below k g none) (.inl rfl)
/-- A row of cells that lies in one block from its begin. -/
theorem C_scal {α : Type} {enc : α → Value} {h1 : ∀ x, (enc x).oneCell' = true} {w : World} {b t : Nat} (xs : List α) (h : w.heap[b]? = some (.cells (xs.map enc).toArray t (0, 0))) (hl : xs.length ≤ 9223372036854775807) : (Kd.scalar enc h1).C w (some ⟨b, 0, none⟩) xs.length xs := by
  refine ⟨rfl, hl, fun _ => ⟨_, rfl, fun j p hj => ⟨[enc p], rfl, rfl, fun i u hu => ?_⟩⟩⟩
  have hi : i = 0 := by
    rcases i with _ | i
    · rfl
    · simp at hu
  subst hi
  have hu' : enc p = u := by simpa using hu
  subst hu'
  have ha : (⟨b, 0, none⟩ : Addr).add (j * 1 + 0) = ⟨b, j, none⟩ := by simpa using add_plain b j
  show w.cell? ((⟨b, 0, none⟩ : Addr).add (j * 1 + 0)) = _
  rw [ha, blk_cell h j]
  simp [hj]
end Go.Proofs.YtajcnjdinmgpjaaGreatDoor.X
/- Words for what the reader of the parser holds, and for trees that are read. -/
namespace Go.Proofs.YtajcnjdinmgpjaaGreatDoor.X
open Go.RowKit Go.Proofs.YtajcnjdinmgpjaaGreatDoorW.PrintWords Go.Proofs.YtajcnjdinmgpjaaGreatDoorW.PrintLast Go.Proofs.YtajcnjdinmgpjaaGreatDoorW.PrintMore Go.Proofs.YtajcnjdinmgpjaaGreatDoor.P

def tokV (t : Tok) : Value := .agg #[.int .i64 t.f0, .string t.f1, .int .i64 t.f2, .int .i64 t.f3]
theorem fldTok0 (a : Int) (b : ByteArray) (c d : Int) (w : World) : (Instr.field 46 (.agg #[.int .i64 a, .string b, .int .i64 c, .int .i64 d]) 0).run Tryz.prog w = .ok (.int .i64 a) w := by kernel_rfl
theorem fldTok1 (a : Int) (b : ByteArray) (c d : Int) (w : World) : (Instr.field 46 (.agg #[.int .i64 a, .string b, .int .i64 c, .int .i64 d]) 1).run Tryz.prog w = .ok (.string b) w := by kernel_rfl
theorem fldTok3 (a : Int) (b : ByteArray) (c d : Int) (w : World) : (Instr.field 46 (.agg #[.int .i64 a, .string b, .int .i64 c, .int .i64 d]) 3).run Tryz.prog w = .ok (.int .i64 d) w := by kernel_rfl

/-- what the parser's panic hands up -/
def wrongP (n : Int) : Ending := .panicked [{ v := .iface 56 (.agg #[.int .i64 n]), recovered := false }]

/-- the reader: a block of its own, whose tokens were there at w0 -/
def Rdr (w0 w : World) (g : Nat) (l : List Tok) (en : Int) : Prop := ∃ A c, w.heap[g]? = some (.cells #[.slice A l.length c, .int .i64 en] 42 (0, 0)) ∧ l.length ≤ c ∧ w0.heap.size ≤ g ∧ Kd.C k46 w0 A l.length l ∧ Below w0.heap.size w0 w

theorem Rdr.below {w0 w w1 : World} {g : Nat} {l : List Tok} {en : Int} (h : Rdr w0 w g l en) (hb : Below w.heap.size w w1) : Rdr w0 w1 g l en := by
  obtain ⟨A, c, h1, h2, h3, h4, h5⟩ := h
  exact ⟨A, c, (hb.block g (blk_lt h1)).trans h1, h2, h3, h4, below_then h5 h5.size hb⟩

theorem Rdr.far {w0 w : World} {g b : Nat} {l : List Tok} {en : Int} (h : Rdr w0 w g l en) (hne : g ≠ b) (hb : w0.heap.size ≤ b) (j : Nat) (v : Value) : Rdr w0 (w.setCell ⟨b, j, none⟩ v) g l en := by
  obtain ⟨A, c, h1, h2, h3, h4, h5⟩ := h
  exact ⟨A, c, blk_far h1 hne v, h2, h3, h4, h5.setCell hb _⟩

set_option maxRecDepth 100000 in
theorem next_calls (g : Nat) (l : List Tok) (en : Int) (w0 w : World) (hI : Rdr w0 w g l en) :
    Calls Tryz.prog 48 #[.pointer (some ⟨g, 0, none⟩)] w fun e w' => e = .returned (tokV (hd l en)) ∧ Rdr w0 w' g l en ∧ Below w.heap.size w w' := by
  have hI' := Lib.hid hI
  obtain ⟨A, c, hb, hlc, hg, hC, hB⟩ := hI
  have c0 : w.cell? ⟨g, 0, none⟩ = some (.slice A l.length c) := (blk_cell hb 0).trans rfl
  have c1 : w.cell? ⟨g, 1, none⟩ = some (.int .i64 en) := (blk_cell hb 1).trans rfl
  have hlt := blk_lt hb
  cases l with
  | nil =>
    simp only [List.length_nil] at c0
    go_enter Tryz.func48, Tryz.ntmps48
    go_wp2
    have hbl : Below w.heap.size w (w.alloc (.cells #[.int .i64 0, .string ⟨#[]⟩, .int .i64 0, .int .i64 en] 46)) := below_alloc (Below.refl _ _) _
    exact bodyPost_ret (v := tokV (hd [] en)) (by simp [results, Tryz.results48, go_sem, tokV, hd]) rfl ⟨rfl, hI'.out.below hbl, hbl⟩
  | cons t l =>
    obtain ⟨ad, e, h0, h1, h2, h3⟩ := at_T46 hC 0 (by omega) (by simp)
    subst e
    have k : ∀ a v, w0.cell? a = some v → w.cell? a = some v := fun a v h => (hB.cell (World.block_lt_of_cell? w0 _ h)).trans h
    replace h0 := k _ _ h0
    replace h1 := k _ _ h1
    replace h2 := k _ _ h2
    replace h3 := k _ _ h3
    simp only [rd_T46, Int.toNat_zero, Nat.zero_mul, List.getD_cons_zero, add_zero'] at h0 h1 h2 h3
    have hlt2 := World.block_lt_of_cell? w _ h0
    clear k hC hB
    go_enter Tryz.func48, Tryz.ntmps48
    go_wp2
    have hbl : Below w.heap.size w (w.alloc (.cells #[.int .i64 t.f0, .string t.f1, .int .i64 t.f2, .int .i64 t.f3] 46)) := below_alloc (Below.refl _ _) _
    exact bodyPost_ret (v := tokV t) (by simp [results, Tryz.results48, go_sem, tokV]) rfl ⟨rfl, hI'.out.below hbl, hbl⟩

theorem must_yes (g : Nat) (w : World) : Calls Tryz.prog 26 #[.pointer (some ⟨g, 0, none⟩), .bool true] w fun e w' => e = .returned (.tuple #[]) ∧ w = w' := by
  go_enter Tryz.func26, Tryz.ntmps26
  go_wp2
  go_end0
  exact ⟨rfl, rfl⟩

section
attribute [local go_sem] fldTok0 fldTok1 fldTok3
set_option maxRecDepth 100000 in
theorem must_no (g : Nat) (l : List Tok) (en : Int) (w0 w : World) (hI : Rdr w0 w g l en) :
    Calls Tryz.prog 26 #[.pointer (some ⟨g, 0, none⟩), .bool false] w fun e w' => e = wrongP (hd l en).f3 ∧ Below w.heap.size w w' := by
  go_enter Tryz.func26, Tryz.ntmps26
  go_wp2_with fail
  refine (next_calls g l en w0 w hI).mono ?_
  rintro e w' ⟨rfl, hI, hB⟩
  unfold tokV
  go_wp2
  exact ⟨rfl, rfl, hB⟩

set_option maxRecDepth 100000 in
theorem is_calls (g : Nat) (l : List Tok) (en : Int) (s : ByteArray) (w0 w : World) (hI : Rdr w0 w g l en) :
    Calls Tryz.prog 43 #[.pointer (some ⟨g, 0, none⟩), .string s] w fun e w' => e = .returned (.bool (isW l s)) ∧ Rdr w0 w' g l en ∧ Below w.heap.size w w' := by
  obtain ⟨x0, hx0⟩ : ∃ x, x = (hd l en).f0 := ⟨_, rfl⟩
  have e : isW l s = ((x0 == 4 || x0 == 5) && ((hd l en).f1.toList == s.toList)) := by rw [hx0]; cases l <;> simp [isW, hd]
  rw [e]
  obtain ⟨x1, hx1⟩ : ∃ x, x = (hd l en).f1 := ⟨_, rfl⟩
  rw [← hx1]
  have X0 := Lib.hid hx0
  have X1 := Lib.hid hx1
  clear hx0 hx1 e
  by_cases h4 : x0 = 4
  · subst h4
    go_enter Tryz.func43, Tryz.ntmps43
    go_wp2_with fail
    refine (next_calls g l en w0 w hI).mono ?_
    rintro e w' ⟨rfl, hI, hB⟩
    unfold tokV
    rw [← X0.out, ← X1.out]
    go_wp2
    go_ret
    exact ⟨by simp, hI.below (below_alloc (Below.refl _ _) _), below_alloc hB _⟩
  · have h4' : (x0 == 4) = false := by simpa using h4
    by_cases h5 : x0 = 5
    · subst h5
      go_enter Tryz.func43, Tryz.ntmps43
      go_wp2_with fail
      refine (next_calls g l en w0 w hI).mono ?_
      rintro e w' ⟨rfl, hI, hB⟩
      unfold tokV
      rw [← X0.out, ← X1.out]
      go_wp2
      go_ret
      exact ⟨by simp, hI.below (below_alloc (Below.refl _ _) _), below_alloc hB _⟩
    · have h5' : (x0 == 5) = false := by simpa using h5
      go_enter Tryz.func43, Tryz.ntmps43
      go_wp2_with fail
      refine (next_calls g l en w0 w hI).mono ?_
      rintro e w' ⟨rfl, hI, hB⟩
      unfold tokV
      rw [← X0.out, ← X1.out]
      go_wp2
      go_ret
      exact ⟨by simp [h4, h5], hI.below (below_alloc (Below.refl _ _) _), below_alloc hB _⟩

/-- The reader behind a take: other worlds with more blocks. -/
theorem Rdr.take_ {w0 w : World} {g : Nat} {l : List Tok} {en : Int} {A : Option Addr} {c : Nat} (h0 : w0.heap.size ≤ g) (hb : w.heap[g]? = some (.cells #[.slice A l.length c, .int .i64 en] 42 (0, 0))) (hlc : l.length ≤ c) (hC : Kd.C k46 w0 A l.length l) (hB : Below w0.heap.size w0 w) : Rdr w0 w g l en := ⟨A, c, hb, hlc, h0, hC, hB⟩

set_option maxRecDepth 100000 in
theorem take_calls (g : Nat) (l : List Tok) (en : Int) (w0 w : World) (hI : Rdr w0 w g l en) :
    Calls Tryz.prog 64 #[.pointer (some ⟨g, 0, none⟩)] w fun e w' => e = .returned (tokV (hd l en)) ∧ Rdr w0 w' g l.tail en ∧ Kp w w' g none := by
  cases l with
  | nil =>
    have hgw : g < w.heap.size ∧ w0.heap.size ≤ w.heap.size := by obtain ⟨A, c, hb, _, _, _, hB⟩ := hI; exact ⟨blk_lt hb, hB.size⟩
    go_enter Tryz.func64, Tryz.ntmps64
    go_wp2_with fail
    refine (next_calls g [] en w0 _ (hI.below (below_alloc (Below.refl _ _) _))).mono ?_
    rintro e w' ⟨rfl, hI', hB⟩
    unfold tokV
    have hb2 := belowNew hB
    obtain ⟨r0, r1, r2, r3, rf, rl⟩ := open4 hb2
    have hI2 := Lib.hid hI'
    obtain ⟨A, c, hb, hlc, hg, hC, hBB⟩ := hI'
    obtain ⟨c0, c1, cf, hlt⟩ := open2 hb
    simp only [List.length_nil] at c0
    clear hC hBB hb hlc c1 cf
    go_wp2
    have hK : Kp w w' g none := keepB (kpAlloc (Kp.refl w g none) _) hB
    exact bodyPost_ret (results_cell_row rfl _ _ w.heap.size 46 #[.int .i64 (hd [] en).f0, .string (hd [] en).f1, .int .i64 (hd [] en).f2, .int .i64 (hd [] en).f3] (0, 0) _ rfl (blk_alloc (set4 hb2) _) Tryz.underlying46 rfl (by kernel_rfl)) rfl
      ⟨rfl, (((((hI2.out.far (b := w.heap.size) (by omega) (by omega) 0 _).far (by omega) (by omega) 1 _).far (by omega) (by omega) 2 _).far (by omega) (by omega) 3 _).below (below_alloc (Below.refl _ _) _)), kpAlloc (kpFar (kpFar (kpFar (kpFar hK (by simp) _) (by simp) _) (by simp) _) (by simp) _) _⟩
  | cons t l =>
    have hgw : g < w.heap.size := by obtain ⟨A, c, hb, _⟩ := hI; exact blk_lt hb
    go_enter Tryz.func64, Tryz.ntmps64
    go_wp2_with fail
    refine (next_calls g (t :: l) en w0 _ (hI.below (below_alloc (Below.refl _ _) _))).mono ?_
    rintro e w' ⟨rfl, hI', hB⟩
    unfold tokV
    have hb2 := belowNew hB
    obtain ⟨r0, r1, r2, r3, rf, rl⟩ := open4 hb2
    obtain ⟨A, c, hb, hlc, hg, hC, hBB⟩ := hI'
    obtain ⟨c0, c1, cf, hlt⟩ := open2 hb
    simp only [List.length_cons] at c0 hlc hC
    obtain ⟨i0, hi, hzz⟩ := Option.map_eq_some_iff.1 info46
    simp only [Prod.mk.injEq] at hzz
    obtain ⟨A', hcut, hC'⟩ : ∃ A', (∀ W : World, (Instr.slice 30 (.slice A (l.length + 1) c) (some (.int .i64 1)) none none).run Tryz.prog W = .ok (.slice A' l.length (c - 1)) W) ∧ Kd.C k46 w0 A' l.length l :=
      ⟨_, cut_from (P := Tryz.prog) 30 46 .i64 Tryz.underlying30 hi 4 hzz.2.1 A (l.length + 1) c 1 (by omega) (by omega), Kd.C_drop (xs := t :: l) (m := 1) hC (by simp) hlc⟩
    have HC := Lib.hid hC'
    clear hzz hi hC hC'
    go_wp2
    have hK : Kp w w' g none := keepB (kpAlloc (Kp.refl w g none) _) hB
    have hr : Rdr w0 (w'.setCell ⟨g, 0, none⟩ (.slice A' l.length (c - 1))) g l en := ⟨A', c - 1, blk_put hb 0 _ rfl, by omega, hg, HC.out, hBB.setCell hg _⟩
    have hw : w0.heap.size ≤ w.heap.size := by obtain ⟨A, c, _, _, _, _, h⟩ := hI; exact h.size
    exact bodyPost_ret (results_cell_row rfl _ _ w.heap.size 46 #[.int .i64 (hd (t :: l) en).f0, .string (hd (t :: l) en).f1, .int .i64 (hd (t :: l) en).f2, .int .i64 (hd (t :: l) en).f3] (0, 0) _ rfl (blk_alloc (set4 (blk_far hb2 (by simp; omega) _)) _) Tryz.underlying46 rfl (by kernel_rfl)) rfl
      ⟨rfl, (((((hr.far (b := w.heap.size) (by omega) hw 0 _).far (by omega) hw 1 _).far (by omega) hw 2 _).far (by omega) hw 3 _).below (below_alloc (Below.refl _ _) _)), kpAlloc (kpFar (kpFar (kpFar (kpFar (hK.set_ 0 _) (by simp) _) (by simp) _) (by simp) _) (by simp) _) _⟩

theorem Rdr.lt {w0 w : World} {g : Nat} {l : List Tok} {en : Int} (h : Rdr w0 w g l en) : g < w.heap.size ∧ w0.heap.size ≤ w.heap.size := by
  obtain ⟨A, c, hb, _, _, _, hB⟩ := h
  exact ⟨blk_lt hb, hB.size⟩
theorem Rdr.drew {w0 w : World} {g : Nat} {l : List Tok} {en : Int} (h : Rdr w0 w g l en) : Rdr w0 w.drew g l en := h.below (below_drew (Below.refl _ _))
theorem Rdr.alloc {w0 w : World} {g : Nat} {l : List Tok} {en : Int} (h : Rdr w0 w g l en) (o : Obj) : Rdr w0 (w.alloc o) g l en := h.below (below_alloc (Below.refl _ _) _)
/-- A token is stored into a block that is new since w. -/
theorem tokStored {w0 w w1 : World} {g b : Nat} {l : List Tok} {en : Int} {t : Tok} {v0 v1 v2 v3 : Value} (hr : Rdr w0 w1 g l en) (hK : Kp w w1 g none) (hb : w1.heap[b]? = some (.cells #[v0, v1, v2, v3] 46 (0, 0))) (hwb : w.heap.size ≤ b) (hw : w0.heap.size ≤ w.heap.size) (hne : g ≠ b) :
    ∃ w2, w2 = ((((w1.setCell ⟨b, 0, none⟩ (.int .i64 t.f0)).setCell ⟨b, 1, none⟩ (.string t.f1)).setCell ⟨b, 2, none⟩ (.int .i64 t.f2)).setCell ⟨b, 3, none⟩ (.int .i64 t.f3)) ∧
      w2.heap[b]? = some (.cells #[.int .i64 t.f0, .string t.f1, .int .i64 t.f2, .int .i64 t.f3] 46 (0, 0)) ∧ Rdr w0 w2 g l en ∧ Kp w w2 g none :=
  ⟨_, rfl, set4 hb, (((hr.far hne (by omega) 0 _).far hne (by omega) 1 _).far hne (by omega) 2 _).far hne (by omega) 3 _, kpFar (kpFar (kpFar (kpFar hK hwb _) hwb _) hwb _) hwb _⟩

set_option maxRecDepth 100000 in
theorem word_yes (g : Nat) (l : List Tok) (en : Int) (s : ByteArray) (w0 w : World) (hI : Rdr w0 w g l en) (h : isW l s = true) :
    Calls Tryz.prog 62 #[.pointer (some ⟨g, 0, none⟩), .string s] w fun e w' => e = .returned (tokV (hd l en)) ∧ Rdr w0 w' g l.tail en ∧ Kp w w' g none := by
  have H := Lib.hid h
  obtain ⟨hgw, hw⟩ := hI.lt
  clear h
  go_enter Tryz.func62, Tryz.ntmps62
  go_wp2_with fail
  refine (is_calls g l en s w0 _ (hI.alloc _)).mono ?_
  rintro e w1 ⟨rfl, hI1, hB1⟩
  rw [H.out]
  have hb1 := belowNew hB1
  go_wp2_with fail
  refine (must_yes g w1).mono ?_
  rintro e w' ⟨rfl, rfl⟩
  go_wp2_with fail
  refine (take_calls g l en w0 w1 hI1).mono ?_
  rintro e w2 ⟨rfl, hI2, hK2⟩
  have hb2 := hK2.blk hb1 (by omega) (by simp)
  obtain ⟨r0, r1, r2, r3, rf, rl⟩ := open4 hb2
  obtain ⟨w3, e3, hb3, hI3, hK3⟩ := tokStored (t := hd l en) hI2 (keep1 (keepB (kpAlloc (Kp.refl w g none) _) hB1) hK2) hb2 (Nat.le_refl _) hw (by omega)
  have E3 := Lib.hid e3
  clear e3 hb1
  unfold tokV
  go_wp2
  rw [← E3.out]
  exact bodyPost_ret (results_cell_row rfl _ _ w.heap.size 46 _ (0, 0) _ rfl hb3 Tryz.underlying46 rfl (by kernel_rfl)) rfl ⟨rfl, hI3, hK3⟩

theorem word_no (g : Nat) (l : List Tok) (en : Int) (s : ByteArray) (w0 w : World) (hI : Rdr w0 w g l en) (h : isW l s = false) :
    Calls Tryz.prog 62 #[.pointer (some ⟨g, 0, none⟩), .string s] w fun e w' => e = wrongP (hd l en).f3 ∧ Kp w w' g none := by
  have H := Lib.hid h
  clear h
  go_enter Tryz.func62, Tryz.ntmps62
  go_wp2_with fail
  refine (is_calls g l en s w0 _ (hI.alloc _)).mono ?_
  rintro e w1 ⟨rfl, hI1, hB1⟩
  rw [H.out]
  go_wp2_with fail
  refine (must_no g l en w0 w1 hI1).mono ?_
  rintro e w2 ⟨rfl, hB2⟩
  unfold wrongP
  go_wp2
  exact ⟨rfl, rfl, keepB (keepB (kpAlloc (Kp.refl w g none) _) hB1) hB2⟩

set_option maxRecDepth 100000 in
theorem kind_yes (g : Nat) (l : List Tok) (en : Int) (k : Int) (w0 w : World) (hI : Rdr w0 w g l en) (h : (hd l en).f0 = k) :
    Calls Tryz.prog 63 #[.pointer (some ⟨g, 0, none⟩), .int .i64 k] w fun e w' => e = .returned (tokV (hd l en)) ∧ Rdr w0 w' g l.tail en ∧ Kp w w' g none := by
  have H := Lib.hid (show ((hd l en).f0 == k) = true by simpa using h)
  obtain ⟨hgw, hw⟩ := hI.lt
  clear h
  go_enter Tryz.func63, Tryz.ntmps63
  go_wp2_with fail
  refine (next_calls g l en w0 _ (hI.alloc _)).mono ?_
  rintro e w1 ⟨rfl, hI1, hB1⟩
  have hb1 := belowNew hB1
  unfold tokV
  go_wp2_with fail
  rw [H.out]
  refine (must_yes g w1).mono ?_
  rintro e w' ⟨rfl, rfl⟩
  go_wp2_with fail
  refine (take_calls g l en w0 w1 hI1).mono ?_
  rintro e w2 ⟨rfl, hI2, hK2⟩
  have hb2 := hK2.blk hb1 (by omega) (by simp)
  obtain ⟨r0, r1, r2, r3, rf, rl⟩ := open4 hb2
  obtain ⟨w3, e3, hb3, hI3, hK3⟩ := tokStored (t := hd l en) hI2 (keep1 (keepB (kpAlloc (Kp.refl w g none) _) hB1) hK2) hb2 (Nat.le_refl _) hw (by omega)
  have E3 := Lib.hid e3
  clear e3 hb1
  unfold tokV
  go_wp2
  rw [← E3.out]
  exact bodyPost_ret (results_cell_row rfl _ _ w.heap.size 46 _ (0, 0) _ rfl hb3 Tryz.underlying46 rfl (by kernel_rfl)) rfl ⟨rfl, hI3, hK3⟩

theorem kind_no (g : Nat) (l : List Tok) (en : Int) (k : Int) (w0 w : World) (hI : Rdr w0 w g l en) (h : (hd l en).f0 ≠ k) :
    Calls Tryz.prog 63 #[.pointer (some ⟨g, 0, none⟩), .int .i64 k] w fun e w' => e = wrongP (hd l en).f3 ∧ Kp w w' g none := by
  have H := Lib.hid (show ((hd l en).f0 == k) = false by simpa using h)
  clear h
  go_enter Tryz.func63, Tryz.ntmps63
  go_wp2_with fail
  refine (next_calls g l en w0 _ (hI.alloc _)).mono ?_
  rintro e w1 ⟨rfl, hI1, hB1⟩
  unfold tokV
  go_wp2_with fail
  rw [H.out]
  refine (must_no g l en w0 w1 hI1).mono ?_
  rintro e w2 ⟨rfl, hB2⟩
  unfold wrongP
  go_wp2
  exact ⟨rfl, rfl, keepB (keepB (kpAlloc (Kp.refl w g none) _) hB1) hB2⟩

theorem hd_kd (l : List Tok) (en : Int) : (hd l en).f0 = kd l := by cases l <;> rfl
theorem hd_tx (l : List Tok) (en : Int) : (hd l en).f1 = tx l := by cases l <;> rfl
theorem atomic_calls (g : Nat) (l : List Tok) (en : Int) (w0 w : World) (hI : Rdr w0 w g l en) :
    Calls Tryz.prog 91 #[.pointer (some ⟨g, 0, none⟩)] w fun e w' => e = .returned (.bool (atomB l)) ∧ Rdr w0 w' g l en ∧ Below w.heap.size w w' := by
  by_cases h : isW l ⟨#[40]⟩ = true
  · have H := Lib.hid h
    unfold atomB
    rw [h, ← hd_kd l en]
    clear h
    go_enter Tryz.func91, Tryz.ntmps91
    go_wp2_with fail
    refine (is_calls g l en _ w0 w hI).mono ?_
    rintro e w1 ⟨rfl, hI1, hB1⟩
    rw [H.out]
    go_wp2
    go_ret
    exact ⟨by simp, hI1, hB1⟩
  · have H := Lib.hid (show isW l ⟨#[40]⟩ = false by simpa using h)
    unfold atomB
    rw [H.out, ← hd_kd l en]
    clear h
    go_enter Tryz.func91, Tryz.ntmps91
    go_wp2_with fail
    refine (is_calls g l en _ w0 w hI).mono ?_
    rintro e w1 ⟨rfl, hI1, hB1⟩
    rw [H.out]
    go_wp2_with fail
    refine (next_calls g l en w0 _ (hI1.alloc _)).mono ?_
    rintro e w2 ⟨rfl, hI2, hB2⟩
    have hb := belowNew hB2
    have hC := C_scal (h1 := fun _ => rfl) (enc := Value.int .i64) [1, 2, 3] hb (by decide)
    have hf : slices_Contains_int_int.f 9 [1, 2, 3] (hd l en).f0 = some ((hd l en).f0 == 1 || (hd l en).f0 == 2 || (hd l en).f0 == 3) := by
      obtain ⟨x, hx⟩ : ∃ x, x = (hd l en).f0 := ⟨_, rfl⟩
      rw [← hx]
      by_cases a1 : x = 1
      · subst a1; rfl
      · by_cases a2 : x = 2
        · subst a2; simp [slices_Contains_int_int.f, slices_Index_int_int.f, slices_Index_int_int.l0, rd, wrap64]
        · by_cases a3 : x = 3
          · subst a3; simp [slices_Contains_int_int.f, slices_Index_int_int.f, slices_Index_int_int.l0, rd, wrap64]
          · simp [slices_Contains_int_int.f, slices_Index_int_int.f, slices_Index_int_int.l0, rd, a1, a2, a3, wrap64]
    have HF := Lib.hid hf
    have HC := Lib.hid hC
    clear hf hC hb
    unfold tokV
    go_wp2_with fail
    refine (slices_Contains_int_int.calls 9 _ 3 [1, 2, 3] (hd l en).f0 _ w2 HC.out (by decide) HF.out).mono ?_
    rintro e w3 ⟨rfl, hD⟩
    have hB3 := hD.below
    clear hD
    go_wp2
    go_ret
    exact ⟨by simp, hI2.below hB3, below_step (below_step (below_alloc hB1 _) hB2) hB3⟩
end
end Go.Proofs.YtajcnjdinmgpjaaGreatDoor.X
/- The walks of the words: letters and digits. -/
namespace Go.Proofs.YtajcnjdinmgpjaaGreatDoor.X
open Go.RowKit Go.Proofs.YtajcnjdinmgpjaaGreatDoorW.PrintWords Go.Proofs.YtajcnjdinmgpjaaGreatDoorW.PrintLast Go.Proofs.YtajcnjdinmgpjaaGreatDoorW.PrintMore Go.Proofs.YtajcnjdinmgpjaaGreatDoor.P

def lowI (c : Int) : Bool := decide (97 ≤ c) && decide (c ≤ 122)
def upI (c : Int) : Bool := decide (65 ≤ c) && decide (c ≤ 90)
def digI (c : Int) : Bool := decide (48 ≤ c) && decide (c ≤ 57)
def wordI (c : Int) : Bool := lowI c || upI c || digI c
theorem lower_calls (c : Int) (w : World) : Calls Tryz.prog 54 #[.int .u8 c] w fun e w' => e = .returned (.bool (lowI c)) ∧ Below w.heap.size w w' := by
  by_cases h : 97 ≤ c
  · have e : lowI c = decide (c ≤ 122) := by simp [lowI, h]
    rw [e]
    go_enter Tryz.func54, Tryz.ntmps54
    go_wp2
    exact bodyPost_ret (results_tmp rfl _ _ _) rfl ⟨rfl, Below.refl _ _⟩
  · have e : lowI c = false := by simp [lowI, h]
    rw [e]
    go_enter Tryz.func54, Tryz.ntmps54
    go_wp2
    exact bodyPost_ret (results_tmp rfl _ _ _) rfl ⟨rfl, Below.refl _ _⟩
theorem upper_calls (c : Int) (w : World) : Calls Tryz.prog 55 #[.int .u8 c] w fun e w' => e = .returned (.bool (upI c)) ∧ Below w.heap.size w w' := by
  by_cases h : 65 ≤ c
  · have e : upI c = decide (c ≤ 90) := by simp [upI, h]
    rw [e]
    go_enter Tryz.func55, Tryz.ntmps55
    go_wp2
    exact bodyPost_ret (results_tmp rfl _ _ _) rfl ⟨rfl, Below.refl _ _⟩
  · have e : upI c = false := by simp [upI, h]
    rw [e]
    go_enter Tryz.func55, Tryz.ntmps55
    go_wp2
    exact bodyPost_ret (results_tmp rfl _ _ _) rfl ⟨rfl, Below.refl _ _⟩
theorem digit_calls (c : Int) (w : World) : Calls Tryz.prog 56 #[.int .u8 c] w fun e w' => e = .returned (.bool (digI c)) ∧ Below w.heap.size w w' := by
  by_cases h : 48 ≤ c
  · have e : digI c = decide (c ≤ 57) := by simp [digI, h]
    rw [e]
    go_enter Tryz.func56, Tryz.ntmps56
    go_wp2
    exact bodyPost_ret (results_tmp rfl _ _ _) rfl ⟨rfl, Below.refl _ _⟩
  · have e : digI c = false := by simp [digI, h]
    rw [e]
    go_enter Tryz.func56, Tryz.ntmps56
    go_wp2
    exact bodyPost_ret (results_tmp rfl _ _ _) rfl ⟨rfl, Below.refl _ _⟩
theorem wordly_calls (c : Int) (w : World) : Calls Tryz.prog 39 #[.int .u8 c] w fun e w' => e = .returned (.bool (wordI c)) ∧ Below w.heap.size w w' := by
  unfold wordI
  by_cases h1 : lowI c = true
  · rw [h1]
    have H1 := Lib.hid h1
    clear h1
    go_enter Tryz.func39, Tryz.ntmps39
    go_wp2_with fail
    refine (lower_calls c w).mono ?_
    rintro e w1 ⟨rfl, hB1⟩
    rw [H1.out]
    go_wp2
    exact bodyPost_ret (results_tmp rfl _ _ _) rfl ⟨rfl, hB1⟩
  · have h1' : lowI c = false := by simpa using h1
    rw [h1']
    have H1 := Lib.hid h1'
    clear h1 h1'
    by_cases h2 : upI c = true
    · rw [h2]
      have H2 := Lib.hid h2
      clear h2
      go_enter Tryz.func39, Tryz.ntmps39
      go_wp2_with fail
      refine (lower_calls c w).mono ?_
      rintro e w1 ⟨rfl, hB1⟩
      rw [H1.out]
      go_wp2_with fail
      refine (upper_calls c w1).mono ?_
      rintro e w2 ⟨rfl, hB2⟩
      rw [H2.out]
      go_wp2
      exact bodyPost_ret (results_tmp rfl _ _ _) rfl ⟨rfl, below_step hB1 hB2⟩
    · have h2' : upI c = false := by simpa using h2
      rw [h2']
      have H2 := Lib.hid h2'
      clear h2 h2'
      obtain ⟨d, hd⟩ : ∃ d, d = digI c := ⟨_, rfl⟩
      rw [← hd]
      have HD := Lib.hid hd
      clear hd
      go_enter Tryz.func39, Tryz.ntmps39
      go_wp2_with fail
      refine (lower_calls c w).mono ?_
      rintro e w1 ⟨rfl, hB1⟩
      rw [H1.out]
      go_wp2_with fail
      refine (upper_calls c w1).mono ?_
      rintro e w2 ⟨rfl, hB2⟩
      rw [H2.out]
      go_wp2_with fail
      refine (digit_calls c w2).mono ?_
      rintro e w3 ⟨rfl, hB3⟩
      rw [← HD.out]
      go_wp2
      exact bodyPost_ret (results_tmp rfl _ _ _) rfl ⟨rfl, below_step (below_step hB1 hB2) hB3⟩
/-- what ends a word: a rune that is no letter and no digit -/
def notW (c : Int) : Bool := decide (127 < c) || !wordI c
theorem first1_calls (c : Int) (hc : 0 ≤ c) (w : World) : Calls Tryz.prog 38 #[.int .i32 c] w fun e w' => e = .returned (.bool (notW c)) ∧ Below w.heap.size w w' := by
  by_cases h1 : 127 < c
  · have e : notW c = true := by simp [notW, h1]
    rw [e]
    go_enter Tryz.func38, Tryz.ntmps38
    go_wp2
    exact bodyPost_ret (results_tmp rfl _ _ _) rfl ⟨rfl, Below.refl _ _⟩
  · have e : notW c = !wordI c := by simp [notW, h1]
    rw [e]
    have H := wordly_calls c w
    obtain ⟨d, hd⟩ : ∃ d, d = wordI c := ⟨_, rfl⟩
    rw [← hd] at H ⊢
    clear hd e
    go_enter Tryz.func38, Tryz.ntmps38
    go_wp2_with fail
    refine H.mono ?_
    rintro e w1 ⟨rfl, hB1⟩
    go_wp2
    exact bodyPost_ret (results_tmp rfl _ _ _) rfl ⟨rfl, hB1⟩
theorem named1_calls (c : Int) (w : World) : Calls Tryz.prog 58 #[.int .i32 c] w fun e w' => e = .returned (.bool (decide (57 < c))) ∧ Below w.heap.size w w' := by
  go_enter Tryz.func58, Tryz.ntmps58
  go_wp2
  exact bodyPost_ret (results_tmp rfl _ _ _) rfl ⟨rfl, Below.refl _ _⟩
end Go.Proofs.YtajcnjdinmgpjaaGreatDoor.X
/- The walks of the words: where a word ends. -/
namespace Go.Proofs.YtajcnjdinmgpjaaGreatDoor.X
open Go.RowKit Go.Proofs.YtajcnjdinmgpjaaGreatDoorW.PrintWords Go.Proofs.YtajcnjdinmgpjaaGreatDoorW.PrintLast Go.Proofs.YtajcnjdinmgpjaaGreatDoorW.PrintMore Go.Proofs.YtajcnjdinmgpjaaGreatDoor.P
/-- the first byte that is so, or -1 -/
def ixF (p : UInt8 → Bool) : List UInt8 → Nat → Int
  | [], _ => -1
  | b :: r, i => if p b then (i : Int) else ixF p r (i + 1)
theorem at_drop (s : ByteArray) (pos : Nat) (h : pos < s.size) : s.data.toList.drop pos = (s[pos]'h) :: s.data.toList.drop (pos + 1) := by
  rw [List.drop_eq_getElem_cons (by simpa using h)]
  rfl
theorem lt_heap {w : World} {k : Nat} {o : Obj} (h : w.heap[k]? = some o) : k < w.heap.size := (Array.getElem?_eq_some_iff.1 h).1
set_option maxHeartbeats 1000000 in
theorem indexFunc_calls (g : Nat) (eg : ∀ args w, (callFunc g args).run Tryz.prog w = .ok (.enter g args) w) (p : Int → Bool) (hbig : ∀ c, 127 < c → p c = true) (hp : ∀ (c : Int) (w : World), 0 ≤ c → Calls Tryz.prog g #[.int .i32 c] w fun e w' => e = .returned (.bool (p c)) ∧ Below w.heap.size w w') (s : ByteArray) (w : World) :
    Calls Tryz.prog 53 #[.string s, .func (.func g) #[] #[], .bool true] w fun e w' => e = .returned (.int .i64 (ixF (fun b => p (b.toNat : Int)) s.data.toList 0)) ∧ Below w.heap.size w w' := by
  obtain ⟨V, hV⟩ : ∃ V, V = ixF (fun b => p (b.toNat : Int)) s.data.toList 0 := ⟨_, rfl⟩
  rw [← hV]
  have HV := Lib.hid hV
  clear hV
  go_enter Tryz.func53, Tryz.ntmps53
  go_wp2_with fail
  go_loopg [] (s.size + 1) (fun gf wx => ∃ pos : Nat, wx.heap[w.heap.size]? = some (.stringIter s pos) ∧ Below w.heap.size w wx ∧ ixF (fun b => p (b.toNat : Int)) (s.data.toList.drop pos) pos = V ∧ s.size < pos + gf)
  case atStart => exact ⟨0, World.iter_heap w s 0, (Below.refl _ w).alloc (Nat.le_refl _) _, HV.out.symm, by omega⟩
  case round =>
    obtain ⟨pos, hit, hbw, hleft, hfu⟩ := hrel
    by_cases hps : pos < s.size
    · obtain ⟨g', rfl⟩ : ∃ g', gk = g' + 1 := ⟨gk - 1, by omega⟩
      have hnx : ∀ ty, (Instr.next (.pointer (some ⟨w.heap.size, 0, none⟩)) true ty).run Tryz.prog wr = _ := fun ty => Lib.run_next_any_at wr w.heap.size s pos ty hit hps
      have hr : (128 ≤ (Utf8.decode s pos).1 ∧ 127 < ((s[pos]'hps).toNat : Int)) ∨ (Utf8.decode s pos = ((s[pos]'hps).toNat, 1)) := by
        by_cases ha : (s[pos]'hps).toNat < 128
        · exact .inr (decode_ascii s pos hps ha)
        · exact .inl ⟨(decode_high s pos hps (by omega)).1, by omega⟩
      rw [at_drop s pos hps] at hleft
      unfold ixF at hleft
      obtain ⟨R, hR⟩ : ∃ R, (Utf8.decode s pos).1 = R := ⟨_, rfl⟩
      obtain ⟨K, hK⟩ : ∃ K, (Utf8.decode s pos).2 = K := ⟨_, rfl⟩
      rw [hR, hK] at hnx
      have hit2 := Lib.iterAt_heap wr w.heap.size s pos (pos + K) hit
      have hbw2 := Lib.below_iterAt hbw (k := w.heap.size) (Nat.le_refl _) s (pos + K)
      obtain ⟨W, hWd⟩ : ∃ W, wr.iterAt w.heap.size s (pos + K) = W := ⟨_, rfl⟩
      rw [hWd] at hnx hit2 hbw2
      have cS := hp (R : Int) W (by omega)
      have hk : p (R : Int) = false → K = 1 ∧ p ((s[pos]'hps).toNat : Int) = false := by
        intro hf
        rcases hr with ⟨h1, _⟩ | h1
        · rw [hR] at h1
          rw [hbig _ (by omega)] at hf
          cases hf
        · rw [h1] at hR hK
          subst hR
          exact ⟨hK.symm, hf⟩
      have ht : p (R : Int) = true → p ((s[pos]'hps).toNat : Int) = true := by
        intro hf
        rcases hr with ⟨_, h2⟩ | h1
        · exact hbig _ h2
        · rw [h1] at hR
          subst hR
          exact hf
      cases hq : p (R : Int) with
      | true =>
        rw [hq] at cS
        have HL := Lib.hid hleft
        have hpb := Lib.hid (ht hq)
        clear ht hk hr hR hK hleft hp hbig hq
        go_wp2_with fail
        refine cS.mono ?_
        rintro e W' ⟨rfl, hB'⟩
        go_wp2_with fail
        have eV : V = (pos : Int) := by rw [← HL.out, if_pos hpb.out]
        rw [eV]
        exact bodyPost_ret (results_tmp rfl _ _ _) rfl ⟨rfl, below_step hbw2 hB'⟩
      | false =>
        rw [hq] at cS
        obtain ⟨hK1, hpb⟩ := hk hq
        rw [if_neg (by rw [hpb]; decide)] at hleft
        rw [hK1] at hit2
        have HL := Lib.hid hleft
        clear ht hk hr hR hK hleft hp hbig hq
        go_wp2_with fail
        refine cS.mono ?_
        rintro e W' ⟨rfl, hB'⟩
        go_wp2_with fail
        go_roundg g'
        case measure => omega
        case rel => exact ⟨pos + 1, (hB'.block _ (lt_heap hit2)).trans hit2, below_step hbw2 hB', HL.out, by omega⟩
    · have hnx : ∀ ty, (Instr.next (.pointer (some ⟨w.heap.size, 0, none⟩)) true ty).run Tryz.prog wr = _ := fun ty => Lib.run_next_end_at wr w.heap.size s pos ty hit hps
      have hd : s.data.toList.drop pos = [] := List.drop_eq_nil_of_le (by have : s.data.toList.length = s.size := rfl; omega)
      rw [hd] at hleft
      unfold ixF at hleft
      have HL := Lib.hid hleft
      clear hleft
      go_wp2
      rw [← HL.out]
      exact bodyPost_ret (results_tmp rfl _ _ _) rfl ⟨rfl, hbw⟩
theorem IndexFunc_calls (g : Nat) (eg : ∀ args w, (callFunc g args).run Tryz.prog w = .ok (.enter g args) w) (p : Int → Bool) (hbig : ∀ c, 127 < c → p c = true) (hp : ∀ (c : Int) (w : World), 0 ≤ c → Calls Tryz.prog g #[.int .i32 c] w fun e w' => e = .returned (.bool (p c)) ∧ Below w.heap.size w w') (s : ByteArray) (w : World) :
    Calls Tryz.prog 37 #[.string s, .func (.func g) #[] #[]] w fun e w' => e = .returned (.int .i64 (ixF (fun b => p (b.toNat : Int)) s.data.toList 0)) ∧ Below w.heap.size w w' := by
  go_enter Tryz.func37, Tryz.ntmps37
  go_wp2_with fail
  refine (indexFunc_calls g eg p hbig hp s w).mono ?_
  rintro e w1 ⟨rfl, hB⟩
  go_wp2
  exact bodyPost_ret (results_tmp rfl _ _ _) rfl ⟨rfl, hB⟩
theorem ContainsFunc_calls (g : Nat) (eg : ∀ args w, (callFunc g args).run Tryz.prog w = .ok (.enter g args) w) (p : Int → Bool) (hbig : ∀ c, 127 < c → p c = true) (hp : ∀ (c : Int) (w : World), 0 ≤ c → Calls Tryz.prog g #[.int .i32 c] w fun e w' => e = .returned (.bool (p c)) ∧ Below w.heap.size w w') (s : ByteArray) (w : World) :
    Calls Tryz.prog 57 #[.string s, .func (.func g) #[] #[]] w fun e w' => e = .returned (.bool (decide (0 ≤ ixF (fun b => p (b.toNat : Int)) s.data.toList 0))) ∧ Below w.heap.size w w' := by
  go_enter Tryz.func57, Tryz.ntmps57
  go_wp2_with fail
  refine (IndexFunc_calls g eg p hbig hp s w).mono ?_
  rintro e w1 ⟨rfl, hB⟩
  go_wp2
  exact bodyPost_ret (results_tmp rfl _ _ _) rfl ⟨rfl, hB⟩
end Go.Proofs.YtajcnjdinmgpjaaGreatDoor.X
/-
  DERIVED: THE SHELF's CONTRACTS AT THIS DUMP, IN PLAIN WORDS (tools/lay-plain.mjs out of 'TryzShelf.lean', which tools/lay-shelf.mjs wrote): THE SAME DECLARATIONS UNDER THE SAME NAMES: 'import', 'namespace', 'open', 'def', 'theorem' AND NOTHING ELSE: no command of the shelf's: FOR A HAND-IN. Each laying: the table of numbers ('.._ren') and one theorem, a field a fact of the dump's own or the kernel's comparison; each contract: ONE APPLICATION.
-/
namespace Go.Proofs
open Go.Shelf
def Tryz.lays172_ren : Go.Shelf.Ren := ⟨fun | 172 => 59 | 244 => 70 | 245 => 71 | 247 => 78 | 279 => 79 | 280 => 80 | 281 => 81 | 282 => 82 | 287 => 86 | 316 => 87 | 171 => 89 | 205 => 88 | 321 => 93 | 322 => 94 | 243 => 95 | 246 => 97 | 283 => 99 | 284 => 100 | 285 => 101 | 286 => 102 | 129 => 104 | 317 => 103 | 318 => 105 | 319 => 106 | 320 => 107 | 337 => 108 | 338 => 109 | n => n, fun | 9 => 9 | 3 => 3 | 75 => 85 | 76 => 86 | 4 => 4 | 5 => 5 | 167 => 102 | 37 => 103 | 0 => 0 | 85 => 104 | 2 => 2 | 168 => 106 | 53 => 110 | 175 => 111 | 46 => 95 | 210 => 115 | 127 => 119 | 145 => 122 | 143 => 120 | 21 => 21 | 171 => 127 | 173 => 130 | 212 => 133 | 51 => 134 | 20 => 20 | 213 => 135 | 232 => 139 | 233 => 140 | 80 => 141 | n => n, fun | 15 => 3 | 16 => 4 | 17 => 5 | 18 => 6 | 19 => 7 | n => n⟩
theorem Tryz.lays172 : Go.Proofs.Lays.n172 Tryz.prog Tryz.lays172_ren := {
  mixed := by kernel_rfl
  f129 := Tryz.func104.trans (congrArg some (by kernel_rfl))
  f171 := Tryz.func89.trans (congrArg some (by kernel_rfl))
  f172 := Tryz.func59.trans (congrArg some (by kernel_rfl))
  f205 := Tryz.func88.trans (congrArg some (by kernel_rfl))
  f243 := Tryz.func95.trans (congrArg some (by kernel_rfl))
  f244 := Tryz.func70.trans (congrArg some (by kernel_rfl))
  f245 := Tryz.func71.trans (congrArg some (by kernel_rfl))
  f246 := Tryz.func97.trans (congrArg some (by kernel_rfl))
  f247 := Tryz.func78.trans (congrArg some (by kernel_rfl))
  f279 := Tryz.func79.trans (congrArg some (by kernel_rfl))
  f280 := Tryz.func80.trans (congrArg some (by kernel_rfl))
  f281 := Tryz.func81.trans (congrArg some (by kernel_rfl))
  f282 := Tryz.func82.trans (congrArg some (by kernel_rfl))
  f283 := Tryz.func99.trans (congrArg some (by kernel_rfl))
  f284 := Tryz.func100.trans (congrArg some (by kernel_rfl))
  f285 := Tryz.func101.trans (congrArg some (by kernel_rfl))
  f286 := Tryz.func102.trans (congrArg some (by kernel_rfl))
  f287 := Tryz.func86.trans (congrArg some (by kernel_rfl))
  f316 := Tryz.func87.trans (congrArg some (by kernel_rfl))
  f317 := Tryz.func103.trans (congrArg some (by kernel_rfl))
  f318 := Tryz.func105.trans (congrArg some (by kernel_rfl))
  f319 := Tryz.func106.trans (congrArg some (by kernel_rfl))
  f320 := Tryz.func107.trans (congrArg some (by kernel_rfl))
  f321 := Tryz.func93.trans (congrArg some (by kernel_rfl))
  f322 := Tryz.func94.trans (congrArg some (by kernel_rfl))
  f337 := Tryz.func108.trans (congrArg some (by kernel_rfl))
  f338 := Tryz.func109.trans (congrArg some (by kernel_rfl))
  t0 := Tryz.underlying0
  a0 := Tryz.isAgg0
  z0 := Tryz.sizeOf0
  v0 := Tryz.zeroValue0
  t2 := Tryz.underlying2
  a2 := Tryz.isAgg2
  z2 := Tryz.sizeOf2
  v2 := Tryz.zeroValue2
  t3 := Tryz.underlying3
  a3 := Tryz.isAgg3
  z3 := Tryz.sizeOf3
  v3 := Tryz.zeroValue3
  t4 := Tryz.underlying4
  a4 := Tryz.isAgg4
  z4 := Tryz.sizeOf4
  v4 := Tryz.zeroValue4
  t5 := Tryz.underlying5
  a5 := Tryz.isAgg5
  z5 := Tryz.sizeOf5
  v5 := Tryz.zeroValue5
  t9 := Tryz.underlying9
  a9 := Tryz.isAgg9
  z9 := Tryz.sizeOf9
  v9 := Tryz.zeroValue9
  t20 := Tryz.underlying20
  a20 := Tryz.isAgg20
  z20 := Tryz.sizeOf20
  v20 := Tryz.zeroValue20
  t21 := Tryz.underlying21
  a21 := Tryz.isAgg21
  z21 := Tryz.sizeOf21
  v21 := Tryz.zeroValue21
  t37 := Tryz.underlying103
  a37 := Tryz.isAgg103
  z37 := Tryz.sizeOf103
  v37 := Tryz.zeroValue103
  t46 := Tryz.underlying95
  a46 := Tryz.isAgg95
  z46 := Tryz.sizeOf95
  v46 := Tryz.zeroValue95
  t51 := Tryz.underlying134
  a51 := Tryz.isAgg134
  z51 := Tryz.sizeOf134
  v51 := Tryz.zeroValue134
  t53 := Tryz.underlying110
  a53 := Tryz.isAgg110
  z53 := Tryz.sizeOf110
  v53 := Tryz.zeroValue110
  t75 := Tryz.underlying85
  a75 := Tryz.isAgg85
  z75 := Tryz.sizeOf85
  v75 := Tryz.zeroValue85
  t76 := Tryz.underlying86
  a76 := Tryz.isAgg86
  z76 := Tryz.sizeOf86
  v76 := Tryz.zeroValue86
  t85 := Tryz.underlying104
  a85 := Tryz.isAgg104
  z85 := Tryz.sizeOf104
  v85 := Tryz.zeroValue104
  t127 := Tryz.underlying119
  a127 := Tryz.isAgg119
  z127 := Tryz.sizeOf119
  v127 := Tryz.zeroValue119
  t143 := Tryz.underlying120
  a143 := Tryz.isAgg120
  z143 := Tryz.sizeOf120
  v143 := Tryz.zeroValue120
  t145 := Tryz.underlying122
  a145 := Tryz.isAgg122
  z145 := Tryz.sizeOf122
  v145 := Tryz.zeroValue122
  t167 := Tryz.underlying102
  a167 := Tryz.isAgg102
  z167 := Tryz.sizeOf102
  v167 := Tryz.zeroValue102
  t168 := Tryz.underlying106
  a168 := Tryz.isAgg106
  z168 := Tryz.sizeOf106
  v168 := Tryz.zeroValue106
  t171 := Tryz.underlying127
  a171 := Tryz.isAgg127
  z171 := Tryz.sizeOf127
  v171 := Tryz.zeroValue127
  t173 := Tryz.underlying130
  a173 := Tryz.isAgg130
  z173 := Tryz.sizeOf130
  v173 := Tryz.zeroValue130
  t175 := Tryz.underlying111
  a175 := Tryz.isAgg111
  z175 := Tryz.sizeOf111
  v175 := Tryz.zeroValue111
  t210 := Tryz.underlying115
  a210 := Tryz.isAgg115
  z210 := Tryz.sizeOf115
  v210 := Tryz.zeroValue115
  t212 := Tryz.underlying133
  a212 := Tryz.isAgg133
  z212 := Tryz.sizeOf133
  v212 := Tryz.zeroValue133
  t213 := Tryz.underlying135
  a213 := Tryz.isAgg135
  z213 := Tryz.sizeOf135
  t232 := Tryz.underlying139
  a232 := Tryz.isAgg139
  z232 := Tryz.sizeOf139
  v232 := Tryz.zeroValue139
  t233 := Tryz.underlying140
  a233 := Tryz.isAgg140
  z233 := Tryz.sizeOf140
  v233 := Tryz.zeroValue140
  g15 := by kernel_rfl
  g16 := by kernel_rfl
  g17 := by kernel_rfl
  g18 := by kernel_rfl
  g19 := by kernel_rfl }
open Go.RowKit in
/-- strconv.Atoi: "Atoi is equivalent to ParseInt(s, 10, 0), converted to type int.": AT A DECIMAL NUMERAL OF AT MOST 18 BYTES: its value, and a nil error. The world behind the call: the one new row that the library's '[]byte(s)' lays. (LAID: no walk: one application.) -/
theorem Tryz.strconv_Atoi (s : ByteArray) (n : Int) (hl : s.size ≤ 18) (h : Lib.atoi s.data.toList = some n) (w : World) :
    Calls Tryz.prog 59 #[.string s] w fun e w' => e = .returned (.tuple #[.int .i64 n, .nilIface]) ∧ ∃ t, w' = Lib.bytesWorld w 5 t := Any.strconv_Atoi Tryz.lays172 s n hl h w
def Tryz.lays99_ren : Go.Shelf.Ren := ⟨fun | 99 => 42 | 206 => 61 | n => n, fun | 9 => 9 | 4 => 4 | 3 => 3 | n => n, fun | n => n⟩
theorem Tryz.lays99 : Go.Proofs.Lays.n99 Tryz.prog Tryz.lays99_ren := {
  mixed := by kernel_rfl
  f99 := Tryz.func42.trans (congrArg some (by kernel_rfl))
  f206 := Tryz.func61.trans (congrArg some (by kernel_rfl))
  t3 := Tryz.underlying3
  a3 := Tryz.isAgg3
  z3 := Tryz.sizeOf3
  v3 := Tryz.zeroValue3
  t4 := Tryz.underlying4
  a4 := Tryz.isAgg4
  z4 := Tryz.sizeOf4
  v4 := Tryz.zeroValue4
  t9 := Tryz.underlying9
  a9 := Tryz.isAgg9
  z9 := Tryz.sizeOf9
  v9 := Tryz.zeroValue9 }
open Go.RowKit Go.Lib in
/-- strings.HasPrefix: "HasPrefix reports whether the string s begins with prefix.": IT RETURNS 'Lib.hasPrefix s prefix'; the world is as it was. (LAID: no walk: one application.) -/
theorem Tryz.strings_HasPrefix (s p : ByteArray) (w : World) :
    Calls Tryz.prog 42 #[.string s, .string p] w fun e w' => e = .returned (.bool (Lib.hasPrefix s.data.toList p.data.toList)) ∧ w' = w := Any.strings_HasPrefix Tryz.lays99 s p w
def Tryz.lays227_ren : Go.Shelf.Ren := ⟨fun | 227 => 34 | n => n, fun | 9 => 9 | 116 => 66 | 4 => 4 | 0 => 0 | 3 => 3 | 5 => 5 | n => n, fun | n => n⟩
theorem Tryz.lays227 : Go.Proofs.Lays.n227 Tryz.prog Tryz.lays227_ren := {
  mixed := by kernel_rfl
  f227 := Tryz.func34.trans (congrArg some (by kernel_rfl))
  t0 := Tryz.underlying0
  a0 := Tryz.isAgg0
  z0 := Tryz.sizeOf0
  v0 := Tryz.zeroValue0
  t3 := Tryz.underlying3
  a3 := Tryz.isAgg3
  z3 := Tryz.sizeOf3
  v3 := Tryz.zeroValue3
  t4 := Tryz.underlying4
  a4 := Tryz.isAgg4
  z4 := Tryz.sizeOf4
  v4 := Tryz.zeroValue4
  t5 := Tryz.underlying5
  a5 := Tryz.isAgg5
  z5 := Tryz.sizeOf5
  v5 := Tryz.zeroValue5
  t9 := Tryz.underlying9
  a9 := Tryz.isAgg9
  z9 := Tryz.sizeOf9
  v9 := Tryz.zeroValue9
  t116 := Tryz.underlying66
  a116 := Tryz.isAgg66
  z116 := Tryz.sizeOf66 }
open Go.RowKit Go.Lib in
theorem Tryz.strings_makeASCIISet (hv116 : ∀ w, (zeroValue 66).run Tryz.prog w = .ok (.agg (Array.replicate 256 (.bool false))) w) (chars : ByteArray) (w : World) (hs : chars.size < 4294967281) (hascii : ∀ (j : Nat) b, chars.data.toList[j]? = some b → b.toNat < 128) :
    Calls Tryz.prog 34 #[.string chars] w fun e w' => e = .returned (.tuple #[.agg (Lib.setCells chars.data.toList), .bool true]) ∧ w' = w.alloc (.cells (Lib.setCells chars.data.toList) 66) := Any.strings_makeASCIISet Tryz.lays227 hv116 (by kernel_rfl) chars w hs hascii
def Tryz.lays233_ren : Go.Shelf.Ren := ⟨fun | 233 => 35 | 228 => 50 | n => n, fun | 9 => 9 | 124 => 70 | 3 => 3 | 4 => 4 | 5 => 5 | 0 => 0 | 116 => 66 | n => n, fun | n => n⟩
theorem Tryz.lays233 : Go.Proofs.Lays.n233 Tryz.prog Tryz.lays233_ren := {
  mixed := by kernel_rfl
  f228 := Tryz.func50.trans (congrArg some (by kernel_rfl))
  f233 := Tryz.func35.trans (congrArg some (by kernel_rfl))
  t0 := Tryz.underlying0
  a0 := Tryz.isAgg0
  z0 := Tryz.sizeOf0
  v0 := Tryz.zeroValue0
  t3 := Tryz.underlying3
  a3 := Tryz.isAgg3
  z3 := Tryz.sizeOf3
  v3 := Tryz.zeroValue3
  t4 := Tryz.underlying4
  a4 := Tryz.isAgg4
  z4 := Tryz.sizeOf4
  v4 := Tryz.zeroValue4
  t5 := Tryz.underlying5
  a5 := Tryz.isAgg5
  z5 := Tryz.sizeOf5
  v5 := Tryz.zeroValue5
  t9 := Tryz.underlying9
  a9 := Tryz.isAgg9
  z9 := Tryz.sizeOf9
  v9 := Tryz.zeroValue9
  t116 := Tryz.underlying66
  a116 := Tryz.isAgg66
  z116 := Tryz.sizeOf66
  t124 := Tryz.underlying70
  a124 := Tryz.isAgg70
  z124 := Tryz.sizeOf70
  v124 := Tryz.zeroValue70 }
end Go.Proofs
/- The walks of the words: blanks ahead. -/
namespace Go.Proofs.YtajcnjdinmgpjaaGreatDoor.X
open Go.RowKit Go.Proofs.YtajcnjdinmgpjaaGreatDoorW.PrintWords Go.Proofs.YtajcnjdinmgpjaaGreatDoorW.PrintLast Go.Proofs.YtajcnjdinmgpjaaGreatDoorW.PrintMore Go.Proofs.YtajcnjdinmgpjaaGreatDoor.P
/-- the blanks -/
def blanks : List UInt8 := [32, 10, 9]
theorem zeroSet (w : World) : (zeroValue 66).run Tryz.prog w = .ok (.agg (Array.replicate 256 (.bool false))) w := by kernel_rfl
theorem asciiB : ∀ (j : Nat) b, (⟨#[32, 10, 9]⟩ : ByteArray).data.toList[j]? = some b → b.toNat < 128 := by
  intro j b h
  have hm : b ∈ [(32 : UInt8), 10, 9] := List.mem_of_getElem? h
  simp at hm
  rcases hm with rfl | rfl | rfl <;> decide
theorem storeSet (w : World) : (storeCells ⟨w.heap.size + 1, 0, none⟩ (Lib.setCells [32, 10, 9]).toList).run Tryz.prog ((w.alloc (.cells (Lib.setCells [32, 10, 9]) 66)).alloc (.cells Tryz.zeroCells66 66)) = .ok () ((w.alloc (.cells (Lib.setCells [32, 10, 9]) 66)).alloc (.cells (Lib.setCells [32, 10, 9]) 66)) := by
  have := run_storeCells_new (P := Tryz.prog) (w.alloc (.cells (Lib.setCells [32, 10, 9]) 66)) 66 Tryz.zeroCells66 (Lib.setCells [32, 10, 9]) (by rw [Lib.setCells_size]; kernel_rfl) (by rw [Lib.setCells_size]; kernel_rfl) (Lib.setCells_one _)
  rw [World.size_alloc] at this
  exact this
set_option maxRecDepth 100000 in
set_option maxHeartbeats 1000000 in
theorem TrimLeft_calls (s : ByteArray) (w : World) : Calls Tryz.prog 22 #[.string s, .string ⟨#[32, 10, 9]⟩] w fun e w' => e = .returned (.string ⟨(Lib.trimLeftS s.data.toList blanks).toArray⟩) ∧ Below w.heap.size w w' := by
  by_cases hs : s.toList = []
  · have e0 : s = ⟨#[]⟩ := ByteArray.ext (Array.toList_inj.1 (by simpa [ByteArray.toList_eq] using hs))
    subst e0
    go_enter Tryz.func22, Tryz.ntmps22
    go_wp2
    exact bodyPost_ret (results_tmp rfl _ _ _) rfl ⟨rfl, Below.refl _ _⟩
  · have hs' : s.toList.isEmpty = false := by simpa using hs
    obtain ⟨V, hV⟩ : ∃ V, V = Lib.trimLeftS s.data.toList blanks := ⟨_, rfl⟩
    rw [← hV]
    have HV := Lib.hid hV
    clear hV
    have hst := storeSet w
    go_enter Tryz.func22, Tryz.ntmps22
    go_wp2_with fail
    refine (Tryz.strings_makeASCIISet zeroSet ⟨#[32, 10, 9]⟩ _ (by decide) asciiB).mono ?_
    rintro e w1 ⟨rfl, rfl⟩
    go_wp2_with fail
    have hcell : ∀ x : UInt8, ((w.alloc (.cells (Lib.setCells [32, 10, 9]) 66)).alloc (.cells (Lib.setCells [32, 10, 9]) 66)).cell? ⟨w.heap.size + 1, x.toNat, none⟩ = some (.bool (blanks.contains x)) := fun x => by
      rw [World.cell?_alloc_at _ _ _ _ (by simp), Lib.setCells_at]
      rfl
    have hB : Below w.heap.size w ((w.alloc (.cells (Lib.setCells [32, 10, 9]) 66)).alloc (.cells (Lib.setCells [32, 10, 9]) 66)) := below_alloc (below_alloc (Below.refl _ _) _) _
    obtain ⟨W, hW⟩ : ∃ W, W = ((w.alloc (.cells (Lib.setCells [32, 10, 9]) 66)).alloc (.cells (Lib.setCells [32, 10, 9]) 66)) := ⟨_, rfl⟩
    rw [← hW] at hcell hB ⊢
    clear hW
    refine (Any.strings_trimLeftASCII Tryz.lays233 s (w.heap.size + 1) blanks W hcell).mono ?_
    rintro e w1 ⟨rfl, rfl⟩
    rw [← HV.out]
    go_wp2
    exact bodyPost_ret (results_tmp rfl _ _ _) rfl ⟨rfl, hB⟩
end Go.Proofs.YtajcnjdinmgpjaaGreatDoor.X
namespace Go.Proofs.YtajcnjdinmgpjaaGreatDoor.P
open Go.RowKit Go.Proofs.YtajcnjdinmgpjaaGreatDoorW.PrintWords Go.Proofs.YtajcnjdinmgpjaaGreatDoorW.PrintLast Go.Proofs.YtajcnjdinmgpjaaGreatDoorW.PrintMore
attribute [local go_sem] max2_int min2_int max_two min_two max_three min_three max_four min_four   -- for this text's walks alone
set_option linter.unusedVariables false
set_option linter.unusedSimpArgs false

/-! ### slices_Index_string_string: function 83 -/
def slices_Index_string_string.l0 : Nat → List ByteArray → ByteArray → Int → Int → Option (Int)
  | 0, _, _, _, _ => none
  | k + 1, x0, x1, x7, x8 => if x8 < x7 then (if 0 ≤ x8 then (if x8 < (x0.length : Int) then (if x1.toList = (rdOf ByteArray.empty x0 x8).toList then (some x8) else (slices_Index_string_string.l0 k x0 x1 x7 (wrap64 (x8 + 1)))) else (none)) else (none)) else (some (-1))
def slices_Index_string_string.f (k : Nat) (l0 : List ByteArray) (a1 : ByteArray) : Option (Int) := slices_Index_string_string.l0 k l0 a1 (l0.length : Int) 0
theorem slices_Index_string_string.mono_l : ∀ k, (∀ y0 y1 y2 y3, LeO (slices_Index_string_string.l0 k y0 y1 y2 y3) (slices_Index_string_string.l0 (k + 1) y0 y1 y2 y3))
  | 0 => fun _ _ _ _ r h => by simp [slices_Index_string_string.l0] at h
  | k + 1 => by
    have ih0 := slices_Index_string_string.mono_l k
    · intro y0 y1 y2 y3
      unfold slices_Index_string_string.l0
      repeat' first
      | (with_reducible exact ih0 _ _ _ _)
      | (with_reducible exact LeO.refl _)
      | (with_reducible exact LeO.none _)
      | (with_reducible refine LeO.ite ?_ ?_)
      | (with_reducible refine LeO.bind ?_ (fun _ => ?_))
      | exact ih0 _ _ _ _
      | exact LeO.none _
      | refine LeO.ite ?_ ?_
      | refine LeO.bind ?_ (fun _ => ?_)
theorem slices_Index_string_string.mono : ∀ a0 a1 k, LeO (slices_Index_string_string.f k a0 a1) (slices_Index_string_string.f (k + 1) a0 a1) := by
  intro a0 a1 k
  have ih0 := slices_Index_string_string.mono_l k
  unfold slices_Index_string_string.f
  repeat' first
      | (with_reducible exact ih0 _ _ _ _)
      | (with_reducible exact LeO.refl _)
      | (with_reducible exact LeO.none _)
      | (with_reducible refine LeO.ite ?_ ?_)
      | (with_reducible refine LeO.bind ?_ (fun _ => ?_))
      | exact ih0 _ _ _ _
      | exact LeO.none _
      | refine LeO.ite ?_ ?_
      | refine LeO.bind ?_ (fun _ => ?_)
set_option maxHeartbeats 8000000 in
set_option maxRecDepth 100000 in
theorem slices_Index_string_string.calls (k : Nat) (A0 : Option Addr) (c0 : Nat) (l0 : List ByteArray) (a1 : ByteArray) (r : Int) (w : World) (hr0 : Kd.C Kd.string w A0 l0.length l0) (hc0 : l0.length ≤ c0) (h : slices_Index_string_string.f k l0 a1 = some r) :
    Calls Tryz.prog 83 #[.slice A0 l0.length c0, .string a1] w fun e w' => e = .returned (.int .i64 r) ∧ Drawn0 w w' := by
  have HR0 := Aside0.mk hr0
  have HC0 := Aside0.mk hc0
  clear hr0 hc0
  have H : (slices_Index_string_string.l0 k l0 a1 (l0.length : Int) 0) = some r := h
  clear h
  have H' := Aside0.mk H
  clear H
  go_enter Tryz.func83, Tryz.ntmps83
  go_wp2
  go_loopg [8] k (fun kq v8 w' => ∃ (x8_1 : Int), v8 = .int .i64 x8_1 ∧ Aside0 (slices_Index_string_string.l0 kq l0 a1 (l0.length : Int) x8_1 = some r) ∧ Aside0 (kq ≤ k) ∧ Drawn0 w w')
  case atStart => exact ⟨(0), (by first | rfl | (simp; done) | (simp [*]; done)), H', ⟨Nat.le_refl _⟩, by repeat (first | exact Drawn0.refl _ | apply Drawn0.step)⟩
  case round =>
    clear H'
    try clear p2
    obtain ⟨x8_1, rfl, HA, HK1, ⟨m1, rfl⟩⟩ := hrel
    cases gk with
    | zero => exact absurd HA.out (by simp [slices_Index_string_string.l0])
    | succ k1 =>
      have H := HA.out
      clear HA
      simp only [slices_Index_string_string.l0] at H
      by_cases c3 : x8_1 < (l0.length : Int)
      · rw [if_pos c3] at H
        have c3b0 : decide (x8_1 < (l0.length : Int)) = true := decide_eq_true c3
        clear c3
        by_cases c4 : 0 ≤ x8_1
        · rw [if_pos c4] at H
          have c4b0 : decide (0 ≤ x8_1) = true := decide_eq_true c4
          clear c4
          by_cases c5 : x8_1 < (l0.length : Int)
          · rw [if_pos c5] at H
            have c5b0 : decide (x8_1 < (l0.length : Int)) = true := decide_eq_true c5
            clear c5
            by_cases c6 : a1.toList = (rdOf ByteArray.empty l0 x8_1).toList
            · rw [if_pos c6] at H
              have c6b0 : (a1.toList == (rdOf ByteArray.empty l0 x8_1).toList) = true := beq_iff_eq.mpr c6
              have c6b1 : (a1.toList != (rdOf ByteArray.empty l0 x8_1).toList) = false := bne_eq_false_iff_eq.mpr c6
              clear c6
              obtain rfl := Option.some.inj H
              have p136 : 0 ≤ (x8_1 : Int) := of_decide_eq_true (by first | (with_reducible assumption) | assumption)
              have q136 : x8_1 < (l0.length : Int) := of_decide_eq_true (by first | (with_reducible assumption) | assumption)
              obtain ⟨ad136, e136, hx136_0⟩ := Kd.at_string HR0.out x8_1 p136 q136
              cases e136
              replace p136 := eq_true p136
              replace q136 := eq_true q136
              go_wp2
              go_ret
              exact ⟨by first | rfl | (simp; done) | (simp [*]; done), by repeat (first | exact Drawn0.refl _ | apply Drawn0.step)⟩
            · rw [if_neg c6] at H
              have c6b0 : (a1.toList == (rdOf ByteArray.empty l0 x8_1).toList) = false := beq_eq_false_iff_ne.mpr c6
              have c6b1 : (a1.toList != (rdOf ByteArray.empty l0 x8_1).toList) = true := bne_iff_ne.mpr c6
              have H' := Aside0.mk H
              clear H
              have p136 : 0 ≤ (x8_1 : Int) := of_decide_eq_true (by first | (with_reducible assumption) | assumption)
              have q136 : x8_1 < (l0.length : Int) := of_decide_eq_true (by first | (with_reducible assumption) | assumption)
              obtain ⟨ad136, e136, hx136_0⟩ := Kd.at_string HR0.out x8_1 p136 q136
              cases e136
              replace p136 := eq_true p136
              replace q136 := eq_true q136
              go_wp2
              go_roundg k1
              case measure => have := HK1.out; omega
              case rel => exact ⟨(wrap64 (x8_1 + 1)), (by first | rfl | (simp; done) | (simp [*]; done)), H', ⟨by have := HK1.out; omega⟩, by repeat (first | exact Drawn0.refl _ | apply Drawn0.step)⟩
          · rw [if_neg c5] at H
            exact absurd H (by simp)
        · rw [if_neg c4] at H
          exact absurd H (by simp)
      · rw [if_neg c3] at H
        have c3b0 : decide (x8_1 < (l0.length : Int)) = false := decide_eq_false c3
        clear c3
        obtain rfl := Option.some.inj H
        go_wp2
        go_ret
        exact ⟨by first | rfl | (simp; done) | (simp [*]; done), by repeat (first | exact Drawn0.refl _ | apply Drawn0.step)⟩

end Go.Proofs.YtajcnjdinmgpjaaGreatDoor.P
namespace Go.Proofs.YtajcnjdinmgpjaaGreatDoor.P
open Go.RowKit Go.Proofs.YtajcnjdinmgpjaaGreatDoorW.PrintWords Go.Proofs.YtajcnjdinmgpjaaGreatDoorW.PrintLast Go.Proofs.YtajcnjdinmgpjaaGreatDoorW.PrintMore
attribute [local go_sem] max2_int min2_int max_two min_two max_three min_three max_four min_four   -- for this text's walks alone
set_option linter.unusedVariables false
set_option linter.unusedSimpArgs false

/-! ### slices_Contains_string_string: function 72 -/
def slices_Contains_string_string.f (k : Nat) (l0 : List ByteArray) (a1 : ByteArray) : Option (Bool) := (slices_Index_string_string.f k l0 a1).bind fun t137 => (some (decide (t137 ≥ 0)))
theorem slices_Contains_string_string.mono : ∀ a0 a1 k, LeO (slices_Contains_string_string.f k a0 a1) (slices_Contains_string_string.f (k + 1) a0 a1) := by
  intro a0 a1 k
  unfold slices_Contains_string_string.f
  repeat' first
      | (with_reducible exact slices_Index_string_string.mono _ _ _)
      | (with_reducible exact LeO.refl _)
      | (with_reducible exact LeO.none _)
      | (with_reducible refine LeO.ite ?_ ?_)
      | (with_reducible refine LeO.bind ?_ (fun _ => ?_))
      | exact slices_Index_string_string.mono _ _ _
      | exact LeO.none _
      | refine LeO.ite ?_ ?_
      | refine LeO.bind ?_ (fun _ => ?_)
set_option maxHeartbeats 8000000 in
set_option maxRecDepth 100000 in
theorem slices_Contains_string_string.calls (k : Nat) (A0 : Option Addr) (c0 : Nat) (l0 : List ByteArray) (a1 : ByteArray) (r : Bool) (w : World) (hr0 : Kd.C Kd.string w A0 l0.length l0) (hc0 : l0.length ≤ c0) (h : slices_Contains_string_string.f k l0 a1 = some r) :
    Calls Tryz.prog 72 #[.slice A0 l0.length c0, .string a1] w fun e w' => e = .returned (.bool r) ∧ Drawn0 w w' := by
  have HR0 := Aside0.mk hr0
  have HC0 := Aside0.mk hc0
  clear hr0 hc0
  have H : ((slices_Index_string_string.f k l0 a1).bind fun t137 => (some (decide (t137 ≥ 0)))) = some r := h
  clear h
  replace H := Option.bind_eq_some_iff.mp H
  obtain ⟨t137, A30, H⟩ := H
  replace H : (some (decide (t137 ≥ 0))) = some r := H
  have A3 := Aside0.mk A30
  clear A30
  obtain rfl := Option.some.inj H
  go_enter Tryz.func72, Tryz.ntmps72
  go_wp2_with (first | ((with_reducible refine gate_callee (f := 83) rfl ?_); refine goesL_ (some 7) rfl rfl Tryz.func83 (by kernel_rfl) rfl #[.slice A0 l0.length c0, .string a1] rfl (by (try simp only [List.map_toArray, List.map_cons, List.map_nil]); first | done | rfl | (simp only [List.length_drop, List.length_take]; rfl)) ?_; (with_reducible refine (slices_Index_string_string.calls k _ _ l0 a1 t137 _ ?side1 ?side2 A3.out).mono ?_); (case side1 => repeat (first | exact HR0.out | (with_reducible refine Kd.C_alloc ?_ _) | (with_reducible refine Kd.C_drewN ?_ _) | (with_reducible refine Kd.C_drew ?_))); (case side2 => exact HC0.out); rintro e w' ⟨rfl, ⟨nd, rfl⟩⟩; refine ⟨_, rfl, ?_⟩))
  go_ret
  exact ⟨by first | rfl | (simp; done) | (simp [*]; done), by repeat (first | exact Drawn0.refl _ | apply Drawn0.step)⟩

end Go.Proofs.YtajcnjdinmgpjaaGreatDoor.P
namespace Go.Proofs.YtajcnjdinmgpjaaGreatDoor.P
open Go.RowKit Go.Proofs.YtajcnjdinmgpjaaGreatDoorW.PrintWords Go.Proofs.YtajcnjdinmgpjaaGreatDoorW.PrintLast Go.Proofs.YtajcnjdinmgpjaaGreatDoorW.PrintMore
attribute [local go_sem] max2_int min2_int max_two min_two max_three min_three max_four min_four   -- for this text's walks alone
set_option linter.unusedVariables false
set_option linter.unusedSimpArgs false

/-! ### lex_Word: function 60 -/
def lex_Word.f (k : Nat) (a0 : ByteArray) : Option (Bool) := (slices_Contains_string_string.f k (([(⟨#[108, 101, 116]⟩ : ByteArray), (⟨#[108, 101, 116, 114, 101, 99]⟩ : ByteArray), (⟨#[105, 110]⟩ : ByteArray), (⟨#[99, 97, 115, 101]⟩ : ByteArray), (⟨#[111, 102]⟩ : ByteArray)] : List ByteArray)) a0).bind fun t141 => (some t141)
theorem lex_Word.mono : ∀ a0 k, LeO (lex_Word.f k a0) (lex_Word.f (k + 1) a0) := by
  intro a0 k
  unfold lex_Word.f
  repeat' first
      | (with_reducible exact slices_Contains_string_string.mono _ _ _)
      | (with_reducible exact LeO.refl _)
      | (with_reducible exact LeO.none _)
      | (with_reducible refine LeO.ite ?_ ?_)
      | (with_reducible refine LeO.bind ?_ (fun _ => ?_))
      | exact slices_Contains_string_string.mono _ _ _
      | exact LeO.none _
      | refine LeO.ite ?_ ?_
      | refine LeO.bind ?_ (fun _ => ?_)
set_option maxHeartbeats 8000000 in
set_option maxRecDepth 100000 in
theorem lex_Word.calls (k : Nat) (a0 : ByteArray) (r : Bool) (w : World) (h : lex_Word.f k a0 = some r) :
    Calls Tryz.prog 60 #[.string a0] w fun e w' => e = .returned (.bool r) ∧ Below w.heap.size w w' := by
  have HB := Aside0.mk (Below.refl w.heap.size w)
  have H : ((slices_Contains_string_string.f k (([(⟨#[108, 101, 116]⟩ : ByteArray), (⟨#[108, 101, 116, 114, 101, 99]⟩ : ByteArray), (⟨#[105, 110]⟩ : ByteArray), (⟨#[99, 97, 115, 101]⟩ : ByteArray), (⟨#[111, 102]⟩ : ByteArray)] : List ByteArray)) a0).bind fun t141 => (some t141)) = some r := h
  clear h
  obtain ⟨y138, hy138⟩ : ∃ y_ : List ByteArray, y_ = (([(⟨#[108, 101, 116]⟩ : ByteArray), (⟨#[108, 101, 116, 114, 101, 99]⟩ : ByteArray), (⟨#[105, 110]⟩ : ByteArray), (⟨#[99, 97, 115, 101]⟩ : ByteArray), (⟨#[111, 102]⟩ : ByteArray)] : List ByteArray)) := ⟨_, rfl⟩
  replace H : ((slices_Contains_string_string.f k y138 a0).bind fun t141 => (some t141)) = some r := by first | (rw [hy138]; with_reducible exact H) | (have H2_ := (Option.bind_some _ _).symm.trans H; rw [hy138]; with_reducible exact H2_) | (have H2_ := (Option.bind_some _ _).symm.trans H; with_reducible exact H2_) | with_reducible exact H | (rw [hy138]; exact H) | exact H
  have Ny138 := Aside0.mk hy138
  clear hy138
  replace H := Option.bind_eq_some_iff.mp H
  obtain ⟨t141, A20, H⟩ := H
  replace H : (some t141) = some r := H
  have A2 := Aside0.mk A20
  clear A20
  obtain rfl := Option.some.inj H
  go_enter Tryz.func60, Tryz.ntmps60
  go_wp2_with (first | ((with_reducible refine gate_dst (N := 3) rfl ?_); refine Kd.R_lit Kd.string _ 9 ?hg (N := 3) ?hd (xs := ([(⟨#[108, 101, 116]⟩ : ByteArray), (⟨#[108, 101, 116, 114, 101, 99]⟩ : ByteArray), (⟨#[105, 110]⟩ : ByteArray), (⟨#[99, 97, 115, 101]⟩ : ByteArray), (⟨#[111, 102]⟩ : ByteArray)] : List ByteArray)) (inner := [.string (⟨#[108, 101, 116]⟩ : ByteArray), .string (⟨#[108, 101, 116, 114, 101, 99]⟩ : ByteArray), .string (⟨#[105, 110]⟩ : ByteArray), .string (⟨#[99, 97, 115, 101]⟩ : ByteArray), .string (⟨#[111, 102]⟩ : ByteArray)]) (ok := fun _ => True) (okp := fun _ => True) ?hr ?hp (fun _ hk => hk) trivial (Below.refl _ _) (Nat.le_refl _) (by simp) ?_; (case hd => rfl); (case hg => rfl); (case hr => first | (go_simp; done) | (go_simp; rfl)); (case hp => exact (Reps.one (show Kd.M Kd.string _ _ _ (⟨#[108, 101, 116]⟩ : ByteArray) [.string (⟨#[108, 101, 116]⟩ : ByteArray)] from rfl) (Reps.one (show Kd.M Kd.string _ _ _ (⟨#[108, 101, 116, 114, 101, 99]⟩ : ByteArray) [.string (⟨#[108, 101, 116, 114, 101, 99]⟩ : ByteArray)] from rfl) (Reps.one (show Kd.M Kd.string _ _ _ (⟨#[105, 110]⟩ : ByteArray) [.string (⟨#[105, 110]⟩ : ByteArray)] from rfl) (Reps.one (show Kd.M Kd.string _ _ _ (⟨#[99, 97, 115, 101]⟩ : ByteArray) [.string (⟨#[99, 97, 115, 101]⟩ : ByteArray)] from rfl) (Reps.one (show Kd.M Kd.string _ _ _ (⟨#[111, 102]⟩ : ByteArray) [.string (⟨#[111, 102]⟩ : ByteArray)] from rfl) (Reps.none _ _))))))); intro v139 w3 ho4 hb hg_ hnew_; clear hg_ hnew_; (first | rw [← Ny138.out] at ho4 | (simp only [Int.reduceToNat] at ho4; rw [← Ny138.out] at ho4)); have n0_ := Aside0.mk (Kd.R_lower ho4 (below_size (by repeat (first | (with_reducible first | exact HB.out | apply below_alloc | apply pw_below_drewN | apply below_drew1) | exact HB.out)))); have n1_ := Aside0.mk (below_step (by repeat (first | (with_reducible first | exact HB.out | apply below_alloc | apply pw_below_drewN | apply below_drew1) | exact HB.out)) hb); clear HB; have HO140 := n0_; have HB := n1_; clear n0_ n1_; clear hb ho4; obtain ⟨Ao5, co5, eo5⟩ := Kd.R_slice HO140.out; subst eo5) | ((with_reducible refine gate_callee (f := 72) rfl ?_); refine goesL_ (some 5) rfl rfl Tryz.func72 (by kernel_rfl) rfl #[.slice Ao5 y138.length co5, .string a0] rfl (by (try simp only [List.map_toArray, List.map_cons, List.map_nil]); first | done | rfl | (simp only [List.length_drop, List.length_take]; rfl)) ?_; (with_reducible refine (slices_Contains_string_string.calls k _ _ y138 a0 t141 _ ?side1 ?side2 A2.out).mono ?_); (case side1 => repeat (first | exact (Kd.R_reads' HO140.out).2.2 | (with_reducible refine Kd.C_alloc ?_ _) | (with_reducible refine Kd.C_drewN ?_ _) | (with_reducible refine Kd.C_drew ?_))); (case side2 => exact (Kd.R_reads' HO140.out).2.1); rintro e w' ⟨rfl, ⟨nd, rfl⟩⟩; refine ⟨_, rfl, ?_⟩))
  go_ret
  exact ⟨by first | rfl | (simp [errW_none, errW_some] <;> rfl) | (simp [*, errW_none, errW_some] <;> rfl), by repeat (first | (with_reducible first | exact HB.out | apply below_alloc | apply pw_below_drewN | apply below_drew1) | exact HB.out)⟩

end Go.Proofs.YtajcnjdinmgpjaaGreatDoor.P
/- Plain facts for the words. -/
namespace Go.Proofs.YtajcnjdinmgpjaaGreatDoor.X
open Go.RowKit Go.Proofs.YtajcnjdinmgpjaaGreatDoorW.PrintWords Go.Proofs.YtajcnjdinmgpjaaGreatDoorW.PrintLast Go.Proofs.YtajcnjdinmgpjaaGreatDoorW.PrintMore Go.Proofs.YtajcnjdinmgpjaaGreatDoor.P
theorem digitVal_some (b : UInt8) (h1 : 48 ≤ b.toNat) (h2 : b.toNat ≤ 57) : Lib.digitVal b = some (b.toNat - 48) := if_pos ⟨h1, h2⟩
theorem decFrom_some : ∀ (l : List UInt8) (acc : Nat), (∀ b ∈ l, 48 ≤ b.toNat ∧ b.toNat ≤ 57) → ∃ n, Lib.decFrom acc l = some n
  | [], acc, _ => ⟨acc, rfl⟩
  | b :: r, acc, h => by
    have hb := h b (by simp)
    unfold Lib.decFrom
    rw [digitVal_some b hb.1 hb.2]
    exact decFrom_some r _ (fun x hx => h x (by simp [hx]))
theorem atoi_some (l : List UInt8) (hne : l ≠ []) (h : ∀ b ∈ l, 48 ≤ b.toNat ∧ b.toNat ≤ 57) : ∃ n, Lib.atoi l = some n := by
  cases l with
  | nil => exact absurd rfl hne
  | cons b r =>
    obtain ⟨n, hn⟩ := decFrom_some (b :: r) 0 h
    have hb := h b (by simp)
    have e1 : (b == 45) = false := by
      simp
      rintro rfl
      simp at hb
    have e2 : (b == 43) = false := by
      simp
      rintro rfl
      simp at hb
    refine ⟨(n : Int), ?_⟩
    show (if (b == 45) = true then (Lib.decNat r).map (fun (m : Nat) => -(m : Int)) else if (b == 43) = true then (Lib.decNat r).map (fun (m : Nat) => (m : Int)) else (Lib.decNat (b :: r)).map (fun (m : Nat) => (m : Int))) = _
    rw [e1, e2]
    simp [Lib.decNat, hn]
theorem index_loop (L : List ByteArray) (a : ByteArray) (hL : L.length ≤ 1000) : ∀ (m i : Nat), i + m = L.length → ∃ r : Int, slices_Index_string_string.l0 (m + 1) L a (L.length : Int) (i : Int) = some r ∧ decide (r ≥ 0) = (L.drop i).any fun x => a.toList == x.toList
  | 0, i, h => by
    refine ⟨-1, ?_, ?_⟩
    · unfold slices_Index_string_string.l0
      rw [if_neg (by omega)]
    · rw [List.drop_eq_nil_of_le (by omega)]
      rfl
  | m + 1, i, h => by
    have hi : i < L.length := by omega
    have hd : L.drop i = L[i] :: L.drop (i + 1) := List.drop_eq_getElem_cons hi
    have hr : rdOf ByteArray.empty L (i : Int) = L[i] := by simp [rdOf, hi]
    have hw : wrap64 ((i : Int) + 1) = ((i + 1 : Nat) : Int) := by
      unfold wrap64
      omega
    unfold slices_Index_string_string.l0
    rw [if_pos (by omega), if_pos (by omega), if_pos (by omega), hr, hd, hw]
    by_cases he : a.toList = L[i].toList
    · exact ⟨i, by rw [if_pos he], by rw [List.any_cons, show (a.toList == L[i].toList) = true by simp [he], Bool.true_or]; simp⟩
    · obtain ⟨r, h1, h2⟩ := index_loop L a hL m (i + 1) (by omega)
      exact ⟨r, by rw [if_neg he]; exact h1, by rw [h2, List.any_cons, show (a.toList == L[i].toList) = false by simpa using he, Bool.false_or]⟩
end Go.Proofs.YtajcnjdinmgpjaaGreatDoor.X
/- The walks of the words: letters and digits as a token. -/
namespace Go.Proofs.YtajcnjdinmgpjaaGreatDoor.X
open Go.RowKit Go.Proofs.YtajcnjdinmgpjaaGreatDoorW.PrintWords Go.Proofs.YtajcnjdinmgpjaaGreatDoorW.PrintLast Go.Proofs.YtajcnjdinmgpjaaGreatDoorW.PrintMore Go.Proofs.YtajcnjdinmgpjaaGreatDoor.P
/-- is it a word of the language? -/
def isWordB (s : ByteArray) : Bool := [(⟨#[108, 101, 116]⟩ : ByteArray), ⟨#[108, 101, 116, 114, 101, 99]⟩, ⟨#[105, 110]⟩, ⟨#[99, 97, 115, 101]⟩, ⟨#[111, 102]⟩].any fun x => s.toList == x.toList
/-- Letters and digits as a token: its kind and its number, or the fault. -/
def lexNamed (s : ByteArray) (c0 : Int) : Except Int (Int × Int) :=
  if digI c0 then (if 0 ≤ ixF (fun b => decide (57 < (b.toNat : Int))) s.data.toList 0 then .error 10 else if 18 < s.size ∨ (1 < s.size ∧ c0 = 48) then .error 11 else .ok (3, (Lib.atoi s.data.toList).getD 0))
  else if 16 < s.size then .error 11 else if isWordB s then .ok (4, 0) else if upI c0 then .ok (2, 0) else .ok (1, 0)
def NRel (w : World) (s : ByteArray) (R : Except Int (Int × Int)) (e : Ending) (w' : World) : Prop :=
  match R with
  | .ok (k, n) => e = .returned (tokV ⟨k, s, n, 0⟩) ∧ Below w.heap.size w w'
  | .error c => e = .panicked [{ v := .iface 51 (.agg #[.int .i64 c]), recovered := false }] ∧ Below w.heap.size w w'
theorem enters_named1 : ∀ args w, (callFunc 58 args).run Tryz.prog w = .ok (.enter 58 args) w := by
  intro args w
  go_simp
theorem Word_calls (s : ByteArray) (w : World) : Calls Tryz.prog 60 #[.string s] w fun e w' => e = .returned (.bool (isWordB s)) ∧ Below w.heap.size w w' := by
  have h : lex_Word.f 6 s = some (isWordB s) := by
    obtain ⟨r, h1, h2⟩ := index_loop [(⟨#[108, 101, 116]⟩ : ByteArray), ⟨#[108, 101, 116, 114, 101, 99]⟩, ⟨#[105, 110]⟩, ⟨#[99, 97, 115, 101]⟩, ⟨#[111, 102]⟩] s (by decide) 5 0 rfl
    unfold lex_Word.f slices_Contains_string_string.f slices_Index_string_string.f
    have h1' : slices_Index_string_string.l0 6 [(⟨#[108, 101, 116]⟩ : ByteArray), ⟨#[108, 101, 116, 114, 101, 99]⟩, ⟨#[105, 110]⟩, ⟨#[99, 97, 115, 101]⟩, ⟨#[111, 102]⟩] s 5 0 = some r := h1
    show ((slices_Index_string_string.l0 6 [(⟨#[108, 101, 116]⟩ : ByteArray), ⟨#[108, 101, 116, 114, 101, 99]⟩, ⟨#[105, 110]⟩, ⟨#[99, 97, 115, 101]⟩, ⟨#[111, 102]⟩] s 5 0).bind fun t => some (decide (t ≥ 0))).bind (fun t => some t) = _
    rw [h1']
    show some (decide (r ≥ 0)) = _
    rw [h2]
    rfl
  exact lex_Word.calls 6 s _ w h
theorem ixF_neg (p : UInt8 → Bool) : ∀ (l : List UInt8) (i : Nat), ¬ 0 ≤ ixF p l i → ∀ b ∈ l, p b = false
  | [], _, _, _, h => by simp at h
  | x :: r, i, hn, b, hb => by
    unfold ixF at hn
    split at hn
    · omega
    · rcases List.mem_cons.1 hb with rfl | hb
      · simpa using ‹¬ p _ = true›
      · exact ixF_neg p r (i + 1) hn b hb
theorem digits_of (l : List UInt8) (hw : ∀ b ∈ l, wordI (b.toNat : Int) = true) (h : ¬ 0 ≤ ixF (fun b => decide (57 < (b.toNat : Int))) l 0) : ∀ b ∈ l, 48 ≤ b.toNat ∧ b.toNat ≤ 57 := by
  intro b hb
  have h1 := ixF_neg _ l 0 h b hb
  have h2 := hw b hb
  simp [wordI, lowI, upI, digI] at h1 h2
  omega
set_option maxHeartbeats 1000000 in
theorem named_calls (s : ByteArray) (hs : 0 < s.size) (hall : ∀ b ∈ s.data.toList, wordI (b.toNat : Int) = true) (w : World) : Calls Tryz.prog 40 #[.string s] w (NRel w s (lexNamed s ((s[0]'hs).toNat : Int))) := by
  have hmf : ∀ (fn : Fn) (first cap : Array Value) (w : World), (Instr.makeFunc fn first cap).run Tryz.prog w = .ok (.func fn first cap) w := fun _ _ _ _ => rfl
  have HALL := Lib.hid hall
  obtain ⟨R, hR⟩ : ∃ R, R = lexNamed s ((s[0]'hs).toNat : Int) := ⟨_, rfl⟩
  rw [← hR]
  unfold lexNamed at hR
  by_cases h1 : digI ((s[0]'hs).toNat : Int) = true
  · rw [if_pos h1] at hR
    have H1 := Lib.hid h1
    clear h1
    by_cases h2 : 0 ≤ ixF (fun b => decide (57 < (b.toNat : Int))) s.data.toList 0
    · rw [if_pos h2] at hR
      have HR := Lib.hid hR
      have H2 := Lib.hid (decide_eq_true h2)
      clear hR h2
      go_enter Tryz.func40, Tryz.ntmps40
      go_wp2_with fail
      refine (digit_calls _ _).mono ?_
      rintro e w1 ⟨rfl, hB1⟩
      rw [H1.out]
      go_wp2_with fail
      refine (ContainsFunc_calls 58 enters_named1 (fun c => decide (57 < c)) (fun c h => decide_eq_true (by omega)) (fun c w _ => named1_calls c w) s w1).mono ?_
      rintro e w2 ⟨rfl, hB2⟩
      rw [H2.out]
      go_wp2
      rw [HR.out]
      have hB0 : Below w.heap.size w w2 := below_step (below_step (below_alloc (below_alloc (Below.refl _ _) _) _) hB1) hB2
      exact ⟨rfl, rfl, hB0⟩
    · rw [if_neg h2] at hR
      have H2 := Lib.hid (decide_eq_false h2)
      have HAT := Lib.hid (atoi_some s.data.toList (by intro e; have : s.data.toList.length = s.size := rfl; rw [e] at this; simp at this; omega) (digits_of _ hall h2))
      clear h2
      by_cases h3 : 18 < s.size ∨ (1 < s.size ∧ ((s[0]'hs).toNat : Int) = 48)
      · rw [if_pos h3] at hR
        have HR := Lib.hid hR
        clear hR
        go_enter Tryz.func40, Tryz.ntmps40
        go_wp2_with fail
        refine (digit_calls _ _).mono ?_
        rintro e w1 ⟨rfl, hB1⟩
        rw [H1.out]
        go_wp2_with fail
        refine (ContainsFunc_calls 58 enters_named1 (fun c => decide (57 < c)) (fun c h => decide_eq_true (by omega)) (fun c w _ => named1_calls c w) s w1).mono ?_
        rintro e w2 ⟨rfl, hB2⟩
        rw [H2.out]
        have hB0 : Below w.heap.size w w2 := below_step (below_step (below_alloc (below_alloc (Below.refl _ _) _) _) hB1) hB2
        clear hB1 hB2
        by_cases h18 : 18 < s.size
        · have n1 : decide ((18 : Int) < (s.size : Int)) = true := decide_eq_true (by omega)
          clear h3
          go_wp2
          rw [HR.out]
          exact ⟨rfl, rfl, hB0⟩
        · have n1 : decide ((18 : Int) < (s.size : Int)) = false := decide_eq_false (by omega)
          have n2 : decide ((1 : Int) < (s.size : Int)) = true := decide_eq_true (by omega)
          have n3 : (((s[0]'hs).toNat : Int) == 48) = true := by simp; omega
          clear h3
          go_wp2
          rw [HR.out]
          exact ⟨rfl, rfl, hB0⟩
      · rw [if_neg h3] at hR
        have HR := Lib.hid hR
        clear hR
        go_enter Tryz.func40, Tryz.ntmps40
        go_wp2_with fail
        refine (digit_calls _ _).mono ?_
        rintro e w1 ⟨rfl, hB1⟩
        rw [H1.out]
        go_wp2_with fail
        refine (ContainsFunc_calls 58 enters_named1 (fun c => decide (57 < c)) (fun c h => decide_eq_true (by omega)) (fun c w _ => named1_calls c w) s w1).mono ?_
        rintro e w2 ⟨rfl, hB2⟩
        rw [H2.out]
        have hbt := blk_below (belowNew hB1) hB2
        have hbr := blk_below (blk_below (blk_alloc (blk_new w (.cells #[.int .i64 0, .string ⟨#[]⟩, .int .i64 0, .int .i64 0] 46)) (.cells #[.int .i64 0, .string s, .int .i64 0, .int .i64 0] 46)) hB1) hB2
        have hB := below_step (below_step (below_alloc (below_alloc (Below.refl _ _) _) _) hB1) hB2
        rw [World.size_alloc] at hbt
        obtain ⟨x0, x1, x2, x3, xf, xl⟩ := open4 hbt
        have n1 : decide ((18 : Int) < (s.size : Int)) = false := decide_eq_false (by omega)
        clear hB1
        by_cases h5 : 1 < s.size
        · have n2 : decide ((1 : Int) < (s.size : Int)) = true := decide_eq_true (by omega)
          have n3 : (((s[0]'hs).toNat : Int) == 48) = false := by simp; omega
          have hat : ∃ n, Lib.atoi s.data.toList = some n := HAT.out
          obtain ⟨n, hn⟩ := hat
          rw [hn] at HR
          have hb3 := blk_put hbt 0 (.int .i64 3) rfl
          have hr3 := blk_far hbr (p := ⟨w.heap.size + 1, 0, none⟩) (by simp) (.int .i64 3)
          have hB3 := hB.setCell (p := ⟨w.heap.size + 1, 0, none⟩) (by simp) (.int .i64 3)
          go_wp2_with fail
          refine (Tryz.strconv_Atoi s n (by omega) hn _).mono ?_
          rintro e w4 ⟨rfl, tt, rfl⟩
          have hB4 := bytes_below (Below.refl (w2.setCell ⟨w.heap.size + 1, 0, none⟩ (.int .i64 3)).heap.size (w2.setCell ⟨w.heap.size + 1, 0, none⟩ (.int .i64 3))) (Nat.le_refl _) 5 tt
          obtain ⟨w4, hw4⟩ : ∃ w4, w4 = Lib.bytesWorld (w2.setCell ⟨w.heap.size + 1, 0, none⟩ (.int .i64 3)) 5 tt := ⟨_, rfl⟩
          rw [← hw4] at hB4 ⊢
          clear hw4
          have hb4 := blk_below hb3 hB4
          have hr4 := blk_below hr3 hB4
          have hB5 := below_then hB3 hB3.size hB4
          obtain ⟨y0, y1, y2, y3, yf, yl⟩ := open4 hb4
          obtain ⟨z0, z1, z2, z3, zf, zl⟩ := open4 hr4
          clear x0 x1 x2 x3 xf xl hB4 hb3 hr3
          go_wp2
          have hr5 := set4 (u0 := .int .i64 3) (u1 := .string s) (u2 := .int .i64 n) (u3 := .int .i64 0) (blk_far hr4 (p := ⟨w.heap.size + 1, 2, none⟩) (by simp) (.int .i64 n))
          refine bodyPost_ret (results_cell_row rfl _ _ w.heap.size 46 #[.int .i64 3, .string s, .int .i64 n, .int .i64 0] (0, 0) _ rfl hr5 Tryz.underlying46 rfl (by kernel_rfl)) rfl ?_
          rw [HR.out]
          exact ⟨rfl, ((((hB5.setCell (p := ⟨w.heap.size + 1, 2, none⟩) (by simp) _).setCell (p := ⟨w.heap.size, 0, none⟩) (by simp) _).setCell (p := ⟨w.heap.size, 1, none⟩) (by simp) _).setCell (p := ⟨w.heap.size, 2, none⟩) (by simp) _).setCell (p := ⟨w.heap.size, 3, none⟩) (by simp) _⟩
        · have n2 : decide ((1 : Int) < (s.size : Int)) = false := decide_eq_false (by omega)
          have hat : ∃ n, Lib.atoi s.data.toList = some n := HAT.out
          obtain ⟨n, hn⟩ := hat
          rw [hn] at HR
          have hb3 := blk_put hbt 0 (.int .i64 3) rfl
          have hr3 := blk_far hbr (p := ⟨w.heap.size + 1, 0, none⟩) (by simp) (.int .i64 3)
          have hB3 := hB.setCell (p := ⟨w.heap.size + 1, 0, none⟩) (by simp) (.int .i64 3)
          go_wp2_with fail
          refine (Tryz.strconv_Atoi s n (by omega) hn _).mono ?_
          rintro e w4 ⟨rfl, tt, rfl⟩
          have hB4 := bytes_below (Below.refl (w2.setCell ⟨w.heap.size + 1, 0, none⟩ (.int .i64 3)).heap.size (w2.setCell ⟨w.heap.size + 1, 0, none⟩ (.int .i64 3))) (Nat.le_refl _) 5 tt
          obtain ⟨w4, hw4⟩ : ∃ w4, w4 = Lib.bytesWorld (w2.setCell ⟨w.heap.size + 1, 0, none⟩ (.int .i64 3)) 5 tt := ⟨_, rfl⟩
          rw [← hw4] at hB4 ⊢
          clear hw4
          have hb4 := blk_below hb3 hB4
          have hr4 := blk_below hr3 hB4
          have hB5 := below_then hB3 hB3.size hB4
          obtain ⟨y0, y1, y2, y3, yf, yl⟩ := open4 hb4
          obtain ⟨z0, z1, z2, z3, zf, zl⟩ := open4 hr4
          clear x0 x1 x2 x3 xf xl hB4 hb3 hr3
          go_wp2
          have hr5 := set4 (u0 := .int .i64 3) (u1 := .string s) (u2 := .int .i64 n) (u3 := .int .i64 0) (blk_far hr4 (p := ⟨w.heap.size + 1, 2, none⟩) (by simp) (.int .i64 n))
          refine bodyPost_ret (results_cell_row rfl _ _ w.heap.size 46 #[.int .i64 3, .string s, .int .i64 n, .int .i64 0] (0, 0) _ rfl hr5 Tryz.underlying46 rfl (by kernel_rfl)) rfl ?_
          rw [HR.out]
          exact ⟨rfl, ((((hB5.setCell (p := ⟨w.heap.size + 1, 2, none⟩) (by simp) _).setCell (p := ⟨w.heap.size, 0, none⟩) (by simp) _).setCell (p := ⟨w.heap.size, 1, none⟩) (by simp) _).setCell (p := ⟨w.heap.size, 2, none⟩) (by simp) _).setCell (p := ⟨w.heap.size, 3, none⟩) (by simp) _⟩
  · rw [if_neg h1] at hR
    have H1 := Lib.hid (show digI ((s[0]'hs).toNat : Int) = false by simpa using h1)
    clear h1
    by_cases h2 : 16 < s.size
    · rw [if_pos h2] at hR
      have HR := Lib.hid hR
      clear hR
      have n1 : decide ((16 : Int) < (s.size : Int)) = true := decide_eq_true (by omega)
      go_enter Tryz.func40, Tryz.ntmps40
      go_wp2_with fail
      refine (digit_calls _ _).mono ?_
      rintro e w1 ⟨rfl, hB1⟩
      rw [H1.out]
      have hB0 : Below w.heap.size w w1 := below_step (below_alloc (below_alloc (Below.refl _ _) _) _) hB1
      clear hB1
      go_wp2
      rw [HR.out]
      exact ⟨rfl, rfl, hB0⟩
    · rw [if_neg h2] at hR
      have n1 : decide ((16 : Int) < (s.size : Int)) = false := decide_eq_false (by omega)
      go_enter Tryz.func40, Tryz.ntmps40
      have HR := Lib.hid hR
      clear hR
      go_wp2_with fail
      refine (digit_calls _ _).mono ?_
      rintro e w1 ⟨rfl, hB1⟩
      rw [H1.out]
      go_wp2_with fail
      refine (Word_calls s w1).mono ?_
      rintro e w2 ⟨rfl, hB2⟩
      have hbt := blk_below (blk_below (blk_new (w.alloc (.cells #[.int .i64 0, .string ⟨#[]⟩, .int .i64 0, .int .i64 0] 46)) (.cells #[.int .i64 0, .string s, .int .i64 0, .int .i64 0] 46)) hB1) hB2
      have hbr := blk_below (blk_below (blk_alloc (blk_new w (.cells #[.int .i64 0, .string ⟨#[]⟩, .int .i64 0, .int .i64 0] 46)) (.cells #[.int .i64 0, .string s, .int .i64 0, .int .i64 0] 46)) hB1) hB2
      have hB := below_step (below_step (below_alloc (below_alloc (Below.refl _ _) _) _) hB1) hB2
      rw [World.size_alloc] at hbt
      clear hB1 hB2
      cases hw : isWordB s with
      | true =>
        rw [hw, if_pos rfl] at HR
        obtain ⟨x0, x1, x2, x3, xf, xl⟩ := open4 hbt
        obtain ⟨z0, z1, z2, z3, zf, zl⟩ := open4 hbr
        clear hw
        go_wp2
        have hr5 := set4 (u0 := .int .i64 4) (u1 := .string s) (u2 := .int .i64 0) (u3 := .int .i64 0) (blk_far hbr (p := ⟨w.heap.size + 1, 0, none⟩) (by simp) (.int .i64 4))
        refine bodyPost_ret (results_cell_row rfl _ _ w.heap.size 46 #[.int .i64 4, .string s, .int .i64 0, .int .i64 0] (0, 0) _ rfl hr5 Tryz.underlying46 rfl (by kernel_rfl)) rfl ?_
        rw [HR.out]
        exact ⟨rfl, ((((hB.setCell (p := ⟨w.heap.size + 1, 0, none⟩) (by simp) _).setCell (p := ⟨w.heap.size, 0, none⟩) (by simp) _).setCell (p := ⟨w.heap.size, 1, none⟩) (by simp) _).setCell (p := ⟨w.heap.size, 2, none⟩) (by simp) _).setCell (p := ⟨w.heap.size, 3, none⟩) (by simp) _⟩
      | false =>
        rw [hw, if_neg (by decide)] at HR
        clear hw
        go_wp2_with fail
        refine (upper_calls _ w2).mono ?_
        rintro e w3 ⟨rfl, hB3⟩
        have hbt' := blk_below hbt hB3
        have hbr' := blk_below hbr hB3
        have hB' := below_step hB hB3
        clear hbt hbr hB hB3
        cases hu : upI ((s[0]'hs).toNat : Int) with
        | true =>
          rw [hu, if_pos rfl] at HR
          clear hu
          obtain ⟨x0, x1, x2, x3, xf, xl⟩ := open4 hbt'
          obtain ⟨z0, z1, z2, z3, zf, zl⟩ := open4 hbr'
          go_wp2
          have hr5 := set4 (u0 := .int .i64 2) (u1 := .string s) (u2 := .int .i64 0) (u3 := .int .i64 0) (blk_far hbr' (p := ⟨w.heap.size + 1, 0, none⟩) (by simp) (.int .i64 2))
          refine bodyPost_ret (results_cell_row rfl _ _ w.heap.size 46 #[.int .i64 2, .string s, .int .i64 0, .int .i64 0] (0, 0) _ rfl hr5 Tryz.underlying46 rfl (by kernel_rfl)) rfl ?_
          rw [HR.out]
          exact ⟨rfl, ((((hB'.setCell (p := ⟨w.heap.size + 1, 0, none⟩) (by simp) _).setCell (p := ⟨w.heap.size, 0, none⟩) (by simp) _).setCell (p := ⟨w.heap.size, 1, none⟩) (by simp) _).setCell (p := ⟨w.heap.size, 2, none⟩) (by simp) _).setCell (p := ⟨w.heap.size, 3, none⟩) (by simp) _⟩
        | false =>
          rw [hu, if_neg (by decide)] at HR
          clear hu
          obtain ⟨x0, x1, x2, x3, xf, xl⟩ := open4 hbt'
          obtain ⟨z0, z1, z2, z3, zf, zl⟩ := open4 hbr'
          go_wp2
          have hr5 := set4 (u0 := .int .i64 1) (u1 := .string s) (u2 := .int .i64 0) (u3 := .int .i64 0) (blk_far hbr' (p := ⟨w.heap.size + 1, 0, none⟩) (by simp) (.int .i64 1))
          refine bodyPost_ret (results_cell_row rfl _ _ w.heap.size 46 #[.int .i64 1, .string s, .int .i64 0, .int .i64 0] (0, 0) _ rfl hr5 Tryz.underlying46 rfl (by kernel_rfl)) rfl ?_
          rw [HR.out]
          exact ⟨rfl, ((((hB'.setCell (p := ⟨w.heap.size + 1, 0, none⟩) (by simp) _).setCell (p := ⟨w.heap.size, 0, none⟩) (by simp) _).setCell (p := ⟨w.heap.size, 1, none⟩) (by simp) _).setCell (p := ⟨w.heap.size, 2, none⟩) (by simp) _).setCell (p := ⟨w.heap.size, 3, none⟩) (by simp) _⟩
end Go.Proofs.YtajcnjdinmgpjaaGreatDoor.X
/- The walks of the words: the token at the front. -/
namespace Go.Proofs.YtajcnjdinmgpjaaGreatDoor.X
open Go.RowKit Go.Proofs.YtajcnjdinmgpjaaGreatDoorW.PrintWords Go.Proofs.YtajcnjdinmgpjaaGreatDoorW.PrintLast Go.Proofs.YtajcnjdinmgpjaaGreatDoorW.PrintMore Go.Proofs.YtajcnjdinmgpjaaGreatDoor.P
/-- the signs, in their order -/
def signL : List ByteArray := [⟨#[45, 62]⟩, ⟨#[61, 61]⟩, ⟨#[92]⟩, ⟨#[46]⟩, ⟨#[40]⟩, ⟨#[41]⟩, ⟨#[61]⟩, ⟨#[123]⟩, ⟨#[125]⟩, ⟨#[124]⟩, ⟨#[43]⟩, ⟨#[45]⟩, ⟨#[42]⟩, ⟨#[47]⟩, ⟨#[60]⟩]
def signV : Value := .agg #[.string ⟨#[45, 62]⟩, .string ⟨#[61, 61]⟩, .string ⟨#[92]⟩, .string ⟨#[46]⟩, .string ⟨#[40]⟩, .string ⟨#[41]⟩, .string ⟨#[61]⟩, .string ⟨#[123]⟩, .string ⟨#[125]⟩, .string ⟨#[124]⟩, .string ⟨#[43]⟩, .string ⟨#[45]⟩, .string ⟨#[42]⟩, .string ⟨#[47]⟩, .string ⟨#[60]⟩]
set_option maxHeartbeats 1000000 in
theorem signs_calls (w : World) : Calls Tryz.prog 41 #[] w fun e w' => e = .returned signV ∧ Below w.heap.size w w' := by
  go_enter Tryz.func41, Tryz.ntmps41
  go_wp2
  exact bodyPost_ret (results_cell_row rfl _ _ w.heap.size 74 _ (0, 0) _ rfl (blk_new _ _) Tryz.underlying74 rfl (by kernel_rfl)) rfl ⟨rfl, below_alloc (Below.refl _ _) _⟩
/-- the first sign that a text begins with -/
def firstSign (s : ByteArray) : List ByteArray → Option ByteArray
  | [] => none
  | x :: r => if Lib.hasPrefix s.data.toList x.data.toList then some x else firstSign s r
/-- where the letters and digits at the front end, or -1 -/
def endW (s : ByteArray) : Int := ixF (fun b => notW (b.toNat : Int)) s.data.toList 0
def lenW (s : ByteArray) : Nat := if endW s < 0 then s.size else (endW s).toNat
def c0 (s : ByteArray) : Int := match s.data.toList with | [] => 0 | b :: _ => (b.toNat : Int)
def tokOf (t : ByteArray) : Except Int (Int × Int) → Except Int Tok
  | .ok (k, n) => .ok ⟨k, t, n, 0⟩
  | .error c => .error c
/-- the token at the front of a text -/
def lexFirst (s : ByteArray) : Except Int Tok :=
  if endW s = 0 then (match firstSign s signL with | some x => .ok ⟨5, x, 0, 0⟩ | none => .error 10)
  else tokOf (s.extract 0 (lenW s)) (lexNamed (s.extract 0 (lenW s)) (c0 s))
def lexWrong (c : Int) : Ending := .panicked [{ v := .iface 51 (.agg #[.int .i64 c]), recovered := false }]
def FRel (w : World) (R : Except Int Tok) (e : Ending) (w' : World) : Prop :=
  match R with
  | .ok t => e = .returned (tokV t) ∧ Below w.heap.size w w'
  | .error c => e = lexWrong c ∧ Below w.heap.size w w'
theorem ixF_lt (p : UInt8 → Bool) : ∀ (l : List UInt8) (i : Nat), ixF p l i = -1 ∨ ∃ k : Nat, ixF p l i = ((i + k : Nat) : Int) ∧ k < l.length ∧ ∀ b ∈ l.take k, p b = false
  | [], _ => .inl rfl
  | b :: r, i => by
    unfold ixF
    by_cases h : p b = true
    · rw [if_pos h]
      exact .inr ⟨0, rfl, by simp, by simp⟩
    · rw [if_neg h]
      rcases ixF_lt p r (i + 1) with h1 | ⟨k, h1, h2, h3⟩
      · exact .inl h1
      · refine .inr ⟨k + 1, by rw [h1]; congr 1; omega, by simp; omega, ?_⟩
        intro x hx
        simp only [List.take_succ_cons, List.mem_cons] at hx
        rcases hx with rfl | hx
        · simpa using h
        · exact h3 x hx
theorem enters_first1 : ∀ args w, (callFunc 38 args).run Tryz.prog w = .ok (.enter 38 args) w := by
  intro args w
  go_simp
theorem take_list (s : ByteArray) (k : Nat) : (s.extract 0 k).data.toList = s.data.toList.take k := by
  rw [ByteArray.data_extract]
  simp
theorem wordI_of (b : UInt8) (h : notW (b.toNat : Int) = false) : wordI (b.toNat : Int) = true := by
  unfold notW at h
  simp at h
  exact h.2
theorem c0_take (s : ByteArray) (k : Nat) (h : 0 < (s.extract 0 k).size) : (((s.extract 0 k)[0]'h).toNat : Int) = c0 s := by
  have e : (s.extract 0 k).data.toList = s.data.toList.take k := take_list s k
  have h0 : (s.extract 0 k).data.toList[0]? = some ((s.extract 0 k)[0]'h) := by
    rw [List.getElem?_eq_getElem (by simpa using h)]
    rfl
  rw [e] at h0
  unfold c0
  cases hs : s.data.toList with
  | nil => rw [hs] at h0; simp at h0
  | cons b r =>
    rw [hs] at h0
    cases k with
    | zero => simp at h0
    | succ k =>
      simp at h0
      simp [h0]
theorem named_tok (t : ByteArray) (c : Int) (hs : 0 < t.size) (hc : ((t[0]'hs).toNat : Int) = c) (hall : ∀ b ∈ t.data.toList, wordI (b.toNat : Int) = true) (w : World) : Calls Tryz.prog 40 #[.string t] w (FRel w (tokOf t (lexNamed t c))) := by
  have h := named_calls t hs hall w
  rw [hc] at h
  refine h.mono ?_
  intro e w' hr
  cases hl : lexNamed t c with
  | ok p =>
    obtain ⟨k, n⟩ := p
    rw [hl] at hr
    exact hr
  | error c =>
    rw [hl] at hr
    exact hr
theorem extract_all (s : ByteArray) : s.extract 0 s.size = s := by
  apply ByteArray.ext
  apply Array.toList_inj.1
  rw [take_list]
  exact List.take_of_length_le (Nat.le_refl _)
theorem c0_all (s : ByteArray) (h : 0 < s.size) : ((s[0]'h).toNat : Int) = c0 s := by
  have := c0_take s s.size (by rw [extract_all]; exact h)
  simp only [extract_all] at this
  exact this
theorem ix0 (w : World) : (Instr.index 74 signV (.int .i64 0)).run Tryz.prog w = .ok (.string ⟨#[45, 62]⟩) w := by kernel_rfl
theorem ix1 (w : World) : (Instr.index 74 signV (.int .i64 1)).run Tryz.prog w = .ok (.string ⟨#[61, 61]⟩) w := by kernel_rfl
theorem ix2 (w : World) : (Instr.index 74 signV (.int .i64 2)).run Tryz.prog w = .ok (.string ⟨#[92]⟩) w := by kernel_rfl
theorem ix3 (w : World) : (Instr.index 74 signV (.int .i64 3)).run Tryz.prog w = .ok (.string ⟨#[46]⟩) w := by kernel_rfl
theorem ix4 (w : World) : (Instr.index 74 signV (.int .i64 4)).run Tryz.prog w = .ok (.string ⟨#[40]⟩) w := by kernel_rfl
theorem ix5 (w : World) : (Instr.index 74 signV (.int .i64 5)).run Tryz.prog w = .ok (.string ⟨#[41]⟩) w := by kernel_rfl
theorem ix6 (w : World) : (Instr.index 74 signV (.int .i64 6)).run Tryz.prog w = .ok (.string ⟨#[61]⟩) w := by kernel_rfl
theorem ix7 (w : World) : (Instr.index 74 signV (.int .i64 7)).run Tryz.prog w = .ok (.string ⟨#[123]⟩) w := by kernel_rfl
theorem ix8 (w : World) : (Instr.index 74 signV (.int .i64 8)).run Tryz.prog w = .ok (.string ⟨#[125]⟩) w := by kernel_rfl
theorem ix9 (w : World) : (Instr.index 74 signV (.int .i64 9)).run Tryz.prog w = .ok (.string ⟨#[124]⟩) w := by kernel_rfl
theorem ix10 (w : World) : (Instr.index 74 signV (.int .i64 10)).run Tryz.prog w = .ok (.string ⟨#[43]⟩) w := by kernel_rfl
theorem ix11 (w : World) : (Instr.index 74 signV (.int .i64 11)).run Tryz.prog w = .ok (.string ⟨#[45]⟩) w := by kernel_rfl
theorem ix12 (w : World) : (Instr.index 74 signV (.int .i64 12)).run Tryz.prog w = .ok (.string ⟨#[42]⟩) w := by kernel_rfl
theorem ix13 (w : World) : (Instr.index 74 signV (.int .i64 13)).run Tryz.prog w = .ok (.string ⟨#[47]⟩) w := by kernel_rfl
theorem ix14 (w : World) : (Instr.index 74 signV (.int .i64 14)).run Tryz.prog w = .ok (.string ⟨#[60]⟩) w := by kernel_rfl
theorem signIx (i : Nat) (hi : i < 15) (w : World) : (Instr.index 74 signV (.int .i64 (i : Int))).run Tryz.prog w = .ok (.string (signL[i]'hi)) w := by
  have : ∀ i : Fin 15, (Instr.index 74 signV (.int .i64 (i.val : Int))).run Tryz.prog w = .ok (.string (signL[i.val]'i.isLt)) w := by
    intro i
    match i with
    | ⟨0, _⟩ => exact ix0 w
    | ⟨1, _⟩ => exact ix1 w
    | ⟨2, _⟩ => exact ix2 w
    | ⟨3, _⟩ => exact ix3 w
    | ⟨4, _⟩ => exact ix4 w
    | ⟨5, _⟩ => exact ix5 w
    | ⟨6, _⟩ => exact ix6 w
    | ⟨7, _⟩ => exact ix7 w
    | ⟨8, _⟩ => exact ix8 w
    | ⟨9, _⟩ => exact ix9 w
    | ⟨10, _⟩ => exact ix10 w
    | ⟨11, _⟩ => exact ix11 w
    | ⟨12, _⟩ => exact ix12 w
    | ⟨13, _⟩ => exact ix13 w
    | ⟨14, _⟩ => exact ix14 w
  exact this ⟨i, hi⟩
set_option maxHeartbeats 1000000 in
theorem first_calls (s : ByteArray) (hs : 0 < s.size) (w : World) : Calls Tryz.prog 23 #[.string s] w (FRel w (lexFirst s)) := by
  have hz : s.data.toList.length = s.size := rfl
  obtain ⟨R, hR⟩ : ∃ R, R = lexFirst s := ⟨_, rfl⟩
  rw [← hR]
  unfold lexFirst at hR
  have hcall := fun w => IndexFunc_calls 38 enters_first1 notW (fun c h => by simp [notW, h]) (fun c w h => first1_calls c h w) s w
  have hme : ∀ w, Calls Tryz.prog 37 #[.string s, .func (.func 38) #[] #[]] w fun e w' => e = .returned (.int .i64 (endW s)) ∧ Below w.heap.size w w' := hcall
  have HC := Lib.hid hme
  clear hcall hme
  have hmf : ∀ (fn : Fn) (first cap : Array Value) (w : World), (Instr.makeFunc fn first cap).run Tryz.prog w = .ok (.func fn first cap) w := fun _ _ _ _ => rfl
  rcases ixF_lt (fun b => notW (b.toNat : Int)) s.data.toList 0 with h1 | ⟨k, h1, h2, h3⟩
  · have h1' : endW s = -1 := h1
    have hl : lenW s = s.size := by unfold lenW; rw [if_pos (by omega)]
    have hall := ixF_neg (fun b => notW (b.toNat : Int)) s.data.toList 0 (by omega)
    rw [if_neg (by omega), hl, extract_all] at hR
    have hN := named_tok s (c0 s) hs (c0_all s hs) (fun b hb => wordI_of b (hall b hb))
    rw [← hR] at hN
    have HN := Lib.hid hN
    have H1 := Lib.hid h1'
    clear h1 h1' hl hall hN hR hz
    go_enter Tryz.func23, Tryz.ntmps23
    go_wp2_with fail
    refine (HC.out _).mono ?_
    rintro e w1 ⟨rfl, hB1⟩
    rw [H1.out]
    go_wp2_with fail
    refine (HN.out _).mono ?_
    intro e w2 hr
    have hb2 := belowNew hB1
    have hB := below_step (below_alloc (Below.refl _ _) _) hB1
    cases R with
    | error c =>
      obtain ⟨rfl, hB2⟩ := hr
      unfold lexWrong
      go_wp2
      exact ⟨rfl, rfl, below_step hB hB2⟩
    | ok t =>
      obtain ⟨rfl, hB2⟩ := hr
      have hb3 := blk_below hb2 hB2
      obtain ⟨x0, x1, x2, x3, xf, xl⟩ := open4 hb3
      unfold tokV
      go_wp2
      have hr5 := set4 (u0 := .int .i64 t.f0) (u1 := .string t.f1) (u2 := .int .i64 t.f2) (u3 := .int .i64 t.f3) hb3
      refine bodyPost_ret (results_cell_row rfl _ _ w.heap.size 46 _ (0, 0) _ rfl hr5 Tryz.underlying46 rfl (by kernel_rfl)) rfl ⟨rfl, ?_⟩
      exact ((((below_step hB hB2).setCell (p := ⟨w.heap.size, 0, none⟩) (by simp) _).setCell (p := ⟨w.heap.size, 1, none⟩) (by simp) _).setCell (p := ⟨w.heap.size, 2, none⟩) (by simp) _).setCell (p := ⟨w.heap.size, 3, none⟩) (by simp) _
  · rw [Nat.zero_add] at h1
    have h1' : endW s = (k : Int) := h1
    cases k with
    | zero =>
      rw [if_pos (by rw [h1']; rfl)] at hR
      have H1 := Lib.hid (show endW s = 0 from h1')
      have HR := Lib.hid hR
      obtain ⟨SV, hSC, hSI⟩ : ∃ SV, (∀ w, Calls Tryz.prog 41 #[] w fun e w' => e = .returned SV ∧ Below w.heap.size w w') ∧ (∀ (i : Nat) (hi : i < 15) (w : World), (Instr.index 74 SV (.int .i64 (i : Int))).run Tryz.prog w = .ok (.string (signL[i]'hi)) w) := ⟨signV, signs_calls, signIx⟩
      have HSC := Lib.hid hSC
      have HSI := Lib.hid hSI
      clear hSC hSI
      clear h1 h1' h2 h3 hR hz
      go_enter Tryz.func23, Tryz.ntmps23
      go_wp2_with fail
      refine (HC.out _).mono ?_
      rintro e w1 ⟨rfl, hB1⟩
      rw [H1.out]
      go_wp2_with fail
      refine (HSC.out _).mono ?_
      rintro e w2 ⟨rfl, hB2⟩
      have hb3 := blk_below (belowNew hB1) hB2
      have hB := below_step (below_step (below_alloc (Below.refl _ _) _) hB1) hB2
      have HW := Lib.hid (And.intro hb3 hB)
      clear hb3 hB hB1 hB2
      go_wp2_with fail
      go_loopg [19] 16 (fun gf i wx => ∃ j : Nat, i = .int .i64 (j : Int) ∧ j ≤ 15 ∧ 15 < j + gf ∧ wx = w2 ∧ R = (match firstSign s (signL.drop j) with | some x => .ok ⟨5, x, 0, 0⟩ | none => .error 10))
      case atStart => exact ⟨0, rfl, by omega, by omega, rfl, HR.out⟩
      case round =>
        obtain ⟨j, rfl, hj, hg, rfl, hr⟩ := hrel
        obtain ⟨g', rfl⟩ : ∃ g', gk = g' + 1 := ⟨gk - 1, by omega⟩
        by_cases hlt : j < 15
        · have hd : signL.drop j = (signL[j]'hlt) :: signL.drop (j + 1) := List.drop_eq_getElem_cons hlt
          have hix := HSI.out j hlt
          rw [hd] at hr
          unfold firstSign at hr
          obtain ⟨S, hS⟩ : ∃ S, S = (signL[j]'hlt) := ⟨_, rfl⟩
          rw [← hS] at hr hix
          clear hS hd
          have HIX := Lib.hid hix
          clear hix
          have HP := Tryz.strings_HasPrefix s S
          cases hp : Lib.hasPrefix s.data.toList S.data.toList with
          | true =>
            rw [hp] at hr HP
            rw [if_pos rfl] at hr
            have HP' := Lib.hid HP
            have HR' := Lib.hid hr
            clear HP hr hp
            have hix := HIX.out
            obtain ⟨b3, hB⟩ := HW.out
            obtain ⟨x0, x1, x2, x3, xf, xl⟩ := open4 b3
            have HW2 := Lib.hid (And.intro b3 hB)
            clear HW b3 hB
            go_wp2_with fail
            refine (HP'.out _).mono ?_
            rintro e w' ⟨rfl, rfl⟩
            go_wp2_with fail
            have hr5 := set4 (u0 := .int .i64 5) (u1 := .string S) (u2 := .int .i64 0) (u3 := .int .i64 0) HW2.out.1
            rw [HR'.out]
            refine bodyPost_ret (results_cell_row rfl _ _ w.heap.size 46 #[.int .i64 5, .string S, .int .i64 0, .int .i64 0] (0, 0) _ rfl hr5 Tryz.underlying46 rfl (by kernel_rfl)) rfl ⟨rfl, ?_⟩
            exact (((HW2.out.2.setCell (p := ⟨w.heap.size, 0, none⟩) (by simp) _).setCell (p := ⟨w.heap.size, 1, none⟩) (by simp) _).setCell (p := ⟨w.heap.size, 2, none⟩) (by simp) _).setCell (p := ⟨w.heap.size, 3, none⟩) (by simp) _
          | false =>
            rw [hp] at hr HP
            rw [if_neg (by decide)] at hr
            have HP' := Lib.hid HP
            have HR' := Lib.hid hr
            clear HP hr hp
            have hix := HIX.out
            go_wp2_with fail
            refine (HP'.out _).mono ?_
            rintro e w' ⟨rfl, rfl⟩
            go_wp2_with fail
            go_roundg g'
            case measure => omega
            case rel => exact ⟨j + 1, by go_num, by omega, by omega, rfl, HR'.out⟩
        · have hd : signL.drop j = [] := List.drop_eq_nil_of_le (by show 15 ≤ j; omega)
          rw [hd] at hr
          unfold firstSign at hr
          have HR' := Lib.hid hr
          clear hr
          obtain rfl : j = 15 := by omega
          go_wp2
          rw [HR'.out]
          exact ⟨rfl, rfl, HW.out.2⟩
    | succ k => 
      have hl : lenW s = k + 1 := by unfold lenW; rw [if_neg (by omega), h1']; rfl
      have hsz : (s.extract 0 (k + 1)).size = k + 1 := by
        have : (s.extract 0 (k + 1)).data.toList.length = k + 1 := by rw [take_list, List.length_take]; omega
        exact this
      rw [if_neg (by omega), hl] at hR
      have hN := named_tok (s.extract 0 (k + 1)) (c0 s) (by omega) (c0_take s _ (by omega)) (fun b hb => wordI_of b (h3 b (by rw [take_list] at hb; exact hb)))
      rw [← hR] at hN
      have HN := Lib.hid hN
      have H1 := Lib.hid h1'
      have hks : k + 1 ≤ s.size := by omega
      clear h1 h1' hl h3 hN hR hz h2 hsz
      have n1 : (((k + 1 : Nat) : Int) == 0) = false := by simp; omega
      have n2 : decide (((k + 1 : Nat) : Int) < 0) = false := decide_eq_false (by omega)
      go_enter Tryz.func23, Tryz.ntmps23
      go_wp2_with fail
      refine (HC.out _).mono ?_
      rintro e w1 ⟨rfl, hB1⟩
      rw [H1.out]
      clear n1 n2
      go_wp2_with fail
      refine (HN.out _).mono ?_
      intro e w2 hr
      have hb2 := belowNew hB1
      have hB := below_step (below_alloc (Below.refl _ _) _) hB1
      cases R with
      | error c =>
        obtain ⟨rfl, hB2⟩ := hr
        unfold lexWrong
        go_wp2
        exact ⟨rfl, rfl, below_step hB hB2⟩
      | ok t =>
        obtain ⟨rfl, hB2⟩ := hr
        have hb3 := blk_below hb2 hB2
        obtain ⟨x0, x1, x2, x3, xf, xl⟩ := open4 hb3
        unfold tokV
        go_wp2
        have hr5 := set4 (u0 := .int .i64 t.f0) (u1 := .string t.f1) (u2 := .int .i64 t.f2) (u3 := .int .i64 t.f3) hb3
        refine bodyPost_ret (results_cell_row rfl _ _ w.heap.size 46 _ (0, 0) _ rfl hr5 Tryz.underlying46 rfl (by kernel_rfl)) rfl ⟨rfl, ?_⟩
        exact ((((below_step hB hB2).setCell (p := ⟨w.heap.size, 0, none⟩) (by simp) _).setCell (p := ⟨w.heap.size, 1, none⟩) (by simp) _).setCell (p := ⟨w.heap.size, 2, none⟩) (by simp) _).setCell (p := ⟨w.heap.size, 3, none⟩) (by simp) _
end Go.Proofs.YtajcnjdinmgpjaaGreatDoor.X
/- All tokens of a text, as a plain function. -/
namespace Go.Proofs.YtajcnjdinmgpjaaGreatDoor.X
open Go.RowKit Go.Proofs.YtajcnjdinmgpjaaGreatDoor.P
/-- what is left behind the blanks -/
def rest (s : ByteArray) : ByteArray := ⟨(Lib.trimLeftS s.data.toList blanks).toArray⟩
/-- where the next token begins -/
def skip (s : ByteArray) (at_ : Nat) : Nat := s.size - (rest (s.extract at_ s.size)).size
theorem extract_size (s : ByteArray) (a : Nat) (h : a ≤ s.size) : (s.extract a s.size).size = s.size - a := by
  rw [ByteArray.size_extract]
  omega
theorem extract_list (s : ByteArray) (a : Nat) : (s.extract a s.size).data.toList = s.data.toList.drop a := by
  rw [ByteArray.data_extract]
  simp only [Array.toList_extract, List.extract_eq_take_drop]
  exact List.take_of_length_le (by rw [List.length_drop]; exact Nat.le_refl _)
theorem trimLeftS_le (l : List UInt8) : (Lib.trimLeftS l blanks).length ≤ l.length := (List.dropWhile_suffix _).length_le
theorem rest_size (s : ByteArray) : (rest s).size ≤ s.size := trimLeftS_le s.data.toList
theorem skip_ge (s : ByteArray) (a : Nat) (h : a ≤ s.size) : a ≤ skip s a ∧ skip s a ≤ s.size := by
  have h1 := rest_size (s.extract a s.size)
  rw [extract_size s a h] at h1
  unfold skip
  omega
theorem skip_int (s : ByteArray) (a : Nat) (h : a ≤ s.size) : (s.size : Int) - ((rest (s.extract a s.size)).size : Int) = ((skip s a : Nat) : Int) := by
  have h1 := rest_size (s.extract a s.size)
  rw [extract_size s a h] at h1
  unfold skip
  omega
/-- the tokens from a place on, behind others; or where there is none, and by what -/
def lexLoop (s : ByteArray) : Nat → Nat → List Tok → Except (Nat × Int) (List Tok)
  | 0, _, l => .ok l
  | m + 1, a, l => if skip s a = s.size then .ok l
    else match lexFirst (s.extract (skip s a) s.size) with
      | .error c => .error (skip s a, c)
      | .ok t => lexLoop s m (skip s a + t.f1.size) (l ++ [⟨t.f0, t.f1, t.f2, ((skip s a : Nat) : Int)⟩])
def lexAll (s : ByteArray) : Except (Nat × Int) (List Tok) := lexLoop s (s.size + 1) 0 []
theorem hasPrefix_size : ∀ (l p : List UInt8), Lib.hasPrefix l p = true → p.length ≤ l.length
  | l, [], _ => Nat.zero_le _
  | [], _ :: _, h => by cases h
  | a :: l, b :: p, h => by
    simp [Lib.hasPrefix] at h
    have := hasPrefix_size l p (by simp [Lib.hasPrefix]; exact h.2)
    simp
    exact this
theorem firstSign_mem {s : ByteArray} : ∀ {L : List ByteArray} {x : ByteArray}, firstSign s L = some x → x ∈ L ∧ Lib.hasPrefix s.data.toList x.data.toList = true
  | [], _, h => by cases h
  | y :: L, x, h => by
    unfold firstSign at h
    split at h
    · cases h
      exact ⟨by simp, ‹_›⟩
    · have := firstSign_mem h
      exact ⟨by simp [this.1], this.2⟩
theorem signL_size : ∀ x ∈ signL, 0 < x.size := by
  intro x hx
  simp [signL] at hx
  rcases hx with rfl | rfl | rfl | rfl | rfl | rfl | rfl | rfl | rfl | rfl | rfl | rfl | rfl | rfl | rfl <;> decide
/-- a token takes a byte at least, and no more than there are -/
theorem lexFirst_size {s : ByteArray} (hs : 0 < s.size) {t : Tok} (h : lexFirst s = .ok t) : 0 < t.f1.size ∧ t.f1.size ≤ s.size := by
  unfold lexFirst at h
  split at h
  · cases hf : firstSign s signL with
    | none => rw [hf] at h; cases h
    | some x =>
      rw [hf] at h
      cases h
      have := firstSign_mem hf
      exact ⟨signL_size x this.1, hasPrefix_size _ _ this.2⟩
  · rename_i he
    have hb : 0 < lenW s ∧ lenW s ≤ s.size := by
      unfold lenW
      rcases ixF_lt (fun b => notW (b.toNat : Int)) s.data.toList 0 with h1 | ⟨k, h1, h2, _⟩
      · have h1' : endW s = -1 := h1
        rw [if_pos (by omega)]
        omega
      · have h1' : endW s = ((0 + k : Nat) : Int) := h1
        have h2' : k < s.size := h2
        rw [if_neg (by omega)]
        omega
    have hsz : (s.extract 0 (lenW s)).size = lenW s := by
      rw [ByteArray.size_extract]
      omega
    cases hl : lexNamed (s.extract 0 (lenW s)) (c0 s) with
    | ok p =>
      obtain ⟨k, n⟩ := p
      rw [hl] at h
      cases h
      show 0 < (s.extract 0 (lenW s)).size ∧ (s.extract 0 (lenW s)).size ≤ _
      omega
    | error c => rw [hl] at h; cases h
end Go.Proofs.YtajcnjdinmgpjaaGreatDoor.X
/- The walks of the reader: what catches a panic. -/
namespace Go.Proofs.YtajcnjdinmgpjaaGreatDoor.X
open Go.RowKit Go.Proofs.YtajcnjdinmgpjaaGreatDoorW.PrintWords Go.Proofs.YtajcnjdinmgpjaaGreatDoorW.PrintLast Go.Proofs.YtajcnjdinmgpjaaGreatDoorW.PrintMore Go.Proofs.YtajcnjdinmgpjaaGreatDoor.P

theorem tmpsC (a b c v : Value) : #[a, b, c] ++ ((Array.replicate 17 undef).setIfInBounds 3 v).setIfInBounds 0 v = #[a, b, c, v, undef, undef, v, undef, undef, undef, undef, undef, undef, undef, undef, undef, undef, undef, undef, undef] := by kernel_rfl
theorem far5b {w : World} {b k : Nat} {cs : Array Value} {t : TypeId} {v0 v1 v2 v3 v4 : Value} (h : w.heap[k]? = some (.cells cs t (0, 0))) (hne : k ≠ b) : (((((w.setCell ⟨b, 0, none⟩ v0).setCell ⟨b, 1, none⟩ v1).setCell ⟨b, 2, none⟩ v2).setCell ⟨b, 3, none⟩ v3).setCell ⟨b, 4, none⟩ v4).heap[k]? = some (.cells cs t (0, 0)) :=
  blk_far (blk_far (blk_far (blk_far (blk_far h hne _) hne _) hne _) hne _) hne _
theorem heap_drew' (w : World) : w.drew.heap = w.heap := rfl
theorem isWrong (x : Int) (w : World) : (Instr.typeAssert (.iface 56 (.agg #[.int .i64 x])) 20 56 true).run Tryz.prog w = .ok (.tuple #[.agg #[.int .i64 x], .bool true]) w := by kernel_rfl
set_option maxRecDepth 100000 in
set_option maxHeartbeats 1000000 in
theorem catch_wrong (B0 B1 B2 n : Nat) (x : Int) (older : List PanicEntry) (w : World) {v0 v1 v2 v3 v4 u1 u2 : Value} (hB0 : w.heap[B0]? = some (.cells #[v0, v1, v2, v3, v4] 25 (0, 0))) (hB1 : w.heap[B1]? = some (.cells #[u1] 3 (0, 0))) (hB2 : w.heap[B2]? = some (.cells #[u2] 26 (0, 0)))
    (h01 : B0 ≠ B1) (h02 : B0 ≠ B2) (h12 : B1 ≠ B2) (n0 : n ≤ B0) (n1 : n ≤ B1) (n2 : n ≤ B2) :
    CallsD Tryz.prog 24 #[.pointer (some ⟨B0, 0, none⟩), .pointer (some ⟨B1, 0, none⟩), .pointer (some ⟨B2, 0, none⟩)] (.panicking ({ v := .iface 56 (.agg #[.int .i64 x]), recovered := false } :: older)) w fun e u' w' =>
      e = .returned (.tuple #[]) ∧ u' = .panicking ({ v := .iface 56 (.agg #[.int .i64 x]), recovered := true } :: older) ∧ w'.heap[B0]? = some (.cells #[.int .i64 0, .string ⟨#[]⟩, .int .i64 0, .int .i64 0, .slice none 0 0] 25 (0, 0)) ∧ w'.heap[B1]? = some (.cells #[.int .i64 x] 3 (0, 0)) ∧ w'.heap[B2]? = some (.cells #[.int .i64 30] 26 (0, 0)) ∧ Below n w w' := by
  refine callsD_of_wpS Tryz.func24 rfl fun c₀ cs hu => ?_
  apply wpS_seq
  apply wpS_region
  simp [wpOpsS, go_sem, recoverD, hu, Tryz.ntmps24, Exit.thenS]
  refine wpS_of_wp ?_
  rw [tmpsC]
  have hta := isWrong x
  go_wp2
  have hn := blk_new w (.cells #[.int .i64 x] 56)
  have hn0 : (w.alloc (.cells #[.int .i64 x] 56)).cell? ⟨w.heap.size, 0, none⟩ = some (.int .i64 x) := (open1 hn).1
  have b0 := blk_alloc hB0 (.cells #[.int .i64 x] 56)
  have b1 := blk_alloc hB1 (.cells #[.int .i64 x] 56)
  have b2 := blk_alloc hB2 (.cells #[.int .i64 x] 56)
  have lt0 := blk_lt hB0
  have lt1 := blk_lt hB1
  have lt2 := blk_lt hB2
  have hBl : Below n w (w.alloc (.cells #[.int .i64 x] 56)) := (below_alloc (Below.refl w.heap.size w) _).mono (by omega)
  obtain ⟨N, hN⟩ : ∃ N, N = w.heap.size := ⟨_, rfl⟩
  rw [← hN] at hn0 lt0 lt1 lt2 ⊢
  rw [← hN] at hn
  clear hN
  obtain ⟨W, hW⟩ : ∃ W, W = w.alloc (.cells #[.int .i64 x] 56) := ⟨_, rfl⟩
  rw [← hW] at hn hn0 b0 b1 b2 hBl ⊢
  clear hW hB0 hB1 hB2
  have HN5 := Lib.hid (open1 (far5b (v0 := .int .i64 0) (v1 := .string ⟨#[]⟩) (v2 := .int .i64 0) (v3 := .int .i64 0) (v4 := .slice none 0 0) hn (b := B0) (by omega))).1
  have HB := Lib.hid (And.intro b0 (And.intro b1 b2))
  obtain ⟨c0, c1, c2, c3, c4, cf, cl⟩ := open5 b0
  obtain ⟨d0, df, dl⟩ := open1 b1
  obtain ⟨e0, ef, el⟩ := open1 b2
  clear b0 b1 b2 hn
  refine start_ (n := 6) (S := fun w' => w'.cell? ⟨N, 0, none⟩ = some (.int .i64 x)) (ds := [4, 5]) #[false, false, false, false, false, false] (by kernel_rfl) rfl rfl hn0 (fun hHeld => ?_)
  refine pure_ (i := 0) (N := (some 17)) (v := ?_) (a' := ?_) #[true, false, false, false, false, false] rfl rfl (by kernel_rfl) (fun _ _ _ h => h) (Or.inl ⟨by rfl, ?_⟩) ?_ ?_
  rotate_left
  · intro w'
    go_simp
    try with_reducible rfl
  rotate_left
  · simp only [Act.put, List.setIfInBounds_toArray, List.set_cons_zero, List.set_cons_succ]
    try rfl
  refine pure_ (i := 1) (N := (some 18)) (v := ?_) (a' := ?_) #[true, true, false, false, false, false] rfl rfl (by kernel_rfl) (fun _ _ _ h => h) (Or.inl ⟨by rfl, ?_⟩) ?_ ?_
  rotate_left
  · intro w'
    go_simp
    try with_reducible rfl
  rotate_left
  · simp only [Act.put, List.setIfInBounds_toArray, List.set_cons_zero, List.set_cons_succ]
    try rfl
  refine take_ (i := 2) (N := (some 19)) (v := ?_) (a' := ?_) #[true, true, true, false, false, false] rfl rfl (by kernel_rfl) (fun _ _ _ h => h) (Or.inl ⟨by rfl, ?_⟩) hHeld ?_ ?_
  rotate_left
  · rintro w' s0
    go_simp
    try with_reducible rfl
  rotate_left
  · simp only [Act.put, List.setIfInBounds_toArray, List.set_cons_zero, List.set_cons_succ]
    try rfl
  refine one_ (i := 3) (N := none) #[true, true, true, true, false, false] rfl rfl (by kernel_rfl) (by decide) (fun K hK => ?_)
  go_simp
  refine hK _ _ (by rw [World.cell?_drew]; exact HN5.out) ?_
  clear hK K
  intro hHeld_1
  refine last_ (i := 4) (N := none) #[true, true, true, true, true, false] rfl rfl (by kernel_rfl) (by decide) (fun K hK => ?_)
  go_simp
  refine hK _ _ ?_
  clear hK K
  refine last_ (i := 5) (N := none) #[true, true, true, true, true, true] rfl rfl (by kernel_rfl) (by decide) (fun K hK => ?_)
  go_simp
  refine hK _ _ ?_
  clear hK K
  refine done_ (by kernel_rfl) ?_
  obtain ⟨b0, b1, b2⟩ := HB.out
  clear c0 c1 c2 c3 c4 cf d0 df e0 ef
  have F0 := blk_far (blk_far (set5 (u0 := .int .i64 0) (u1 := .string ⟨#[]⟩) (u2 := .int .i64 0) (u3 := .int .i64 0) (u4 := .slice none 0 0) b0) (p := ⟨B1, 0, none⟩) h01 (.int .i64 x)) (p := ⟨B2, 0, none⟩) h02 (.int .i64 30)
  have F1 := blk_far (blk_put (far5b (v0 := .int .i64 0) (v1 := .string ⟨#[]⟩) (v2 := .int .i64 0) (v3 := .int .i64 0) (v4 := .slice none 0 0) b1 (Ne.symm h01)) 0 (.int .i64 x) rfl) (p := ⟨B2, 0, none⟩) h12 (.int .i64 30)
  have F2 := blk_put (blk_far (far5b (v0 := .int .i64 0) (v1 := .string ⟨#[]⟩) (v2 := .int .i64 0) (v3 := .int .i64 0) (v4 := .slice none 0 0) b2 (Ne.symm h02)) (p := ⟨B1, 0, none⟩) (Ne.symm h12) (.int .i64 x)) 0 (.int .i64 30) rfl
  have FB := (((((((hBl.setCell (p := ⟨B0, 0, none⟩) n0 (.int .i64 0)).setCell (p := ⟨B0, 1, none⟩) n0 (.string ⟨#[]⟩)).setCell (p := ⟨B0, 2, none⟩) n0 (.int .i64 0)).setCell (p := ⟨B0, 3, none⟩) n0 (.int .i64 0)).setCell (p := ⟨B0, 4, none⟩) n0 (.slice none 0 0)).setCell (p := ⟨B1, 0, none⟩) n1 (.int .i64 x)).setCell (p := ⟨B2, 0, none⟩) n2 (.int .i64 30)).drew
  have FF := And.intro F0 (And.intro F1 (And.intro F2 FB))
  refine ⟨rfl, _, rfl, .tuple #[], results_none rfl _ _ _, rfl, rfl, ?_⟩
  rw [heap_drew']
  exact FF
set_option maxRecDepth 100000 in
set_option maxHeartbeats 1000000 in
theorem catch_idle (p0 p1 p2 : Addr) (w : World) :
    CallsD Tryz.prog 24 #[.pointer (some p0), .pointer (some p1), .pointer (some p2)] .returning w fun e u' w' => e = .returned (.tuple #[]) ∧ u' = .returning ∧ w' = w := by
  refine callsD_of_wpS Tryz.func24 rfl fun c₀ cs hu => ?_
  apply wpS_seq
  apply wpS_region
  simp [wpOpsS, go_sem, recoverD, hu, Tryz.ntmps24, Exit.thenS]
  refine wpS_of_wp ?_
  rw [tmpsC]
  go_wp2
  cases c₀
  simp_all [bodyPostS, results, Tryz.results24]
end Go.Proofs.YtajcnjdinmgpjaaGreatDoor.X
/- The walks of the words: what catches a panic. -/
namespace Go.Proofs.YtajcnjdinmgpjaaGreatDoor.X
open Go.RowKit Go.Proofs.YtajcnjdinmgpjaaGreatDoorW.PrintWords Go.Proofs.YtajcnjdinmgpjaaGreatDoorW.PrintLast Go.Proofs.YtajcnjdinmgpjaaGreatDoorW.PrintMore Go.Proofs.YtajcnjdinmgpjaaGreatDoor.P

theorem tmpsL (a b v : Value) : #[a, b] ++ ((Array.replicate 16 undef).setIfInBounds 3 v).setIfInBounds 0 v = #[a, b, v, undef, undef, v, undef, undef, undef, undef, undef, undef, undef, undef, undef, undef, undef, undef] := by kernel_rfl
theorem isWrongL (x : Int) (w : World) : (Instr.typeAssert (.iface 51 (.agg #[.int .i64 x])) 20 51 true).run Tryz.prog w = .ok (.tuple #[.agg #[.int .i64 x], .bool true]) w := by kernel_rfl
set_option maxRecDepth 100000 in
set_option maxHeartbeats 1000000 in
theorem lex_catch (B0 B1 n : Nat) (x : Int) (older : List PanicEntry) (w : World) {v0 u1 : Value} (hB0 : w.heap[B0]? = some (.cells #[v0] 30 (0, 0))) (hB1 : w.heap[B1]? = some (.cells #[u1] 26 (0, 0)))
    (h01 : B0 ≠ B1) (n0 : n ≤ B0) (n1 : n ≤ B1) :
    CallsD Tryz.prog 21 #[.pointer (some ⟨B0, 0, none⟩), .pointer (some ⟨B1, 0, none⟩)] (.panicking ({ v := .iface 51 (.agg #[.int .i64 x]), recovered := false } :: older)) w fun e u' w' =>
      e = .returned (.tuple #[]) ∧ u' = .panicking ({ v := .iface 51 (.agg #[.int .i64 x]), recovered := true } :: older) ∧ w'.heap[B0]? = some (.cells #[.slice none 0 0] 30 (0, 0)) ∧ w'.heap[B1]? = some (.cells #[.int .i64 x] 26 (0, 0)) ∧ Below n w w' := by
  refine callsD_of_wpS Tryz.func21 rfl fun c₀ cs hu => ?_
  apply wpS_seq
  apply wpS_region
  simp [wpOpsS, go_sem, recoverD, hu, Tryz.ntmps21, Exit.thenS]
  refine wpS_of_wp ?_
  rw [tmpsL]
  have hta := isWrongL x
  go_wp2
  have hn := blk_new w (.cells #[.int .i64 x] 51)
  have hn0 : (w.alloc (.cells #[.int .i64 x] 51)).cell? ⟨w.heap.size, 0, none⟩ = some (.int .i64 x) := (open1 hn).1
  have b0 := blk_alloc hB0 (.cells #[.int .i64 x] 51)
  have b1 := blk_alloc hB1 (.cells #[.int .i64 x] 51)
  have lt0 := blk_lt hB0
  have lt1 := blk_lt hB1
  have hBl : Below n w (w.alloc (.cells #[.int .i64 x] 51)) := (below_alloc (Below.refl w.heap.size w) _).mono (by omega)
  obtain ⟨N, hN⟩ : ∃ N, N = w.heap.size := ⟨_, rfl⟩
  rw [← hN] at hn0 lt0 lt1 ⊢
  rw [← hN] at hn
  clear hN
  obtain ⟨W, hW⟩ : ∃ W, W = w.alloc (.cells #[.int .i64 x] 51) := ⟨_, rfl⟩
  rw [← hW] at hn hn0 b0 b1 hBl ⊢
  clear hW hB0 hB1
  have HN5 := Lib.hid (open1 (blk_far hn (p := ⟨B0, 0, none⟩) (by show N ≠ B0; omega) (.slice none 0 0))).1
  have HB := Lib.hid (And.intro b0 b1)
  obtain ⟨c0, cf, cl⟩ := open1 b0
  obtain ⟨d0, df, dl⟩ := open1 b1
  clear b0 b1 hn
  refine start_ (n := 4) (S := fun w' => w'.cell? ⟨N, 0, none⟩ = some (.int .i64 x)) (ds := [3]) #[false, false, false, false] (by kernel_rfl) rfl rfl hn0 (fun hHeld => ?_)
  refine pure_ (i := 0) (N := (some 16)) (v := ?_) (a' := ?_) #[true, false, false, false] rfl rfl (by kernel_rfl) (fun _ _ _ h => h) (Or.inl ⟨by rfl, ?_⟩) ?_ ?_
  rotate_left
  · intro w'
    go_simp
    try with_reducible rfl
  rotate_left
  · simp only [Act.put, List.setIfInBounds_toArray, List.set_cons_zero, List.set_cons_succ]
    try rfl
  refine take_ (i := 1) (N := (some 17)) (v := ?_) (a' := ?_) #[true, true, false, false] rfl rfl (by kernel_rfl) (fun _ _ _ h => h) (Or.inl ⟨by rfl, ?_⟩) hHeld ?_ ?_
  rotate_left
  · rintro w' s0
    go_simp
    try with_reducible rfl
  rotate_left
  · simp only [Act.put, List.setIfInBounds_toArray, List.set_cons_zero, List.set_cons_succ]
    try rfl
  refine one_ (i := 2) (N := none) #[true, true, true, false] rfl rfl (by kernel_rfl) (by decide) (fun K hK => ?_)
  go_simp
  refine hK _ _ (by rw [World.cell?_drew]; exact HN5.out) ?_
  clear hK K
  intro hHeld_1
  refine last_ (i := 3) (N := none) #[true, true, true, true] rfl rfl (by kernel_rfl) (by decide) (fun K hK => ?_)
  go_simp
  refine hK _ _ ?_
  clear hK K
  refine done_ (by kernel_rfl) ?_
  obtain ⟨b0, b1⟩ := HB.out
  clear c0 cf d0 df
  have F0 := blk_far (blk_put b0 0 (.slice none 0 0) rfl) (p := ⟨B1, 0, none⟩) h01 (.int .i64 x)
  have F1 := blk_put (blk_far b1 (p := ⟨B0, 0, none⟩) (Ne.symm h01) (.slice none 0 0)) 0 (.int .i64 x) rfl
  have FB := ((hBl.setCell (p := ⟨B0, 0, none⟩) n0 (.slice none 0 0)).setCell (p := ⟨B1, 0, none⟩) n1 (.int .i64 x)).drew
  have FF := And.intro F0 (And.intro F1 FB)
  refine ⟨rfl, _, rfl, .tuple #[], results_none rfl _ _ _, rfl, rfl, ?_⟩
  rw [heap_drew']
  exact FF
set_option maxRecDepth 100000 in
set_option maxHeartbeats 1000000 in
theorem lex_idle (p0 p1 : Addr) (w : World) :
    CallsD Tryz.prog 21 #[.pointer (some p0), .pointer (some p1)] .returning w fun e u' w' => e = .returned (.tuple #[]) ∧ u' = .returning ∧ w' = w := by
  refine callsD_of_wpS Tryz.func21 rfl fun c₀ cs hu => ?_
  apply wpS_seq
  apply wpS_region
  simp [wpOpsS, go_sem, recoverD, hu, Tryz.ntmps21, Exit.thenS]
  refine wpS_of_wp ?_
  rw [tmpsL]
  go_wp2
  cases c₀
  simp_all [bodyPostS, results, Tryz.results21]
end Go.Proofs.YtajcnjdinmgpjaaGreatDoor.X
/- Rows that are only read, out of blocks; trees of the reader's own. -/
namespace Go.Proofs.YtajcnjdinmgpjaaGreatDoor.X
open Go.RowKit Go.Proofs.YtajcnjdinmgpjaaGreatDoorW.PrintWords Go.Proofs.YtajcnjdinmgpjaaGreatDoorW.PrintLast Go.Proofs.YtajcnjdinmgpjaaGreatDoorW.PrintMore Go.Proofs.YtajcnjdinmgpjaaGreatDoor.P

/-- Elements whose cells lie one behind the other in one block. -/
theorem F_block {α : Type} {d : Kd α} {W : World} {ok : Nat → Prop} {b t : Nat} {xs : List α} {cs : List Value} (hb : W.heap[b]? = some (.cells cs.toArray t (0, 0))) (hok : ok b) (hbd : xs.length ≤ 9223372036854775807)
    (hR : Reps (fun x c => Kd.FK d W ok x c) d.sz xs cs) : Kd.F d W ok (some ⟨b, 0, none⟩) xs.length xs := by
  intro W' hW
  have hb' : W'.heap[b]? = some (.cells cs.toArray t (0, 0)) := (hW b hok (blk_lt hb)).trans hb
  refine ⟨rfl, hbd, fun _ => ⟨_, rfl, fun j p hj => ⟨(cs.drop (j * d.sz)).take d.sz, ?_, (hR.2 j p hj) W' hW, fun i u hu => ?_⟩⟩⟩
  · have hjl := (List.getElem?_eq_some_iff.1 hj).1
    have h1 : j * d.sz + d.sz ≤ cs.length := by rw [hR.1, ← Nat.succ_mul]; exact Nat.mul_le_mul_right _ hjl
    rw [List.length_take, List.length_drop]
    omega
  · rw [add_plain, blk_cell hb' (j * d.sz + i)]
    rw [List.getElem?_take] at hu
    split at hu
    · rw [List.getElem?_drop] at hu
      simpa using hu
    · cases hu

/-- a tree's cells -/
def cellsT (t : Tree) (A : Option Addr) (c : Nat) : List Value := [.int .i64 t.f0, .string t.f1, .int .i64 t.f2, .int .i64 t.f3, .slice A t.f4.length c]
/-- a tree that is read: where its parts lie -/
def TAt (w : World) (ok : Nat → Prop) (t : Tree) (A : Option Addr) (c : Nat) : Prop := t.f4.length ≤ c ∧ Kd.F k25 w ok A t.f4.length t.f4 ∧ (t.f4 = [] → A = none ∧ c = 0)
theorem TAt.FK {w : World} {ok : Nat → Prop} {t : Tree} {A : Option Addr} {c : Nat} (h : TAt w ok t A c) : Kd.FK k25 w ok t (cellsT t A c) := fun W' hW => k25_mk W' t h.1 (h.2.1 W' hW)
theorem TAt.step {w w1 : World} {ok : Nat → Prop} {t : Tree} {A : Option Addr} {c : Nat} (h : TAt w ok t A c) (hm : ∀ k, ok k → k < w.heap.size → w1.heap[k]? = w.heap[k]?) : TAt w1 ok t A c := ⟨h.1, Kd.F_step h.2.1 hm, h.2.2⟩
theorem TAt.below {w w1 : World} {ok : Nat → Prop} {t : Tree} {A : Option Addr} {c : Nat} (h : TAt w ok t A c) (hb : Below w.heap.size w w1) : TAt w1 ok t A c := h.step (fun k _ hk => hb.block k hk)
theorem TAt.keep {w w1 : World} {ok : Nat → Prop} {t : Tree} {A : Option Addr} {c g : Nat} (h : TAt w ok t A c) (hk : Kp w w1 g none) (hok : ∀ k, ok k → k ≠ g) : TAt w1 ok t A c := h.step (fun k ho hlt => hk.2 k hlt (hok k ho) (by simp))
theorem TAt.far {w : World} {ok : Nat → Prop} {t : Tree} {A : Option Addr} {c b j : Nat} {v : Value} (h : TAt w ok t A c) (hok : ∀ k, ok k → k ≠ b) : TAt (w.setCell ⟨b, j, none⟩ v) ok t A c := h.step (fun k ho _ => Below.heap_setCell w _ _ k (hok k ho))
theorem TAt.nil (w : World) (ok : Nat → Prop) (a : Int) (b : ByteArray) (c d : Int) : TAt w ok ⟨a, b, c, d, []⟩ none 0 := ⟨Nat.le_refl _, Kd.F_nil _ _ _, fun _ => ⟨rfl, rfl⟩⟩
theorem TAt.mono {w : World} {ok ok' : Nat → Prop} {t : Tree} {A : Option Addr} {c : Nat} (h : TAt w ok t A c) (hok : ∀ k, ok k → ok' k) : TAt w ok' t A c := ⟨h.1, Kd.F_mono h.2.1 hok, h.2.2⟩
/-- of the parts of a tree: what has these parts -/
theorem TAt.with {w : World} {ok : Nat → Prop} {l : List Tree} {A : Option Addr} {c : Nat} (a : Int) (b : ByteArray) (n d : Int) (hl : l.length ≤ c) (hF : Kd.F k25 w ok A l.length l) (hne : l ≠ []) : TAt w ok ⟨a, b, n, d, l⟩ A c := ⟨hl, hF, fun h => absurd h hne⟩

theorem reps1 {α : Type} {R : α → List Value → Prop} {sz : Nat} {x : α} {c : List Value} (h : R x c) (hc : c.length = sz) : Reps R sz [x] c := by
  have := (Reps.none R sz).snoc h hc
  simpa using this
theorem reps2 {α : Type} {R : α → List Value → Prop} {sz : Nat} {x y : α} {c e : List Value} (h : R x c) (hc : c.length = sz) (k : R y e) (he : e.length = sz) : Reps R sz [x, y] (c ++ e) := by
  have := (reps1 h hc).snoc k he
  simpa using this
theorem F_two {W : World} {ok : Nat → Prop} {b t : Nat} {x y : Tree} {A A' : Option Addr} {c c' : Nat} (hb : W.heap[b]? = some (.cells (cellsT x A c ++ cellsT y A' c').toArray t (0, 0))) (hok : ok b) (hx : TAt W ok x A c) (hy : TAt W ok y A' c') : Kd.F k25 W ok (some ⟨b, 0, none⟩) 2 [x, y] :=
  F_block (xs := [x, y]) hb hok (by simp) (reps2 hx.FK rfl hy.FK rfl)

/-- blocks that were laid meanwhile -/
def Iv (a b : Nat) : Nat → Prop := fun k => a ≤ k ∧ k < b
def treeV (t : Tree) (A : Option Addr) (c : Nat) : Value := .agg #[.int .i64 t.f0, .string t.f1, .int .i64 t.f2, .int .i64 t.f3, .slice A t.f4.length c]
/-- What a function of the reader comes to. -/
def PRel (w0 w : World) (g : Nat) (en : Int) (R : PR) (e : Ending) (w' : World) : Prop :=
  match R with
  | .ok t l => ∃ A c, e = .returned (treeV t A c) ∧ TAt w' (Iv w.heap.size w'.heap.size) t A c ∧ Rdr w0 w' g l en ∧ Kp w w' g none
  | .fail l => e = wrongP (hd l en).f3 ∧ Kp w w' g none
/-- blocks that were laid meanwhile, but for one -/
def Ex (a b x : Nat) : Nat → Prop := fun k => a ≤ k ∧ k < b ∧ k ≠ x
/-- The same, of a tree that holds parts that were laid from lo on, but not x. -/
def PRelL (lo x : Nat) (w0 w : World) (g : Nat) (en : Int) (R : PR) (e : Ending) (w' : World) : Prop :=
  match R with
  | .ok t l => ∃ A c, e = .returned (treeV t A c) ∧ TAt w' (Ex lo w'.heap.size x) t A c ∧ Rdr w0 w' g l en ∧ Kp w w' g none
  | .fail l => e = wrongP (hd l en).f3 ∧ Kp w w' g none
/-- A function of the reader that reads as R does, from at most n tokens. -/
def CP (f : FuncId) (R : List Tok → PR) (n : Nat) : Prop :=
  ∀ (w0 w : World) (g : Nat) (en : Int) (l : List Tok), l.length < n → Rdr w0 w g l en → Calls Tryz.prog f #[.pointer (some ⟨g, 0, none⟩)] w (PRel w0 w g en (R l))
theorem TAt.iv {w : World} {a b a' b' : Nat} {t : Tree} {A : Option Addr} {c : Nat} (h : TAt w (Iv a b) t A c) (ha : a' ≤ a) (hb : b ≤ b') : TAt w (Iv a' b') t A c := h.mono (fun k hk => ⟨Nat.le_trans ha hk.1, Nat.lt_of_lt_of_le hk.2 hb⟩)
theorem TAt.keepI {w w1 : World} {a b g : Nat} {t : Tree} {A : Option Addr} {c : Nat} (h : TAt w (Iv a b) t A c) (hk : Kp w w1 g none) (hg : g < a) : TAt w1 (Iv a b) t A c := h.keep hk (fun k ho e => by have := ho.1; omega)
theorem TAt.farI {w : World} {a b R j : Nat} {v : Value} {t : Tree} {A : Option Addr} {c : Nat} (h : TAt w (Iv a b) t A c) (hR : R < a ∨ b ≤ R) : TAt (w.setCell ⟨R, j, none⟩ v) (Iv a b) t A c := h.far (fun k ho e => by have := ho.1; have := ho.2; omega)
theorem TAt.farI5 {w : World} {a b R : Nat} {v0 v1 v2 v3 v4 : Value} {t : Tree} {A : Option Addr} {c : Nat} (h : TAt w (Iv a b) t A c) (hR : R < a ∨ b ≤ R) : TAt (((((w.setCell ⟨R, 0, none⟩ v0).setCell ⟨R, 1, none⟩ v1).setCell ⟨R, 2, none⟩ v2).setCell ⟨R, 3, none⟩ v3).setCell ⟨R, 4, none⟩ v4) (Iv a b) t A c := ((((h.farI hR).farI hR).farI hR).farI hR).farI hR
theorem TAt.farK {w : World} {ok : Nat → Prop} {R j : Nat} {v : Value} {t : Tree} {A : Option Addr} {c : Nat} (h : TAt w ok t A c) (hR : ¬ ok R) : TAt (w.setCell ⟨R, j, none⟩ v) ok t A c := h.far (fun k ho e => hR (e ▸ ho))
theorem TAt.far5 {w : World} {ok : Nat → Prop} {R : Nat} {v0 v1 v2 v3 v4 : Value} {t : Tree} {A : Option Addr} {c : Nat} (h : TAt w ok t A c) (hR : ¬ ok R) : TAt (((((w.setCell ⟨R, 0, none⟩ v0).setCell ⟨R, 1, none⟩ v1).setCell ⟨R, 2, none⟩ v2).setCell ⟨R, 3, none⟩ v3).setCell ⟨R, 4, none⟩ v4) ok t A c := ((((h.farK hR).farK hR).farK hR).farK hR).farK hR
/-- The end of a function of the reader: five cells are stored into the result's block R, the parts lie in a block that was laid last. -/
theorem close_raw {w0 w w4 : World} {g R : Nat} {en : Int} {l' : List Tok} {ps : List Tree} {cs : List Value} {v0 v1 v2 v3 v4 : Value} (a : Int) (b : ByteArray) (n d : Int) (N : Nat) (hN : w4.heap.size = N) (ok : Nat → Prop) (hps : ps ≠ []) (hbd : ps.length ≤ 9223372036854775807) (hI4 : Rdr w0 w4 g l' en) (hKK : Kp w w4 g none)
    (hb4 : w4.heap[R]? = some (.cells #[v0, v1, v2, v3, v4] 25 (0, 0))) (hwR : w.heap.size ≤ R) (hw : w0.heap.size ≤ w.heap.size) (hgw : g < w.heap.size) (hokN : ok N)
    (hR : Reps (fun x c => Kd.FK k25 ((((((w4.setCell ⟨R, 0, none⟩ (.int .i64 a)).setCell ⟨R, 1, none⟩ (.string b)).setCell ⟨R, 2, none⟩ (.int .i64 n)).setCell ⟨R, 3, none⟩ (.int .i64 d)).setCell ⟨R, 4, none⟩ (.slice (some ⟨N, 0, none⟩) ps.length ps.length)).alloc (.cells cs.toArray 25)) ok x c) 5 ps cs) :
    let W := ((((((w4.setCell ⟨R, 0, none⟩ (.int .i64 a)).setCell ⟨R, 1, none⟩ (.string b)).setCell ⟨R, 2, none⟩ (.int .i64 n)).setCell ⟨R, 3, none⟩ (.int .i64 d)).setCell ⟨R, 4, none⟩ (.slice (some ⟨N, 0, none⟩) ps.length ps.length)).alloc (.cells cs.toArray 25))
    W.heap[R]? = some (.cells #[.int .i64 a, .string b, .int .i64 n, .int .i64 d, .slice (some ⟨N, 0, none⟩) ps.length ps.length] 25 (0, 0)) ∧
      TAt W ok ⟨a, b, n, d, ps⟩ (some ⟨N, 0, none⟩) ps.length ∧ W.heap.size = N + 1 ∧ Rdr w0 W g l' en ∧ Kp w W g none := by
  intro W
  subst hN
  have hlt := blk_lt hb4
  have hne : g ≠ R := by omega
  have hs : ((((((w4.setCell ⟨R, 0, none⟩ (.int .i64 a)).setCell ⟨R, 1, none⟩ (.string b)).setCell ⟨R, 2, none⟩ (.int .i64 n)).setCell ⟨R, 3, none⟩ (.int .i64 d)).setCell ⟨R, 4, none⟩ (.slice (some ⟨w4.heap.size, 0, none⟩) ps.length ps.length))).heap.size = w4.heap.size := by simp
  have hWs : W.heap.size = w4.heap.size + 1 := by simp [W]
  have hnew : W.heap[w4.heap.size]? = some (.cells cs.toArray 25 (0, 0)) := by
    have h := blk_new ((((((w4.setCell ⟨R, 0, none⟩ (.int .i64 a)).setCell ⟨R, 1, none⟩ (.string b)).setCell ⟨R, 2, none⟩ (.int .i64 n)).setCell ⟨R, 3, none⟩ (.int .i64 d)).setCell ⟨R, 4, none⟩ (.slice (some ⟨w4.heap.size, 0, none⟩) ps.length ps.length))) (.cells cs.toArray 25)
    rw [hs] at h
    exact h
  refine ⟨blk_alloc (set5 hb4) _, ?_, hWs, ?_, ?_⟩
  · exact TAt.with (l := ps) a b n d (Nat.le_refl _) (F_block hnew hokN hbd hR) hps
  · exact (((((hI4.far hne (by omega) 0 _).far hne (by omega) 1 _).far hne (by omega) 2 _).far hne (by omega) 3 _).far hne (by omega) 4 _).alloc _
  · exact kpAlloc (kpFar (kpFar (kpFar (kpFar (kpFar hKK hwR _) hwR _) hwR _) hwR _) hwR _) _

theorem close_ok {w0 w w4 : World} {g R : Nat} {en : Int} {l' : List Tok} {ps : List Tree} {cs : List Value} {v0 v1 v2 v3 v4 : Value} (a : Int) (b : ByteArray) (n d : Int) (N : Nat) (hN : w4.heap.size = N) (ok : Nat → Prop) (hps : ps ≠ []) (hbd : ps.length ≤ 9223372036854775807) (hI4 : Rdr w0 w4 g l' en) (hKK : Kp w w4 g none)
    (hb4 : w4.heap[R]? = some (.cells #[v0, v1, v2, v3, v4] 25 (0, 0))) (hwR : w.heap.size ≤ R) (hw : w0.heap.size ≤ w.heap.size) (hgw : g < w.heap.size) (hokN : ok N)
    (hR : Reps (fun x c => Kd.FK k25 ((((((w4.setCell ⟨R, 0, none⟩ (.int .i64 a)).setCell ⟨R, 1, none⟩ (.string b)).setCell ⟨R, 2, none⟩ (.int .i64 n)).setCell ⟨R, 3, none⟩ (.int .i64 d)).setCell ⟨R, 4, none⟩ (.slice (some ⟨N, 0, none⟩) ps.length ps.length)).alloc (.cells cs.toArray 25)) ok x c) 5 ps cs) :
    let W := ((((((w4.setCell ⟨R, 0, none⟩ (.int .i64 a)).setCell ⟨R, 1, none⟩ (.string b)).setCell ⟨R, 2, none⟩ (.int .i64 n)).setCell ⟨R, 3, none⟩ (.int .i64 d)).setCell ⟨R, 4, none⟩ (.slice (some ⟨N, 0, none⟩) ps.length ps.length)).alloc (.cells cs.toArray 25))
    W.heap[R]? = some (.cells #[.int .i64 a, .string b, .int .i64 n, .int .i64 d, .slice (some ⟨N, 0, none⟩) ps.length ps.length] 25 (0, 0)) ∧
      ∃ A' c', (.returned (.agg #[.int .i64 a, .string b, .int .i64 n, .int .i64 d, .slice (some ⟨N, 0, none⟩) ps.length ps.length]) : Ending) = .returned (treeV ⟨a, b, n, d, ps⟩ A' c') ∧ TAt W ok ⟨a, b, n, d, ps⟩ A' c' ∧ Rdr w0 W g l' en ∧ Kp w W g none := by
  obtain ⟨h1, h2, _, h3, h4⟩ := close_raw a b n d N hN ok hps hbd hI4 hKK hb4 hwR hw hgw hokN hR
  exact ⟨h1, _, _, rfl, h2, h3, h4⟩
theorem close_parts {w0 w w4 : World} {g R : Nat} {en : Int} {l' : List Tok} {ps : List Tree} {cs : List Value} {v0 v1 v2 v3 v4 : Value} (a : Int) (b : ByteArray) (n d : Int) (N : Nat) (hN : w4.heap.size = N) (hps : ps ≠ []) (hbd : ps.length ≤ 9223372036854775807) (hI4 : Rdr w0 w4 g l' en) (hKK : Kp w w4 g none)
    (hb4 : w4.heap[R]? = some (.cells #[v0, v1, v2, v3, v4] 25 (0, 0))) (hwR : w.heap.size ≤ R) (hw : w0.heap.size ≤ w.heap.size) (hgw : g < w.heap.size)
    (hR : Reps (fun x c => Kd.FK k25 ((((((w4.setCell ⟨R, 0, none⟩ (.int .i64 a)).setCell ⟨R, 1, none⟩ (.string b)).setCell ⟨R, 2, none⟩ (.int .i64 n)).setCell ⟨R, 3, none⟩ (.int .i64 d)).setCell ⟨R, 4, none⟩ (.slice (some ⟨N, 0, none⟩) ps.length ps.length)).alloc (.cells cs.toArray 25)) (Iv w.heap.size (N + 1)) x c) 5 ps cs) :
    let W := ((((((w4.setCell ⟨R, 0, none⟩ (.int .i64 a)).setCell ⟨R, 1, none⟩ (.string b)).setCell ⟨R, 2, none⟩ (.int .i64 n)).setCell ⟨R, 3, none⟩ (.int .i64 d)).setCell ⟨R, 4, none⟩ (.slice (some ⟨N, 0, none⟩) ps.length ps.length)).alloc (.cells cs.toArray 25))
    W.heap[R]? = some (.cells #[.int .i64 a, .string b, .int .i64 n, .int .i64 d, .slice (some ⟨N, 0, none⟩) ps.length ps.length] 25 (0, 0)) ∧
      PRel w0 w g en (.ok ⟨a, b, n, d, ps⟩ l') (.returned (.agg #[.int .i64 a, .string b, .int .i64 n, .int .i64 d, .slice (some ⟨N, 0, none⟩) ps.length ps.length])) W := by
  intro W
  have hs : W.heap.size = N + 1 := by simp [W, hN]
  have h := close_ok a b n d N hN (Iv w.heap.size (N + 1)) hps hbd hI4 hKK hb4 hwR hw hgw ⟨by have := hKK.1; omega, by omega⟩ hR
  have e : Iv w.heap.size (N + 1) = Iv w.heap.size W.heap.size := by rw [hs]
  rw [e] at h
  exact h
/-- A tree that lies in another block is stored into the result's. -/
theorem close_copy {w0 w w2 : World} {g R : Nat} {en : Int} {l : List Tok} {t : Tree} {A : Option Addr} {c : Nat} {ok : Nat → Prop} {v0 v1 v2 v3 v4 : Value} (hT : TAt w2 ok t A c) (hI : Rdr w0 w2 g l en) (hK : Kp w w2 g none)
    (hb : w2.heap[R]? = some (.cells #[v0, v1, v2, v3, v4] 25 (0, 0))) (hwR : w.heap.size ≤ R) (hw : w0.heap.size ≤ w.heap.size) (hgw : g < w.heap.size) (h1 : ∀ k, ok k → w.heap.size ≤ k) (h2 : ∀ k, ok k → k < w2.heap.size) (h3 : ¬ ok R) :
    let W := (((((w2.setCell ⟨R, 0, none⟩ (.int .i64 t.f0)).setCell ⟨R, 1, none⟩ (.string t.f1)).setCell ⟨R, 2, none⟩ (.int .i64 t.f2)).setCell ⟨R, 3, none⟩ (.int .i64 t.f3)).setCell ⟨R, 4, none⟩ (.slice A t.f4.length c))
    W.heap[R]? = some (.cells #[.int .i64 t.f0, .string t.f1, .int .i64 t.f2, .int .i64 t.f3, .slice A t.f4.length c] 25 (0, 0)) ∧ PRel w0 w g en (.ok t l) (.returned (.agg #[.int .i64 t.f0, .string t.f1, .int .i64 t.f2, .int .i64 t.f3, .slice A t.f4.length c])) W := by
  intro W
  have hs : W.heap.size = w2.heap.size := by simp [W]
  have hne : g ≠ R := by omega
  refine ⟨set5 hb, A, c, rfl, ?_, ((((hI.far hne (by omega) 0 _).far hne (by omega) 1 _).far hne (by omega) 2 _).far hne (by omega) 3 _).far hne (by omega) 4 _, kpFar (kpFar (kpFar (kpFar (kpFar hK hwR _) hwR _) hwR _) hwR _) hwR _⟩
  rw [hs]
  exact (hT.far5 h3).mono (fun k h => ⟨h1 k h, h2 k h⟩)
end Go.Proofs.YtajcnjdinmgpjaaGreatDoor.X
/- The walks of the reader: lambda, let. -/
namespace Go.Proofs.YtajcnjdinmgpjaaGreatDoor.X
open Go.RowKit Go.Proofs.YtajcnjdinmgpjaaGreatDoorW.PrintWords Go.Proofs.YtajcnjdinmgpjaaGreatDoorW.PrintLast Go.Proofs.YtajcnjdinmgpjaaGreatDoorW.PrintMore Go.Proofs.YtajcnjdinmgpjaaGreatDoor.P
attribute [local go_sem] fldTok0 fldTok1 fldTok3

theorem hd_en {l : List Tok} (en : Int) (h : 0 < l.length) : hd l en = hd l 0 := by cases l <;> simp_all [hd]
theorem k0 (w : World) (g : Nat) (o : Obj) : Kp w (w.alloc o) g none := kpAlloc (Kp.refl w g none) _
set_option maxRecDepth 100000 in
set_option maxHeartbeats 1000000 in
theorem lambda_calls (m n : Nat) (hex : CP 25 (pExpr m) n) : CP 44 (pLam (pExpr m)) (n + 1) := by
  intro w0 w g en l hl hI
  obtain ⟨hgw, hw⟩ := hI.lt
  unfold pLam
  by_cases h1 : isW l ⟨#[92]⟩ = true
  case neg =>
    rw [word_neg h1]
    go_enter Tryz.func44, Tryz.ntmps44
    go_wp2_with fail
    refine (word_no g l en _ w0 _ (hI.alloc _) (by simpa using h1)).mono ?_
    rintro e w1 ⟨rfl, hK1⟩
    unfold wrongP
    go_wp2
    exact ⟨rfl, rfl, keep1 (k0 w g _) hK1⟩
  rw [word_pos h1]
  have t1 := isW_tail h1
  have e1 := hd_en en (show 0 < l.length by omega)
  have H1 := Lib.hid h1
  clear h1
  by_cases h2 : kd l.tail = 1
  case neg =>
    rw [kindP_neg h2]
    go_enter Tryz.func44, Tryz.ntmps44
    go_wp2_with fail
    refine (word_yes g l en _ w0 _ (hI.alloc _) H1.out).mono ?_
    rintro e w1 ⟨rfl, hI1, hK1⟩
    unfold tokV
    go_wp2_with fail
    refine (kind_no g l.tail en 1 w0 _ hI1 (by rw [hd_kd]; exact h2)).mono ?_
    rintro e w2 ⟨rfl, hK2⟩
    unfold wrongP
    go_wp2
    exact ⟨rfl, rfl, keep1 (keep1 (k0 w g _) hK1) hK2⟩
  rw [kindP_pos h2]
  have t2 := kd_tail h2 (by omega)
  have e2 := hd_en en (show 0 < l.tail.length by omega)
  have H2 := Lib.hid h2
  clear h2
  by_cases h3 : isW l.tail.tail ⟨#[46]⟩ = true
  case neg =>
    rw [word_neg h3]
    go_enter Tryz.func44, Tryz.ntmps44
    go_wp2_with fail
    refine (word_yes g l en _ w0 _ (hI.alloc _) H1.out).mono ?_
    rintro e w1 ⟨rfl, hI1, hK1⟩
    unfold tokV
    go_wp2_with fail
    refine (kind_yes g l.tail en 1 w0 _ hI1 (by rw [hd_kd]; exact H2.out)).mono ?_
    rintro e w2 ⟨rfl, hI2, hK2⟩
    unfold tokV
    go_wp2_with fail
    refine (word_no g l.tail.tail en _ w0 _ hI2 (by simpa using h3)).mono ?_
    rintro e w3 ⟨rfl, hK3⟩
    unfold wrongP
    go_wp2
    exact ⟨rfl, rfl, keep1 (keep1 (keep1 (k0 w g _) hK1) hK2) hK3⟩
  rw [word_pos h3]
  have t3 := isW_tail h3
  have H3 := Lib.hid h3
  rw [← e1, ← e2]
  clear h3 e1 e2
  cases hR : pExpr m l.tail.tail.tail with
  | fail l' =>
    have HR := Lib.hid hR
    clear hR
    rw [PR.bind_fail]
    go_enter Tryz.func44, Tryz.ntmps44
    go_wp2_with fail
    refine (word_yes g l en _ w0 _ (hI.alloc _) H1.out).mono ?_
    rintro e w1 ⟨rfl, hI1, hK1⟩
    unfold tokV
    go_wp2_with fail
    refine (kind_yes g l.tail en 1 w0 _ hI1 (by rw [hd_kd]; exact H2.out)).mono ?_
    rintro e w2 ⟨rfl, hI2, hK2⟩
    unfold tokV
    go_wp2_with fail
    refine (word_yes g l.tail.tail en _ w0 _ hI2 H3.out).mono ?_
    rintro e w3 ⟨rfl, hI3, hK3⟩
    unfold tokV
    go_wp2_with fail
    refine (hex w0 w3 g en l.tail.tail.tail (by omega) hI3).mono ?_
    intro e w4 h4
    rw [HR.out] at h4
    obtain ⟨rfl, hK4⟩ := h4
    unfold wrongP
    go_wp2
    exact ⟨rfl, rfl, keep1 (keep1 (keep1 (keep1 (k0 w g _) hK1) hK2) hK3) hK4⟩
  | ok t l' =>
    have HR := Lib.hid hR
    clear hR
    rw [PR.bind_ok]
    go_enter Tryz.func44, Tryz.ntmps44
    go_wp2_with fail
    refine (word_yes g l en _ w0 _ (hI.alloc _) H1.out).mono ?_
    rintro e w1 ⟨rfl, hI1, hK1⟩
    have hb1 := keepNew hK1 hgw
    unfold tokV
    go_wp2_with fail
    refine (kind_yes g l.tail en 1 w0 _ hI1 (by rw [hd_kd]; exact H2.out)).mono ?_
    rintro e w2 ⟨rfl, hI2, hK2⟩
    have hb2 := hK2.blk hb1 (by omega) (by simp)
    unfold tokV
    go_wp2_with fail
    refine (word_yes g l.tail.tail en _ w0 _ hI2 H3.out).mono ?_
    rintro e w3 ⟨rfl, hI3, hK3⟩
    have hb3 := hK3.blk hb2 (by omega) (by simp)
    unfold tokV
    go_wp2_with fail
    refine (hex w0 w3 g en l.tail.tail.tail (by omega) hI3).mono ?_
    intro e w4 h4
    rw [HR.out] at h4
    obtain ⟨A, c, rfl, hT, hI4, hK4⟩ := h4
    have hKK := keep1 (keep1 (keep1 (keep1 (k0 w g _) hK1) hK2) hK3) hK4
    have hKw : w.heap.size < w3.heap.size := blk_lt hb3
    have hb4 := hK4.blk hb3 (by omega) (by simp)
    clear hb3 hb2 hb1
    unfold treeV
    obtain ⟨r0, r1, r2, r3, r4, rf, rl⟩ := open5 hb4
    go_wp2
    have hg4 := hK4.1
    obtain ⟨hbW, hP⟩ := close_parts (w := w) (ps := [t]) (cs := cellsT t A c) 2 (hd l.tail en).f1 0 (hd l en).f3 w4.heap.size rfl (by simp) (by simp) hI4 hKK hb4 (Nat.le_refl _) hw hgw
      (reps1 (((hT.farI5 (.inl hKw)).below (below_alloc (Below.refl _ _) _)).iv (Nat.le_of_lt hKw) (Nat.le_succ _)).FK rfl)
    exact bodyPost_ret (results_cell_row rfl _ _ w.heap.size 25 _ (0, 0) _ rfl hbW Tryz.underlying25 rfl (by kernel_rfl)) rfl hP
end Go.Proofs.YtajcnjdinmgpjaaGreatDoor.X
/- The walks of the reader: let. -/
namespace Go.Proofs.YtajcnjdinmgpjaaGreatDoor.X
open Go.RowKit Go.Proofs.YtajcnjdinmgpjaaGreatDoorW.PrintWords Go.Proofs.YtajcnjdinmgpjaaGreatDoorW.PrintLast Go.Proofs.YtajcnjdinmgpjaaGreatDoorW.PrintMore Go.Proofs.YtajcnjdinmgpjaaGreatDoor.P
attribute [local go_sem] fldTok0 fldTok1 fldTok3

theorem word_any (g : Nat) (l : List Tok) (en : Int) (s : ByteArray) (w0 w : World) (hI : Rdr w0 w g l en) :
    Calls Tryz.prog 62 #[.pointer (some ⟨g, 0, none⟩), .string s] w fun e w' => (isW l s = true ∧ e = .returned (tokV (hd l en)) ∧ Rdr w0 w' g l.tail en ∧ Kp w w' g none) ∨ (¬ isW l s = true ∧ e = wrongP (hd l en).f3 ∧ Kp w w' g none) := by
  by_cases h : isW l s = true
  · exact (word_yes g l en s w0 w hI h).mono fun _ _ k => .inl ⟨h, k⟩
  · exact (word_no g l en s w0 w hI (by simpa using h)).mono fun _ _ k => .inr ⟨h, k⟩
theorem kind_any (g : Nat) (l : List Tok) (en : Int) (k : Int) (w0 w : World) (hI : Rdr w0 w g l en) :
    Calls Tryz.prog 63 #[.pointer (some ⟨g, 0, none⟩), .int .i64 k] w fun e w' => (kd l = k ∧ e = .returned (tokV (hd l en)) ∧ Rdr w0 w' g l.tail en ∧ Kp w w' g none) ∨ (¬ kd l = k ∧ e = wrongP (hd l en).f3 ∧ Kp w w' g none) := by
  by_cases h : kd l = k
  · exact (kind_yes g l en k w0 w hI ((hd_kd l en).trans h)).mono fun _ _ k => .inl ⟨h, k⟩
  · exact (kind_no g l en k w0 w hI (by rw [hd_kd]; exact h)).mono fun _ _ k => .inr ⟨h, k⟩
/-- What a function of the reader comes to, by its two ways. -/
theorem PRel.any {w0 w w' : World} {g : Nat} {en : Int} {R : PR} {e : Ending} (h : PRel w0 w g en R e w') :
    (∃ t l A c, R = .ok t l ∧ e = .returned (treeV t A c) ∧ TAt w' (Iv w.heap.size w'.heap.size) t A c ∧ Rdr w0 w' g l en ∧ Kp w w' g none) ∨ (∃ l, R = .fail l ∧ e = wrongP (hd l en).f3 ∧ Kp w w' g none) := by
  cases R with
  | ok t l => obtain ⟨A, c, h⟩ := h; exact .inl ⟨t, l, A, c, rfl, h⟩
  | fail l => exact .inr ⟨l, rfl, h⟩
theorem PRel.fail {w0 w w' : World} {g : Nat} {en : Int} {R : PR} {l : List Tok} (e : R = .fail l) (h : Kp w w' g none) : PRel w0 w g en R (.panicked [{ v := .iface 56 (.agg #[.int .i64 (hd l en).f3]), recovered := false }]) w' := by
  rw [e]; exact ⟨rfl, h⟩

theorem keepD {w w1 : World} {g b : Nat} {o : Obj} (hK : Kp w.drew w1 g none) (h : w.heap[b]? = some o) (hne : g < b) : w1.heap[b]? = some o := hK.blk (w := w.drew) h (by omega) (by simp)

set_option maxRecDepth 100000 in
set_option maxHeartbeats 2000000 in
theorem let_calls (m n : Nat) (hex : CP 25 (pExpr m) n) (k : Int) (w0 w : World) (g : Nat) (en : Int) (l : List Tok) (hl : l.length < n + 1) (hne : l ≠ []) (hI : Rdr w0 w g l en) :
    Calls Tryz.prog 45 #[.pointer (some ⟨g, 0, none⟩), .int .i64 k] w (PRel w0 w g en (pLet (pExpr m) k l)) := by
  obtain ⟨hgw, hw⟩ := hI.lt
  have e1 : hd l en = hd l 0 := by cases l <;> simp_all [hd]
  have t1 : l.tail.length < l.length := by cases l <;> simp_all
  have E1 := Lib.hid e1
  clear e1 hne
  go_enter Tryz.func45, Tryz.ntmps45
  go_wp2_with fail
  refine (take_calls g l en w0 _ (hI.alloc _)).mono ?_
  rintro e w1 ⟨rfl, hI1, hK1⟩
  have hb1 := keepNew hK1 hgw
  unfold tokV
  go_wp2_with fail
  refine (kind_any g l.tail en 1 w0 _ hI1).mono ?_
  rintro e w2 (⟨h2, rfl, hI2, hK2⟩ | ⟨h2, rfl, hK2⟩)
  case inr =>
    have H2 := Lib.hid h2
    clear h2
    unfold wrongP
    go_wp2
    exact ⟨rfl, .fail (kindP_neg H2.out) (keep1 (keep1 (k0 w g _) hK1) hK2)⟩
  have t2 := kd_tail h2 (by omega)
  have e2 : hd l.tail en = hd l.tail 0 := hd_en en (by omega)
  have E2 := Lib.hid e2
  have H2 := Lib.hid h2
  clear e2 h2
  have hb2 := hK2.blk hb1 (by omega) (by simp)
  have hKK2 := keep1 (keep1 (k0 w g _) hK1) hK2
  have lw2 := blk_lt hb2
  have hgl := hw
  clear hb1
  unfold tokV
  go_wp2_with fail
  refine (word_any g l.tail.tail en _ w0 _ (hI2.alloc _)).mono ?_
  rintro e w3 (⟨h3, rfl, hI3, hK3⟩ | ⟨h3, rfl, hK3⟩)
  case inr =>
    have H3 := Lib.hid h3
    clear h3
    unfold wrongP
    go_wp2
    exact ⟨rfl, .fail (by rw [pLet, kindP_pos H2.out, word_neg H3.out]) (keep1 (kpAlloc hKK2 _) hK3)⟩
  have t3 := isW_tail h3
  have H3 := Lib.hid h3
  have hg2 := hK2.1
  have hg3 := hK3.1
  simp at hg3
  have hKK3 := keep1 (kpAlloc hKK2 _) hK3
  have hb3 := hK3.blk (blk_alloc hb2 _) (by omega) (by simp)
  have q2 := hI2.lt.1
  have hT3 := keepNew hK3 q2
  clear h3 hb2
  unfold tokV
  go_wp2_with fail
  refine (hex w0 w3 g en _ (by omega) hI3).mono ?_
  intro e w4 h4
  rcases h4.any with ⟨ta, l4, A, c, hR, rfl, hA, hI4, hK4⟩ | ⟨l4, hR, rfl, hK4⟩
  case inr =>
    have HR := Lib.hid hR
    clear hR h4
    unfold wrongP
    go_wp2
    exact ⟨rfl, .fail (by rw [pLet, kindP_pos H2.out, word_pos H3.out, HR.out, PR.bind_fail]) (keep1 hKK3 hK4)⟩
  have hs4 := sh_expr m _ _ _ hR
  have HR := Lib.hid hR
  have hg4 := hK4.1
  have q4 := hI4.lt.1
  have hKK4 := keep1 hKK3 hK4
  have hb4 := hK4.blk hb3 (by omega) (by simp)
  have hT4 := hK4.blk hT3 (by omega) (by simp)
  clear hR h4 hb3 hT3
  unfold treeV
  go_wp2_with fail
  refine (word_any g l4 en _ w0 _ (hI4.alloc _)).mono ?_
  rintro e w5 (⟨h5, rfl, hI5, hK5⟩ | ⟨h5, rfl, hK5⟩)
  case inr =>
    have H5 := Lib.hid h5
    clear h5
    unfold wrongP
    go_wp2
    exact ⟨rfl, .fail (by rw [pLet, kindP_pos H2.out, word_pos H3.out, HR.out, PR.bind_ok, word_neg H5.out]) (keep1 (kpAlloc hKK4 _) hK5)⟩
  have t5 := isW_tail h5
  have H5 := Lib.hid h5
  have hg5 := hK5.1
  simp at hg5
  have hKK5 := keep1 (kpAlloc hKK4 _) hK5
  have hb5 := hK5.blk (blk_alloc hb4 _) (by omega) (by simp)
  have hT5 := hK5.blk (blk_alloc hT4 _) (by omega) (by simp)
  have hW5 := keepNew hK5 q4
  clear h5 hb4 hT4
  unfold tokV
  obtain ⟨x0, x1, x2, x3, x4, xf, xl⟩ := open5 hW5
  go_wp2_with fail
  have h24 : w2.heap.size < w4.heap.size := by omega
  cases hR6 : pExpr m l4.tail with
  | fail l6 =>
    have HR6 := Lib.hid hR6
    clear hR6
    have fin : ∀ w6, PRel w0 w5.drew g en (PR.fail l6) (wrongP (hd l6 en).f3) w6 → PRel w0 w g en (pLet (pExpr m) k l) (wrongP (hd l6 en).f3) w6 := fun w6 h => .fail (by rw [pLet, kindP_pos H2.out, word_pos H3.out, HR.out, PR.bind_ok, word_pos H5.out, HR6.out, PR.bind_fail]) (keep1 hKK5 (keep1 (kpDrew (Kp.refl w5 g none)) h.2))
    have Fin := Lib.hid fin
    clear fin
    refine wp_region_any (by kernel_rfl) ?_
    change wpAny _ _ _ _ _ _ _ (World.drew _)
    refine wpAny_ready (rs := [0, 1]) (by kernel_rfl) (by simp) ?_
    refine AllReady.cons rfl (fun K hK => ?_) ?_
    · go_simp
      refine hK _ _ ?_
      clear hK K
      refine wpAny_ready (rs := [1]) (by kernel_rfl) (by simp) ?_
      refine AllReady.cons rfl (fun K hK => ?_) AllReady.nil
      go_simp
      refine hK _ _ ?_
      clear hK K
      refine wpAny_ready (rs := [2]) (by kernel_rfl) (by simp) ?_
      refine AllReady.cons rfl (fun K hK => ?_) AllReady.nil
      go_simp
      refine (hex w0 _ g en _ (by omega) hI5.drew).mono ?_
      intro e w6 h6
      rw [HR6.out] at h6
      have h7 := Fin.out w6 (by obtain ⟨rfl, _⟩ := id h6; exact h6)
      obtain ⟨rfl, _⟩ := h6
      exact ⟨rfl, h7⟩
    · refine AllReady.cons rfl (fun K hK => ?_) AllReady.nil
      go_simp
      refine hK _ _ ?_
      clear hK K
      refine wpAny_ready (rs := [0, 2]) (by kernel_rfl) (by simp) ?_
      refine AllReady.cons rfl (fun K hK => ?_) (AllReady.cons rfl (fun K hK => ?_) AllReady.nil)
      · go_simp
        refine hK _ _ ?_
        clear hK K
        refine wpAny_ready (rs := [2]) (by kernel_rfl) (by simp) ?_
        refine AllReady.cons rfl (fun K hK => ?_) AllReady.nil
        go_simp
        refine (hex w0 _ g en _ (by omega) hI5.drew).mono ?_
        intro e w6 h6
        rw [HR6.out] at h6
        have h7 := Fin.out w6 (by obtain ⟨rfl, _⟩ := id h6; exact h6)
        obtain ⟨rfl, _⟩ := h6
        exact ⟨rfl, h7⟩
      · go_simp
        refine (hex w0 _ g en _ (by omega) hI5.drew).mono ?_
        intro e w6 h6
        rw [HR6.out] at h6
        have h7 := Fin.out w6 (by obtain ⟨rfl, _⟩ := id h6; exact h6)
        obtain ⟨rfl, _⟩ := h6
        exact ⟨rfl, h7⟩
  | ok tb l6 =>
    have HR6 := Lib.hid hR6
    clear hR6
    go_region_held3 (fun w' => w'.cell? ⟨w4.heap.size, 0, none⟩ = some (.int .i64 ta.f0) ∧ w'.cell? ⟨w4.heap.size, 1, none⟩ = some (.string ta.f1) ∧ w'.cell? ⟨w4.heap.size, 2, none⟩ = some (.int .i64 ta.f2) ∧ w'.cell? ⟨w4.heap.size, 3, none⟩ = some (.int .i64 ta.f3) ∧ w'.cell? ⟨w4.heap.size, 4, none⟩ = some (.slice A ta.f4.length c)) (go_keep)
      (first | (go_at_call 25; refine (hex w0 _ g en _ ?_ hI5.drew).mono ?_; (omega); intro e w6 h6; rw [HR6.out] at h6; obtain ⟨A6, c6, rfl, hB6, hI6, hK6⟩ := h6; have hW6 := keepD hK6 hW5 q4; obtain ⟨p0, p1, p2, p3, p4, pf, pl⟩ := open5 hW6; have hT6 := keepD hK6 hT5 q2; have n42 : ¬ w4.heap.size = w2.heap.size := (Nat.ne_of_lt h24).symm; have n24 : ¬ w2.heap.size = w4.heap.size := Nat.ne_of_lt h24; obtain ⟨y0, y1, y2, y3, y4, yf, yl⟩ := open5 hT6; unfold treeV))
    have hb6 := keepD hK6 hb5 hgw
    obtain ⟨z0, z1, z2, z3, z4, zf, zl⟩ := open5 hb6
    have HH := Lib.hid (And.intro hT6 (And.intro hb6 (And.intro hA (And.intro hB6 (And.intro hI6 (And.intro hK6 (And.intro hKK5 (And.intro hK5 hI5))))))))
    have n02 : ¬ w.heap.size = w2.heap.size := Nat.ne_of_lt lw2
    have L := Lib.hid (And.intro lw2 (And.intro h24 (And.intro hg3 (And.intro hg4 hg5))))
    clear x0 x1 x2 x3 x4 xf xl p0 p1 p2 p3 p4 pf pl hT6 hb6 hT5 hW5 hW6 hb5 hA hB6 hI6 hK6 hKK5 hK5 hI5 hI4 hK4 hKK4 hI3 hK3 hKK3 hI2 hK2 hKK2 hI1 hK1 hex n42 n24 h24 hs4 t5 t3 t2 t1 hg5 hg4 hg3 hg2 q2 q4 lw2
    go_wp2
    obtain ⟨hT6, hb6, hA, hB6, hI6, hK6, hKK5, hK5, hI5⟩ := HH.out
    obtain ⟨lw2, h24, hg3, hg4, hg5⟩ := L.out
    have hKw := keep1 (keep1 hKK5 (kpDrew (Kp.refl w5 g none))) hK6
    have g2 : g < w2.heap.size := by omega
    have hA6 := (((hA.below (below_alloc (Below.refl _ _) _)).keepI hK5 (by omega)).below (below_drew (Below.refl _ _))).keepI hK6 (by omega)
    have s6 := hK6.1
    have s6' : w5.heap.size ≤ w6.heap.size := s6
    have hB6' : TAt w6 (Iv w5.heap.size w6.heap.size) tb A6 c6 := hB6
    obtain ⟨hbW, hP⟩ := close_parts (w := w) (w4 := w6.setCell ⟨w2.heap.size, 4, none⟩ (.slice (some ⟨w6.heap.size, 0, none⟩) 2 2)) (ps := [ta, tb]) (cs := cellsT ta A c ++ cellsT tb A6 c6) k (hd l.tail en).f1 0 (hd l en).f3 w6.heap.size (by simp) (by simp) (by simp)
      (hI6.far (b := w2.heap.size) (by omega) (by omega) 4 _) (kpFar hKw (p := ⟨w2.heap.size, 4, none⟩) (by simp; omega) _) (blk_far hb6 (by simp; omega) _) (Nat.le_refl _) hw hgw
      (reps2 ((((hA6.farI (.inl (by omega))).farI5 (.inl (by omega))).below (below_alloc (Below.refl _ _) _)).iv (by omega) (by omega)).FK rfl
        ((((hB6'.farI (.inl (by omega))).farI5 (.inl (by omega))).below (below_alloc (Below.refl _ _) _)).iv (by omega) (by omega)).FK rfl)
    have eR : pLet (pExpr m) k l = .ok ⟨k, (hd l.tail en).f1, 0, (hd l en).f3, [ta, tb]⟩ l6 := by
      rw [pLet, kindP_pos H2.out, word_pos H3.out, HR.out, PR.bind_ok, word_pos H5.out, HR6.out, PR.bind_ok, E1.out, E2.out]
    exact bodyPost_ret (results_cell_row rfl _ _ w.heap.size 25 _ (0, 0) _ rfl hbW Tryz.underlying25 rfl (by kernel_rfl)) rfl (by rw [eR]; exact hP)
end Go.Proofs.YtajcnjdinmgpjaaGreatDoor.X
/- The walks of the reader: a sign and two. -/
namespace Go.Proofs.YtajcnjdinmgpjaaGreatDoor.X
open Go.RowKit Go.Proofs.YtajcnjdinmgpjaaGreatDoorW.PrintWords Go.Proofs.YtajcnjdinmgpjaaGreatDoorW.PrintLast Go.Proofs.YtajcnjdinmgpjaaGreatDoorW.PrintMore Go.Proofs.YtajcnjdinmgpjaaGreatDoor.P
attribute [local go_sem] fldTok0 fldTok1 fldTok3

set_option maxRecDepth 100000 in
set_option maxHeartbeats 2000000 in
theorem op_app (n : Nat) (R : List Tok → PR) (hr : CP 84 R n) (w0 w : World) (g : Nat) (en : Int) (l : List Tok) (t : Tree) (A : Option Addr) (c a x : Nat) (hl : l.tail.length < n) (hI : Rdr w0 w g l en) (hT : TAt w (Ex a w.heap.size x) t A c) (hga : g < a) (haw : a ≤ w.heap.size) (hx : x < w.heap.size) :
    Calls Tryz.prog 67 #[.pointer (some ⟨g, 0, none⟩), treeV t A c, .func (.func 84) #[.pointer (some ⟨g, 0, none⟩)] #[]] w (PRelL a x w0 w g en ((R l.tail).bind fun t2 r => .ok (opT (tx l) t t2) r)) := by
  obtain ⟨hgw, hw⟩ := hI.lt
  have E1 := Lib.hid (hd_tx l en)
  unfold treeV
  go_enter Tryz.func67, Tryz.ntmps67
  go_wp2_with fail
  refine (take_calls g l en w0 _ ((hI.alloc _).alloc _)).mono ?_
  rintro e w1 ⟨rfl, hI1, hK1⟩
  have hR1 := keepNew hK1 (by simp; omega)
  have hB1 := hK1.blk (blk_alloc (blk_new w _) _) (by omega) (by simp)
  rw [World.size_alloc] at hR1
  unfold tokV
  obtain ⟨x0, x1, x2, x3, x4, xf, xl⟩ := open5 hB1
  go_wp2_with fail
  cases hR : R l.tail with
  | fail l' =>
    have HR := Lib.hid hR
    have fin : ∀ w6, Kp w1.drew w6 g none → PRelL a x w0 w g en ((R l.tail).bind fun t2 r => .ok (opT (tx l) t t2) r) (wrongP (hd l' en).f3) w6 := fun w6 h => by
      rw [HR.out]
      exact ⟨rfl, keep1 (keep1 (kpAlloc (k0 w g _) _) hK1) (keep1 (kpDrew (Kp.refl w1 g none)) h)⟩
    have Fin := Lib.hid fin
    clear fin hR hR1 hB1 hT
    refine wp_region_any (by kernel_rfl) ?_
    change wpAny _ _ _ _ _ _ _ (World.drew _)
    refine wpAny_take (i := 0) (v := .string (hd l en).f1) rfl (by kernel_rfl) (by kernel_rfl) (by kernel_rfl) (fun _ _ _ h => h) (Or.inl ⟨by rfl, ?hy⟩) ?rest
    case hy =>
      intro w
      go_simp
      try with_reducible rfl
    case rest =>
      refine wpAny_take (i := 1) (v := .pointer (some ⟨w.heap.size, 3, none⟩)) rfl (by kernel_rfl) (by kernel_rfl) (by kernel_rfl) (fun _ _ _ h => h) (Or.inl ⟨by rfl, ?hy⟩) ?rest
      case hy =>
        intro w
        go_simp
        try with_reducible rfl
      case rest =>
        refine wpAny_take (i := 4) (v := .func (.func 84) #[.pointer (some ⟨g, 0, none⟩)] #[]) rfl (by kernel_rfl) (by kernel_rfl) (by kernel_rfl) (fun _ _ _ h => h) (Or.inl ⟨by rfl, ?hy⟩) ?rest
        case hy =>
          intro w
          go_simp
          try with_reducible rfl
        case rest =>
          refine wpAny_ready (rs := [2, 3, 5]) (by kernel_rfl) (by simp) ?_
          refine AllReady.cons rfl (fun K hK => ?_) (AllReady.cons rfl (fun K hK => ?_) (AllReady.cons rfl (fun K hK => ?_) AllReady.nil))
          · go_simp
            refine hK _ _ ?_
            clear hK K
            refine wpAny_ready (rs := [3, 5]) (by kernel_rfl) (by simp) ?_
            refine AllReady.cons rfl (fun K hK => ?_) (AllReady.cons rfl (fun K hK => ?_) AllReady.nil)
            · go_simp
              refine hK _ _ ?_
              clear hK K
              refine wpAny_ready (rs := [5]) (by kernel_rfl) (by simp) ?_
              refine AllReady.cons rfl (fun K hK => ?_) AllReady.nil
              go_simp
              refine (hr w0 _ g en _ hl hI1.drew).mono ?_
              intro e w6 h6
              rw [HR.out] at h6
              have h7 := Fin.out w6 h6.2
              obtain ⟨rfl, _⟩ := h6
              exact ⟨rfl, h7⟩
            · go_simp
              refine (hr w0 _ g en _ hl hI1.drew).mono ?_
              intro e w6 h6
              rw [HR.out] at h6
              have h7 := Fin.out w6 h6.2
              obtain ⟨rfl, _⟩ := h6
              exact ⟨rfl, h7⟩
          · go_simp
            refine hK _ _ ?_
            clear hK K
            refine wpAny_ready (rs := [2, 5]) (by kernel_rfl) (by simp) ?_
            refine AllReady.cons rfl (fun K hK => ?_) (AllReady.cons rfl (fun K hK => ?_) AllReady.nil)
            · go_simp
              refine hK _ _ ?_
              clear hK K
              refine wpAny_ready (rs := [5]) (by kernel_rfl) (by simp) ?_
              refine AllReady.cons rfl (fun K hK => ?_) AllReady.nil
              go_simp
              refine (hr w0 _ g en _ hl hI1.drew).mono ?_
              intro e w6 h6
              rw [HR.out] at h6
              have h7 := Fin.out w6 h6.2
              obtain ⟨rfl, _⟩ := h6
              exact ⟨rfl, h7⟩
            · go_simp
              refine (hr w0 _ g en _ hl hI1.drew).mono ?_
              intro e w6 h6
              rw [HR.out] at h6
              have h7 := Fin.out w6 h6.2
              obtain ⟨rfl, _⟩ := h6
              exact ⟨rfl, h7⟩
          · go_simp
            refine (hr w0 _ g en _ hl hI1.drew).mono ?_
            intro e w6 h6
            rw [HR.out] at h6
            have h7 := Fin.out w6 h6.2
            obtain ⟨rfl, _⟩ := h6
            exact ⟨rfl, h7⟩
  | ok t2 l' =>
    have HR := Lib.hid hR
    have HX := Lib.hid (And.intro hR1 (And.intro hB1 (And.intro hK1 hT)))
    clear hR hT hR1
    go_region_held3 (fun w' => w'.cell? ⟨w.heap.size, 0, none⟩ = some (.int .i64 t.f0) ∧ w'.cell? ⟨w.heap.size, 1, none⟩ = some (.string t.f1) ∧ w'.cell? ⟨w.heap.size, 2, none⟩ = some (.int .i64 t.f2) ∧ w'.cell? ⟨w.heap.size, 3, none⟩ = some (.int .i64 t.f3) ∧ w'.cell? ⟨w.heap.size, 4, none⟩ = some (.slice A t.f4.length c)) (go_keep)
      (first | (go_at_call 84; refine (hr w0 _ g en _ ?_ hI1.drew).mono ?_; (exact hl); intro e w6 h6; rw [HR.out] at h6; obtain ⟨A6, c6, rfl, hB6, hI6, hK6⟩ := h6; have hW6 := keepD hK6 hB1 hgw; obtain ⟨p0, p1, p2, p3, p4, pf, pl⟩ := open5 hW6; have hT6 := keepD hK6 HX.out.1 (Nat.lt_succ_of_lt hgw); obtain ⟨y0, y1, y2, y3, y4, yf, yl⟩ := open5 hT6; unfold treeV))
    obtain ⟨hR1, hB1', hK1', hT⟩ := HX.out
    have hKw := keep1 (keep1 (kpAlloc (k0 w g _) _) hK1') (keep1 (kpDrew (Kp.refl w1 g none)) hK6)
    have kg : ∀ k, Ex a w.heap.size x k → k ≠ g := fun k h e => by have := h.1; omega
    have hTl : TAt w6 (Ex a w.heap.size x) t A c := (((hT.below (below_alloc (below_alloc (Below.refl _ _) _) _)).keep hK1' kg).below (below_drew (Below.refl _ _))).keep hK6 kg
    have s1 : w.heap.size + 1 < w1.heap.size := blk_lt hR1
    have s6 : w1.heap.size ≤ w6.heap.size := hK6.1
    have hB6' : TAt w6 (Iv w1.heap.size w6.heap.size) t2 A6 c6 := hB6
    clear x0 x1 x2 x3 x4 xf xl p0 p1 p2 p3 p4 pf pl y0 y1 y2 y3 y4 yf yl
    go_wp2
    obtain ⟨hbW, hP⟩ := close_ok (w := w) (w4 := w6) (ps := [t, t2]) (cs := cellsT t A c ++ cellsT t2 A6 c6) 10 (hd l en).f1 0 t.f3 w6.heap.size rfl (Ex a (w6.heap.size + 1) x) (by simp) (by simp) hI6 hKw hT6 (by omega) hw hgw ⟨by omega, by omega, by omega⟩
      (reps2 (((hTl.far5 (fun h => by have := h.2.1; omega)).below (below_alloc (Below.refl _ _) _)).mono (fun k h => ⟨h.1, by have := h.2.1; omega, h.2.2⟩)).FK rfl
        (((hB6'.far5 (fun h => by have := h.1; omega)).below (below_alloc (Below.refl _ _) _)).mono (fun k h => ⟨by have := h.1; omega, by have := h.2; omega, by have := h.1; omega⟩)).FK rfl)
    have hs : ((((((w6.setCell ⟨w.heap.size + 1, 0, none⟩ (.int .i64 10)).setCell ⟨w.heap.size + 1, 1, none⟩ (.string (hd l en).f1)).setCell ⟨w.heap.size + 1, 2, none⟩ (.int .i64 0)).setCell ⟨w.heap.size + 1, 3, none⟩ (.int .i64 t.f3)).setCell ⟨w.heap.size + 1, 4, none⟩ (.slice (some ⟨w6.heap.size, 0, none⟩) [t, t2].length [t, t2].length)).alloc (.cells (cellsT t A c ++ cellsT t2 A6 c6).toArray 25)).heap.size = w6.heap.size + 1 := by simp
    rw [← hs] at hP
    exact bodyPost_ret (results_cell_row rfl _ _ (w.heap.size + 1) 25 _ (0, 0) _ rfl hbW Tryz.underlying25 rfl (by kernel_rfl)) rfl (by rw [HR.out, ← E1.out]; exact hP)
set_option maxRecDepth 100000 in
set_option maxHeartbeats 2000000 in
theorem op_product (n : Nat) (R : List Tok → PR) (hr : CP 73 R n) (w0 w : World) (g : Nat) (en : Int) (l : List Tok) (t : Tree) (A : Option Addr) (c a x : Nat) (hl : l.tail.length < n) (hI : Rdr w0 w g l en) (hT : TAt w (Ex a w.heap.size x) t A c) (hga : g < a) (haw : a ≤ w.heap.size) (hx : x < w.heap.size) :
    Calls Tryz.prog 67 #[.pointer (some ⟨g, 0, none⟩), treeV t A c, .func (.func 73) #[.pointer (some ⟨g, 0, none⟩)] #[]] w (PRelL a x w0 w g en ((R l.tail).bind fun t2 r => .ok (opT (tx l) t t2) r)) := by
  obtain ⟨hgw, hw⟩ := hI.lt
  have E1 := Lib.hid (hd_tx l en)
  unfold treeV
  go_enter Tryz.func67, Tryz.ntmps67
  go_wp2_with fail
  refine (take_calls g l en w0 _ ((hI.alloc _).alloc _)).mono ?_
  rintro e w1 ⟨rfl, hI1, hK1⟩
  have hR1 := keepNew hK1 (by simp; omega)
  have hB1 := hK1.blk (blk_alloc (blk_new w _) _) (by omega) (by simp)
  rw [World.size_alloc] at hR1
  unfold tokV
  obtain ⟨x0, x1, x2, x3, x4, xf, xl⟩ := open5 hB1
  go_wp2_with fail
  cases hR : R l.tail with
  | fail l' =>
    have HR := Lib.hid hR
    have fin : ∀ w6, Kp w1.drew w6 g none → PRelL a x w0 w g en ((R l.tail).bind fun t2 r => .ok (opT (tx l) t t2) r) (wrongP (hd l' en).f3) w6 := fun w6 h => by
      rw [HR.out]
      exact ⟨rfl, keep1 (keep1 (kpAlloc (k0 w g _) _) hK1) (keep1 (kpDrew (Kp.refl w1 g none)) h)⟩
    have Fin := Lib.hid fin
    clear fin hR hR1 hB1 hT
    refine wp_region_any (by kernel_rfl) ?_
    change wpAny _ _ _ _ _ _ _ (World.drew _)
    refine wpAny_take (i := 0) (v := .string (hd l en).f1) rfl (by kernel_rfl) (by kernel_rfl) (by kernel_rfl) (fun _ _ _ h => h) (Or.inl ⟨by rfl, ?hy⟩) ?rest
    case hy =>
      intro w
      go_simp
      try with_reducible rfl
    case rest =>
      refine wpAny_take (i := 1) (v := .pointer (some ⟨w.heap.size, 3, none⟩)) rfl (by kernel_rfl) (by kernel_rfl) (by kernel_rfl) (fun _ _ _ h => h) (Or.inl ⟨by rfl, ?hy⟩) ?rest
      case hy =>
        intro w
        go_simp
        try with_reducible rfl
      case rest =>
        refine wpAny_take (i := 4) (v := .func (.func 73) #[.pointer (some ⟨g, 0, none⟩)] #[]) rfl (by kernel_rfl) (by kernel_rfl) (by kernel_rfl) (fun _ _ _ h => h) (Or.inl ⟨by rfl, ?hy⟩) ?rest
        case hy =>
          intro w
          go_simp
          try with_reducible rfl
        case rest =>
          refine wpAny_ready (rs := [2, 3, 5]) (by kernel_rfl) (by simp) ?_
          refine AllReady.cons rfl (fun K hK => ?_) (AllReady.cons rfl (fun K hK => ?_) (AllReady.cons rfl (fun K hK => ?_) AllReady.nil))
          · go_simp
            refine hK _ _ ?_
            clear hK K
            refine wpAny_ready (rs := [3, 5]) (by kernel_rfl) (by simp) ?_
            refine AllReady.cons rfl (fun K hK => ?_) (AllReady.cons rfl (fun K hK => ?_) AllReady.nil)
            · go_simp
              refine hK _ _ ?_
              clear hK K
              refine wpAny_ready (rs := [5]) (by kernel_rfl) (by simp) ?_
              refine AllReady.cons rfl (fun K hK => ?_) AllReady.nil
              go_simp
              refine (hr w0 _ g en _ hl hI1.drew).mono ?_
              intro e w6 h6
              rw [HR.out] at h6
              have h7 := Fin.out w6 h6.2
              obtain ⟨rfl, _⟩ := h6
              exact ⟨rfl, h7⟩
            · go_simp
              refine (hr w0 _ g en _ hl hI1.drew).mono ?_
              intro e w6 h6
              rw [HR.out] at h6
              have h7 := Fin.out w6 h6.2
              obtain ⟨rfl, _⟩ := h6
              exact ⟨rfl, h7⟩
          · go_simp
            refine hK _ _ ?_
            clear hK K
            refine wpAny_ready (rs := [2, 5]) (by kernel_rfl) (by simp) ?_
            refine AllReady.cons rfl (fun K hK => ?_) (AllReady.cons rfl (fun K hK => ?_) AllReady.nil)
            · go_simp
              refine hK _ _ ?_
              clear hK K
              refine wpAny_ready (rs := [5]) (by kernel_rfl) (by simp) ?_
              refine AllReady.cons rfl (fun K hK => ?_) AllReady.nil
              go_simp
              refine (hr w0 _ g en _ hl hI1.drew).mono ?_
              intro e w6 h6
              rw [HR.out] at h6
              have h7 := Fin.out w6 h6.2
              obtain ⟨rfl, _⟩ := h6
              exact ⟨rfl, h7⟩
            · go_simp
              refine (hr w0 _ g en _ hl hI1.drew).mono ?_
              intro e w6 h6
              rw [HR.out] at h6
              have h7 := Fin.out w6 h6.2
              obtain ⟨rfl, _⟩ := h6
              exact ⟨rfl, h7⟩
          · go_simp
            refine (hr w0 _ g en _ hl hI1.drew).mono ?_
            intro e w6 h6
            rw [HR.out] at h6
            have h7 := Fin.out w6 h6.2
            obtain ⟨rfl, _⟩ := h6
            exact ⟨rfl, h7⟩
  | ok t2 l' =>
    have HR := Lib.hid hR
    have HX := Lib.hid (And.intro hR1 (And.intro hB1 (And.intro hK1 hT)))
    clear hR hT hR1
    go_region_held3 (fun w' => w'.cell? ⟨w.heap.size, 0, none⟩ = some (.int .i64 t.f0) ∧ w'.cell? ⟨w.heap.size, 1, none⟩ = some (.string t.f1) ∧ w'.cell? ⟨w.heap.size, 2, none⟩ = some (.int .i64 t.f2) ∧ w'.cell? ⟨w.heap.size, 3, none⟩ = some (.int .i64 t.f3) ∧ w'.cell? ⟨w.heap.size, 4, none⟩ = some (.slice A t.f4.length c)) (go_keep)
      (first | (go_at_call 73; refine (hr w0 _ g en _ ?_ hI1.drew).mono ?_; (exact hl); intro e w6 h6; rw [HR.out] at h6; obtain ⟨A6, c6, rfl, hB6, hI6, hK6⟩ := h6; have hW6 := keepD hK6 hB1 hgw; obtain ⟨p0, p1, p2, p3, p4, pf, pl⟩ := open5 hW6; have hT6 := keepD hK6 HX.out.1 (Nat.lt_succ_of_lt hgw); obtain ⟨y0, y1, y2, y3, y4, yf, yl⟩ := open5 hT6; unfold treeV))
    obtain ⟨hR1, hB1', hK1', hT⟩ := HX.out
    have hKw := keep1 (keep1 (kpAlloc (k0 w g _) _) hK1') (keep1 (kpDrew (Kp.refl w1 g none)) hK6)
    have kg : ∀ k, Ex a w.heap.size x k → k ≠ g := fun k h e => by have := h.1; omega
    have hTl : TAt w6 (Ex a w.heap.size x) t A c := (((hT.below (below_alloc (below_alloc (Below.refl _ _) _) _)).keep hK1' kg).below (below_drew (Below.refl _ _))).keep hK6 kg
    have s1 : w.heap.size + 1 < w1.heap.size := blk_lt hR1
    have s6 : w1.heap.size ≤ w6.heap.size := hK6.1
    have hB6' : TAt w6 (Iv w1.heap.size w6.heap.size) t2 A6 c6 := hB6
    clear x0 x1 x2 x3 x4 xf xl p0 p1 p2 p3 p4 pf pl y0 y1 y2 y3 y4 yf yl
    go_wp2
    obtain ⟨hbW, hP⟩ := close_ok (w := w) (w4 := w6) (ps := [t, t2]) (cs := cellsT t A c ++ cellsT t2 A6 c6) 10 (hd l en).f1 0 t.f3 w6.heap.size rfl (Ex a (w6.heap.size + 1) x) (by simp) (by simp) hI6 hKw hT6 (by omega) hw hgw ⟨by omega, by omega, by omega⟩
      (reps2 (((hTl.far5 (fun h => by have := h.2.1; omega)).below (below_alloc (Below.refl _ _) _)).mono (fun k h => ⟨h.1, by have := h.2.1; omega, h.2.2⟩)).FK rfl
        (((hB6'.far5 (fun h => by have := h.1; omega)).below (below_alloc (Below.refl _ _) _)).mono (fun k h => ⟨by have := h.1; omega, by have := h.2; omega, by have := h.1; omega⟩)).FK rfl)
    have hs : ((((((w6.setCell ⟨w.heap.size + 1, 0, none⟩ (.int .i64 10)).setCell ⟨w.heap.size + 1, 1, none⟩ (.string (hd l en).f1)).setCell ⟨w.heap.size + 1, 2, none⟩ (.int .i64 0)).setCell ⟨w.heap.size + 1, 3, none⟩ (.int .i64 t.f3)).setCell ⟨w.heap.size + 1, 4, none⟩ (.slice (some ⟨w6.heap.size, 0, none⟩) [t, t2].length [t, t2].length)).alloc (.cells (cellsT t A c ++ cellsT t2 A6 c6).toArray 25)).heap.size = w6.heap.size + 1 := by simp
    rw [← hs] at hP
    exact bodyPost_ret (results_cell_row rfl _ _ (w.heap.size + 1) 25 _ (0, 0) _ rfl hbW Tryz.underlying25 rfl (by kernel_rfl)) rfl (by rw [HR.out, ← E1.out]; exact hP)
set_option maxRecDepth 100000 in
set_option maxHeartbeats 2000000 in
theorem op_sum (n : Nat) (R : List Tok → PR) (hr : CP 66 R n) (w0 w : World) (g : Nat) (en : Int) (l : List Tok) (t : Tree) (A : Option Addr) (c a x : Nat) (hl : l.tail.length < n) (hI : Rdr w0 w g l en) (hT : TAt w (Ex a w.heap.size x) t A c) (hga : g < a) (haw : a ≤ w.heap.size) (hx : x < w.heap.size) :
    Calls Tryz.prog 67 #[.pointer (some ⟨g, 0, none⟩), treeV t A c, .func (.func 66) #[.pointer (some ⟨g, 0, none⟩)] #[]] w (PRelL a x w0 w g en ((R l.tail).bind fun t2 r => .ok (opT (tx l) t t2) r)) := by
  obtain ⟨hgw, hw⟩ := hI.lt
  have E1 := Lib.hid (hd_tx l en)
  unfold treeV
  go_enter Tryz.func67, Tryz.ntmps67
  go_wp2_with fail
  refine (take_calls g l en w0 _ ((hI.alloc _).alloc _)).mono ?_
  rintro e w1 ⟨rfl, hI1, hK1⟩
  have hR1 := keepNew hK1 (by simp; omega)
  have hB1 := hK1.blk (blk_alloc (blk_new w _) _) (by omega) (by simp)
  rw [World.size_alloc] at hR1
  unfold tokV
  obtain ⟨x0, x1, x2, x3, x4, xf, xl⟩ := open5 hB1
  go_wp2_with fail
  cases hR : R l.tail with
  | fail l' =>
    have HR := Lib.hid hR
    have fin : ∀ w6, Kp w1.drew w6 g none → PRelL a x w0 w g en ((R l.tail).bind fun t2 r => .ok (opT (tx l) t t2) r) (wrongP (hd l' en).f3) w6 := fun w6 h => by
      rw [HR.out]
      exact ⟨rfl, keep1 (keep1 (kpAlloc (k0 w g _) _) hK1) (keep1 (kpDrew (Kp.refl w1 g none)) h)⟩
    have Fin := Lib.hid fin
    clear fin hR hR1 hB1 hT
    refine wp_region_any (by kernel_rfl) ?_
    change wpAny _ _ _ _ _ _ _ (World.drew _)
    refine wpAny_take (i := 0) (v := .string (hd l en).f1) rfl (by kernel_rfl) (by kernel_rfl) (by kernel_rfl) (fun _ _ _ h => h) (Or.inl ⟨by rfl, ?hy⟩) ?rest
    case hy =>
      intro w
      go_simp
      try with_reducible rfl
    case rest =>
      refine wpAny_take (i := 1) (v := .pointer (some ⟨w.heap.size, 3, none⟩)) rfl (by kernel_rfl) (by kernel_rfl) (by kernel_rfl) (fun _ _ _ h => h) (Or.inl ⟨by rfl, ?hy⟩) ?rest
      case hy =>
        intro w
        go_simp
        try with_reducible rfl
      case rest =>
        refine wpAny_take (i := 4) (v := .func (.func 66) #[.pointer (some ⟨g, 0, none⟩)] #[]) rfl (by kernel_rfl) (by kernel_rfl) (by kernel_rfl) (fun _ _ _ h => h) (Or.inl ⟨by rfl, ?hy⟩) ?rest
        case hy =>
          intro w
          go_simp
          try with_reducible rfl
        case rest =>
          refine wpAny_ready (rs := [2, 3, 5]) (by kernel_rfl) (by simp) ?_
          refine AllReady.cons rfl (fun K hK => ?_) (AllReady.cons rfl (fun K hK => ?_) (AllReady.cons rfl (fun K hK => ?_) AllReady.nil))
          · go_simp
            refine hK _ _ ?_
            clear hK K
            refine wpAny_ready (rs := [3, 5]) (by kernel_rfl) (by simp) ?_
            refine AllReady.cons rfl (fun K hK => ?_) (AllReady.cons rfl (fun K hK => ?_) AllReady.nil)
            · go_simp
              refine hK _ _ ?_
              clear hK K
              refine wpAny_ready (rs := [5]) (by kernel_rfl) (by simp) ?_
              refine AllReady.cons rfl (fun K hK => ?_) AllReady.nil
              go_simp
              refine (hr w0 _ g en _ hl hI1.drew).mono ?_
              intro e w6 h6
              rw [HR.out] at h6
              have h7 := Fin.out w6 h6.2
              obtain ⟨rfl, _⟩ := h6
              exact ⟨rfl, h7⟩
            · go_simp
              refine (hr w0 _ g en _ hl hI1.drew).mono ?_
              intro e w6 h6
              rw [HR.out] at h6
              have h7 := Fin.out w6 h6.2
              obtain ⟨rfl, _⟩ := h6
              exact ⟨rfl, h7⟩
          · go_simp
            refine hK _ _ ?_
            clear hK K
            refine wpAny_ready (rs := [2, 5]) (by kernel_rfl) (by simp) ?_
            refine AllReady.cons rfl (fun K hK => ?_) (AllReady.cons rfl (fun K hK => ?_) AllReady.nil)
            · go_simp
              refine hK _ _ ?_
              clear hK K
              refine wpAny_ready (rs := [5]) (by kernel_rfl) (by simp) ?_
              refine AllReady.cons rfl (fun K hK => ?_) AllReady.nil
              go_simp
              refine (hr w0 _ g en _ hl hI1.drew).mono ?_
              intro e w6 h6
              rw [HR.out] at h6
              have h7 := Fin.out w6 h6.2
              obtain ⟨rfl, _⟩ := h6
              exact ⟨rfl, h7⟩
            · go_simp
              refine (hr w0 _ g en _ hl hI1.drew).mono ?_
              intro e w6 h6
              rw [HR.out] at h6
              have h7 := Fin.out w6 h6.2
              obtain ⟨rfl, _⟩ := h6
              exact ⟨rfl, h7⟩
          · go_simp
            refine (hr w0 _ g en _ hl hI1.drew).mono ?_
            intro e w6 h6
            rw [HR.out] at h6
            have h7 := Fin.out w6 h6.2
            obtain ⟨rfl, _⟩ := h6
            exact ⟨rfl, h7⟩
  | ok t2 l' =>
    have HR := Lib.hid hR
    have HX := Lib.hid (And.intro hR1 (And.intro hB1 (And.intro hK1 hT)))
    clear hR hT hR1
    go_region_held3 (fun w' => w'.cell? ⟨w.heap.size, 0, none⟩ = some (.int .i64 t.f0) ∧ w'.cell? ⟨w.heap.size, 1, none⟩ = some (.string t.f1) ∧ w'.cell? ⟨w.heap.size, 2, none⟩ = some (.int .i64 t.f2) ∧ w'.cell? ⟨w.heap.size, 3, none⟩ = some (.int .i64 t.f3) ∧ w'.cell? ⟨w.heap.size, 4, none⟩ = some (.slice A t.f4.length c)) (go_keep)
      (first | (go_at_call 66; refine (hr w0 _ g en _ ?_ hI1.drew).mono ?_; (exact hl); intro e w6 h6; rw [HR.out] at h6; obtain ⟨A6, c6, rfl, hB6, hI6, hK6⟩ := h6; have hW6 := keepD hK6 hB1 hgw; obtain ⟨p0, p1, p2, p3, p4, pf, pl⟩ := open5 hW6; have hT6 := keepD hK6 HX.out.1 (Nat.lt_succ_of_lt hgw); obtain ⟨y0, y1, y2, y3, y4, yf, yl⟩ := open5 hT6; unfold treeV))
    obtain ⟨hR1, hB1', hK1', hT⟩ := HX.out
    have hKw := keep1 (keep1 (kpAlloc (k0 w g _) _) hK1') (keep1 (kpDrew (Kp.refl w1 g none)) hK6)
    have kg : ∀ k, Ex a w.heap.size x k → k ≠ g := fun k h e => by have := h.1; omega
    have hTl : TAt w6 (Ex a w.heap.size x) t A c := (((hT.below (below_alloc (below_alloc (Below.refl _ _) _) _)).keep hK1' kg).below (below_drew (Below.refl _ _))).keep hK6 kg
    have s1 : w.heap.size + 1 < w1.heap.size := blk_lt hR1
    have s6 : w1.heap.size ≤ w6.heap.size := hK6.1
    have hB6' : TAt w6 (Iv w1.heap.size w6.heap.size) t2 A6 c6 := hB6
    clear x0 x1 x2 x3 x4 xf xl p0 p1 p2 p3 p4 pf pl y0 y1 y2 y3 y4 yf yl
    go_wp2
    obtain ⟨hbW, hP⟩ := close_ok (w := w) (w4 := w6) (ps := [t, t2]) (cs := cellsT t A c ++ cellsT t2 A6 c6) 10 (hd l en).f1 0 t.f3 w6.heap.size rfl (Ex a (w6.heap.size + 1) x) (by simp) (by simp) hI6 hKw hT6 (by omega) hw hgw ⟨by omega, by omega, by omega⟩
      (reps2 (((hTl.far5 (fun h => by have := h.2.1; omega)).below (below_alloc (Below.refl _ _) _)).mono (fun k h => ⟨h.1, by have := h.2.1; omega, h.2.2⟩)).FK rfl
        (((hB6'.far5 (fun h => by have := h.1; omega)).below (below_alloc (Below.refl _ _) _)).mono (fun k h => ⟨by have := h.1; omega, by have := h.2; omega, by have := h.1; omega⟩)).FK rfl)
    have hs : ((((((w6.setCell ⟨w.heap.size + 1, 0, none⟩ (.int .i64 10)).setCell ⟨w.heap.size + 1, 1, none⟩ (.string (hd l en).f1)).setCell ⟨w.heap.size + 1, 2, none⟩ (.int .i64 0)).setCell ⟨w.heap.size + 1, 3, none⟩ (.int .i64 t.f3)).setCell ⟨w.heap.size + 1, 4, none⟩ (.slice (some ⟨w6.heap.size, 0, none⟩) [t, t2].length [t, t2].length)).alloc (.cells (cellsT t A c ++ cellsT t2 A6 c6).toArray 25)).heap.size = w6.heap.size + 1 := by simp
    rw [← hs] at hP
    exact bodyPost_ret (results_cell_row rfl _ _ (w.heap.size + 1) 25 _ (0, 0) _ rfl hbW Tryz.underlying25 rfl (by kernel_rfl)) rfl (by rw [HR.out, ← E1.out]; exact hP)
end Go.Proofs.YtajcnjdinmgpjaaGreatDoor.X
/- The walks of the reader: products, sums, comparisons. -/
namespace Go.Proofs.YtajcnjdinmgpjaaGreatDoor.X
open Go.RowKit Go.Proofs.YtajcnjdinmgpjaaGreatDoorW.PrintWords Go.Proofs.YtajcnjdinmgpjaaGreatDoorW.PrintLast Go.Proofs.YtajcnjdinmgpjaaGreatDoorW.PrintMore Go.Proofs.YtajcnjdinmgpjaaGreatDoor.P
attribute [local go_sem] fldTok0 fldTok1 fldTok3

/-- A loop over signs, at its head: the tree so far in block x. -/
def OpsAt (F : Nat → Tree → List Tok → PR) (fin : PR) (w0 w : World) (g : Nat) (en : Int) (x n : Nat) (m : Nat) (w' : World) : Prop :=
  ∃ t l A c, F m t l = fin ∧ l.length < m ∧ l.length < n ∧ w'.heap[x]? = some (.cells #[.int .i64 t.f0, .string t.f1, .int .i64 t.f2, .int .i64 t.f3, .slice A t.f4.length c] 25 (0, 0)) ∧ TAt w' (Ex (w.heap.size + 1) w'.heap.size x) t A c ∧ Rdr w0 w' g l en ∧ Kp w w' g none

/-- One round: a tree of a sign and two has been stored into x. -/
theorem OpsAt.next {F : Nat → Tree → List Tok → PR} {fin : PR} {w0 w w2 : World} {g x n m : Nat} {en : Int} {t : Tree} {l : List Tok} {A : Option Addr} {c : Nat} {v0 v1 v2 v3 v4 : Value} (hF : F m t l = fin) (hlm : l.length < m) (hln : l.length < n) (hx : w2.heap[x]? = some (.cells #[v0, v1, v2, v3, v4] 25 (0, 0)))
    (hT : TAt w2 (Ex (w.heap.size + 1) w2.heap.size x) t A c) (hI : Rdr w0 w2 g l en) (hK : Kp w w2 g none) (hwx : w.heap.size ≤ x) (hw : w0.heap.size ≤ w.heap.size) (hgw : g < w.heap.size) :
    OpsAt F fin w0 w g en x n m (((((w2.setCell ⟨x, 0, none⟩ (.int .i64 t.f0)).setCell ⟨x, 1, none⟩ (.string t.f1)).setCell ⟨x, 2, none⟩ (.int .i64 t.f2)).setCell ⟨x, 3, none⟩ (.int .i64 t.f3)).setCell ⟨x, 4, none⟩ (.slice A t.f4.length c)) := by
  have hs : (((((w2.setCell ⟨x, 0, none⟩ (.int .i64 t.f0)).setCell ⟨x, 1, none⟩ (.string t.f1)).setCell ⟨x, 2, none⟩ (.int .i64 t.f2)).setCell ⟨x, 3, none⟩ (.int .i64 t.f3)).setCell ⟨x, 4, none⟩ (.slice A t.f4.length c)).heap.size = w2.heap.size := by simp
  have hne : g ≠ x := by omega
  refine ⟨t, l, A, c, hF, hlm, hln, set5 hx, ?_, ((((hI.far hne (by omega) 0 _).far hne (by omega) 1 _).far hne (by omega) 2 _).far hne (by omega) 3 _).far hne (by omega) 4 _, kpFar (kpFar (kpFar (kpFar (kpFar hK hwx _) hwx _) hwx _) hwx _) hwx _⟩
  rw [hs]
  exact hT.far5 (fun h => h.2.2 rfl)
theorem PRelL.any {lo x : Nat} {w0 w w' : World} {g : Nat} {en : Int} {R : PR} {e : Ending} (h : PRelL lo x w0 w g en R e w') :
    (∃ t l A c, R = .ok t l ∧ e = .returned (treeV t A c) ∧ TAt w' (Ex lo w'.heap.size x) t A c ∧ Rdr w0 w' g l en ∧ Kp w w' g none) ∨ (∃ l, R = .fail l ∧ e = wrongP (hd l en).f3 ∧ Kp w w' g none) := by
  cases R with
  | ok t l => obtain ⟨A, c, h⟩ := h; exact .inl ⟨t, l, A, c, rfl, h⟩
  | fail l => exact .inr ⟨l, rfl, h⟩

set_option maxRecDepth 100000 in
set_option maxHeartbeats 2000000 in
theorem product_calls (ex : List Tok → PR) (n : Nat) (hex : Sh ex) (happ : CP 84 (pApp ex) n) : CP 73 (pProd ex) n := by
  intro w0 w g en l0 hl hI
  obtain ⟨hgw, hw⟩ := hI.lt
  go_enter Tryz.func73, Tryz.ntmps73
  go_wp2_with fail
  refine (happ w0 _ g en l0 hl (hI.alloc _)).mono ?_
  intro e w1 h1
  rcases h1.any with ⟨t, l1, A, c, hR, rfl, hT, hI1, hK1⟩ | ⟨l1, hR, rfl, hK1⟩
  case inr =>
    have HR := Lib.hid hR
    clear hR h1
    unfold wrongP
    go_wp2
    exact ⟨rfl, .fail (by rw [pProd, HR.out, PR.bind_fail]) (keep1 (k0 w g _) hK1)⟩
  have hs1 := sh_app hex _ _ _ hR
  have HR := Lib.hid hR
  have hb1 := keepNew hK1 hgw
  have hKK1 := keep1 (k0 w g _) hK1
  clear hR h1
  unfold treeV
  go_wp2_with fail
  have hst : OpsAt (pOps (pApp ex) ⟨#[42]⟩ ⟨#[47]⟩) (pProd ex l0) w0 w g en w1.heap.size n (l1.length + 1) (w1.alloc (.cells #[.int .i64 t.f0, .string t.f1, .int .i64 t.f2, .int .i64 t.f3, .slice A t.f4.length c] 25)) :=
    ⟨t, l1, A, c, by rw [pProd, HR.out, PR.bind_ok], by omega, by omega, blk_new _ _, (hT.below (below_alloc (Below.refl _ _) _)).mono (fun k h => ⟨by have := h.1; simp at this; omega, by have := h.2; simp; omega, by have := h.2; omega⟩), hI1.alloc _, kpAlloc hKK1 _⟩
  have hbR := blk_alloc hb1 (.cells #[.int .i64 t.f0, .string t.f1, .int .i64 t.f2, .int .i64 t.f3, .slice A t.f4.length c] 25)
  have HS := Lib.hid (And.intro hst hbR)
  have hx : w.heap.size < w1.heap.size := blk_lt hb1
  clear hst hbR hb1 hT hI1 hK1 hKK1 hs1
  go_loopg [] (l1.length + 1) (fun kq w' => OpsAt (pOps (pApp ex) ⟨#[42]⟩ ⟨#[47]⟩) (pProd ex l0) w0 w g en w1.heap.size n kq w' ∧ w'.heap[w.heap.size]? = some (.cells #[.int .i64 0, .string ⟨#[]⟩, .int .i64 0, .int .i64 0, .slice none 0 0] 25 (0, 0)))
  case atStart => exact HS.out
  case round =>
    obtain ⟨⟨t, l, A, c, hF, hlm, hln, hbx, hT, hI, hK⟩, hbR⟩ := hrel
    clear HS
    obtain ⟨k, rfl⟩ : ∃ k, gk = k + 1 := ⟨gk - 1, by omega⟩
    unfold pOps at hF
    by_cases s1 : isW l ⟨#[42]⟩ = true
    · have S1 := Lib.hid s1
      rw [s1, Bool.true_or, if_pos rfl] at hF
      have HF := Lib.hid hF
      have ht := isW_tail s1
      clear s1 hF
      go_wp2_with fail
      refine (is_calls g l en _ w0 wr hI).mono ?_
      rintro e w2 ⟨rfl, hI2, hB2⟩
      rw [S1.out]
      have hbx2 := blk_below hbx hB2
      have hbR2 := blk_below hbR hB2
      obtain ⟨x0, x1, x2, x3, x4, xf, xl⟩ := open5 hbx2
      go_wp2_with fail
      have hK2 := keepB hK hB2
      have hT2 : TAt w2 (Ex (w.heap.size + 1) w2.heap.size w1.heap.size) t A c := (hT.below hB2).mono (fun k h => ⟨h.1, Nat.lt_of_lt_of_le h.2.1 hB2.size, h.2.2⟩)
      refine (op_app n (pApp ex) happ w0 w2 g en l t A c (w.heap.size + 1) w1.heap.size (by omega) hI2 hT2 (by omega) (by have := blk_lt hbx2; omega) (blk_lt hbx2)).mono ?_
      intro e w3 h3
      rcases h3.any with ⟨t3, l3, A3, c3, hR, rfl, hT3, hI3, hK3⟩ | ⟨l3, hR, rfl, hK3⟩
      · obtain ⟨b3, l3', hb3, h3e⟩ := PR.bind_inv hR
        have hsh := sh_app hex _ _ _ hb3
        cases h3e
        have hbx3 := hK3.blk hbx2 (by omega) (by simp)
        have hbR3 := hK3.blk hbR2 (by omega) (by simp)
        have hnext := OpsAt.next (F := pOps (pApp ex) ⟨#[42]⟩ ⟨#[47]⟩) (fin := pProd ex l0) (n := n) (m := k) (by have := HF.out; rw [hb3, PR.bind_ok] at this; exact this) (by omega) (by omega) hbx3 hT3 hI3 (keep1 hK2 hK3) (Nat.le_of_lt hx) hw hgw
        obtain ⟨z0, z1, z2, z3, z4, zf, zl⟩ := open5 hbx3
        have hbR4 : (((((w3.setCell ⟨w1.heap.size, 0, none⟩ (.int .i64 (opT (tx l) t b3).f0)).setCell ⟨w1.heap.size, 1, none⟩ (.string (opT (tx l) t b3).f1)).setCell ⟨w1.heap.size, 2, none⟩ (.int .i64 (opT (tx l) t b3).f2)).setCell ⟨w1.heap.size, 3, none⟩ (.int .i64 (opT (tx l) t b3).f3)).setCell ⟨w1.heap.size, 4, none⟩ (.slice A3 (opT (tx l) t b3).f4.length c3)).heap[w.heap.size]? = _ := blk_far (blk_far (blk_far (blk_far (blk_far hbR3 (by simp; omega) _) (by simp; omega) _) (by simp; omega) _) (by simp; omega) _) (by simp; omega) _
        have HN := Lib.hid (And.intro hnext hbR4)
        clear hnext hbR4 hbR3 hbx3 hT3 hI3 hK3 hT2 hK2 hR h3 hb3 hbx2 hbR2 hB2 hI2 hT hI hK hbx hbR x0 x1 x2 x3 x4 xf xl
        unfold treeV
        go_wp2
        go_roundg k
        case measure => omega
        case rel => exact HN.out
      · have hp : pApp ex l.tail = .fail l3 := PR.bind_inv_fail (f := fun b r => (opT (tx l) t b, r)) hR
        have eF : pProd ex l0 = .fail l3 := by have := HF.out; rw [hp, PR.bind_fail] at this; exact this.symm
        have EF := Lib.hid eF
        clear eF hp hR h3 hbx2 hbR2 hbx hbR x0 x1 x2 x3 x4 xf xl
        unfold wrongP
        go_wp2
        exact ⟨rfl, .fail EF.out (keep1 hK2 hK3)⟩
    · have s1' : isW l ⟨#[42]⟩ = false := by simpa using s1
      have S1 := Lib.hid s1'
      clear s1
      rw [s1', Bool.false_or] at hF
      clear s1'
      by_cases s2 : isW l ⟨#[47]⟩ = true
      · have S2 := Lib.hid s2
        rw [if_pos s2] at hF
        have HF := Lib.hid hF
        have ht := isW_tail s2
        clear s2 hF
        go_wp2_with fail
        refine (is_calls g l en _ w0 wr hI).mono ?_
        rintro e w2' ⟨rfl, hI2', hB2'⟩
        rw [S1.out]
        go_wp2_with fail
        refine (is_calls g l en _ w0 w2' hI2').mono ?_
        rintro e w2 ⟨rfl, hI2, hB2''⟩
        rw [S2.out]
        have hB2 := below_step hB2' hB2''
        clear hB2' hB2'' hI2'
        have hbx2 := blk_below hbx hB2
        have hbR2 := blk_below hbR hB2
        obtain ⟨x0, x1, x2, x3, x4, xf, xl⟩ := open5 hbx2
        go_wp2_with fail
        have hK2 := keepB hK hB2
        have hT2 : TAt w2 (Ex (w.heap.size + 1) w2.heap.size w1.heap.size) t A c := (hT.below hB2).mono (fun k h => ⟨h.1, Nat.lt_of_lt_of_le h.2.1 hB2.size, h.2.2⟩)
        refine (op_app n (pApp ex) happ w0 w2 g en l t A c (w.heap.size + 1) w1.heap.size (by omega) hI2 hT2 (by omega) (by have := blk_lt hbx2; omega) (blk_lt hbx2)).mono ?_
        intro e w3 h3
        rcases h3.any with ⟨t3, l3, A3, c3, hR, rfl, hT3, hI3, hK3⟩ | ⟨l3, hR, rfl, hK3⟩
        · obtain ⟨b3, l3', hb3, h3e⟩ := PR.bind_inv hR
          have hsh := sh_app hex _ _ _ hb3
          cases h3e
          have hbx3 := hK3.blk hbx2 (by omega) (by simp)
          have hbR3 := hK3.blk hbR2 (by omega) (by simp)
          have hnext := OpsAt.next (F := pOps (pApp ex) ⟨#[42]⟩ ⟨#[47]⟩) (fin := pProd ex l0) (n := n) (m := k) (by have := HF.out; rw [hb3, PR.bind_ok] at this; exact this) (by omega) (by omega) hbx3 hT3 hI3 (keep1 hK2 hK3) (Nat.le_of_lt hx) hw hgw
          obtain ⟨z0, z1, z2, z3, z4, zf, zl⟩ := open5 hbx3
          have hbR4 : (((((w3.setCell ⟨w1.heap.size, 0, none⟩ (.int .i64 (opT (tx l) t b3).f0)).setCell ⟨w1.heap.size, 1, none⟩ (.string (opT (tx l) t b3).f1)).setCell ⟨w1.heap.size, 2, none⟩ (.int .i64 (opT (tx l) t b3).f2)).setCell ⟨w1.heap.size, 3, none⟩ (.int .i64 (opT (tx l) t b3).f3)).setCell ⟨w1.heap.size, 4, none⟩ (.slice A3 (opT (tx l) t b3).f4.length c3)).heap[w.heap.size]? = _ := blk_far (blk_far (blk_far (blk_far (blk_far hbR3 (by simp; omega) _) (by simp; omega) _) (by simp; omega) _) (by simp; omega) _) (by simp; omega) _
          have HN := Lib.hid (And.intro hnext hbR4)
          clear hnext hbR4 hbR3 hbx3 hT3 hI3 hK3 hT2 hK2 hR h3 hb3 hbx2 hbR2 hB2 hI2 hT hI hK hbx hbR x0 x1 x2 x3 x4 xf xl
          unfold treeV
          go_wp2
          go_roundg k
          case measure => omega
          case rel => exact HN.out
        · have hp : pApp ex l.tail = .fail l3 := PR.bind_inv_fail (f := fun b r => (opT (tx l) t b, r)) hR
          have eF : pProd ex l0 = .fail l3 := by have := HF.out; rw [hp, PR.bind_fail] at this; exact this.symm
          have EF := Lib.hid eF
          clear eF hp hR h3 hbx2 hbR2 hbx hbR x0 x1 x2 x3 x4 xf xl
          unfold wrongP
          go_wp2
          exact ⟨rfl, .fail EF.out (keep1 hK2 hK3)⟩
      · rw [if_neg s2] at hF
        have S2 := Lib.hid (show isW l ⟨#[47]⟩ = false by simpa using s2)
        have HF := Lib.hid hF
        clear s2 hF
        go_wp2_with fail
        refine (is_calls g l en _ w0 wr hI).mono ?_
        rintro e w2' ⟨rfl, hI2', hB2'⟩
        rw [S1.out]
        go_wp2_with fail
        refine (is_calls g l en _ w0 w2' hI2').mono ?_
        rintro e w2 ⟨rfl, hI2, hB2''⟩
        rw [S2.out]
        have hB2 := below_step hB2' hB2''
        have hbx2 := blk_below hbx hB2
        have hbR2 := blk_below hbR hB2
        obtain ⟨x0, x1, x2, x3, x4, xf, xl⟩ := open5 hbx2
        obtain ⟨y0, y1, y2, y3, y4, yf, yl⟩ := open5 hbR2
        have hP := close_copy (w := w) (w0 := w0) (hT.below hB2) hI2 (keepB hK hB2) hbR2 (Nat.le_refl _) hw hgw (fun k h => Nat.le_of_succ_le h.1) (fun k h => Nat.lt_of_lt_of_le h.2.1 hB2.size) (fun h => by have := h.1; omega)
        have HP := Lib.hid hP
        clear hP hB2' hB2'' hI2' hbx2 hbR2 hbx hbR hT hI hK hB2 hI2
        go_wp2
        exact bodyPost_ret (results_cell_row rfl _ _ w.heap.size 25 _ (0, 0) _ rfl HP.out.1 Tryz.underlying25 rfl (by kernel_rfl)) rfl (by rw [← HF.out]; exact HP.out.2)
set_option maxRecDepth 100000 in
set_option maxHeartbeats 2000000 in
theorem sum_calls (ex : List Tok → PR) (n : Nat) (hex : Sh ex) (hprod : CP 73 (pProd ex) n) : CP 66 (pSum ex) n := by
  intro w0 w g en l0 hl hI
  obtain ⟨hgw, hw⟩ := hI.lt
  go_enter Tryz.func66, Tryz.ntmps66
  go_wp2_with fail
  refine (hprod w0 _ g en l0 hl (hI.alloc _)).mono ?_
  intro e w1 h1
  rcases h1.any with ⟨t, l1, A, c, hR, rfl, hT, hI1, hK1⟩ | ⟨l1, hR, rfl, hK1⟩
  case inr =>
    have HR := Lib.hid hR
    clear hR h1
    unfold wrongP
    go_wp2
    exact ⟨rfl, .fail (by rw [pSum, HR.out, PR.bind_fail]) (keep1 (k0 w g _) hK1)⟩
  have hs1 := sh_prod hex _ _ _ hR
  have HR := Lib.hid hR
  have hb1 := keepNew hK1 hgw
  have hKK1 := keep1 (k0 w g _) hK1
  clear hR h1
  unfold treeV
  go_wp2_with fail
  have hst : OpsAt (pOps (pProd ex) ⟨#[43]⟩ ⟨#[45]⟩) (pSum ex l0) w0 w g en w1.heap.size n (l1.length + 1) (w1.alloc (.cells #[.int .i64 t.f0, .string t.f1, .int .i64 t.f2, .int .i64 t.f3, .slice A t.f4.length c] 25)) :=
    ⟨t, l1, A, c, by rw [pSum, HR.out, PR.bind_ok], by omega, by omega, blk_new _ _, (hT.below (below_alloc (Below.refl _ _) _)).mono (fun k h => ⟨by have := h.1; simp at this; omega, by have := h.2; simp; omega, by have := h.2; omega⟩), hI1.alloc _, kpAlloc hKK1 _⟩
  have hbR := blk_alloc hb1 (.cells #[.int .i64 t.f0, .string t.f1, .int .i64 t.f2, .int .i64 t.f3, .slice A t.f4.length c] 25)
  have HS := Lib.hid (And.intro hst hbR)
  have hx : w.heap.size < w1.heap.size := blk_lt hb1
  clear hst hbR hb1 hT hI1 hK1 hKK1 hs1
  go_loopg [] (l1.length + 1) (fun kq w' => OpsAt (pOps (pProd ex) ⟨#[43]⟩ ⟨#[45]⟩) (pSum ex l0) w0 w g en w1.heap.size n kq w' ∧ w'.heap[w.heap.size]? = some (.cells #[.int .i64 0, .string ⟨#[]⟩, .int .i64 0, .int .i64 0, .slice none 0 0] 25 (0, 0)))
  case atStart => exact HS.out
  case round =>
    obtain ⟨⟨t, l, A, c, hF, hlm, hln, hbx, hT, hI, hK⟩, hbR⟩ := hrel
    clear HS
    obtain ⟨k, rfl⟩ : ∃ k, gk = k + 1 := ⟨gk - 1, by omega⟩
    unfold pOps at hF
    by_cases s1 : isW l ⟨#[43]⟩ = true
    · have S1 := Lib.hid s1
      rw [s1, Bool.true_or, if_pos rfl] at hF
      have HF := Lib.hid hF
      have ht := isW_tail s1
      clear s1 hF
      go_wp2_with fail
      refine (is_calls g l en _ w0 wr hI).mono ?_
      rintro e w2 ⟨rfl, hI2, hB2⟩
      rw [S1.out]
      have hbx2 := blk_below hbx hB2
      have hbR2 := blk_below hbR hB2
      obtain ⟨x0, x1, x2, x3, x4, xf, xl⟩ := open5 hbx2
      go_wp2_with fail
      have hK2 := keepB hK hB2
      have hT2 : TAt w2 (Ex (w.heap.size + 1) w2.heap.size w1.heap.size) t A c := (hT.below hB2).mono (fun k h => ⟨h.1, Nat.lt_of_lt_of_le h.2.1 hB2.size, h.2.2⟩)
      refine (op_product n (pProd ex) hprod w0 w2 g en l t A c (w.heap.size + 1) w1.heap.size (by omega) hI2 hT2 (by omega) (by have := blk_lt hbx2; omega) (blk_lt hbx2)).mono ?_
      intro e w3 h3
      rcases h3.any with ⟨t3, l3, A3, c3, hR, rfl, hT3, hI3, hK3⟩ | ⟨l3, hR, rfl, hK3⟩
      · obtain ⟨b3, l3', hb3, h3e⟩ := PR.bind_inv hR
        have hsh := sh_prod hex _ _ _ hb3
        cases h3e
        have hbx3 := hK3.blk hbx2 (by omega) (by simp)
        have hbR3 := hK3.blk hbR2 (by omega) (by simp)
        have hnext := OpsAt.next (F := pOps (pProd ex) ⟨#[43]⟩ ⟨#[45]⟩) (fin := pSum ex l0) (n := n) (m := k) (by have := HF.out; rw [hb3, PR.bind_ok] at this; exact this) (by omega) (by omega) hbx3 hT3 hI3 (keep1 hK2 hK3) (Nat.le_of_lt hx) hw hgw
        obtain ⟨z0, z1, z2, z3, z4, zf, zl⟩ := open5 hbx3
        have hbR4 : (((((w3.setCell ⟨w1.heap.size, 0, none⟩ (.int .i64 (opT (tx l) t b3).f0)).setCell ⟨w1.heap.size, 1, none⟩ (.string (opT (tx l) t b3).f1)).setCell ⟨w1.heap.size, 2, none⟩ (.int .i64 (opT (tx l) t b3).f2)).setCell ⟨w1.heap.size, 3, none⟩ (.int .i64 (opT (tx l) t b3).f3)).setCell ⟨w1.heap.size, 4, none⟩ (.slice A3 (opT (tx l) t b3).f4.length c3)).heap[w.heap.size]? = _ := blk_far (blk_far (blk_far (blk_far (blk_far hbR3 (by simp; omega) _) (by simp; omega) _) (by simp; omega) _) (by simp; omega) _) (by simp; omega) _
        have HN := Lib.hid (And.intro hnext hbR4)
        clear hnext hbR4 hbR3 hbx3 hT3 hI3 hK3 hT2 hK2 hR h3 hb3 hbx2 hbR2 hB2 hI2 hT hI hK hbx hbR x0 x1 x2 x3 x4 xf xl
        unfold treeV
        go_wp2
        go_roundg k
        case measure => omega
        case rel => exact HN.out
      · have hp : pProd ex l.tail = .fail l3 := PR.bind_inv_fail (f := fun b r => (opT (tx l) t b, r)) hR
        have eF : pSum ex l0 = .fail l3 := by have := HF.out; rw [hp, PR.bind_fail] at this; exact this.symm
        have EF := Lib.hid eF
        clear eF hp hR h3 hbx2 hbR2 hbx hbR x0 x1 x2 x3 x4 xf xl
        unfold wrongP
        go_wp2
        exact ⟨rfl, .fail EF.out (keep1 hK2 hK3)⟩
    · have s1' : isW l ⟨#[43]⟩ = false := by simpa using s1
      have S1 := Lib.hid s1'
      clear s1
      rw [s1', Bool.false_or] at hF
      clear s1'
      by_cases s2 : isW l ⟨#[45]⟩ = true
      · have S2 := Lib.hid s2
        rw [if_pos s2] at hF
        have HF := Lib.hid hF
        have ht := isW_tail s2
        clear s2 hF
        go_wp2_with fail
        refine (is_calls g l en _ w0 wr hI).mono ?_
        rintro e w2' ⟨rfl, hI2', hB2'⟩
        rw [S1.out]
        go_wp2_with fail
        refine (is_calls g l en _ w0 w2' hI2').mono ?_
        rintro e w2 ⟨rfl, hI2, hB2''⟩
        rw [S2.out]
        have hB2 := below_step hB2' hB2''
        clear hB2' hB2'' hI2'
        have hbx2 := blk_below hbx hB2
        have hbR2 := blk_below hbR hB2
        obtain ⟨x0, x1, x2, x3, x4, xf, xl⟩ := open5 hbx2
        go_wp2_with fail
        have hK2 := keepB hK hB2
        have hT2 : TAt w2 (Ex (w.heap.size + 1) w2.heap.size w1.heap.size) t A c := (hT.below hB2).mono (fun k h => ⟨h.1, Nat.lt_of_lt_of_le h.2.1 hB2.size, h.2.2⟩)
        refine (op_product n (pProd ex) hprod w0 w2 g en l t A c (w.heap.size + 1) w1.heap.size (by omega) hI2 hT2 (by omega) (by have := blk_lt hbx2; omega) (blk_lt hbx2)).mono ?_
        intro e w3 h3
        rcases h3.any with ⟨t3, l3, A3, c3, hR, rfl, hT3, hI3, hK3⟩ | ⟨l3, hR, rfl, hK3⟩
        · obtain ⟨b3, l3', hb3, h3e⟩ := PR.bind_inv hR
          have hsh := sh_prod hex _ _ _ hb3
          cases h3e
          have hbx3 := hK3.blk hbx2 (by omega) (by simp)
          have hbR3 := hK3.blk hbR2 (by omega) (by simp)
          have hnext := OpsAt.next (F := pOps (pProd ex) ⟨#[43]⟩ ⟨#[45]⟩) (fin := pSum ex l0) (n := n) (m := k) (by have := HF.out; rw [hb3, PR.bind_ok] at this; exact this) (by omega) (by omega) hbx3 hT3 hI3 (keep1 hK2 hK3) (Nat.le_of_lt hx) hw hgw
          obtain ⟨z0, z1, z2, z3, z4, zf, zl⟩ := open5 hbx3
          have hbR4 : (((((w3.setCell ⟨w1.heap.size, 0, none⟩ (.int .i64 (opT (tx l) t b3).f0)).setCell ⟨w1.heap.size, 1, none⟩ (.string (opT (tx l) t b3).f1)).setCell ⟨w1.heap.size, 2, none⟩ (.int .i64 (opT (tx l) t b3).f2)).setCell ⟨w1.heap.size, 3, none⟩ (.int .i64 (opT (tx l) t b3).f3)).setCell ⟨w1.heap.size, 4, none⟩ (.slice A3 (opT (tx l) t b3).f4.length c3)).heap[w.heap.size]? = _ := blk_far (blk_far (blk_far (blk_far (blk_far hbR3 (by simp; omega) _) (by simp; omega) _) (by simp; omega) _) (by simp; omega) _) (by simp; omega) _
          have HN := Lib.hid (And.intro hnext hbR4)
          clear hnext hbR4 hbR3 hbx3 hT3 hI3 hK3 hT2 hK2 hR h3 hb3 hbx2 hbR2 hB2 hI2 hT hI hK hbx hbR x0 x1 x2 x3 x4 xf xl
          unfold treeV
          go_wp2
          go_roundg k
          case measure => omega
          case rel => exact HN.out
        · have hp : pProd ex l.tail = .fail l3 := PR.bind_inv_fail (f := fun b r => (opT (tx l) t b, r)) hR
          have eF : pSum ex l0 = .fail l3 := by have := HF.out; rw [hp, PR.bind_fail] at this; exact this.symm
          have EF := Lib.hid eF
          clear eF hp hR h3 hbx2 hbR2 hbx hbR x0 x1 x2 x3 x4 xf xl
          unfold wrongP
          go_wp2
          exact ⟨rfl, .fail EF.out (keep1 hK2 hK3)⟩
      · rw [if_neg s2] at hF
        have S2 := Lib.hid (show isW l ⟨#[45]⟩ = false by simpa using s2)
        have HF := Lib.hid hF
        clear s2 hF
        go_wp2_with fail
        refine (is_calls g l en _ w0 wr hI).mono ?_
        rintro e w2' ⟨rfl, hI2', hB2'⟩
        rw [S1.out]
        go_wp2_with fail
        refine (is_calls g l en _ w0 w2' hI2').mono ?_
        rintro e w2 ⟨rfl, hI2, hB2''⟩
        rw [S2.out]
        have hB2 := below_step hB2' hB2''
        have hbx2 := blk_below hbx hB2
        have hbR2 := blk_below hbR hB2
        obtain ⟨x0, x1, x2, x3, x4, xf, xl⟩ := open5 hbx2
        obtain ⟨y0, y1, y2, y3, y4, yf, yl⟩ := open5 hbR2
        have hP := close_copy (w := w) (w0 := w0) (hT.below hB2) hI2 (keepB hK hB2) hbR2 (Nat.le_refl _) hw hgw (fun k h => Nat.le_of_succ_le h.1) (fun k h => Nat.lt_of_lt_of_le h.2.1 hB2.size) (fun h => by have := h.1; omega)
        have HP := Lib.hid hP
        clear hP hB2' hB2'' hI2' hbx2 hbR2 hbx hbR hT hI hK hB2 hI2
        go_wp2
        exact bodyPost_ret (results_cell_row rfl _ _ w.heap.size 25 _ (0, 0) _ rfl HP.out.1 Tryz.underlying25 rfl (by kernel_rfl)) rfl (by rw [← HF.out]; exact HP.out.2)

set_option maxRecDepth 100000 in
set_option maxHeartbeats 2000000 in
theorem compare_calls (ex : List Tok → PR) (n : Nat) (hex : Sh ex) (hsum : CP 66 (pSum ex) n) : CP 47 (pCmp ex) n := by
  intro w0 w g en l0 hl hI
  obtain ⟨hgw, hw⟩ := hI.lt
  go_enter Tryz.func47, Tryz.ntmps47
  go_wp2_with fail
  refine (hsum w0 _ g en l0 hl (hI.alloc _)).mono ?_
  intro e w1 h1
  rcases h1.any with ⟨t, l, A, c, hR, rfl, hT, hI1, hK1⟩ | ⟨l1, hR, rfl, hK1⟩
  case inr =>
    have HR := Lib.hid hR
    clear hR h1
    unfold wrongP
    go_wp2
    exact ⟨rfl, .fail (by rw [pCmp, HR.out, PR.bind_fail]) (keep1 (k0 w g _) hK1)⟩
  have hs1 := sh_sum hex _ _ _ hR
  have hF : pCmp ex l0 = if isW l ⟨#[60]⟩ || isW l ⟨#[61, 61]⟩ then (pSum ex l.tail).bind fun b r => .ok (opT (tx l) t b) r else .ok t l := by rw [pCmp, hR, PR.bind_ok]
  have hb1 := keepNew hK1 hgw
  have hKK1 := keep1 (k0 w g _) hK1
  have HFF := Lib.hid hF
  clear hR h1 hF
  unfold treeV
  go_wp2_with fail
  have hx : w.heap.size < w1.heap.size := blk_lt hb1
  have hbx := blk_new w1 (.cells #[.int .i64 t.f0, .string t.f1, .int .i64 t.f2, .int .i64 t.f3, .slice A t.f4.length c] 25)
  have hbR := blk_alloc hb1 (.cells #[.int .i64 t.f0, .string t.f1, .int .i64 t.f2, .int .i64 t.f3, .slice A t.f4.length c] 25)
  have hT' : TAt (w1.alloc (.cells #[.int .i64 t.f0, .string t.f1, .int .i64 t.f2, .int .i64 t.f3, .slice A t.f4.length c] 25)) (Ex (w.heap.size + 1) (w1.heap.size + 1) w1.heap.size) t A c := (hT.below (below_alloc (Below.refl _ _) _)).mono (fun k h => ⟨by have := h.1; simp at this; omega, by have := h.2; omega, by have := h.2; omega⟩)
  have hI' := hI1.alloc (.cells #[.int .i64 t.f0, .string t.f1, .int .i64 t.f2, .int .i64 t.f3, .slice A t.f4.length c] 25)
  have hK' := kpAlloc hKK1 (.cells #[.int .i64 t.f0, .string t.f1, .int .i64 t.f2, .int .i64 t.f3, .slice A t.f4.length c] 25)
  have hz : (w1.alloc (.cells #[.int .i64 t.f0, .string t.f1, .int .i64 t.f2, .int .i64 t.f3, .slice A t.f4.length c] 25)).heap.size = w1.heap.size + 1 := by simp
  clear hT hI1 hK1 hKK1 hb1
  have HX := Lib.hid (And.intro hbx (And.intro hbR (And.intro hT' (And.intro hI' hK'))))
  clear hbx hbR hT' hI' hK'
  generalize hW : (w1.alloc (.cells #[.int .i64 t.f0, .string t.f1, .int .i64 t.f2, .int .i64 t.f3, .slice A t.f4.length c] 25)) = wr at HX hz ⊢
  clear hW
  obtain ⟨hbx, hbR, hT, hI, hK⟩ := HX.out
  clear HX
  rw [← hz] at hT
  clear hz
  have hF := HFF.out
  clear HFF
  by_cases s1 : isW l ⟨#[60]⟩ = true
  · have S1 := Lib.hid s1
    rw [s1, Bool.true_or, if_pos rfl] at hF
    have HF := Lib.hid hF
    have ht := isW_tail s1
    clear s1 hF
    go_wp2_with fail
    refine (is_calls g l en _ w0 wr hI).mono ?_
    rintro e w2 ⟨rfl, hI2, hB2⟩
    rw [S1.out]
    have hbx2 := blk_below hbx hB2
    have hbR2 := blk_below hbR hB2
    obtain ⟨x0, x1, x2, x3, x4, xf, xl⟩ := open5 hbx2
    go_wp2_with fail
    have hK2 := keepB hK hB2
    have hT2 : TAt w2 (Ex (w.heap.size + 1) w2.heap.size w1.heap.size) t A c := (hT.below hB2).mono (fun k h => ⟨h.1, Nat.lt_of_lt_of_le h.2.1 hB2.size, h.2.2⟩)
    refine (op_sum n (pSum ex) hsum w0 w2 g en l t A c (w.heap.size + 1) w1.heap.size (by omega) hI2 hT2 (by omega) (by have := blk_lt hbx2; omega) (blk_lt hbx2)).mono ?_
    intro e w3 h3
    rcases h3.any with ⟨t3, l3, A3, c3, hR, rfl, hT3, hI3, hK3⟩ | ⟨l3, hR, rfl, hK3⟩
    · have hbR3 := hK3.blk hbR2 (by omega) (by simp)
      obtain ⟨y0, y1, y2, y3, y4, yf, yl⟩ := open5 hbR3
      have hP := close_copy (w := w) (w0 := w0) hT3 hI3 (keep1 hK2 hK3) hbR3 (Nat.le_refl _) hw hgw (fun k h => Nat.le_of_succ_le h.1) (fun k h => h.2.1) (fun h => by have := h.1; omega)
      have HP := Lib.hid hP
      have HR := Lib.hid hR
      clear hP hbR3 hT3 hI3 hK3 hR h3 hT2 hK2 hbx2 hbR2 hbx hbR hT hI hK hB2 hI2 x0 x1 x2 x3 x4 xf xl hsum
      unfold treeV
      go_wp2
      exact bodyPost_ret (results_cell_row rfl _ _ w.heap.size 25 _ (0, 0) _ rfl HP.out.1 Tryz.underlying25 rfl (by kernel_rfl)) rfl (by rw [HF.out, HR.out]; exact HP.out.2)
    · have HR := Lib.hid hR
      clear hR h3 hbx2 hbR2 hbx hbR x0 x1 x2 x3 x4 xf xl
      unfold wrongP
      go_wp2
      exact ⟨rfl, .fail (by rw [HF.out, HR.out]) (keep1 hK2 hK3)⟩
  · have s1' : isW l ⟨#[60]⟩ = false := by simpa using s1
    have S1 := Lib.hid s1'
    clear s1
    rw [s1', Bool.false_or] at hF
    clear s1'
    by_cases s2 : isW l ⟨#[61, 61]⟩ = true
    · have S2 := Lib.hid s2
      rw [if_pos s2] at hF
      have HF := Lib.hid hF
      have ht := isW_tail s2
      clear s2 hF
      go_wp2_with fail
      refine (is_calls g l en _ w0 wr hI).mono ?_
      rintro e w2' ⟨rfl, hI2', hB2'⟩
      rw [S1.out]
      go_wp2_with fail
      refine (is_calls g l en _ w0 w2' hI2').mono ?_
      rintro e w2 ⟨rfl, hI2, hB2''⟩
      rw [S2.out]
      have hB2 := below_step hB2' hB2''
      clear hB2' hB2'' hI2'
      have hbx2 := blk_below hbx hB2
      have hbR2 := blk_below hbR hB2
      obtain ⟨x0, x1, x2, x3, x4, xf, xl⟩ := open5 hbx2
      go_wp2_with fail
      have hK2 := keepB hK hB2
      have hT2 : TAt w2 (Ex (w.heap.size + 1) w2.heap.size w1.heap.size) t A c := (hT.below hB2).mono (fun k h => ⟨h.1, Nat.lt_of_lt_of_le h.2.1 hB2.size, h.2.2⟩)
      refine (op_sum n (pSum ex) hsum w0 w2 g en l t A c (w.heap.size + 1) w1.heap.size (by omega) hI2 hT2 (by omega) (by have := blk_lt hbx2; omega) (blk_lt hbx2)).mono ?_
      intro e w3 h3
      rcases h3.any with ⟨t3, l3, A3, c3, hR, rfl, hT3, hI3, hK3⟩ | ⟨l3, hR, rfl, hK3⟩
      · have hbR3 := hK3.blk hbR2 (by omega) (by simp)
        obtain ⟨y0, y1, y2, y3, y4, yf, yl⟩ := open5 hbR3
        have hP := close_copy (w := w) (w0 := w0) hT3 hI3 (keep1 hK2 hK3) hbR3 (Nat.le_refl _) hw hgw (fun k h => Nat.le_of_succ_le h.1) (fun k h => h.2.1) (fun h => by have := h.1; omega)
        have HP := Lib.hid hP
        have HR := Lib.hid hR
        clear hP hbR3 hT3 hI3 hK3 hR h3 hT2 hK2 hbx2 hbR2 hbx hbR hT hI hK hB2 hI2 x0 x1 x2 x3 x4 xf xl hsum
        unfold treeV
        go_wp2
        exact bodyPost_ret (results_cell_row rfl _ _ w.heap.size 25 _ (0, 0) _ rfl HP.out.1 Tryz.underlying25 rfl (by kernel_rfl)) rfl (by rw [HF.out, HR.out]; exact HP.out.2)
      · have HR := Lib.hid hR
        clear hR h3 hbx2 hbR2 hbx hbR x0 x1 x2 x3 x4 xf xl
        unfold wrongP
        go_wp2
        exact ⟨rfl, .fail (by rw [HF.out, HR.out]) (keep1 hK2 hK3)⟩
    · rw [if_neg s2] at hF
      have S2 := Lib.hid (show isW l ⟨#[61, 61]⟩ = false by simpa using s2)
      have HF := Lib.hid hF
      clear s2 hF
      go_wp2_with fail
      refine (is_calls g l en _ w0 wr hI).mono ?_
      rintro e w2' ⟨rfl, hI2', hB2'⟩
      rw [S1.out]
      go_wp2_with fail
      refine (is_calls g l en _ w0 w2' hI2').mono ?_
      rintro e w2 ⟨rfl, hI2, hB2''⟩
      rw [S2.out]
      have hB2 := below_step hB2' hB2''
      have hbx2 := blk_below hbx hB2
      have hbR2 := blk_below hbR hB2
      obtain ⟨x0, x1, x2, x3, x4, xf, xl⟩ := open5 hbx2
      obtain ⟨y0, y1, y2, y3, y4, yf, yl⟩ := open5 hbR2
      have hP := close_copy (w := w) (w0 := w0) (hT.below hB2) hI2 (keepB hK hB2) hbR2 (Nat.le_refl _) hw hgw (fun k h => Nat.le_of_succ_le h.1) (fun k h => Nat.lt_of_lt_of_le h.2.1 hB2.size) (fun h => by have := h.1; omega)
      have HP := Lib.hid hP
      clear hP hB2' hB2'' hI2' hbx2 hbR2 hbx hbR hT hI hK hB2 hI2
      go_wp2
      exact bodyPost_ret (results_cell_row rfl _ _ w.heap.size 25 _ (0, 0) _ rfl HP.out.1 Tryz.underlying25 rfl (by kernel_rfl)) rfl (by rw [HF.out]; exact HP.out.2)
end Go.Proofs.YtajcnjdinmgpjaaGreatDoor.X
/- The walks of the reader: atoms. -/
namespace Go.Proofs.YtajcnjdinmgpjaaGreatDoor.X
open Go.RowKit Go.Proofs.YtajcnjdinmgpjaaGreatDoorW.PrintWords Go.Proofs.YtajcnjdinmgpjaaGreatDoorW.PrintLast Go.Proofs.YtajcnjdinmgpjaaGreatDoorW.PrintMore Go.Proofs.YtajcnjdinmgpjaaGreatDoor.P
attribute [local go_sem] fldTok0 fldTok1 fldTok3

theorem pAtom_in {ex : List Tok → PR} {l : List Tok} (h : isW l ⟨#[40]⟩ = true) : pAtom ex l = (ex l.tail).bind fun t l' => word ⟨#[41]⟩ l' fun r => .ok t r := by unfold pAtom; rw [if_pos h]
theorem pAtom_var {ex : List Tok → PR} {l : List Tok} (h : isW l ⟨#[40]⟩ = false) (k : kd l = 1) : pAtom ex l = .ok ⟨1, (hd l 0).f1, 0, (hd l 0).f3, []⟩ l.tail := by
  unfold pAtom; rw [h]
  cases l with
  | nil => simp [kd] at k
  | cons x r => simp [kd] at k; simp [k, hd]
theorem pAtom_con {ex : List Tok → PR} {l : List Tok} (h : isW l ⟨#[40]⟩ = false) (k : kd l = 2) : pAtom ex l = .ok ⟨6, (hd l 0).f1, 0, (hd l 0).f3, []⟩ l.tail := by
  unfold pAtom; rw [h]
  cases l with
  | nil => simp [kd] at k
  | cons x r => simp [kd] at k; simp [k, hd]
theorem pAtom_int {ex : List Tok → PR} {l : List Tok} (h : isW l ⟨#[40]⟩ = false) (k : kd l = 3) : pAtom ex l = .ok ⟨9, ⟨#[]⟩, (hd l 0).f2, (hd l 0).f3, []⟩ l.tail := by
  unfold pAtom; rw [h]
  cases l with
  | nil => simp [kd] at k
  | cons x r => simp [kd] at k; simp [k, hd]
theorem pAtom_no {ex : List Tok → PR} {l : List Tok} (h : atomB l = false) : pAtom ex l = .fail l := by
  unfold atomB at h
  simp only [Bool.or_eq_false_iff] at h
  unfold pAtom; rw [h.1]
  cases l with
  | nil => rfl
  | cons x r =>
    obtain ⟨_, ⟨h1, h2⟩, h3⟩ := h
    simp only [kd, beq_eq_false_iff_ne] at h1 h2 h3
    simp [h1, h2, h3]

/-- A leaf is stored into the result's block. -/
theorem close_leaf {w0 w w2 : World} {g R : Nat} {en : Int} {l : List Tok} {v0 v1 v2 v3 v4 : Value} (a : Int) (b : ByteArray) (n d : Int) (hI : Rdr w0 w2 g l en) (hK : Kp w w2 g none)
    (hb : w2.heap[R]? = some (.cells #[v0, v1, v2, v3, v4] 25 (0, 0))) (hwR : w.heap.size ≤ R) (hw : w0.heap.size ≤ w.heap.size) (hgw : g < w.heap.size) :
    let W := (((((w2.setCell ⟨R, 0, none⟩ (.int .i64 a)).setCell ⟨R, 1, none⟩ (.string b)).setCell ⟨R, 2, none⟩ (.int .i64 n)).setCell ⟨R, 3, none⟩ (.int .i64 d)).setCell ⟨R, 4, none⟩ (.slice none 0 0))
    W.heap[R]? = some (.cells #[.int .i64 a, .string b, .int .i64 n, .int .i64 d, .slice none 0 0] 25 (0, 0)) ∧ PRel w0 w g en (.ok ⟨a, b, n, d, []⟩ l) (.returned (.agg #[.int .i64 a, .string b, .int .i64 n, .int .i64 d, .slice none 0 0])) W :=
  close_copy (t := ⟨a, b, n, d, []⟩) (ok := fun _ => False) (TAt.nil w2 _ a b n d) hI hK hb hwR hw hgw (fun _ h => h.elim) (fun _ h => h.elim) (fun h => h)

theorem PRel.below {w0 w w1 w2 : World} {g : Nat} {en : Int} {R : PR} {e : Ending} (h : PRel w0 w g en R e w1) (hb : Below w1.heap.size w1 w2) : PRel w0 w g en R e w2 := by
  cases R with
  | ok t l =>
    obtain ⟨A, c, h1, h2, h3, h4⟩ := h
    exact ⟨A, c, h1, (h2.below hb).iv (Nat.le_refl _) hb.size, h3.below hb, keepB h4 hb⟩
  | fail l => exact ⟨h.1, keepB h.2 hb⟩
theorem PRel.alloc {w0 w w1 : World} {g : Nat} {en : Int} {R : PR} {e : Ending} (h : PRel w0 w g en R e w1) (o : Obj) : PRel w0 w g en R e (w1.alloc o) := h.below (below_alloc (Below.refl _ _) _)

set_option maxRecDepth 100000 in
set_option maxHeartbeats 2000000 in
theorem atom_calls (m n : Nat) (hex : CP 25 (pExpr m) n) : CP 90 (pAtom (pExpr m)) (n + 1) := by
  intro w0 w g en l hl hI
  obtain ⟨hgw, hw⟩ := hI.lt
  by_cases s1 : isW l ⟨#[40]⟩ = true
  · have ht := isW_tail s1
    have S1 := Lib.hid s1
    clear s1
    go_enter Tryz.func90, Tryz.ntmps90
    go_wp2_with fail
    refine (is_calls g l en _ w0 _ (hI.alloc _)).mono ?_
    rintro e w1 ⟨rfl, hI1, hB1⟩
    rw [S1.out]
    have hb1 := belowNew hB1
    have hK1 := keepB (k0 w g _) hB1
    go_wp2_with fail
    refine (take_calls g l en w0 _ hI1).mono ?_
    rintro e w2 ⟨rfl, hI2, hK2⟩
    have hb2 := hK2.blk hb1 (by omega) (by simp)
    have hKK2 := keep1 hK1 hK2
    unfold tokV
    go_wp2_with fail
    refine (hex w0 w2 g en l.tail (by omega) hI2).mono ?_
    intro e w3 h3
    rcases h3.any with ⟨t, l3, A, c, hR, rfl, hT, hI3, hK3⟩ | ⟨l3, hR, rfl, hK3⟩
    case inr =>
      have HR := Lib.hid hR
      clear hR h3
      unfold wrongP
      go_wp2
      exact ⟨rfl, .fail (by rw [pAtom_in S1.out, HR.out, PR.bind_fail]) (keep1 hKK2 hK3)⟩
    have HR := Lib.hid hR
    have hb3 := hK3.blk hb2 (by omega) (by simp)
    have hKK3 := keep1 hKK2 hK3
    have s2 : w.heap.size < w2.heap.size := blk_lt hb2
    clear hR h3 hb1 hb2
    unfold treeV
    go_wp2_with fail
    refine (word_any g l3 en _ w0 _ (hI3.alloc _)).mono ?_
    rintro e w4 (⟨h4, rfl, hI4, hK4⟩ | ⟨h4, rfl, hK4⟩)
    case inr =>
      have H4 := Lib.hid h4
      clear h4
      unfold wrongP
      go_wp2
      exact ⟨rfl, .fail (by rw [pAtom_in S1.out, HR.out, PR.bind_ok, word_neg H4.out]) (keep1 (kpAlloc hKK3 _) hK4)⟩
    have H4 := Lib.hid h4
    have hb4 := hK4.blk (blk_alloc hb3 _) (by omega) (by simp)
    have hx4 := keepNew hK4 hI3.lt.1
    have s3 : w2.heap.size ≤ w3.heap.size := hK3.1
    have s4 : w3.heap.size + 1 ≤ w4.heap.size := by have := hK4.1; simpa using this
    have g2 : g < w2.heap.size := hI2.lt.1
    have hT4 : TAt w4 (Iv w2.heap.size w3.heap.size) t A c := (hT.below (below_alloc (Below.refl _ _) _)).keepI hK4 g2
    obtain ⟨x0, x1, x2, x3, x4, xf, xl⟩ := open5 hx4
    obtain ⟨y0, y1, y2, y3, y4, yf, yl⟩ := open5 hb4
    have hP := close_copy (w := w) (w0 := w0) hT4 hI4 (keep1 (kpAlloc hKK3 _) hK4) hb4 (Nat.le_refl _) hw hgw (fun k h => by have := h.1; omega) (fun k h => by have := h.2; omega) (fun h => by have := h.1; omega)
    have HP := Lib.hid hP
    clear hP h4 hb3 hb4 hx4 hT4 hT hI4 hK4 hI3 hK3 hKK3 hI2 hK2 hKK2 hI1 hK1 hB1 hI hex
    unfold tokV
    go_wp2
    exact bodyPost_ret (results_cell_row rfl _ _ w.heap.size 25 _ (0, 0) _ rfl HP.out.1 Tryz.underlying25 rfl (by kernel_rfl)) rfl (by rw [pAtom_in S1.out, HR.out, PR.bind_ok, word_pos H4.out]; exact HP.out.2)
  · have s1' : isW l ⟨#[40]⟩ = false := by simpa using s1
    have S1 := Lib.hid s1'
    clear s1
    by_cases s2 : atomB l = true
    · have S2 := Lib.hid s2
      have hlen : 0 < l.length := by
        cases l with
        | nil => simp [atomB, isW, kd] at s2
        | cons x r => simp
      have e1 := hd_en en hlen
      have E1 := Lib.hid e1
      have hk : kd l = 1 ∨ kd l = 2 ∨ kd l = 3 := by
        unfold atomB at s2
        rw [s1', Bool.false_or] at s2
        simpa [or_assoc] using s2
      clear s2 s1' e1
      rcases hk with k | k | k
      · have K := Lib.hid ((hd_kd l en).trans k)
        have EQ := Lib.hid (pAtom_var (ex := pExpr m) S1.out k)
        clear k
        go_enter Tryz.func90, Tryz.ntmps90
        go_wp2_with fail
        refine (is_calls g l en _ w0 _ (hI.alloc _)).mono ?_
        rintro e w1 ⟨rfl, hI1, hB1⟩
        rw [S1.out]
        have hb1 := belowNew hB1
        go_wp2_with fail
        refine (atomic_calls g l en w0 _ hI1).mono ?_
        rintro e w2 ⟨rfl, hI2, hB2⟩
        rw [S2.out]
        have hb2 := blk_below hb1 hB2
        go_wp2_with fail
        refine (must_yes g w2).mono ?_
        rintro e w' ⟨rfl, rfl⟩
        go_wp2_with fail
        refine (take_calls g l en w0 _ hI2).mono ?_
        rintro e w3 ⟨rfl, hI3, hK3⟩
        have hb3 := hK3.blk hb2 (by omega) (by simp)
        have hP := close_leaf (w := w) (w0 := w0) 1 (hd l en).f1 0 (hd l en).f3 hI3 (keep1 (keepB (keepB (k0 w g _) hB1) hB2) hK3) hb3 (Nat.le_refl _) hw hgw
        have HP := Lib.hid hP
        obtain ⟨y0, y1, y2, y3, y4, yf, yl⟩ := open5 hb3
        clear hP hb1 hb2 hb3 hI1 hI2 hI3 hB1 hB2 hK3 hI hex
        unfold tokV
        rw [K.out]
        go_wp2
        refine bodyPost_ret (results_cell_row rfl _ _ w.heap.size 25 #[.int .i64 1, .string (hd l en).f1, .int .i64 0, .int .i64 (hd l en).f3, .slice none 0 0] (0, 0) _ rfl (blk_alloc HP.out.1 _) Tryz.underlying25 rfl (by kernel_rfl)) rfl ?_
        rw [EQ.out, ← E1.out]
        exact HP.out.2.alloc _
      · have K := Lib.hid ((hd_kd l en).trans k)
        have EQ := Lib.hid (pAtom_con (ex := pExpr m) S1.out k)
        clear k
        go_enter Tryz.func90, Tryz.ntmps90
        go_wp2_with fail
        refine (is_calls g l en _ w0 _ (hI.alloc _)).mono ?_
        rintro e w1 ⟨rfl, hI1, hB1⟩
        rw [S1.out]
        have hb1 := belowNew hB1
        go_wp2_with fail
        refine (atomic_calls g l en w0 _ hI1).mono ?_
        rintro e w2 ⟨rfl, hI2, hB2⟩
        rw [S2.out]
        have hb2 := blk_below hb1 hB2
        go_wp2_with fail
        refine (must_yes g w2).mono ?_
        rintro e w' ⟨rfl, rfl⟩
        go_wp2_with fail
        refine (take_calls g l en w0 _ hI2).mono ?_
        rintro e w3 ⟨rfl, hI3, hK3⟩
        have hb3 := hK3.blk hb2 (by omega) (by simp)
        have hP := close_leaf (w := w) (w0 := w0) 6 (hd l en).f1 0 (hd l en).f3 hI3 (keep1 (keepB (keepB (k0 w g _) hB1) hB2) hK3) hb3 (Nat.le_refl _) hw hgw
        have HP := Lib.hid hP
        obtain ⟨y0, y1, y2, y3, y4, yf, yl⟩ := open5 hb3
        clear hP hb1 hb2 hb3 hI1 hI2 hI3 hB1 hB2 hK3 hI hex
        unfold tokV
        rw [K.out]
        go_wp2
        refine bodyPost_ret (results_cell_row rfl _ _ w.heap.size 25 #[.int .i64 6, .string (hd l en).f1, .int .i64 0, .int .i64 (hd l en).f3, .slice none 0 0] (0, 0) _ rfl (blk_alloc HP.out.1 _) Tryz.underlying25 rfl (by kernel_rfl)) rfl ?_
        rw [EQ.out, ← E1.out]
        exact HP.out.2.alloc _
      · have K := Lib.hid ((hd_kd l en).trans k)
        have EQ := Lib.hid (pAtom_int (ex := pExpr m) S1.out k)
        clear k
        go_enter Tryz.func90, Tryz.ntmps90
        go_wp2_with fail
        refine (is_calls g l en _ w0 _ (hI.alloc _)).mono ?_
        rintro e w1 ⟨rfl, hI1, hB1⟩
        rw [S1.out]
        have hb1 := belowNew hB1
        go_wp2_with fail
        refine (atomic_calls g l en w0 _ hI1).mono ?_
        rintro e w2 ⟨rfl, hI2, hB2⟩
        rw [S2.out]
        have hb2 := blk_below hb1 hB2
        go_wp2_with fail
        refine (must_yes g w2).mono ?_
        rintro e w' ⟨rfl, rfl⟩
        go_wp2_with fail
        refine (take_calls g l en w0 _ hI2).mono ?_
        rintro e w3 ⟨rfl, hI3, hK3⟩
        have hb3 := hK3.blk hb2 (by omega) (by simp)
        have hP := close_leaf (w := w) (w0 := w0) 9 ⟨#[]⟩ (hd l en).f2 (hd l en).f3 hI3 (keep1 (keepB (keepB (k0 w g _) hB1) hB2) hK3) hb3 (Nat.le_refl _) hw hgw
        have HP := Lib.hid hP
        obtain ⟨y0, y1, y2, y3, y4, yf, yl⟩ := open5 hb3
        clear hP hb1 hb2 hb3 hI1 hI2 hI3 hB1 hB2 hK3 hI hex
        unfold tokV
        rw [K.out]
        go_wp2
        refine bodyPost_ret (results_cell_row rfl _ _ w.heap.size 25 #[.int .i64 9, .string ⟨#[]⟩, .int .i64 (hd l en).f2, .int .i64 (hd l en).f3, .slice none 0 0] (0, 0) _ rfl (blk_alloc HP.out.1 _) Tryz.underlying25 rfl (by kernel_rfl)) rfl ?_
        rw [EQ.out, ← E1.out]
        exact HP.out.2.alloc _
    · have S2 := Lib.hid (show atomB l = false by simpa using s2)
      clear s1' s2
      go_enter Tryz.func90, Tryz.ntmps90
      go_wp2_with fail
      refine (is_calls g l en _ w0 _ (hI.alloc _)).mono ?_
      rintro e w1 ⟨rfl, hI1, hB1⟩
      rw [S1.out]
      go_wp2_with fail
      refine (atomic_calls g l en w0 _ hI1).mono ?_
      rintro e w2 ⟨rfl, hI2, hB2⟩
      rw [S2.out]
      go_wp2_with fail
      refine (must_no g l en w0 _ hI2).mono ?_
      rintro e w3 ⟨rfl, hB3⟩
      unfold wrongP
      go_wp2
      exact ⟨rfl, .fail (pAtom_no S2.out) (keepB (keepB (keepB (k0 w g _) hB1) hB2) hB3)⟩
end Go.Proofs.YtajcnjdinmgpjaaGreatDoor.X
/- The walks of the reader: what is applied. -/
namespace Go.Proofs.YtajcnjdinmgpjaaGreatDoor.X
open Go.RowKit Go.Proofs.YtajcnjdinmgpjaaGreatDoorW.PrintWords Go.Proofs.YtajcnjdinmgpjaaGreatDoorW.PrintLast Go.Proofs.YtajcnjdinmgpjaaGreatDoorW.PrintMore Go.Proofs.YtajcnjdinmgpjaaGreatDoor.P
attribute [local go_sem] fldTok0 fldTok1 fldTok3

set_option maxRecDepth 100000 in
set_option maxHeartbeats 2000000 in
theorem app_fun (ex : List Tok → PR) (n : Nat) (hex : Sh ex) (hatom : CP 90 (pAtom ex) n) (w0 w : World) (g : Nat) (en : Int) (l0 : List Tok) (hl : l0.length < n) (hI : Rdr w0 w g l0 en) (hc : ¬ kd l0 = 2) :
    Calls Tryz.prog 84 #[.pointer (some ⟨g, 0, none⟩)] w (PRel w0 w g en (pApp ex l0)) := by
  obtain ⟨hgw, hw⟩ := hI.lt
  have c1 : ((hd l0 en).f0 == 2) = false := by rw [hd_kd]; simpa using hc
  have C1 := Lib.hid c1
  have C2 := Lib.hid (show (kd l0 == 2) = false by simpa using hc)
  clear c1 hc
  go_enter Tryz.func84, Tryz.ntmps84
  go_wp2_with fail
  refine (next_calls g l0 en w0 _ (hI.alloc _)).mono ?_
  rintro e w1 ⟨rfl, hI1, hB1⟩
  have hb1 := belowNew hB1
  have hK1 := keepB (k0 w g _) hB1
  unfold tokV
  go_wp2_with fail
  rw [C1.out]
  refine (hatom w0 w1 g en l0 hl hI1).mono ?_
  intro e w2 h2
  rcases h2.any with ⟨t, l1, A, c, hR, rfl, hT, hI2, hK2⟩ | ⟨l1, hR, rfl, hK2⟩
  case inr =>
    have HR := Lib.hid hR
    clear hR h2
    unfold wrongP
    go_wp2
    exact ⟨rfl, .fail (by rw [pApp, HR.out, PR.bind_fail]) (keep1 hK1 hK2)⟩
  have hs1 := sh_atom hex _ _ _ hR
  have HR := Lib.hid hR
  have s1 : w.heap.size < w1.heap.size := blk_lt hb1
  have hb2 := hK2.blk hb1 (by omega) (by simp)
  have hKK2 := keep1 hK1 hK2
  clear hR h2
  unfold treeV
  go_wp2_with fail
  have hst : OpsAt (pArgs ex false) (pApp ex l0) w0 w g en w2.heap.size n (l1.length + 1) (w2.alloc (.cells #[.int .i64 t.f0, .string t.f1, .int .i64 t.f2, .int .i64 t.f3, .slice A t.f4.length c] 25)) :=
    ⟨t, l1, A, c, by rw [pApp, HR.out, PR.bind_ok, C2.out], by omega, by omega, blk_new _ _, (hT.below (below_alloc (Below.refl _ _) _)).mono (fun k h => ⟨by have := h.1; omega, by have := h.2; simp; omega, by have := h.2; omega⟩), hI2.alloc _, kpAlloc hKK2 _⟩
  have hbR := blk_alloc hb2 (.cells #[.int .i64 t.f0, .string t.f1, .int .i64 t.f2, .int .i64 t.f3, .slice A t.f4.length c] 25)
  have HS := Lib.hid (And.intro hst hbR)
  have hx : w.heap.size < w2.heap.size := blk_lt hb2
  clear hst hbR hb1 hb2 hT hI1 hI2 hB1 hK1 hK2 hKK2 hs1 s1
  go_loopg [] (l1.length + 1) (fun kq w' => OpsAt (pArgs ex false) (pApp ex l0) w0 w g en w2.heap.size n kq w' ∧ w'.heap[w.heap.size]? = some (.cells #[.int .i64 0, .string ⟨#[]⟩, .int .i64 0, .int .i64 0, .slice none 0 0] 25 (0, 0)))
  case atStart => exact HS.out
  case round =>
    obtain ⟨⟨t, l, A, c, hF, hlm, hln, hbx, hT, hI, hKl⟩, hbR⟩ := hrel
    clear HS
    obtain ⟨k, rfl⟩ : ∃ k, gk = k + 1 := ⟨gk - 1, by omega⟩
    unfold pArgs at hF
    by_cases s1 : atomB l = true
    · have S1 := Lib.hid s1
      rw [s1, if_pos rfl, if_neg (by simp)] at hF
      have HF := Lib.hid hF
      clear s1 hF
      go_wp2_with fail
      refine (atomic_calls g l en w0 wr hI).mono ?_
      rintro e w3 ⟨rfl, hI3, hB3⟩
      rw [S1.out]
      have hbx3 := blk_below hbx hB3
      have hbR3 := blk_below hbR hB3
      have hK3 := keepB hKl hB3
      have hT3 : TAt w3 (Ex (w.heap.size + 1) w3.heap.size w2.heap.size) t A c := (hT.below hB3).mono (fun k h => ⟨h.1, Nat.lt_of_lt_of_le h.2.1 hB3.size, h.2.2⟩)
      go_wp2_with fail
      have hs3 := blk_lt hbx3
      obtain ⟨x0, x1, x2, x3, x4, xf, xl⟩ := open5 hbx3
      refine start_ (n := 8) (S := fun w' => w'.cell? ⟨w2.heap.size, 3, none⟩ = some (.int .i64 t.f3) ∧ w'.cell? ⟨w2.heap.size, 0, none⟩ = some (.int .i64 t.f0) ∧ w'.cell? ⟨w2.heap.size, 1, none⟩ = some (.string t.f1) ∧ w'.cell? ⟨w2.heap.size, 2, none⟩ = some (.int .i64 t.f2) ∧ w'.cell? ⟨w2.heap.size, 4, none⟩ = some (.slice A t.f4.length c)) (ds := [7]) #[false, false, false, false, false, false, false, false] (by kernel_rfl) rfl rfl ⟨x3, x0, x1, x2, x4⟩ (fun hHeld => ?_)
      refine pure_ (i := 0) (N := (some 27)) (v := ?_) (a' := ?_) #[true, false, false, false, false, false, false, false] rfl rfl (by kernel_rfl) (fun _ _ _ h => h) (Or.inl ⟨by rfl, ?_⟩) ?_ ?_
      rotate_left
      · intro w'
        go_simp
        try with_reducible rfl
      rotate_left
      · simp only [Act.put, List.setIfInBounds_toArray, List.set_cons_zero, List.set_cons_succ]
        try rfl
      refine pure_ (i := 3) (N := (some 30)) (v := ?_) (a' := ?_) #[true, false, false, true, false, false, false, false] rfl rfl (by kernel_rfl) (fun _ _ _ h => h) (Or.inl ⟨by rfl, ?_⟩) ?_ ?_
      rotate_left
      · intro w'
        go_simp
        try with_reducible rfl
      rotate_left
      · simp only [Act.put, List.setIfInBounds_toArray, List.set_cons_zero, List.set_cons_succ]
        try rfl
      refine take_ (i := 1) (N := (some 28)) (v := ?_) (a' := ?_) #[true, true, false, true, false, false, false, false] rfl rfl (by kernel_rfl) (fun _ _ _ h => h) (Or.inl ⟨by rfl, ?_⟩) hHeld ?_ ?_
      rotate_left
      · rintro w' ⟨s0, s1, s2, s3, s4⟩
        go_simp
        try with_reducible rfl
      rotate_left
      · simp only [Act.put, List.setIfInBounds_toArray, List.set_cons_zero, List.set_cons_succ]
        try rfl
      refine take_ (i := 2) (N := (some 29)) (v := ?_) (a' := ?_) #[true, true, true, true, false, false, false, false] rfl rfl (by kernel_rfl) (fun _ _ _ h => h) (Or.inl ⟨by rfl, ?_⟩) hHeld ?_ ?_
      rotate_left
      · rintro w' ⟨s0, s1, s2, s3, s4⟩
        go_simp
        try with_reducible rfl
      rotate_left
      · simp only [Act.put, List.setIfInBounds_toArray, List.set_cons_zero, List.set_cons_succ]
        try rfl
      refine one_ (i := 4) (N := (some 31)) #[true, true, true, true, true, false, false, false] rfl rfl (by kernel_rfl) (by decide) (fun K hK => ?_)
      go_simp
      refine (hatom w0 _ g en l hln hI3.drew).mono ?_
      intro e w4 h4
      rcases h4.any with ⟨a, l4, A4, c4, hR, rfl, hTa, hI4, hK4⟩ | ⟨l4, hR, rfl, hK4⟩
      case inr =>
        have eF : pApp ex l0 = .fail l4 := by have := HF.out; rw [hR, PR.bind_fail] at this; exact this.symm
        unfold wrongP
        exact ⟨rfl, .fail eF (keep1 hK3 (keep1 (kpDrew (Kp.refl w3 g none)) hK4))⟩
      have hsh := sh_atom hex _ _ _ hR
      have hbx4 := keepD hK4 hbx3 (by omega)
      have hbR4 := keepD hK4 hbR3 (by omega)
      obtain ⟨z0, z1, z2, z3, z4, zf, zl⟩ := open5 hbx4
      unfold treeV
      refine hK _ _ ⟨z3, z0, z1, z2, z4⟩ ?_
      clear hK K
      intro hHeld_1
      refine one_ (i := 5) (N := (some 32)) #[true, true, true, true, true, true, false, false] rfl rfl (by kernel_rfl) (by decide) (fun K hK => ?_)
      go_simp
      refine hK _ _ (by go_keep) ?_
      clear hK K
      intro hHeld_2
      refine pure_ (i := 6) (N := (some 33)) (v := ?_) (a' := ?_) #[true, true, true, true, true, true, true, false] rfl rfl (by kernel_rfl) (fun _ _ _ h => h) (Or.inl ⟨by rfl, ?_⟩) ?_ ?_
      rotate_left
      · intro w'
        go_simp
        try with_reducible rfl
      rotate_left
      · simp only [Act.put, List.setIfInBounds_toArray, List.set_cons_zero, List.set_cons_succ]
        try rfl
      refine last_ (i := 7) (N := none) #[true, true, true, true, true, true, true, true] rfl rfl (by kernel_rfl) (by decide) (fun K hK => ?_)
      go_simp
      refine hK _ _ ?_
      clear hK K
      refine done_ (by kernel_rfl) ?_
      have hKw := keep1 hK3 (keep1 (kpDrew (Kp.refl w3 g none)) hK4)
      have s4 : w3.heap.size ≤ w4.heap.size := hK4.1
      have kg : ∀ k, Ex (w.heap.size + 1) w3.heap.size w2.heap.size k → k ≠ g := fun k h e => by have := h.1; omega
      have hTl : TAt w4 (Ex (w.heap.size + 1) w3.heap.size w2.heap.size) t A c := (hT3.below (below_drew (Below.refl _ _))).keep hK4 kg
      have hTa' : TAt w4 (Iv w3.heap.size w4.heap.size) a A4 c4 := hTa
      obtain ⟨q1, q2, q3, q4, q5⟩ := close_raw (w := w) (w4 := w4) (ps := [t, a]) (cs := cellsT t A c ++ cellsT a A4 c4) 3 ⟨#[]⟩ 0 t.f3 w4.heap.size rfl (Ex (w.heap.size + 1) (w4.heap.size + 1) w2.heap.size) (by simp) (by simp) hI4 hKw hbx4 (by omega) hw hgw ⟨by omega, by omega, by omega⟩
        (reps2 (((hTl.far5 (fun h => h.2.2 rfl)).below (below_alloc (Below.refl _ _) _)).mono (fun k h => ⟨h.1, by have := h.2.1; omega, h.2.2⟩)).FK rfl
          (((hTa'.far5 (fun h => by have := h.1; omega)).below (below_alloc (Below.refl _ _) _)).mono (fun k h => ⟨by have := h.1; omega, by have := h.2; omega, by have := h.1; omega⟩)).FK rfl)
      have eF : pArgs ex false k ⟨3, ⟨#[]⟩, 0, t.f3, [t, a]⟩ l4 = pApp ex l0 := by have := HF.out; rw [hR, PR.bind_ok] at this; exact this
      have hbR5 := blk_alloc (blk_far (blk_far (blk_far (blk_far (blk_far hbR4 (p := ⟨w2.heap.size, 0, none⟩) (by simp; omega) (.int .i64 3)) (p := ⟨w2.heap.size, 1, none⟩) (by simp; omega) (.string ⟨#[]⟩)) (p := ⟨w2.heap.size, 2, none⟩) (by simp; omega) (.int .i64 0)) (p := ⟨w2.heap.size, 3, none⟩) (by simp; omega) (.int .i64 t.f3)) (p := ⟨w2.heap.size, 4, none⟩) (by simp; omega) (.slice (some ⟨w4.heap.size, 0, none⟩) 2 2)) (.cells (cellsT t A c ++ cellsT a A4 c4).toArray 25)
      have hnext : OpsAt (pArgs ex false) (pApp ex l0) w0 w g en w2.heap.size n k _ := ⟨_, l4, _, _, eF, by omega, by omega, q1, by rw [q3]; exact q2, q4, q5⟩
      have HN := Lib.hid (And.intro hnext hbR5)
      clear hnext hbR5 q1 q2 q3 q4 q5 eF hTl hTa' hTa kg hKw hbR4 hbx4 hbR3 hbx3 hT3 hI4 hK4 hK3 hI3 hB3 hT hI hKl hbx hbR x0 x1 x2 x3 x4 xf xl z0 z1 z2 z3 z4 zf zl hHeld hHeld_1 hHeld_2 hs3 h4 hR
      go_wp2
      go_roundg k
      case measure => omega
      case rel => exact HN.out
    · rw [if_neg s1] at hF
      have S1 := Lib.hid (show atomB l = false by simpa using s1)
      have HF := Lib.hid hF
      clear s1 hF
      go_wp2_with fail
      refine (atomic_calls g l en w0 wr hI).mono ?_
      rintro e w3 ⟨rfl, hI3, hB3⟩
      rw [S1.out]
      have hbx2 := blk_below hbx hB3
      have hbR2 := blk_below hbR hB3
      obtain ⟨x0, x1, x2, x3, x4, xf, xl⟩ := open5 hbx2
      obtain ⟨y0, y1, y2, y3, y4, yf, yl⟩ := open5 hbR2
      have hP := close_copy (w := w) (w0 := w0) (hT.below hB3) hI3 (keepB hKl hB3) hbR2 (Nat.le_refl _) hw hgw (fun k h => Nat.le_of_succ_le h.1) (fun k h => Nat.lt_of_lt_of_le h.2.1 hB3.size) (fun h => by have := h.1; omega)
      have HP := Lib.hid hP
      clear hP hbx2 hbR2 hbx hbR hT hI hKl hB3 hI3
      go_wp2
      exact bodyPost_ret (results_cell_row rfl _ _ w.heap.size 25 _ (0, 0) _ rfl HP.out.1 Tryz.underlying25 rfl (by kernel_rfl)) rfl (by rw [← HF.out]; exact HP.out.2)
end Go.Proofs.YtajcnjdinmgpjaaGreatDoor.X
/- The walks of the reader: a constructor and its parts. -/
namespace Go.Proofs.YtajcnjdinmgpjaaGreatDoor.X
open Go.RowKit Go.Proofs.YtajcnjdinmgpjaaGreatDoorW.PrintWords Go.Proofs.YtajcnjdinmgpjaaGreatDoorW.PrintLast Go.Proofs.YtajcnjdinmgpjaaGreatDoorW.PrintMore Go.Proofs.YtajcnjdinmgpjaaGreatDoor.P
attribute [local go_sem] fldTok0 fldTok1 fldTok3

theorem infoTree : (Tryz.prog.info? 25).map (fun i => (i.zero, i.size, i.bytes)) = some (some (.agg #[.int .i64 0, .string ⟨#[]⟩, .int .i64 0, .int .i64 0, .slice none 0 0]), 5, 64) := by kernel_rfl
/-- blocks from lo on, but x -/
def Up (lo x : Nat) : Nat → Prop := fun k => lo ≤ k ∧ k ≠ x
abbrev NT (w : World) (lo x : Nat) (v : Value) (l : List Tree) : Prop := Kd.N k25 25 w lo (Up lo x) v l
/-- A tree in block x whose parts are a row that grows. -/
def Grow (w0 w : World) (g : Nat) (en : Int) (lo x : Nat) (a : Int) (b : ByteArray) (n d : Int) (ps : List Tree) (l : List Tok) (V : Value) (w' : World) : Prop :=
  w'.heap[x]? = some (.cells #[.int .i64 a, .string b, .int .i64 n, .int .i64 d, V] 25 (0, 0)) ∧ NT w' lo x V ps ∧ (ps = [] → V = .slice none 0 0) ∧ Rdr w0 w' g l en ∧ Kp w w' g none
theorem Rdr.grown {w0 w w1 : World} {g : Nat} {l : List Tok} {en : Int} {row : Option Nat} (h : Rdr w0 w g l en) (hg : w.grownBy w1 row) (hne : ∀ k, row = some k → w0.heap.size ≤ k ∧ k ≠ g) : Rdr w0 w1 g l en := by
  obtain ⟨A, c, h1, h2, h3, h4, h5⟩ := h
  exact ⟨A, c, blk_grown h1 hg (fun e => (hne g e.symm).2 rfl), h2, h3, h4, h5.grown hg h5.size (fun k hk => (hne k hk).1)⟩
theorem keepG {w W w1 : World} {g : Nat} {row : Option Nat} (h : Kp w W g none) (hg : W.grownBy w1 row) (hr : ∀ k, row = some k → w.heap.size ≤ k) : Kp w w1 g none := by
  refine h.trans (Kp.of_grown hg g) ?_
  cases row with
  | none => exact .inl rfl
  | some b => exact .inr ⟨b, rfl, hr b rfl⟩

/-- The parts of a tree, as a tree's. -/
theorem NT.tat {w : World} {lo x : Nat} {V : Value} {ps : List Tree} (a : Int) (b : ByteArray) (n d : Int) (h : NT w lo x V ps) (h0 : ps = [] → V = .slice none 0 0) :
    ∃ A c, V = .slice A ps.length c ∧ TAt w (Ex lo w.heap.size x) ⟨a, b, n, d, ps⟩ A c := by
  obtain ⟨A, c, rfl⟩ := Kd.N_slice h
  refine ⟨A, c, rfl, (Kd.N_reads' h).2.1, Kd.F_mono (Kd.N_F (Kd.N_bound h)) (fun k hk => ⟨hk.1.1, hk.2, hk.1.2⟩), fun e => ?_⟩
  have := h0 e
  injection this with h1 h2 h3
  exact ⟨h1, h3⟩

/-- A loop over a constructor's parts, at its head. -/
def ConAt (ex : List Tok → PR) (fin : PR) (w0 w : World) (g : Nat) (en : Int) (x n : Nat) (b : ByteArray) (d : Int) (m : Nat) (w' : World) : Prop :=
  ∃ ps l V, pArgs ex true m ⟨6, b, 0, d, ps⟩ l = fin ∧ l.length < m ∧ l.length < n ∧ ps.length ≤ 8 ∧ Grow w0 w g en (w.heap.size + 1) x 6 b 0 d ps l V w'

set_option maxRecDepth 100000 in
set_option maxHeartbeats 2000000 in
theorem app_con (ex : List Tok → PR) (n : Nat) (hex : Sh ex) (hatom : CP 90 (pAtom ex) n) (w0 w : World) (g : Nat) (en : Int) (l0 : List Tok) (hl : l0.length < n) (hI : Rdr w0 w g l0 en) (hc : kd l0 = 2) :
    Calls Tryz.prog 84 #[.pointer (some ⟨g, 0, none⟩)] w (PRel w0 w g en (pApp ex l0)) := by
  obtain ⟨hgw, hw⟩ := hI.lt
  have C1 := Lib.hid (show ((hd l0 en).f0 == 2) = true by rw [hd_kd]; simpa using hc)
  have C2 := Lib.hid (show (kd l0 == 2) = true by simpa using hc)
  have nw : isW l0 ⟨#[40]⟩ = false := by
    cases l0 with
    | nil => rfl
    | cons z r => simp [kd] at hc; simp [isW, hc]
  have hA0 := pAtom_con (ex := ex) nw hc
  have t1 := kd_tail hc (by omega)
  have HA := Lib.hid hA0
  clear hc nw hA0
  obtain ⟨b, hb⟩ : ∃ b, b = (hd l0 0).f1 := ⟨_, rfl⟩
  obtain ⟨d, hd'⟩ : ∃ d, d = (hd l0 0).f3 := ⟨_, rfl⟩
  rw [← hb, ← hd'] at HA
  clear hb hd'
  go_enter Tryz.func84, Tryz.ntmps84
  go_wp2_with fail
  refine (next_calls g l0 en w0 _ (hI.alloc _)).mono ?_
  rintro e w1 ⟨rfl, hI1, hB1⟩
  have hb1 := belowNew hB1
  have hK1 := keepB (k0 w g _) hB1
  unfold tokV
  go_wp2_with fail
  rw [C1.out]
  refine (hatom w0 w1 g en l0 hl hI1).mono ?_
  intro e w2 h2
  rw [HA.out] at h2
  obtain ⟨A, c, rfl, hT, hI2, hK2⟩ := h2
  obtain ⟨rfl, rfl⟩ := hT.2.2 rfl
  have s1 : w.heap.size < w1.heap.size := blk_lt hb1
  have hb2 := hK2.blk hb1 (by omega) (by simp)
  have hKK2 := keep1 hK1 hK2
  have hx : w.heap.size < w2.heap.size := blk_lt hb2
  unfold treeV
  simp only [List.length_nil]
  go_wp2_with fail
  have hst : ConAt ex (pApp ex l0) w0 w g en w2.heap.size n b d (l0.tail.length + 1) (w2.alloc (.cells #[.int .i64 6, .string b, .int .i64 0, .int .i64 d, .slice none 0 0] 25)) :=
    ⟨[], l0.tail, .slice none 0 0, by rw [pApp, HA.out, PR.bind_ok, C2.out], by omega, by omega, by simp, blk_new _ _, Kd.N_nil _ _ _ _ _, fun _ => rfl, hI2.alloc _, kpAlloc hKK2 _⟩
  have hbR := blk_alloc hb2 (.cells #[.int .i64 6, .string b, .int .i64 0, .int .i64 d, .slice none 0 0] 25)
  have HS := Lib.hid (And.intro hst hbR)
  clear hst hbR hb1 hb2 hT hI1 hI2 hB1 hK1 hK2 hKK2 s1
  go_loopg [] (l0.tail.length + 1) (fun kq w' => ConAt ex (pApp ex l0) w0 w g en w2.heap.size n b d kq w' ∧ w'.heap[w.heap.size]? = some (.cells #[.int .i64 0, .string ⟨#[]⟩, .int .i64 0, .int .i64 0, .slice none 0 0] 25 (0, 0)))
  case atStart => exact HS.out
  case round =>
    obtain ⟨⟨ps, l, V, hF, hlm, hln, hp8, hbx, hN, hV0, hI, hKl⟩, hbR⟩ := hrel
    clear HS
    obtain ⟨k, rfl⟩ : ∃ k, gk = k + 1 := ⟨gk - 1, by omega⟩
    unfold pArgs at hF
    obtain ⟨A, c, rfl⟩ := Kd.N_slice hN
    have HV0 := Lib.hid hV0
    clear hV0
    by_cases s1 : atomB l = true
    · have S1 := Lib.hid s1
      rw [s1, if_pos rfl, if_pos rfl] at hF
      clear s1
      by_cases s2 : ps.length < 8
      · rw [if_pos s2] at hF
        have HF := Lib.hid hF
        clear hF
        go_wp2_with fail
        refine (atomic_calls g l en w0 wr hI).mono ?_
        rintro e w3 ⟨rfl, hI3, hB3⟩
        rw [S1.out]
        have hbx3 := blk_below hbx hB3
        have hbR3 := blk_below hbR hB3
        have hK3 := keepB hKl hB3
        have hN3 := Kd.N_below hN hB3
        obtain ⟨x0, x1, x2, x3, x4, xf, xl⟩ := open5 hbx3
        have s2' : decide ((ps.length : Int) < 8) = true := decide_eq_true (by omega)
        go_wp2_with fail
        refine (must_yes g w3).mono ?_
        rintro e w' ⟨rfl, rfl⟩
        go_wp2_with fail
        refine start_ (n := 8) (S := fun w' => w'.cell? ⟨w2.heap.size, 4, none⟩ = some (.slice A ps.length c)) (ds := [5, 7]) #[false, false, false, false, false, false, false, false] (by kernel_rfl) rfl rfl x4 (fun hHeld => ?_)
        refine pure_ (i := 0) (N := (some 20)) (v := ?_) (a' := ?_) #[true, false, false, false, false, false, false, false] rfl rfl (by kernel_rfl) (fun _ _ _ h => h) (Or.inl ⟨by rfl, ?_⟩) ?_ ?_
        rotate_left
        · intro w'
          go_simp
          try with_reducible rfl
        rotate_left
        · simp only [Act.put, List.setIfInBounds_toArray, List.set_cons_zero, List.set_cons_succ]
          try rfl
        refine pure_ (i := 2) (N := (some 22)) (v := ?_) (a' := ?_) #[true, false, true, false, false, false, false, false] rfl rfl (by kernel_rfl) (fun _ _ _ h => h) (Or.inl ⟨by rfl, ?_⟩) ?_ ?_
        rotate_left
        · intro w'
          go_simp
          try with_reducible rfl
        rotate_left
        · simp only [Act.put, List.setIfInBounds_toArray, List.set_cons_zero, List.set_cons_succ]
          try rfl
        refine take_ (i := 1) (N := (some 21)) (v := ?_) (a' := ?_) #[true, true, true, false, false, false, false, false] rfl rfl (by kernel_rfl) (fun _ _ _ h => h) (Or.inl ⟨by rfl, ?_⟩) hHeld ?_ ?_
        rotate_left
        · rintro w' s0
          go_simp
          try with_reducible rfl
        rotate_left
        · simp only [Act.put, List.setIfInBounds_toArray, List.set_cons_zero, List.set_cons_succ]
          try rfl
        refine one_ (i := 3) (N := (some 23)) #[true, true, true, true, false, false, false, false] rfl rfl (by kernel_rfl) (by decide) (fun K hK => ?_)
        go_simp
        refine (hatom w0 _ g en l hln hI3.drew).mono ?_
        intro e w4 h4
        rcases h4.any with ⟨a, l4, A4, c4, hR, rfl, hTa, hI4, hK4⟩ | ⟨l4, hR, rfl, hK4⟩
        case inr =>
          have eF : pApp ex l0 = .fail l4 := by have := HF.out; rw [hR, PR.bind_fail] at this; exact this.symm
          unfold wrongP
          exact ⟨rfl, .fail eF (keep1 hK3 (keep1 (kpDrew (Kp.refl w3 g none)) hK4))⟩
        have hsh := sh_atom hex _ _ _ hR
        have g2 : g < w2.heap.size := by omega
        have hbx4 := keepD hK4 hbx3 (by omega)
        have hbR4 := keepD hK4 hbR3 (by omega)
        obtain ⟨z0, z1, z2, z3, z4, zf, zl⟩ := open5 hbx4
        have hN4 : NT w4 (w.heap.size + 1) w2.heap.size (.slice A ps.length c) ps := N_kp (Kd.N_drew hN3) hK4 (fun k h e => by have := h.1; omega)
        have HN4 := Lib.hid hN4
        have s3 : w3.heap.size ≤ w4.heap.size := hK4.1
        have hx3 := blk_lt hbx3
        unfold treeV
        refine hK _ _ z4 ?_
        clear hK K
        intro hHeld_1
        refine one_ (i := 4) (N := (some 24)) #[true, true, true, true, true, false, false, false] rfl rfl (by kernel_rfl) (by decide) (fun K hK => ?_)
        go_simp
        refine hK _ _ (by go_keep) ?_
        clear hK K
        intro hHeld_2
        refine last_ (i := 5) (N := (some 25)) #[true, true, true, true, true, true, false, false] rfl rfl (by kernel_rfl) (by decide) (fun K hK => ?_)
        refine Kd.N_append_step (w0 := w4) k25 (w.heap.size + 1) rfl _ _ 23 25 _ 64 rfl Tryz.underlying23 infoTree rfl (by decide) (by decide) (.slice A ps.length c) ps a (cellsT a A4 c4) (Up (w.heap.size + 1) w2.heap.size) (Iv w3.heap.size w4.heap.size) rfl rfl (TAt.FK hTa) ?ok1 ?ok2 HN4.out (Below.refl _ _) (by omega) (by omega) ?_
        case ok1 =>
          intro k hk
          refine ⟨⟨by have := hk.1; omega, by have := hk.1; omega⟩, fun e => ?_⟩
          have h5 := Kd.N_lt hN3 k e.symm
          have := hk.1
          omega
        case ok2 => exact fun k hk => ⟨by omega, by omega⟩
        intro V1 w5 hN5 hB5 hg5 hat
        obtain ⟨A1, c1, rfl⟩ := Kd.N_slice hN5
        have own : ∀ k, (Value.slice A ps.length c).ownBlock = some k → w.heap.size + 1 ≤ k ∧ k ≠ w2.heap.size := fun k hk => HN4.out.1 k hk
        have hbx5 := blk_grown hbx4 hg5 (fun e => (own _ e.symm).2 rfl)
        have hbR5 := blk_grown hbR4 hg5 (fun e => by have := (own _ e.symm).1; omega)
        have hI5 := hI4.grown hg5 (fun k hk => ⟨by have := (own k hk).1; omega, by have := (own k hk).1; omega⟩)
        have hK5 := keepG (keep1 hK3 (keep1 (kpDrew (Kp.refl w3 g none)) hK4)) hg5 (fun k hk => by have := (own k hk).1; omega)
        obtain ⟨y0, y1, y2, y3, y4, yf, yl⟩ := open5 hbx5
        clear z0 z1 z2 z3 z4 zf zl x0 x1 x2 x3 x4 xf xl
        refine hK _ _ ?_
        clear hK K
        refine pure_ (i := 6) (N := (some 26)) (v := ?_) (a' := ?_) #[true, true, true, true, true, true, true, false] rfl rfl (by kernel_rfl) (fun _ _ _ h => h) (Or.inl ⟨by rfl, ?_⟩) ?_ ?_
        rotate_left
        · intro w'
          go_simp
          try with_reducible rfl
        rotate_left
        · simp only [Act.put, List.setIfInBounds_toArray, List.set_cons_zero, List.set_cons_succ]
          try rfl
        refine last_ (i := 7) (N := none) #[true, true, true, true, true, true, true, true] rfl rfl (by kernel_rfl) (by decide) (fun K hK => ?_)
        go_simp
        refine hK _ _ ?_
        clear hK K
        refine done_ (by kernel_rfl) ?_
        have hnext : ConAt ex (pApp ex l0) w0 w g en w2.heap.size n b d k (w5.setCell ⟨w2.heap.size, 4, none⟩ (.slice A1 (ps ++ [a]).length c1)) :=
          ⟨ps ++ [a], l4, _, by have := HF.out; rw [hR, PR.bind_ok] at this; exact this, by omega, by omega, by simp; omega, blk_put hbx5 4 _ rfl, Kd.N_far hN5 (fun k hk => hk.2) _, fun e => by simp at e, hI5.far (by omega) (by omega) 4 _, kpFar hK5 (by simp; omega) _⟩
        have hbR6 := blk_far hbR5 (p := ⟨w2.heap.size, 4, none⟩) (by simp; omega) (.slice A1 (ps ++ [a]).length c1)
        have e1 : (ps ++ [a]).length = ps.length + 1 := by simp
        rw [e1] at hnext hbR6
        have HN := Lib.hid (And.intro hnext hbR6)
        clear e1 hnext hbR6 hbR5 hbx5 hI5 hK5 own hg5 hB5 hN5 hat HN4 hN4 hbx4 hbR4 hTa hI4 hK4 hN3 hK3 hbR3 hbx3 hB3 hI3 hN hI hKl hbx hbR hHeld hHeld_1 hHeld_2 y0 y1 y2 y3 y4 yf yl h4 hR
        go_wp2
        go_roundg k
        case measure => omega
        case rel => exact HN.out
      · rw [if_neg s2] at hF
        have HF := Lib.hid hF
        clear hF
        go_wp2_with fail
        refine (atomic_calls g l en w0 wr hI).mono ?_
        rintro e w3 ⟨rfl, hI3, hB3⟩
        rw [S1.out]
        have hbx3 := blk_below hbx hB3
        obtain ⟨x0, x1, x2, x3, x4, xf, xl⟩ := open5 hbx3
        have s2' : decide ((ps.length : Int) < 8) = false := decide_eq_false (by omega)
        go_wp2_with fail
        refine (must_no g l en w0 w3 hI3).mono ?_
        rintro e w4 ⟨rfl, hB4⟩
        unfold wrongP
        go_wp2
        exact ⟨rfl, .fail HF.out.symm (keepB (keepB hKl hB3) hB4)⟩
    · rw [if_neg s1] at hF
      have S1 := Lib.hid (show atomB l = false by simpa using s1)
      have HF := Lib.hid hF
      clear s1 hF
      go_wp2_with fail
      refine (atomic_calls g l en w0 wr hI).mono ?_
      rintro e w3 ⟨rfl, hI3, hB3⟩
      rw [S1.out]
      have hbx2 := blk_below hbx hB3
      have hbR2 := blk_below hbR hB3
      obtain ⟨x0, x1, x2, x3, x4, xf, xl⟩ := open5 hbx2
      obtain ⟨y0, y1, y2, y3, y4, yf, yl⟩ := open5 hbR2
      obtain ⟨A', c', eV, hTt⟩ := NT.tat 6 b 0 d (Kd.N_below hN hB3) HV0.out
      injection eV with eA _ ec
      subst eA ec
      have hP := close_copy (w := w) (w0 := w0) hTt hI3 (keepB hKl hB3) hbR2 (Nat.le_refl _) hw hgw (fun k h => Nat.le_of_succ_le h.1) (fun k h => h.2.1) (fun h => by have := h.1; omega)
      have HP := Lib.hid hP
      clear hP hbx2 hbR2 hbx hbR hTt hN hI hKl hB3 hI3
      go_wp2
      exact bodyPost_ret (results_cell_row rfl _ _ w.heap.size 25 _ (0, 0) _ rfl HP.out.1 Tryz.underlying25 rfl (by kernel_rfl)) rfl (by rw [← HF.out]; exact HP.out.2)

theorem app_calls (ex : List Tok → PR) (n : Nat) (hex : Sh ex) (hatom : CP 90 (pAtom ex) n) : CP 84 (pApp ex) n := by
  intro w0 w g en l hl hI
  by_cases hc : kd l = 2
  · exact app_con ex n hex hatom w0 w g en l hl hI hc
  · exact app_fun ex n hex hatom w0 w g en l hl hI hc
end Go.Proofs.YtajcnjdinmgpjaaGreatDoor.X
