/- Helpers of this claim: an abstract machine over the model, proved sound; what it computes. Part 11. -/
import Derived.Test.YthdbgkfinpbggaaGreatSAm6
import Derived.Test.YthdbgkfinpbggaaGreatSAm3
import Derived.IntWalk
import Derived.Test.YthdbgkfinpbggaaGreatSAm7
import Derived.Test.YthdbgkfinpbggaaGreatSAm8
set_option linter.unusedVariables false
set_option linter.unusedSimpArgs false
namespace Go.Proofs.AM
open Go
theorem res_some (t : Ty) (x : D t) : res (E := E) t (some ⟨t, x⟩) = some x := by simp [res, castD]
theorem bindS {α β : Type} (x : α) (f : α → Option β) : Option.bind (some x) f = f x := rfl
theorem loop_down {ρ : Type} {n : Nat} {F : Nat → Int → ρ} {G : Nat → ρ} (hend : ∀ j, F (j + 1) n = G n) (hstep : ∀ m j, m < n → F j ((m + 1 : Nat) : Int) = G (m + 1) → F (j + 1) (m : Int) = G m) :
    ∀ m, m ≤ n → ∀ j, n - m < j → F j (m : Int) = G m := by
  intro m hm
  induction h : n - m generalizing m with
  | zero =>
    intro j hj
    have : m = n := by omega
    subst this
    obtain ⟨i, rfl⟩ : ∃ i, j = i + 1 := ⟨j - 1, by omega⟩
    exact hend i
  | succ d ih =>
    intro j hj
    obtain ⟨i, rfl⟩ : ∃ i, j = i + 1 := ⟨j - 1, by omega⟩
    exact hstep m i (by omega) (ih (m + 1) (by omega) (by omega) i (by omega))
theorem wrap_id {x : Int} (h0 : -9223372036854775808 ≤ x) (h1 : x ≤ 9223372036854775807) : IntKind.i64.wrap x = x := by
  rw [IntKind.wrap_i64]; omega
theorem wrap_succ {m : Nat} (h : m < 9223372036854775807) : IntKind.i64.wrap ((m : Int) + 1) = ((m + 1 : Nat) : Int) := by
  rw [wrap_id (by omega) (by omega)]; simp
theorem inB_nat (m n : Nat) : inB (m : Int) (n : Int) = decide (m < n) := by
  simp [inB]
theorem rd_nat {t : Ty} (xs : List (D t)) (m : Nat) (h : m < xs.length) : rd (E := E) (t := t) xs (m : Int) = xs[m] := by
  simp [rd, h]
def by_ (s : ByteArray) : List Int := s.data.toList.map fun u => (u.toNat : Int)
def lead {α : Type} (p : α → Bool) : List α → Nat
  | [] => 0
  | x :: r => cond (p x) (lead p r + 1) 0
def idx {α : Type} (p : α → Bool) : Nat → List α → Int
  | _, [] => -1
  | m, x :: r => cond (p x) (m : Int) (idx p (m + 1) r)
theorem idx_nonneg {α : Type} (p : α → Bool) : ∀ (m : Nat) (l : List α), decide (0 ≤ idx p m l) = l.any p
  | _, [] => rfl
  | m, x :: r => by
    unfold idx
    rw [List.any_cons]
    cases p x with
    | true => simp
    | false => simpa using idx_nonneg p (m + 1) r
theorem reach_lt : reachBytes < 9223372036854775807 := by decide
theorem down_any {n : Nat} {Q : Nat → Nat → Prop} (hend : ∀ j, Q (j + 1) n) (hstep : ∀ m j, m < n → Q j (m + 1) → Q (j + 1) m) : ∀ m, m ≤ n → ∀ j, n - m < j → Q j m := by
  intro m hm
  induction h : n - m generalizing m with
  | zero =>
    intro j hj
    have : m = n := by omega
    subst this
    obtain ⟨i, rfl⟩ : ∃ i, j = i + 1 := ⟨j - 1, by omega⟩
    exact hend i
  | succ d ih =>
    intro j hj
    obtain ⟨i, rfl⟩ : ∃ i, j = i + 1 := ⟨j - 1, by omega⟩
    exact hstep m i (by omega) (ih (m + 1) (by omega) (by omega) i (by omega))
end Go.Proofs.AM

namespace Go.Proofs.AM
open Go
abbrev CD : Type := D (.nom 0)
theorem repack0 (x : Cond) : (E.cl 0 ((E.op 0 x).1, (((E.op 0 x).2).1, ((((((E.op 0 x).2).2).1).1, ((((E.op 0 x).2).2).1).2), (((((((E.op 0 x).2).2).2).1).1, (((((E.op 0 x).2).2).2).1).2), ((((((E.op 0 x).2).2).2).2).1, (((((((E.op 0 x).2).2).2).2).2).1, ((((((E.op 0 x).2).2).2).2).2).2)))))) : Cond) = x := by cases x; rfl
theorem repack (x : CD) : (E.cl 0 ((E.op 0 x).1, (((E.op 0 x).2).1, ((((((E.op 0 x).2).2).1).1, ((((E.op 0 x).2).2).1).2), (((((((E.op 0 x).2).2).2).1).1, (((((E.op 0 x).2).2).2).1).2), ((((((E.op 0 x).2).2).2).2).1, (((((((E.op 0 x).2).2).2).2).2).1, ((((((E.op 0 x).2).2).2).2).2).2)))))) : CD) = x := repack0 x
theorem IndexFunc_Condition_ev {xs : List (D (.nom 0))} {f : FuncId} {caps : List (Dt E)} {p : D (.nom 0) → Bool} {c : Nat} (hf : ∀ x ∈ xs, ∀ k, c ≤ k → run M k f ([.val (.nom 0) x] ++ capArgs caps) = some ⟨.bool, p x⟩) (hs : xs.length ≤ reachBytes) :
    ∀ k, c + xs.length + 2 ≤ k → run M k f_slices_IndexFunc_Condition [.val (.slice (.nom 0)) xs, .fn f caps] = some ⟨tI, idx p 0 xs⟩ := by
  intro k hk
  obtain ⟨k, rfl⟩ : ∃ i, k = i + 1 := ⟨k - 1, by omega⟩
  rw [e_slices_IndexFunc_Condition, b_slices_IndexFunc_Condition]
  have hr := reach_lt
  exact loop_down (n := xs.length) (F := fun j i => l_slices_IndexFunc_Condition_0 (run M k) j xs f caps xs.length i) (G := fun m => some ⟨tI, idx p m (xs.drop m)⟩)
    (fun j => by
      show s_slices_IndexFunc_Condition_0 (run M k) _ xs f caps _ _ = _
      rw [List.drop_eq_nil_of_le (Nat.le_refl _)]
      simp [s_slices_IndexFunc_Condition_0, idx])
    (fun m j hm ih => by
      show s_slices_IndexFunc_Condition_0 (run M k) _ xs f caps _ _ = _
      have hx := hf _ (List.getElem_mem hm) k (by omega)
      rw [List.drop_eq_getElem_cons hm]
      simp only [s_slices_IndexFunc_Condition_0, inB_nat, rd_nat xs m hm, hm, decide_true, Int.ofNat_lt, cond_true]
      rw [repack xs[m], hx, res_some, bindS]
      simp only [idx]
      cases p xs[m] with
      | true => rfl
      | false =>
        simp only [cond_false]
        rw [wrap_succ (by omega)]
        exact ih) 0 (Nat.zero_le _) k (by omega)
theorem ContainsFunc_Condition_ev {xs : List (D (.nom 0))} {f : FuncId} {caps : List (Dt E)} {p : D (.nom 0) → Bool} {c : Nat} (hf : ∀ x ∈ xs, ∀ k, c ≤ k → run M k f ([.val (.nom 0) x] ++ capArgs caps) = some ⟨.bool, p x⟩) (hs : xs.length ≤ reachBytes) :
    ∀ k, c + xs.length + 3 ≤ k → run M k f_slices_ContainsFunc_Condition [.val (.slice (.nom 0)) xs, .fn f caps] = some ⟨.bool, xs.any p⟩ := by
  intro k hk
  obtain ⟨k, rfl⟩ : ∃ i, k = i + 1 := ⟨k - 1, by omega⟩
  rw [e_slices_ContainsFunc_Condition, b_slices_ContainsFunc_Condition, IndexFunc_Condition_ev hf hs k (by omega), res_some, bindS, idx_nonneg]
end Go.Proofs.AM

namespace Go.Proofs.AM
open Go
def isLetter (x : Int) : Bool := cond (cond (decide ((97 : Int) ≤ x)) (decide (x ≤ (122 : Int))) false) true (cond (decide ((65 : Int) ≤ x)) (decide (x ≤ (90 : Int))) false)
def isDigit (x : Int) : Bool := cond (decide ((48 : Int) ≤ x)) (decide (x ≤ (57 : Int))) false
def isPart (x : Int) : Bool := cond (cond (isLetter x) true (isDigit x)) true (decide (x = (95 : Int)))
def isName (l : List Int) : Bool :=
  match l with
  | [] => false
  | x :: r => isLetter x && (decide (lead isPart (x :: r) ≤ 20) && decide (lead isPart (x :: r) = (x :: r).length))
end Go.Proofs.AM

namespace Go.Proofs.AM
open Go
end Go.Proofs.AM

namespace Go.Proofs.AM
open Go
def kindB (x : Int) : Bool := cond (decide ((0 : Int) ≤ x)) (decide (x ≤ (99 : Int))) false
def edgeB (n : Int) (e : Int × (Int × Int)) : Bool := cond (cond (cond (cond (kindB e.1) (decide ((0 : Int) ≤ e.2.1)) false) (decide (e.2.1 < n)) false) (decide ((0 : Int) ≤ e.2.2)) false) (decide (e.2.2 < n)) false
def graphE (g : List Int × List (Int × (Int × Int))) : Int :=
  cond (cond (decide ((40 : Int) < (g.1.length : Int))) true (decide ((80 : Int) < (g.2.length : Int)))) 3 (cond (g.1.any fun x => !kindB x) 6 (cond (g.2.any fun e => !edgeB g.1.length e) 6 0))
end Go.Proofs.AM

namespace Go.Proofs.AM
open Go
abbrev GraphD := List Int × List (Int × (Int × Int))
abbrev MorD := List Int × List Int
noncomputable abbrev rdI (xs : List Int) (i : Int) : Int := rd (E := E) (t := tI) xs i
noncomputable abbrev rdE (xs : List (Int × (Int × Int))) (i : Int) : Int × (Int × Int) := rd (E := E) (t := tEdge) xs i
def firstE {α : Type} (f : Nat → α → Int) : Nat → List α → Int
  | _, [] => 0
  | m, x :: r => cond (decide (f m x = 0)) (firstE f (m + 1) r) (f m x)
noncomputable def nodeErr (an bn : List Int) (i : Nat) (k : Int) : Int :=
  cond (cond (decide (k < (0 : Int))) true (decide ((bn.length : Int) ≤ k))) 6 (cond (!(decide (rdI bn k = rdI an i))) 13 0)
noncomputable def edgeErr (ae be : List (Int × (Int × Int))) (mn : List Int) (i : Nat) (k : Int) : Int :=
  cond (cond (decide (k < (0 : Int))) true (decide ((be.length : Int) ≤ k))) 6 (cond (!(decide ((rdE ae i).1 = (rdE be k).1))) 13
    (cond (cond (!(decide (rdI mn (rdE ae i).2.1 = (rdE be k).2.1))) true (!(decide (rdI mn (rdE ae i).2.2 = (rdE be k).2.2)))) 11 0))
noncomputable def edgesE (a b : GraphD) (m : MorD) : Int := firstE (edgeErr a.2 b.2 m.1) 0 m.2
noncomputable def mapE (a b : GraphD) (m : MorD) : Int := cond (decide (firstE (nodeErr a.1 b.1) 0 m.1 = 0)) (edgesE a b m) (firstE (nodeErr a.1 b.1) 0 m.1)
noncomputable def morE (a b : GraphD) (m : MorD) : Int :=
  cond (!(decide (graphE a = 0))) (graphE a) (cond (!(decide (graphE b = 0))) (graphE b) (cond (cond (!(decide ((m.1.length : Int) = (a.1.length : Int)))) true (!(decide ((m.2.length : Int) = (a.2.length : Int))))) 20 (mapE a b m)))
def freshFrom (xs : List Int) : Nat → List Int → Bool
  | _, [] => true
  | m, x :: r => cond ((xs.take m).any fun y => decide (x = y)) false (freshFrom xs (m + 1) r)
def distinctB (xs : List Int) : Bool := freshFrom xs 0 xs
theorem Clone_int_ev (xs : List Int) (hs : xs.length ≤ 1000000) : ∀ k, 1 ≤ k → run M k f_slices_Clone_int [.val (.slice tI) xs] = some ⟨.slice tI, xs⟩ := by
  intro k hk
  obtain ⟨k, rfl⟩ : ∃ i, k = i + 1 := ⟨k - 1, by omega⟩
  rw [e_slices_Clone_int, b_slices_Clone_int]
  cases xs with
  | nil => rfl
  | cons x r =>
    have h1 : roomy (([] : List (D tI)).length + (x :: r : List Int).length) 8 = true := by
      unfold roomy
      refine decide_eq_true ?_
      simp only [List.length_nil, List.length_cons] at hs ⊢
      omega
    have h2 : decide (0 < (x :: r : List Int).length) = true := by simp
    rw [h2, cond_true, h1, cond_true]
    rfl
noncomputable def injB (a b : GraphD) (m : MorD) : Bool := cond (cond (decide (morE a b m = 0)) (distinctB m.1) false) (distinctB m.2) false
end Go.Proofs.AM

namespace Go.Proofs.AM
open Go
end Go.Proofs.AM

namespace Go.Proofs.AM
open Go
abbrev AttrD := ByteArray × (Int × (Int × List ByteArray))
abbrev NodeD := ByteArray × (Int × (Bool × List AttrD))
abbrev ETypeD := ByteArray × (Int × (Int × (Int × (Int × (Int × Int)))))
abbrev TypesD := List NodeD × List ETypeD
def nameErr (l : List ByteArray) (i : Nat) (s : ByteArray) : Int := cond (!isName (by_ s)) 2 (cond ((l.take i).any fun y => beqS y s) 5 0)
def namesE (l : List ByteArray) : Int := cond (decide ((20 : Int) < (l.length : Int))) 3 (firstE (nameErr l) 0 l)
def attrE (x : AttrD) : Int :=
  cond (!(decide (namesE x.2.2.2 = 0))) (namesE x.2.2.2) (cond (decide ((0 : Int) < (x.2.2.2.length : Int))) (cond (!(cond (decide (x.2.1 = (0 : Int))) (decide (x.2.2.1 = (x.2.2.2.length : Int) - 1)) false)) 6 0)
    (cond (!(cond (cond (decide ((-1000000 : Int) ≤ x.2.1)) (decide (x.2.1 ≤ x.2.2.1)) false) (decide (x.2.2.1 ≤ (1000000 : Int))) false)) 6 0))
def attrAt (l : List AttrD) (i : Nat) (x : AttrD) : Int := cond (!isName (by_ x.1)) 2 (cond ((l.take i).any fun y => beqS y.1 x.1) 5 (attrE x))
end Go.Proofs.AM

namespace Go.Proofs.AM
open Go
noncomputable abbrev rdN (xs : List NodeD) (i : Int) : NodeD := rd (E := E) (t := tNodeType) xs i
noncomputable def attrsF (ns : List NodeD) : Nat → Int → List AttrD
  | 0, _ => []
  | f + 1, a => cond (decide (a < 0)) [] (attrsF ns f (rdN ns a).2.1 ++ (rdN ns a).2.2.2)
noncomputable def nodeE (t : TypesD) (i : Nat) : Int :=
  cond (!isName (by_ (rdN t.1 i).1)) 2 (cond ((t.1.take i).any fun y => beqS y.1 (rdN t.1 i).1) 5
    (cond (cond (decide ((rdN t.1 i).2.1 < (-1 : Int))) true (decide ((i : Int) ≤ (rdN t.1 i).2.1))) 6 (cond (decide ((4 : Int) < ((rdN t.1 i).2.2.2.length : Int))) 3
      (cond (decide ((8 : Int) < ((attrsF t.1 100 i).length : Int))) 3
        (firstE (attrAt (attrsF t.1 100 i)) ((attrsF t.1 100 i).length - (rdN t.1 i).2.2.2.length) ((attrsF t.1 100 i).drop ((attrsF t.1 100 i).length - (rdN t.1 i).2.2.2.length)))))))
end Go.Proofs.AM

namespace Go.Proofs.AM
open Go
noncomputable abbrev rdT (xs : List ETypeD) (i : Int) : ETypeD := rd (E := E) (t := tEdgeType) xs i
def insideB (n : Nat) (x : Int) : Bool := cond (decide ((0 : Int) ≤ x)) (decide (x < (n : Int))) false
def boundB (lo hi : Int) : Bool := cond (cond (decide ((0 : Int) ≤ lo)) (decide (lo ≤ (40 : Int))) false) (cond (decide (hi = (-1 : Int))) true (cond (decide (lo ≤ hi)) (decide (hi ≤ (40 : Int))) false)) false
noncomputable def etypeE (t : TypesD) (i : Nat) : Int :=
  cond (!isName (by_ (rdT t.2 i).1)) 2 (cond ((t.2.take i).any fun y => beqS y.1 (rdT t.2 i).1) 5
    (cond (insideB t.1.length (rdT t.2 i).2.1 && (insideB t.1.length (rdT t.2 i).2.2.1 && (boundB (rdT t.2 i).2.2.2.1 (rdT t.2 i).2.2.2.2.1 && boundB (rdT t.2 i).2.2.2.2.2.1 (rdT t.2 i).2.2.2.2.2.2))) 0 6))
end Go.Proofs.AM

namespace Go.Proofs.AM
open Go
def firstP {α : Type} (f : Nat → Int) (nm : α → ByteArray) (z : ByteArray × Int) : Nat → List α → ByteArray × Int
  | _, [] => z
  | m, x :: r => cond (!(decide (f m = 0))) (nm x, f m) (firstP f nm z (m + 1) r)
noncomputable def typesP (t : TypesD) : ByteArray × Int :=
  cond (decide ((t.1.length : Int) = (0 : Int))) ((⟨#[]⟩ : ByteArray), 7) (cond (cond (decide ((12 : Int) < (t.1.length : Int))) true (decide ((20 : Int) < (t.2.length : Int)))) ((⟨#[]⟩ : ByteArray), 3)
    (firstP (nodeE t) (fun n : NodeD => n.1) (firstP (etypeE t) (fun e : ETypeD => e.1) ((⟨#[]⟩ : ByteArray), 0) 0 t.2) 0 t.1))
end Go.Proofs.AM

namespace Go.Proofs.AM
open Go
end Go.Proofs.AM

namespace Go.Proofs.AM
open Go
end Go.Proofs.AM

namespace Go.Proofs.AM
open Go
end Go.Proofs.AM

namespace Go.Proofs.AM
open Go
def few5 (g : GraphD) : Bool := cond (decide ((g.1.length : Int) ≤ (45 : Int))) (decide ((g.2.length : Int) ≤ (90 : Int))) false
def few6 (m : MorD) : Bool := decide ((IntKind.i64.wrap ((m.1.length : Int) + (m.2.length : Int))) ≤ (140 : Int))
theorem r05_Few_ev (g : GraphD) : ∀ k, 1 ≤ k → run M k f_r05_Few [.val tGraph g] = some ⟨.bool, few5 g⟩ := by
  intro k hk
  obtain ⟨k, rfl⟩ : ∃ i, k = i + 1 := ⟨k - 1, by omega⟩
  exact e_r05_Few k g
theorem r06_Few_ev (m : MorD) : ∀ k, 1 ≤ k → run M k f_r06_Few [.val tMorphism m, .val tI (140 : Int)] = some ⟨.bool, few6 m⟩ := by
  intro k hk
  obtain ⟨k, rfl⟩ : ∃ i, k = i + 1 := ⟨k - 1, by omega⟩
  exact e_r06_Few k m 140
theorem few6_small {m : MorD} (h1 : m.1.length ≤ reachBytes) (h2 : m.2.length ≤ reachBytes) (h : few6 m = true) : m.1.length ≤ 140 ∧ m.2.length ≤ 140 := by
  have hr : reachBytes + reachBytes < 9223372036854775807 := by decide
  unfold few6 at h
  rw [wrap_id (by omega) (by omega)] at h
  have := of_decide_eq_true h
  omega
theorem few5_small {g : GraphD} (h : few5 g = true) : g.1.length ≤ 45 ∧ g.2.length ≤ 90 := by
  unfold few5 at h
  cases h1 : decide ((g.1.length : Int) ≤ (45 : Int)) with
  | false => rw [h1] at h; cases h
  | true =>
    rw [h1] at h
    have := of_decide_eq_true h1
    have h : decide ((g.2.length : Int) ≤ (90 : Int)) = true := h
    have := of_decide_eq_true h
    omega
end Go.Proofs.AM

namespace Go.Proofs.AM
open Go
abbrev SlotD := Int × (Int × (Int × Int))
abbrev TestD := Int × ((Int × Int) × (Int × Int))
abbrev PatD := GraphD × (List SlotD × (Int × List TestD))
def termB (n : Int) (x : Int × Int) : Bool := cond (cond (cond (decide ((-1 : Int) ≤ x.1)) (decide (x.1 < n)) false) (decide ((-1000000 : Int) ≤ x.2)) false) (decide (x.2 ≤ (1000000 : Int))) false
def testE (n : Int) (x : TestD) : Int := cond (cond (!(decide (x.1 = (1 : Int)))) (!(decide (x.1 = (2 : Int)))) false) 1 (cond (termB n x.2.1 && termB n x.2.2) 0 6)
def testsE (n : Int) (l : List TestD) : Int := cond (cond (decide (n < (0 : Int))) true (decide ((12 : Int) < n))) 6 (cond (decide ((40 : Int) < (l.length : Int))) 3 (firstE (fun _ x => testE n x) 0 l))
end Go.Proofs.AM

namespace Go.Proofs.AM
open Go
def typedB (t : TypesD) (g : GraphD) : Bool := g.1.all (fun x => insideB t.1.length x) && g.2.all (fun e => insideB t.2.length e.1)
noncomputable def attrB (t : TypesD) (p : PatD) (a b : Int) : Bool := insideB p.1.1.length a && insideB (attrsF t.1 100 (rdI p.1.1 a)).length b
noncomputable def slotB (t : TypesD) (p : PatD) (s : SlotD) : Bool :=
  attrB t p s.1 s.2.1 && ((decide ((-1 : Int) ≤ s.2.2.1) && decide (s.2.2.1 < p.2.2.1)) && (decide ((-1000000 : Int) ≤ s.2.2.2) && decide (s.2.2.2 ≤ (1000000 : Int))))
def occB (l : List SlotD) (v : Int) : Bool := l.any fun s => decide (s.2.2.1 = v)
def occFrom (l : List SlotD) (n m : Nat) : Bool := ((List.range n).drop m).all fun v => occB l (v : Int)
noncomputable def patE (t : TypesD) (p : PatD) : Int :=
  cond (!(decide ((typesP t).2 = 0))) (typesP t).2 (cond (!(decide (graphE p.1 = 0))) (graphE p.1) (cond (!typedB t p.1) 13
    (cond (!(cond (decide ((0 : Int) ≤ p.2.2.1)) (decide (p.2.2.1 ≤ (12 : Int))) false)) 6 (cond (cond (decide ((10 : Int) < (p.2.1.length : Int))) true (decide ((10 : Int) < (p.2.2.2.length : Int)))) 3
      (cond (p.2.1.all fun s => slotB t p s) (cond (!(decide (testsE p.2.2.1 p.2.2.2 = 0))) (testsE p.2.2.1 p.2.2.2) (cond (occFrom p.2.1 p.2.2.1.toNat 0) 0 9)) 6)))))
end Go.Proofs.AM

namespace Go.Proofs.AM
open Go
noncomputable def innerE (t : TypesD) (n : Int) (p : PatD) : Int := cond (decide (p.2.2.1 < n)) 20 (cond (decide (patE t p = 9)) (cond (occFrom p.2.1 p.2.2.1.toNat n.toNat) 0 9) (patE t p))
def Cod (x : Int) : Prop := x ∈ ([0, 1, 2, 3, 5, 6, 7, 11, 13, 20] : List Int)
theorem Cod.cond {c : Bool} {a b : Int} (ha : Cod a) (hb : Cod b) : Cod (cond c a b) := by cases c <;> assumption
theorem Cod.firstE {α : Type} {f : Nat → α → Int} (h : ∀ i x, Cod (f i x)) : ∀ (m : Nat) (l : List α), Cod (firstE f m l)
  | _, [] => (by unfold Cod; decide : Cod 0)
  | m, x :: r => by unfold AM.firstE; exact Cod.cond (Cod.firstE h (m + 1) r) (h m x)
theorem Cod.firstP {α : Type} {f : Nat → Int} {nm : α → ByteArray} {z : ByteArray × Int} (h : ∀ i, Cod (f i)) (hz : Cod z.2) : ∀ (m : Nat) (l : List α), Cod (firstP f nm z m l).2
  | _, [] => hz
  | m, x :: r => by
    unfold AM.firstP
    cases (!(decide (f m = 0))) with
    | true => exact h m
    | false => exact Cod.firstP h hz (m + 1) r
theorem Cod.lit {x : Int} (h : x ∈ ([0, 1, 2, 3, 5, 6, 7, 11, 13, 20] : List Int) := by decide) : Cod x := h
structure PatOk (t : TypesD) (p : PatD) : Prop where
  types : (typesP t).2 = 0
  graph : graphE p.1 = 0
  typed : typedB t p.1 = true
  vars0 : 0 ≤ p.2.2.1
  vars1 : p.2.2.1 ≤ 12
  slots : p.2.1.length ≤ 10
  tests : p.2.2.2.length ≤ 10
  slot : ∀ s ∈ p.2.1, slotB t p s = true
  test : testsE p.2.2.1 p.2.2.2 = 0
end Go.Proofs.AM

namespace Go.Proofs.AM
open Go
theorem Cond.ind {P : Cond → Prop} (h : ∀ kind kids m q, (∀ x ∈ kids, P x) → P (.mk kind kids m q)) : ∀ c, P c :=
  fun c => Cond.rec (motive_1 := P) (motive_2 := fun l => ∀ x ∈ l, P x) (fun kind kids m q ih => h kind kids m q ih) (fun x hx => by simp at hx)
    (fun c l h1 h2 x hx => by
      rcases List.mem_cons.1 hx with e | e
      · exact e ▸ h1
      · exact h2 x e) c
def mkC (kind : Int) (kids : List CD) (m : MorD) (q : PatD) : CD := Cond.mk kind kids m q
theorem CD.ind {P : CD → Prop} (h : ∀ kind (kids : List CD) m q, (∀ x ∈ kids, P x) → P (mkC kind kids m q)) : ∀ c, P c := Cond.ind h
theorem CD.cases (c : CD) : ∃ kind kids m q, c = mkC kind kids m q := by
  cases (c : Cond) with
  | mk kind kids m q => exact ⟨kind, kids, m, q, rfl⟩
theorem mkC_inj {a b : Int} {c d : List CD} {e f : MorD} {g h : PatD} (x : mkC a c e g = mkC b d f h) : a = b ∧ c = d ∧ e = f ∧ g = h := by
  have x : Cond.mk a c e g = Cond.mk b d f h := x
  injection x with h1 h2 h3 h4
  exact ⟨h1, h2, h3, h4⟩
mutual
def csize0 : Cond → Nat
  | .mk _ kids _ _ => 1 + csizes0 kids
def csizes0 : List Cond → Nat
  | [] => 0
  | c :: r => csize0 c + csizes0 r
end
def csize : CD → Nat := csize0
def csizes : List CD → Nat := csizes0
theorem csize_mk (kind : Int) (kids : List CD) (m : MorD) (q : PatD) : csize (mkC kind kids m q) = 1 + csizes kids := rfl
theorem csizes_nil : csizes [] = 0 := rfl
theorem csizes_cons (c : CD) (r : List CD) : csizes (c :: r) = csize c + csizes r := rfl
theorem csize_mem : ∀ {l : List CD} {x : CD}, x ∈ l → csize x ≤ csizes l
  | c :: r, x, h => by
    rw [csizes_cons]
    rcases List.mem_cons.1 h with e | e
    · subst e; omega
    · have := csize_mem e; omega
theorem csize_pos (c : CD) : 0 < csize c := by
  obtain ⟨kind, kids, m, q, rfl⟩ := c.cases
  rw [csize_mk]; omega
theorem csizes_length : ∀ l : List CD, l.length ≤ csizes l
  | [] => Nat.le_refl _
  | c :: r => by have := csize_pos c; have := csizes_length r; rw [csizes_cons, List.length_cons]; omega
def smallQ (m : MorD) (q : PatD) : Prop := m.1.length ≤ 140 ∧ m.2.length ≤ 140 ∧ q.1.1.length ≤ 45 ∧ q.1.2.length ≤ 90 ∧ q.2.1.length ≤ 15 ∧ q.2.2.2.length ≤ 15
mutual
def small0 : Cond → Prop
  | .mk _ kids m q => smallQ m q ∧ smalls0 kids
def smalls0 : List Cond → Prop
  | [] => True
  | c :: r => small0 c ∧ smalls0 r
end
def SmallC : CD → Prop := small0
def SmallCs : List CD → Prop := smalls0
theorem small_mk {kind : Int} {kids : List CD} {m : MorD} {q : PatD} : SmallC (mkC kind kids m q) ↔ smallQ m q ∧ SmallCs kids := Iff.rfl
theorem smalls_cons {c : CD} {r : List CD} : SmallCs (c :: r) ↔ SmallC c ∧ SmallCs r := Iff.rfl
theorem small_mem : ∀ {l : List CD}, SmallCs l → ∀ x ∈ l, SmallC x
  | c :: r, h, x, hx => by
    rcases List.mem_cons.1 hx with e | e
    · exact e ▸ (smalls_cons.1 h).1
    · exact small_mem (smalls_cons.1 h).2 x e
mutual
def big0 : Cond → Prop
  | .mk _ kids m _ => (m.1.length ≤ reachBytes ∧ m.2.length ≤ reachBytes) ∧ bigs0 kids
def bigs0 : List Cond → Prop
  | [] => True
  | c :: r => big0 c ∧ bigs0 r
end
def BigOk : CD → Prop := big0
def BigOks : List CD → Prop := bigs0
theorem big_mk {kind : Int} {kids : List CD} {m : MorD} {q : PatD} : BigOk (mkC kind kids m q) ↔ (m.1.length ≤ reachBytes ∧ m.2.length ≤ reachBytes) ∧ BigOks kids := Iff.rfl
theorem bigs_cons {c : CD} {r : List CD} : BigOks (c :: r) ↔ BigOk c ∧ BigOks r := Iff.rfl
def few21 (q : PatD) : Bool := cond (cond (few5 q.1) (decide ((q.2.1.length : Int) ≤ (15 : Int))) false) (decide ((q.2.2.2.length : Int) ≤ (15 : Int))) false
theorem r21_Few_ev (q : PatD) : ∀ k, 2 ≤ k → run M k f_r21_Few [.val tPattern q] = some ⟨.bool, few21 q⟩ := by
  intro k hk
  obtain ⟨k, rfl⟩ : ∃ i, k = i + 1 := ⟨k - 1, by omega⟩
  rw [e_r21_Few, b_r21_Few]
  show Option.bind (res .bool (run M k f_r05_Few [.val tGraph q.1])) _ = _
  rw [r05_Few_ev q.1 k (by omega), res_some, bindS]
  rfl
theorem few21_small {q : PatD} (h : few21 q = true) : q.1.1.length ≤ 45 ∧ q.1.2.length ≤ 90 ∧ q.2.1.length ≤ 15 ∧ q.2.2.2.length ≤ 15 := by
  unfold few21 at h
  cases h1 : few5 q.1 with
  | false => rw [h1] at h; cases h
  | true =>
    by_cases h2 : (q.2.1.length : Int) ≤ 15
    case neg => rw [h1, decide_eq_false h2] at h; cases h
    by_cases h3 : (q.2.2.2.length : Int) ≤ 15
    case neg => rw [h1, decide_eq_true h2, decide_eq_false h3] at h; cases h
    have := few5_small h1
    omega
mutual
def left0 : Cond → Int → Int
  | .mk _ kids m q, n => cond (cond (!few21 q) true (!few6 m)) (-1) (lefts0 kids (n - 1))
def lefts0 : List Cond → Int → Int
  | [], n => n
  | c :: r, n => cond (decide (0 ≤ n)) (lefts0 r (left0 c n)) n
end
def leftI : CD → Int → Int := left0
def leftL : List CD → Int → Int := lefts0
theorem leftI_mk (kind : Int) (kids : List CD) (m : MorD) (q : PatD) (n : Int) : leftI (mkC kind kids m q) n = cond (cond (!few21 q) true (!few6 m)) (-1) (leftL kids (n - 1)) := rfl
theorem leftL_nil (n : Int) : leftL [] n = n := rfl
theorem leftL_cons (c : CD) (r : List CD) (n : Int) : leftL (c :: r) n = cond (decide (0 ≤ n)) (leftL r (leftI c n)) n := rfl
theorem leftL_neg (l : List CD) {n : Int} (h : n < 0) : leftL l n = n := by
  cases l with
  | nil => rfl
  | cons c r => rw [leftL_cons, decide_eq_false (by omega)]; rfl
theorem leftL_lt {l : List CD} (h : ∀ x ∈ l, ∀ n, 0 ≤ n → leftI x n < n ∧ -1 ≤ leftI x n) : ∀ n : Int, leftL l n ≤ n ∧ (-1 ≤ n → -1 ≤ leftL l n) := by
  induction l with
  | nil => intro n; exact ⟨Int.le_refl _, id⟩
  | cons c r ih =>
    intro n
    rw [leftL_cons]
    by_cases h0 : 0 ≤ n
    · rw [decide_eq_true h0, cond_true]
      obtain ⟨a, b⟩ := h c (by simp) n h0
      obtain ⟨c1, c2⟩ := ih (fun x hx => h x (by simp [hx])) (leftI c n)
      exact ⟨by omega, fun _ => c2 b⟩
    · rw [decide_eq_false h0, cond_false]; exact ⟨Int.le_refl _, id⟩
theorem leftI_lt : ∀ c : CD, ∀ n, 0 ≤ n → leftI c n < n ∧ -1 ≤ leftI c n :=
  CD.ind fun kind kids m q ih n hn => by
    rw [leftI_mk]
    obtain ⟨a, b⟩ := leftL_lt ih (n - 1)
    cases (cond (!few21 q) true (!few6 m)) with
    | true => simp only [cond_true]; omega
    | false => simp only [cond_false]; exact ⟨by omega, b (by omega)⟩
theorem leftL_size {l : List CD} (h : ∀ x ∈ l, BigOk x → ∀ n, 0 ≤ n → 0 ≤ leftI x n → SmallC x ∧ (csize x : Int) = n - leftI x n) : BigOks l → ∀ n, 0 ≤ leftL l n → SmallCs l ∧ (csizes l : Int) = n - leftL l n := by
  induction l with
  | nil => intro _ n _; exact ⟨trivial, by rw [csizes_nil, leftL_nil]; simp⟩
  | cons c r ih =>
    intro hb n hn
    rw [bigs_cons] at hb
    rw [leftL_cons] at hn ⊢
    by_cases h0 : 0 ≤ n
    · rw [decide_eq_true h0, cond_true] at hn ⊢
      have h1 : 0 ≤ leftI c n := by
        rcases Int.lt_or_le (leftI c n) 0 with h | h
        · rw [leftL_neg r h] at hn; omega
        · exact h
      obtain ⟨a, b⟩ := h c (by simp) hb.1 n h0 h1
      obtain ⟨c1, c2⟩ := ih (fun x hx => h x (by simp [hx])) hb.2 _ hn
      refine ⟨smalls_cons.2 ⟨a, c1⟩, ?_⟩
      rw [csizes_cons]; omega
    · rw [decide_eq_false h0, cond_false] at hn; omega
theorem leftI_size : ∀ c : CD, BigOk c → ∀ n, 0 ≤ n → 0 ≤ leftI c n → SmallC c ∧ (csize c : Int) = n - leftI c n :=
  CD.ind fun kind kids m q ih hb n hn h => by
    rw [leftI_mk] at h ⊢
    rw [big_mk] at hb
    cases hf : few21 q with
    | false => rw [hf] at h; simp at h
    | true =>
      cases hm : few6 m with
      | false => rw [hf, hm] at h; simp at h
      | true =>
        rw [hf, hm] at h
        simp only [Bool.not_true, cond_false] at h ⊢
        obtain ⟨a, b⟩ := leftL_size ih hb.2 _ h
        obtain ⟨q1, q2, q3, q4⟩ := few21_small hf
        obtain ⟨m1, m2⟩ := few6_small hb.1.1 hb.1.2 hm
        exact ⟨small_mk.2 ⟨⟨m1, m2, q1, q2, q3, q4⟩, a⟩, by rw [csize_mk]; omega⟩
theorem left_loop {k N : Nat} (IH : ∀ (c : CD) (n : Int), 0 ≤ n → n < N → run M k f_r22_left [.val (.nom 0) c, .val tI n] = some ⟨tI, leftI c n⟩) (kind : Int) (kids : List CD) (m : MorD) (q : PatD) :
    ∀ (j i : Nat) (n : Int), -1 ≤ n → n < N → n + 2 < j → (i : Int) + n ≤ 1000000 → l_r22_left_0 (run M k) j n (i : Int) kind kids m.1 m.2 q.1.1 q.1.2 q.2.1 q.2.2.1 q.2.2.2 = some ⟨tI, leftL (kids.drop i) n⟩
  | 0, _, _, _, _, h, _ => by omega
  | j + 1, i, n, h0, h1, h2, h3 => by
    show s_r22_left_0 (run M k) _ n _ kind kids m.1 m.2 q.1.1 q.1.2 q.2.1 q.2.2.1 q.2.2.2 = _
    by_cases hi : i < kids.length
    case neg =>
      rw [List.drop_eq_nil_of_le (by omega)]
      simp only [s_r22_left_0, Int.ofNat_lt, hi, decide_false, cond_false]
      rw [leftL_nil]
    rw [List.drop_eq_getElem_cons hi, leftL_cons]
    simp only [s_r22_left_0, Int.ofNat_lt, hi, decide_true, cond_true, inB_nat]
    by_cases hn : 0 ≤ n
    case neg => rw [decide_eq_false hn]; rfl
    rw [decide_eq_true hn]
    simp only [cond_true, rd_nat (t := .nom 0) kids i hi]
    obtain ⟨a, b⟩ := leftI_lt kids[i] n hn
    rw [repack kids[i], IH kids[i] n hn h1, res_some, bindS, wrap_succ (by omega)]
    exact left_loop IH kind kids m q j (i + 1) (leftI kids[i] n) b (by omega) (by omega) (by omega)
theorem r22_left_ev : ∀ (N : Nat), N ≤ 1000 → ∀ (c : CD) (n : Int), 0 ≤ n → n < N → ∀ k, 2 * N + 10 ≤ k → run M k f_r22_left [.val (.nom 0) c, .val tI n] = some ⟨tI, leftI c n⟩
  | 0, _, _, n, h0, h1, _, _ => by omega
  | N + 1, hN, c, n, h0, h1, k, hk => by
    obtain ⟨kind, kids, m, q, rfl⟩ := c.cases
    obtain ⟨k, rfl⟩ : ∃ i, k = i + 1 := ⟨k - 1, by omega⟩
    rw [e_r22_left, b_r22_left]
    show Option.bind (res .bool (run M k f_r21_Few [.val tPattern q])) (fun r1 => Option.bind (cond (!(!r1)) (res .bool (run M k f_r06_Few [.val tMorphism m, .val tI (140 : Int)])) (some (dflt E .bool)))
      (fun r2 => cond (cond (!r1) true (!r2)) (some ⟨tI, (-1 : Int)⟩) (l_r22_left_0 (run M k) k (IntKind.i64.wrap (n - 1)) (0 : Int) kind kids m.1 m.2 q.1.1 q.1.2 q.2.1 q.2.2.1 q.2.2.2))) = _
    rw [r21_Few_ev q k (by omega), res_some, bindS, r06_Few_ev m k (by omega), res_some, leftI_mk, wrap_id (x := n - 1) (by omega) (by omega)]
    cases few21 q with
    | false => rfl
    | true =>
      cases few6 m with
      | false => rfl
      | true =>
        exact left_loop (fun c n h0 h1 => r22_left_ev N (by omega) c n h0 h1 k (by omega)) kind kids m q k 0 (n - 1) (by omega) (by omega) (by omega) (by omega)
theorem r22_Few_ev (c : CD) : ∀ k, 200 ≤ k → run M k f_r22_Few [.val (.nom 0) c] = some ⟨.bool, decide ((0 : Int) ≤ leftI c 40)⟩ := by
  intro k hk
  obtain ⟨k, rfl⟩ : ∃ i, k = i + 1 := ⟨k - 1, by omega⟩
  rw [e_r22_Few, b_r22_Few, repack c, r22_left_ev 41 (by omega) c 40 (by omega) (by omega) k (by omega), res_some, bindS]
def bareB (m : MorD) (q : PatD) : Bool := decide (m.1.length = 0 ∧ m.2.length = 0 ∧ q.1.1.length = 0 ∧ q.1.2.length = 0 ∧ q.2.1.length = 0 ∧ q.2.2.2.length = 0 ∧ q.2.2.1 = 0)
theorem condition_bare_ev (kind : Int) (kids : List CD) (m : MorD) (q : PatD) (h : smallQ m q) : ∀ k, 1 ≤ k → run M k f_condition_bare [.val (.nom 0) (mkC kind kids m q)] = some ⟨.bool, bareB m q⟩ := by
  intro k hk
  obtain ⟨k, rfl⟩ : ∃ i, k = i + 1 := ⟨k - 1, by omega⟩
  obtain ⟨h1, h2, h3, h4, h5, h6⟩ := h
  rw [e_condition_bare, b_condition_bare]
  show some (⟨.bool, cond (decide (IntKind.i64.wrap (IntKind.i64.wrap (IntKind.i64.wrap (IntKind.i64.wrap (IntKind.i64.wrap ((m.1.length : Int) + (m.2.length : Int)) + (q.1.1.length : Int)) + (q.1.2.length : Int)) + (q.2.1.length : Int)) + (q.2.2.2.length : Int)) = 0)) (decide (q.2.2.1 = (0 : Int))) false⟩ : Dt E) = _
  rw [wrap_id (x := (m.1.length : Int) + (m.2.length : Int)) (by omega) (by omega), wrap_id (x := (m.1.length : Int) + (m.2.length : Int) + (q.1.1.length : Int)) (by omega) (by omega), wrap_id (x := (m.1.length : Int) + (m.2.length : Int) + (q.1.1.length : Int) + (q.1.2.length : Int)) (by omega) (by omega),
    wrap_id (x := (m.1.length : Int) + (m.2.length : Int) + (q.1.1.length : Int) + (q.1.2.length : Int) + (q.2.1.length : Int)) (by omega) (by omega), wrap_id (x := (m.1.length : Int) + (m.2.length : Int) + (q.1.1.length : Int) + (q.1.2.length : Int) + (q.2.1.length : Int) + (q.2.2.2.length : Int)) (by omega) (by omega)]
  unfold bareB
  by_cases ha : (m.1.length : Int) + (m.2.length : Int) + (q.1.1.length : Int) + (q.1.2.length : Int) + (q.2.1.length : Int) + (q.2.2.2.length : Int) = 0
  · rw [decide_eq_true ha, cond_true]
    congr 2
    by_cases hv : q.2.2.1 = 0
    · rw [decide_eq_true hv, decide_eq_true (by omega)]
    · rw [decide_eq_false hv, decide_eq_false (by omega)]
  · rw [decide_eq_false ha, cond_false, decide_eq_false (by omega)]
theorem r22_unused_ev (kind : Int) (kids : List CD) (m : MorD) (q : PatD) (h : smallQ m q) : ∀ k, 1 ≤ k → run M k f_r22_unused [.val (.nom 0) (mkC kind kids m q)] = some ⟨.bool, bareB m q⟩ := by
  intro k hk
  obtain ⟨k, rfl⟩ : ∃ i, k = i + 1 := ⟨k - 1, by omega⟩
  obtain ⟨h1, h2, h3, h4, h5, h6⟩ := h
  rw [e_r22_unused, b_r22_unused]
  show some (⟨.bool, cond (cond (decide (IntKind.i64.wrap (IntKind.i64.wrap (IntKind.i64.wrap ((m.1.length : Int) + (m.2.length : Int)) + (q.1.1.length : Int)) + (q.1.2.length : Int)) = 0)) (decide (IntKind.i64.wrap ((q.2.1.length : Int) + (q.2.2.2.length : Int)) = 0)) false) (decide (q.2.2.1 = (0 : Int))) false⟩ : Dt E) = _
  rw [wrap_id (x := (m.1.length : Int) + (m.2.length : Int)) (by omega) (by omega), wrap_id (x := (m.1.length : Int) + (m.2.length : Int) + (q.1.1.length : Int)) (by omega) (by omega), wrap_id (x := (m.1.length : Int) + (m.2.length : Int) + (q.1.1.length : Int) + (q.1.2.length : Int)) (by omega) (by omega),
    wrap_id (x := (q.2.1.length : Int) + (q.2.2.2.length : Int)) (by omega) (by omega)]
  unfold bareB
  by_cases ha : (m.1.length : Int) + (m.2.length : Int) + (q.1.1.length : Int) + (q.1.2.length : Int) = 0
  · by_cases hb : (q.2.1.length : Int) + (q.2.2.2.length : Int) = 0
    · rw [decide_eq_true ha, decide_eq_true hb, cond_true, cond_true]
      congr 2
      by_cases hv : q.2.2.1 = 0
      · rw [decide_eq_true hv, decide_eq_true (by omega)]
      · rw [decide_eq_false hv, decide_eq_false (by omega)]
    · rw [decide_eq_true ha, decide_eq_false hb, cond_true, cond_false, decide_eq_false (by omega)]
  · rw [decide_eq_false ha, cond_false, cond_false, decide_eq_false (by omega)]
def rightB (kind : Int) (n : Nat) (b : Bool) : Bool :=
  cond (decide (kind = 1)) (decide (n = 0) && b) (cond (decide (kind = 2)) (decide (n = 1) && b) (cond (decide (kind = 3)) (decide (0 < n) && b) (cond (decide (kind = 4)) (decide (0 < n) && b) (cond (decide (kind = 5)) (decide (n = 1)) false))))
mutual
def wf0 : Cond → Bool
  | .mk kind kids m q => rightB kind kids.length (bareB m q) && wfs0 kids
def wfs0 : List Cond → Bool
  | [] => true
  | c :: r => wf0 c && wfs0 r
end
def wfB : CD → Bool := wf0
def wfAll : List CD → Bool := wfs0
theorem wfB_mk (kind : Int) (kids : List CD) (m : MorD) (q : PatD) : wfB (mkC kind kids m q) = (rightB kind kids.length (bareB m q) && wfAll kids) := rfl
theorem wfAll_cons (c : CD) (r : List CD) : wfAll (c :: r) = (wfB c && wfAll r) := rfl
theorem wfAll_any : ∀ l : List CD, (l.any fun x => !wfB x) = !wfAll l
  | [] => rfl
  | c :: r => by
    rw [List.any_cons, wfAll_any r, wfAll_cons]
    cases wfB c <;> rfl
theorem dI (n : Nat) (a : Nat) : decide ((n : Int) = (a : Int)) = decide (n = a) := by
  by_cases h : n = a
  · rw [decide_eq_true h, decide_eq_true (by omega)]
  · rw [decide_eq_false h, decide_eq_false (by omega)]
theorem d0 (n : Nat) : decide ((n : Int) = 0) = decide (n = 0) := dI n 0
theorem d1 (n : Nat) : decide ((n : Int) = 1) = decide (n = 1) := dI n 1
theorem d0lt (n : Nat) : decide ((0 : Int) < (n : Int)) = decide (0 < n) := by
  by_cases h : 0 < n
  · rw [decide_eq_true h, decide_eq_true (by omega)]
  · rw [decide_eq_false h, decide_eq_false (by omega)]
theorem d1le (n : Nat) : decide ((1 : Int) ≤ (n : Int)) = decide (0 < n) := by
  by_cases h : 0 < n
  · rw [decide_eq_true h, decide_eq_true (by omega)]
  · rw [decide_eq_false h, decide_eq_false (by omega)]
theorem condition_wellFormed_ev : ∀ c : CD, SmallC c → csize c ≤ 1000 → ∀ k, 10 + 2000 * csize c ≤ k → run M k f_condition_wellFormed [.val (.nom 0) c] = some ⟨.bool, wfB c⟩ :=
  CD.ind fun kind kids m q ih hs hc k hk => by
    have hr : 1000 ≤ reachBytes := by decide
    rw [csize_mk] at hc hk
    rw [small_mk] at hs
    have hkl := csizes_length kids
    obtain ⟨k, rfl⟩ : ∃ i, k = i + 1 := ⟨k - 1, by omega⟩
    have hbare : run M k f_condition_bare [.val (.nom 0) (mkC kind kids m q)] = some ⟨.bool, bareB m q⟩ := condition_bare_ev kind kids m q hs.1 k (by omega)
    have hkids : run M k f_slices_ContainsFunc_Condition [.val (.slice (.nom 0)) (kids : List CD), .fn f_condition_wellFormed_1 []] = some ⟨.bool, !wfAll kids⟩ := by
      rw [ContainsFunc_Condition_ev (xs := (kids : List CD)) (p := fun x => !wfB x) (c := 20 + 2000 * csizes kids) (fun y hy k hk => by
        obtain ⟨k, rfl⟩ : ∃ i, k = i + 1 := ⟨k - 1, by omega⟩
        have hle := csize_mem hy
        show run M (k + 1) f_condition_wellFormed_1 [.val (.nom 0) y] = _
        rw [e_condition_wellFormed_1, b_condition_wellFormed_1, repack y, ih y hy (small_mem hs.2 y hy) (by omega) k (by omega), res_some, bindS]) (by omega) k (by omega)]
      rw [← wfAll_any]
    rw [e_condition_wellFormed, b_condition_wellFormed]
    rw [wfB_mk]
    generalize hK : run M k f_slices_ContainsFunc_Condition [.val (.slice (.nom 0)) (kids : List CD), .fn f_condition_wellFormed_1 []] = K at hkids
    generalize hB : run M k f_condition_bare [.val (.nom 0) (mkC kind kids m q)] = B at hbare
    show cond (decide (kind = (1 : Int))) (Option.bind (cond (decide ((kids.length : Int) = (0 : Int))) (res .bool (run M k f_condition_bare [.val (.nom 0) (mkC kind kids m q)])) (some (dflt E .bool))) (fun r1 => Option.bind (cond (cond (decide ((kids.length : Int) = (0 : Int))) r1 false) (res .bool (run M k f_slices_ContainsFunc_Condition [.val (.slice (.nom 0)) (kids : List CD), .fn f_condition_wellFormed_1 []])) (some (dflt E .bool))) (fun r2 => some (⟨.bool, cond (cond (decide ((kids.length : Int) = (0 : Int))) r1 false) (!r2) false⟩ : Dt E))))
      (cond (decide (kind = (2 : Int))) (Option.bind (cond (decide ((kids.length : Int) = (1 : Int))) (res .bool (run M k f_condition_bare [.val (.nom 0) (mkC kind kids m q)])) (some (dflt E .bool))) (fun r1 => Option.bind (cond (cond (decide ((kids.length : Int) = (1 : Int))) r1 false) (res .bool (run M k f_slices_ContainsFunc_Condition [.val (.slice (.nom 0)) (kids : List CD), .fn f_condition_wellFormed_1 []])) (some (dflt E .bool))) (fun r2 => some (⟨.bool, cond (cond (decide ((kids.length : Int) = (1 : Int))) r1 false) (!r2) false⟩ : Dt E))))
      (cond (decide (kind = (3 : Int))) (cond (decide (kind = (3 : Int))) (Option.bind (cond (decide ((1 : Int) ≤ (kids.length : Int))) (res .bool (run M k f_condition_bare [.val (.nom 0) (mkC kind kids m q)])) (some (dflt E .bool))) (fun r1 => Option.bind (cond (cond (decide ((1 : Int) ≤ (kids.length : Int))) r1 false) (res .bool (run M k f_slices_ContainsFunc_Condition [.val (.slice (.nom 0)) (kids : List CD), .fn f_condition_wellFormed_1 []])) (some (dflt E .bool))) (fun r2 => some (⟨.bool, cond (cond (decide ((1 : Int) ≤ (kids.length : Int))) r1 false) (!r2) false⟩ : Dt E)))) _)
      (cond (decide (kind = (4 : Int))) (Option.bind (cond (decide ((1 : Int) ≤ (kids.length : Int))) (res .bool (run M k f_condition_bare [.val (.nom 0) (mkC kind kids m q)])) (some (dflt E .bool))) (fun r1 => Option.bind (cond (cond (decide ((1 : Int) ≤ (kids.length : Int))) r1 false) (res .bool (run M k f_slices_ContainsFunc_Condition [.val (.slice (.nom 0)) (kids : List CD), .fn f_condition_wellFormed_1 []])) (some (dflt E .bool))) (fun r2 => some (⟨.bool, cond (cond (decide ((1 : Int) ≤ (kids.length : Int))) r1 false) (!r2) false⟩ : Dt E))))
      (cond (decide (kind = (5 : Int))) (Option.bind (cond (decide ((kids.length : Int) = (1 : Int))) (res .bool (run M k f_slices_ContainsFunc_Condition [.val (.slice (.nom 0)) (kids : List CD), .fn f_condition_wellFormed_1 []])) (some (dflt E .bool))) (fun r7 => some (⟨.bool, cond (decide ((kids.length : Int) = (1 : Int))) (!r7) false⟩ : Dt E)))
        (Option.bind (cond false (res .bool (run M k f_slices_ContainsFunc_Condition [.val (.slice (.nom 0)) (kids : List CD), .fn f_condition_wellFormed_1 []])) (some (dflt E .bool))) (fun r8 => some (⟨.bool, cond false (!r8) false⟩ : Dt E))))))) = _
    rw [hB, hK, hbare, hkids, res_some, res_some, d0, d1, d1le]
    unfold rightB
    by_cases k1 : kind = 1
    · rw [decide_eq_true k1]
      cases decide (kids.length = 0) <;> cases bareB m q <;> cases wfAll kids <;> rfl
    rw [decide_eq_false k1]
    by_cases k2 : kind = 2
    · rw [decide_eq_true k2]
      cases decide (kids.length = 1) <;> cases bareB m q <;> cases wfAll kids <;> rfl
    rw [decide_eq_false k2]
    by_cases k3 : kind = 3
    · rw [decide_eq_true k3]
      cases decide (0 < kids.length) <;> cases bareB m q <;> cases wfAll kids <;> rfl
    rw [decide_eq_false k3]
    by_cases k4 : kind = 4
    · rw [decide_eq_true k4]
      cases decide (0 < kids.length) <;> cases bareB m q <;> cases wfAll kids <;> rfl
    rw [decide_eq_false k4]
    by_cases k5 : kind = 5
    · rw [decide_eq_true k5]
      cases decide (kids.length = 1) <;> cases wfAll kids <;> rfl
    rw [decide_eq_false k5]
    rfl
end Go.Proofs.AM

namespace Go.Proofs.AM
open Go
theorem r22_right_ev (kind : Int) (kids : List CD) (m : MorD) (q : PatD) (h : smallQ m q) : ∀ k, 2 ≤ k → run M k f_r22_right [.val (.nom 0) (mkC kind kids m q)] = some ⟨.bool, rightB kind kids.length (bareB m q)⟩ := by
  intro k hk
  obtain ⟨k, rfl⟩ : ∃ i, k = i + 1 := ⟨k - 1, by omega⟩
  have hbare : run M k f_r22_unused [.val (.nom 0) (mkC kind kids m q)] = some ⟨.bool, bareB m q⟩ := r22_unused_ev kind kids m q h k (by omega)
  rw [e_r22_right, b_r22_right]
  generalize hB : run M k f_r22_unused [.val (.nom 0) (mkC kind kids m q)] = B at hbare
  show cond (decide (kind = (1 : Int))) (Option.bind (cond (decide ((kids.length : Int) = (0 : Int))) (res .bool (run M k f_r22_unused [.val (.nom 0) (mkC kind kids m q)])) (some (dflt E .bool))) (fun r1 => some (⟨.bool, cond (decide ((kids.length : Int) = (0 : Int))) r1 false⟩ : Dt E)))
    (cond (decide (kind = (2 : Int))) (Option.bind (cond (decide ((kids.length : Int) = (1 : Int))) (res .bool (run M k f_r22_unused [.val (.nom 0) (mkC kind kids m q)])) (some (dflt E .bool))) (fun r1 => some (⟨.bool, cond (decide ((kids.length : Int) = (1 : Int))) r1 false⟩ : Dt E)))
    (cond (decide (kind = (3 : Int))) (cond (decide (kind = (3 : Int))) (Option.bind (cond (decide ((0 : Int) < (kids.length : Int))) (res .bool (run M k f_r22_unused [.val (.nom 0) (mkC kind kids m q)])) (some (dflt E .bool))) (fun r1 => some (⟨.bool, cond (decide ((0 : Int) < (kids.length : Int))) r1 false⟩ : Dt E))) _)
    (cond (decide (kind = (4 : Int))) (Option.bind (cond (decide ((0 : Int) < (kids.length : Int))) (res .bool (run M k f_r22_unused [.val (.nom 0) (mkC kind kids m q)])) (some (dflt E .bool))) (fun r1 => some (⟨.bool, cond (decide ((0 : Int) < (kids.length : Int))) r1 false⟩ : Dt E)))
    (cond (decide (kind = (5 : Int))) (some (⟨.bool, decide ((kids.length : Int) = (1 : Int))⟩ : Dt E)) (some (⟨.bool, false⟩ : Dt E)))))) = _
  rw [hB, hbare, res_some, d0, d1, d0lt]
  unfold rightB
  by_cases k1 : kind = 1
  · rw [decide_eq_true k1]
    cases decide (kids.length = 0) <;> cases bareB m q <;> rfl
  rw [decide_eq_false k1]
  by_cases k2 : kind = 2
  · rw [decide_eq_true k2]
    cases decide (kids.length = 1) <;> cases bareB m q <;> rfl
  rw [decide_eq_false k2]
  by_cases k3 : kind = 3
  · rw [decide_eq_true k3]
    cases decide (0 < kids.length) <;> cases bareB m q <;> rfl
  rw [decide_eq_false k3]
  by_cases k4 : kind = 4
  · rw [decide_eq_true k4]
    cases decide (0 < kids.length) <;> cases bareB m q <;> rfl
  rw [decide_eq_false k4]
  cases decide (kind = 5) <;> rfl
theorem r22_allRight_ev : ∀ c : CD, SmallC c → csize c ≤ 1000 → ∀ k, 10 + 2000 * csize c ≤ k → run M k f_r22_allRight [.val (.nom 0) c] = some ⟨.bool, wfB c⟩ :=
  CD.ind fun kind kids m q ih hs hc k hk => by
    rw [csize_mk] at hc hk
    rw [small_mk] at hs
    have hkl := csizes_length kids
    obtain ⟨k, rfl⟩ : ∃ i, k = i + 1 := ⟨k - 1, by omega⟩
    rw [e_r22_allRight, b_r22_allRight]
    show Option.bind (res .bool (run M k f_r22_right [.val (.nom 0) (mkC kind kids m q)])) (fun r1 => cond (!r1) (some (⟨.bool, false⟩ : Dt E)) (l_r22_allRight_0 (run M k) k (0 : Int) kind kids m.1 m.2 q.1.1 q.1.2 q.2.1 q.2.2.1 q.2.2.2)) = _
    rw [r22_right_ev kind kids m q hs.1 k (by omega), res_some, bindS, wfB_mk]
    cases rightB kind kids.length (bareB m q) with
    | false => rfl
    | true =>
      simp only [Bool.not_true, cond_false, Bool.true_and]
      exact loop_down (n := kids.length) (F := fun j i => l_r22_allRight_0 (run M k) j i kind kids m.1 m.2 q.1.1 q.1.2 q.2.1 q.2.2.1 q.2.2.2) (G := fun i => some ⟨.bool, wfAll (kids.drop i)⟩)
        (fun j => by
          show s_r22_allRight_0 (run M k) _ _ kind kids m.1 m.2 q.1.1 q.1.2 q.2.1 q.2.2.1 q.2.2.2 = _
          rw [List.drop_eq_nil_of_le (Nat.le_refl _)]
          simp only [s_r22_allRight_0, Int.lt_irrefl, decide_false, cond_false]
          rfl)
        (fun i j hi ihl => by
          show s_r22_allRight_0 (run M k) _ _ kind kids m.1 m.2 q.1.1 q.1.2 q.2.1 q.2.2.1 q.2.2.2 = _
          have hmem := List.getElem_mem hi
          have hle := csize_mem hmem
          rw [List.drop_eq_getElem_cons hi, wfAll_cons]
          simp only [s_r22_allRight_0, inB_nat, hi, decide_true, Int.ofNat_lt, cond_true, rd_nat (t := .nom 0) kids i hi]
          rw [repack kids[i], ih kids[i] hmem (small_mem hs.2 _ hmem) (by omega) k (by omega), res_some, bindS, wrap_succ (by omega), ihl]
          cases wfB kids[i] <;> rfl) 0 (Nat.zero_le _) k (by omega)
mutual
def depth0 : Cond → Nat
  | .mk kind kids _ _ => (cond (decide (kind = 5)) 1 0) + depths0 0 kids
def depths0 : Nat → List Cond → Nat
  | n, [] => n
  | n, c :: r => depths0 (max n (depth0 c)) r
end
def depthC : CD → Nat := depth0
def depthL : Nat → List CD → Nat := depths0
theorem depthC_mk (kind : Int) (kids : List CD) (m : MorD) (q : PatD) : depthC (mkC kind kids m q) = (cond (decide (kind = 5)) 1 0) + depthL 0 kids := by unfold depthC depthL mkC; simp only [depth0]
theorem depthL_nil (n : Nat) : depthL n [] = n := by unfold depthL; simp only [depths0]
theorem depthL_cons (n : Nat) (c : CD) (r : List CD) : depthL n (c :: r) = depthL (max n (depthC c)) r := by unfold depthL depthC; simp only [depths0]
theorem depthL_le {l : List CD} (h : ∀ x ∈ l, depthC x ≤ csize x) : ∀ n, depthL n l ≤ max n (csizes l) := by
  induction l with
  | nil => intro n; rw [depthL_nil, csizes_nil]; omega
  | cons c r ih =>
    intro n
    rw [depthL_cons, csizes_cons]
    have := ih (fun x hx => h x (by simp [hx])) (max n (depthC c))
    have := h c (by simp)
    omega
theorem depthC_le : ∀ c : CD, depthC c ≤ csize c := CD.ind fun kind kids m q ih => by
  rw [depthC_mk, csize_mk]
  have := depthL_le ih 0
  cases decide (kind = 5) <;> simp only [cond_true, cond_false] <;> omega
theorem max_cond (a b : Nat) : cond (decide ((a : Int) < (b : Int))) (b : Int) (a : Int) = ((max a b : Nat) : Int) := by
  by_cases h : (a : Int) < (b : Int)
  · rw [decide_eq_true h]; simp only [cond_true]; omega
  · rw [decide_eq_false h]; simp only [cond_false]; omega
theorem condition_measure_ev : ∀ c : CD, csize c ≤ 1000 → ∀ k, 10 + 2000 * csize c ≤ k → run M k f_condition_measure [.val (.nom 0) c] = some ⟨tTerm, ((csize c : Int), (depthC c : Int))⟩ :=
  CD.ind fun kind kids m q ih hc k hk => by
    rw [csize_mk] at hc hk
    have hkl := csizes_length kids
    obtain ⟨k, rfl⟩ : ∃ i, k = i + 1 := ⟨k - 1, by omega⟩
    rw [e_condition_measure, b_condition_measure]
    show l_condition_measure_0 (run M k) k (1 : Int) (0 : Int) kids (kids.length : Int) (0 : Int) kind kids m.1 m.2 q.1.1 q.1.2 q.2.1 q.2.2.1 q.2.2.2 = _
    have hloop := down_any (n := kids.length) (Q := fun j i => ∀ (a d : Nat), a + csizes (kids.drop i) ≤ 1000 → d ≤ 1000 → l_condition_measure_0 (run M k) j (a : Int) (d : Int) kids (kids.length : Int) (i : Int) kind kids m.1 m.2 q.1.1 q.1.2 q.2.1 q.2.2.1 q.2.2.2 =
        some ⟨tTerm, (((a + csizes (kids.drop i) : Nat) : Int), (((cond (decide (kind = 5)) 1 0) + depthL d (kids.drop i) : Nat) : Int))⟩)
      (fun j a d ha hd => by
        show s_condition_measure_0 (run M k) _ _ _ kids _ _ kind kids m.1 m.2 q.1.1 q.1.2 q.2.1 q.2.2.1 q.2.2.2 = _
        rw [List.drop_eq_nil_of_le (Nat.le_refl _), csizes_nil, depthL_nil]
        simp only [s_condition_measure_0, Int.lt_irrefl, decide_false, cond_false, Nat.add_zero]
        by_cases h5 : kind = 5
        · rw [decide_eq_true h5, cond_true, wrap_succ (by omega), cond_true, Nat.add_comm 1 d]
        · rw [decide_eq_false h5, cond_false, cond_false, Nat.zero_add])
      (fun i j hi ihl a d ha hd => by
        show s_condition_measure_0 (run M k) _ _ _ kids _ _ kind kids m.1 m.2 q.1.1 q.1.2 q.2.1 q.2.2.1 q.2.2.2 = _
        have hmem := List.getElem_mem hi
        have hle := csize_mem hmem
        have hdl := depthC_le kids[i]
        rw [List.drop_eq_getElem_cons hi, csizes_cons] at ha ⊢
        simp only [s_condition_measure_0, inB_nat, hi, decide_true, Int.ofNat_lt, cond_true, rd_nat (t := .nom 0) kids i hi]
        rw [repack kids[i], ih kids[i] hmem (by omega) k (by omega), res_some, bindS, wrap_succ (by omega), depthL_cons]
        simp only
        rw [max_cond, wrap_id (x := (a : Int) + (csize kids[i] : Int)) (by omega) (by omega), ← Int.natCast_add, ihl (a + csize kids[i]) (max d (depthC kids[i])) (by omega) (by omega), Nat.add_assoc]) 0 (Nat.zero_le _) k (by omega) 1 0 (by rw [List.drop_zero]; omega) (by omega)
    rw [csize_mk, depthC_mk]
    exact hloop
theorem r22_Measure_ev : ∀ c : CD, csize c ≤ 1000 → ∀ k, 10 + 2000 * csize c ≤ k → run M k f_r22_Measure [.val (.nom 0) c] = some ⟨tTerm, ((csize c : Int), (depthC c : Int))⟩ :=
  CD.ind fun kind kids m q ih hc k hk => by
    rw [csize_mk] at hc hk
    have hkl := csizes_length kids
    obtain ⟨k, rfl⟩ : ∃ i, k = i + 1 := ⟨k - 1, by omega⟩
    rw [e_r22_Measure, b_r22_Measure]
    show l_r22_Measure_0 (run M k) k (1 : Int) (0 : Int) (0 : Int) kind kids m.1 m.2 q.1.1 q.1.2 q.2.1 q.2.2.1 q.2.2.2 = _
    have hloop := down_any (n := kids.length) (Q := fun j i => ∀ (a d : Nat), a + csizes (kids.drop i) ≤ 1000 → d ≤ 1000 → l_r22_Measure_0 (run M k) j (a : Int) (d : Int) (i : Int) kind kids m.1 m.2 q.1.1 q.1.2 q.2.1 q.2.2.1 q.2.2.2 =
        some ⟨tTerm, (((a + csizes (kids.drop i) : Nat) : Int), (((cond (decide (kind = 5)) 1 0) + depthL d (kids.drop i) : Nat) : Int))⟩)
      (fun j a d ha hd => by
        show s_r22_Measure_0 (run M k) _ _ _ _ kind kids m.1 m.2 q.1.1 q.1.2 q.2.1 q.2.2.1 q.2.2.2 = _
        rw [List.drop_eq_nil_of_le (Nat.le_refl _), csizes_nil, depthL_nil]
        simp only [s_r22_Measure_0, Int.lt_irrefl, decide_false, cond_false, Nat.add_zero]
        by_cases h5 : kind = 5
        · rw [decide_eq_true h5, cond_true, wrap_succ (by omega), cond_true, Nat.add_comm 1 d]
        · rw [decide_eq_false h5, cond_false, cond_false, Nat.zero_add])
      (fun i j hi ihl a d ha hd => by
        show s_r22_Measure_0 (run M k) _ _ _ _ kind kids m.1 m.2 q.1.1 q.1.2 q.2.1 q.2.2.1 q.2.2.2 = _
        have hmem := List.getElem_mem hi
        have hle := csize_mem hmem
        have hdl := depthC_le kids[i]
        rw [List.drop_eq_getElem_cons hi, csizes_cons] at ha ⊢
        simp only [s_r22_Measure_0, inB_nat, hi, decide_true, Int.ofNat_lt, cond_true, rd_nat (t := .nom 0) kids i hi]
        rw [repack kids[i], ih kids[i] hmem (by omega) k (by omega), res_some, bindS, wrap_succ (by omega), depthL_cons]
        simp only
        rw [max_cond, wrap_id (x := (a : Int) + (csize kids[i] : Int)) (by omega) (by omega), ← Int.natCast_add, ihl (a + csize kids[i]) (max d (depthC kids[i])) (by omega) (by omega), Nat.add_assoc]) 0 (Nat.zero_le _) k (by omega) 1 0 (by rw [List.drop_zero]; omega) (by omega)
    rw [csize_mk, depthC_mk]
    exact hloop
def shapeCE (c : CD) : Int := cond (!wfB c) 1 (cond (cond (decide ((12 : Int) < (csize c : Int))) true (decide ((3 : Int) < (depthC c : Int)))) 3 0)
theorem condition_shape_ev (c : CD) (hs : SmallC c) (hc : csize c ≤ 1000) : ∀ k, 20 + 2000 * csize c ≤ k → run M k f_condition_shape [.val (.nom 0) c] = some ⟨tI, shapeCE c⟩ := by
  intro k hk
  obtain ⟨k, rfl⟩ : ∃ i, k = i + 1 := ⟨k - 1, by omega⟩
  rw [e_condition_shape, b_condition_shape, repack c, condition_wellFormed_ev c hs hc k (by omega), res_some, bindS]
  unfold shapeCE
  cases wfB c with
  | false => rfl
  | true =>
    simp only [Bool.not_true, cond_false]
    rw [condition_measure_ev c hc k (by omega), res_some, bindS]
    simp only
    cases (cond (decide ((12 : Int) < (csize c : Int))) true (decide ((3 : Int) < (depthC c : Int)))) <;> rfl
theorem r22_Shape_ev (c : CD) (hs : SmallC c) (hc : csize c ≤ 1000) : ∀ k, 20 + 2000 * csize c ≤ k → run M k f_r22_Shape [.val (.nom 0) c] = some ⟨tI, shapeCE c⟩ := by
  intro k hk
  obtain ⟨k, rfl⟩ : ∃ i, k = i + 1 := ⟨k - 1, by omega⟩
  rw [e_r22_Shape, b_r22_Shape, repack c, r22_allRight_ev c hs hc k (by omega), res_some, bindS]
  unfold shapeCE
  cases wfB c with
  | false => rfl
  | true =>
    simp only [Bool.not_true, cond_false]
    rw [r22_Measure_ev c hc k (by omega), res_some, bindS]
    simp only
    cases (cond (decide ((12 : Int) < (csize c : Int))) true (decide ((3 : Int) < (depthC c : Int)))) <;> rfl
mutual
noncomputable def over0 (t : TypesD) : Cond → PatD → Int
  | .mk kind kids m q, p => cond (decide (kind = 5)) (cond (!(decide (innerE t p.2.2.1 q = 0))) (innerE t p.2.2.1 q) (cond (!(decide (morE p.1 q.1 m = 0))) (morE p.1 q.1 m) (cond (!injB p.1 q.1 m) 1 (overs0 t kids q)))) (overs0 t kids p)
noncomputable def overs0 (t : TypesD) : List Cond → PatD → Int
  | [], _ => 0
  | c :: r, p => cond (!(decide (over0 t c p = 0))) (over0 t c p) (overs0 t r p)
end
end Go.Proofs.AM

namespace Go.Proofs.AM
open Go
theorem good_big : ∀ c : CD, Good E (.nom 0) c → BigOk c :=
  CD.ind fun kind kids m q ih h => by
    have h : Good E (.nom 0) (mkC kind kids m q) := h
    cases h with
    | nom h1 =>
      have h1 : Good E (.pair tI (.pair (.slice (.nom 0)) (.pair tMorphism tPattern))) (kind, kids, m, q) := h1
      cases h1 with
      | pair _ h2 =>
        cases h2 with
        | pair hk h3 =>
          cases h3 with
          | pair hm _ =>
            refine big_mk.2 ⟨?_, ?_⟩
            · obtain ⟨ma, mb⟩ := m
              cases hm with
              | pair ha hb =>
                cases ha with
                | slice la _ =>
                  cases hb with
                  | slice lb _ => exact ⟨la, lb⟩
            · cases hk with
              | slice _ hk =>
                clear h
                have key : ∀ l : List CD, (∀ x ∈ l, BigOk x) → BigOks l := by
                  intro l
                  induction l with
                  | nil => intro _; exact trivial
                  | cons c r ih => intro hl; exact bigs_cons.2 ⟨hl c (by simp), ih fun x hx => hl x (by simp [hx])⟩
                refine key kids fun x hx => ?_
                obtain ⟨i, hi, rfl⟩ := List.getElem_of_mem hx
                exact ih _ hx (hk i hi)
end Go.Proofs.AM

namespace Go.Proofs.AM
open Go
def eqsB {α : Type} (e : α → α → Bool) : List α → List α → Bool
  | [], [] => true
  | x :: xs, y :: ys => e x y && eqsB e xs ys
  | _, _ => false
theorem eqsB_cons {α : Type} (e : α → α → Bool) (x y : α) (xs ys : List α) : eqsB e (x :: xs) (y :: ys) = (e x y && eqsB e xs ys) := rfl
theorem eqsB_iff {α : Type} {e : α → α → Bool} : ∀ {xs ys : List α}, (∀ x ∈ xs, ∀ y ∈ ys, e x y = true ↔ x = y) → (eqsB e xs ys = true ↔ xs = ys)
  | [], [], _ => ⟨fun _ => rfl, fun _ => rfl⟩
  | [], y :: ys, _ => ⟨fun h => (by cases h), fun h => (by cases h)⟩
  | x :: xs, [], _ => ⟨fun h => (by cases h), fun h => (by cases h)⟩
  | x :: xs, y :: ys, h => by
    rw [eqsB_cons, Bool.and_eq_true, h x (by simp) y (by simp), eqsB_iff (fun a ha b hb => h a (by simp [ha]) b (by simp [hb]))]
    constructor
    · rintro ⟨rfl, rfl⟩; rfl
    · intro h; injection h with h1 h2; exact ⟨h1, h2⟩
theorem eqsB_len {α : Type} (e : α → α → Bool) : ∀ {xs ys : List α}, xs.length ≠ ys.length → eqsB e xs ys = false
  | [], [], h => absurd rfl h
  | [], _ :: _, _ => rfl
  | _ :: _, [], _ => rfl
  | x :: xs, y :: ys, h => by rw [eqsB_cons, eqsB_len e (by simpa using h), Bool.and_false]
theorem eqs_loop {α : Type} {F : Nat → Int → Res E} {e : α → α → Bool} {xs ys : List α} (hl : xs.length = ys.length)
    (h0 : ∀ j, F (j + 1) (xs.length : Int) = some ⟨.bool, true⟩)
    (h1 : ∀ q j (hq : q < xs.length) (hq' : q < ys.length), F (j + 1) (q : Int) = cond (!(e xs[q] ys[q])) (some ⟨.bool, false⟩) (F j ((q + 1 : Nat) : Int))) :
    ∀ j, xs.length < j → F j ((0 : Nat) : Int) = some ⟨.bool, eqsB e xs ys⟩ := fun j hj =>
  loop_down (n := xs.length) (F := F) (G := fun m => some ⟨.bool, eqsB e (xs.drop m) (ys.drop m)⟩)
    (fun j => by rw [List.drop_eq_nil_of_le (Nat.le_refl _), List.drop_eq_nil_of_le (by omega), h0]; rfl)
    (fun q j hq ih => by
      have hq' : q < ys.length := by omega
      rw [List.drop_eq_getElem_cons hq, List.drop_eq_getElem_cons hq', eqsB_cons, h1 q j hq hq', ih]
      cases e xs[q] ys[q] <;> rfl) 0 (Nat.zero_le _) j (by omega)
def eI (x y : Int) : Bool := decide (x = y)
def eEdge (x y : Int × Int × Int) : Bool := decide (x.1 = y.1) && (decide (x.2.1 = y.2.1) && decide (x.2.2 = y.2.2))
def eSlot (x y : Int × Int × Int × Int) : Bool := decide (x.1 = y.1) && (decide (x.2.1 = y.2.1) && (decide (x.2.2.1 = y.2.2.1) && decide (x.2.2.2 = y.2.2.2)))
def eTest (x y : Int × (Int × Int) × (Int × Int)) : Bool := decide (x.1 = y.1) && (decide (x.2.1.1 = y.2.1.1) && (decide (x.2.1.2 = y.2.1.2) && (decide (x.2.2.1 = y.2.2.1) && decide (x.2.2.2 = y.2.2.2))))
theorem eI_iff (x y : Int) : eI x y = true ↔ x = y := by simp [eI]
theorem eEdge_iff (x y : Int × Int × Int) : eEdge x y = true ↔ x = y := by
  obtain ⟨a, b, c⟩ := x; obtain ⟨d, e, f⟩ := y; simp [eEdge]
theorem eSlot_iff (x y : Int × Int × Int × Int) : eSlot x y = true ↔ x = y := by
  obtain ⟨a, b, c, g⟩ := x; obtain ⟨d, e, f, h⟩ := y; simp [eSlot]
theorem eTest_iff (x y : Int × (Int × Int) × (Int × Int)) : eTest x y = true ↔ x = y := by
  obtain ⟨a, ⟨b, c⟩, g, i⟩ := x; obtain ⟨d, ⟨e, f⟩, h, j⟩ := y; simp [eTest]; try omega
theorem decLen (m n : Nat) : decide ((m : Int) = (n : Int)) = decide (m = n) := dI m n
theorem Equal_int_ev (xs ys : List Int) (hs : xs.length ≤ 1000000) : ∀ k, xs.length + 2 ≤ k → run M k f_slices_Equal_int [.val (.slice tI) xs, .val (.slice tI) ys] = some ⟨.bool, eqsB eI xs ys⟩ := by
  intro k hk
  obtain ⟨k, rfl⟩ : ∃ i, k = i + 1 := ⟨k - 1, by omega⟩
  rw [e_slices_Equal_int, b_slices_Equal_int, decLen]
  by_cases hl : xs.length = ys.length
  case neg => rw [decide_eq_false hl, eqsB_len eI hl]; rfl
  rw [decide_eq_true hl]
  exact eqs_loop (F := fun j i => l_slices_Equal_int_0 (run M k) j xs ys xs.length i) hl
    (fun j => by
      show s_slices_Equal_int_0 (run M k) _ xs ys _ _ = _
      simp [s_slices_Equal_int_0])
    (fun q j hq hq' => by
      show s_slices_Equal_int_0 (run M k) _ xs ys _ _ = _
      simp only [s_slices_Equal_int_0, inB_nat, hq, hq', decide_true, Int.ofNat_lt, cond_true, rd_nat (t := tI) xs q hq, rd_nat (t := tI) ys q hq']
      rw [wrap_succ (by omega)]; rfl) k (by omega)
theorem Equal_Edge_ev (xs ys : List (D tEdge)) (hs : xs.length ≤ 1000000) : ∀ k, xs.length + 2 ≤ k → run M k f_slices_Equal_Edge [.val (.slice tEdge) xs, .val (.slice tEdge) ys] = some ⟨.bool, eqsB eEdge xs ys⟩ := by
  intro k hk
  obtain ⟨k, rfl⟩ : ∃ i, k = i + 1 := ⟨k - 1, by omega⟩
  rw [e_slices_Equal_Edge, b_slices_Equal_Edge, decLen]
  by_cases hl : xs.length = ys.length
  case neg => rw [decide_eq_false hl, eqsB_len _ hl]; rfl
  rw [decide_eq_true hl]
  exact eqs_loop (F := fun j i => l_slices_Equal_Edge_0 (run M k) j xs ys xs.length i) (e := eEdge) hl
    (fun j => by
      show s_slices_Equal_Edge_0 (run M k) _ xs ys _ _ = _
      simp [s_slices_Equal_Edge_0])
    (fun q j hq hq' => by
      show s_slices_Equal_Edge_0 (run M k) _ xs ys _ _ = _
      simp only [s_slices_Equal_Edge_0, inB_nat, hq, hq', decide_true, Int.ofNat_lt, cond_true, rd_nat (t := tEdge) xs q hq, rd_nat (t := tEdge) ys q hq']
      rw [wrap_succ (by omega)]; rfl) k (by omega)
theorem Equal_Slot_ev (xs ys : List (D tSlot)) (hs : xs.length ≤ 1000000) : ∀ k, xs.length + 2 ≤ k → run M k f_slices_Equal_Slot [.val (.slice tSlot) xs, .val (.slice tSlot) ys] = some ⟨.bool, eqsB eSlot xs ys⟩ := by
  intro k hk
  obtain ⟨k, rfl⟩ : ∃ i, k = i + 1 := ⟨k - 1, by omega⟩
  rw [e_slices_Equal_Slot, b_slices_Equal_Slot, decLen]
  by_cases hl : xs.length = ys.length
  case neg => rw [decide_eq_false hl, eqsB_len _ hl]; rfl
  rw [decide_eq_true hl]
  exact eqs_loop (F := fun j i => l_slices_Equal_Slot_0 (run M k) j xs ys xs.length i) (e := eSlot) hl
    (fun j => by
      show s_slices_Equal_Slot_0 (run M k) _ xs ys _ _ = _
      simp [s_slices_Equal_Slot_0])
    (fun q j hq hq' => by
      show s_slices_Equal_Slot_0 (run M k) _ xs ys _ _ = _
      simp only [s_slices_Equal_Slot_0, inB_nat, hq, hq', decide_true, Int.ofNat_lt, cond_true, rd_nat (t := tSlot) xs q hq, rd_nat (t := tSlot) ys q hq']
      rw [wrap_succ (by omega)]; rfl) k (by omega)
theorem Equal_Test_ev (xs ys : List (D tTest)) (hs : xs.length ≤ 1000000) : ∀ k, xs.length + 2 ≤ k → run M k f_slices_Equal_Test [.val (.slice tTest) xs, .val (.slice tTest) ys] = some ⟨.bool, eqsB eTest xs ys⟩ := by
  intro k hk
  obtain ⟨k, rfl⟩ : ∃ i, k = i + 1 := ⟨k - 1, by omega⟩
  rw [e_slices_Equal_Test, b_slices_Equal_Test, decLen]
  by_cases hl : xs.length = ys.length
  case neg => rw [decide_eq_false hl, eqsB_len _ hl]; rfl
  rw [decide_eq_true hl]
  exact eqs_loop (F := fun j i => l_slices_Equal_Test_0 (run M k) j xs ys xs.length i) (e := eTest) hl
    (fun j => by
      show s_slices_Equal_Test_0 (run M k) _ xs ys _ _ = _
      simp [s_slices_Equal_Test_0])
    (fun q j hq hq' => by
      show s_slices_Equal_Test_0 (run M k) _ xs ys _ _ = _
      simp only [s_slices_Equal_Test_0, inB_nat, hq, hq', decide_true, Int.ofNat_lt, cond_true, rd_nat (t := tTest) xs q hq, rd_nat (t := tTest) ys q hq']
      rw [wrap_succ (by omega)]; rfl) k (by omega)
theorem r02_SameInts_ev (xs ys : List Int) (hs : xs.length ≤ 1000000) : ∀ k, xs.length + 2 ≤ k → run M k f_r02_SameInts [.val (.slice tI) xs, .val (.slice tI) ys] = some ⟨.bool, eqsB eI xs ys⟩ := by
  intro k hk
  obtain ⟨k, rfl⟩ : ∃ i, k = i + 1 := ⟨k - 1, by omega⟩
  rw [e_r02_SameInts, b_r02_SameInts, decLen]
  by_cases hl : xs.length = ys.length
  case neg => rw [decide_eq_false hl, eqsB_len eI hl]; rfl
  rw [decide_eq_true hl]
  exact eqs_loop (F := fun j i => l_r02_SameInts_0 (run M k) j xs ys i) hl
    (fun j => by
      show s_r02_SameInts_0 (run M k) _ xs ys _ = _
      simp [s_r02_SameInts_0])
    (fun q j hq hq' => by
      show s_r02_SameInts_0 (run M k) _ xs ys _ = _
      simp only [s_r02_SameInts_0, inB_nat, hq, hq', decide_true, Int.ofNat_lt, cond_true, rd_nat (t := tI) xs q hq, rd_nat (t := tI) ys q hq']
      rw [wrap_succ (by omega)]; rfl) k (by omega)
theorem r05_SameInts_ev (xs ys : List Int) (hs : xs.length ≤ 1000000) : ∀ k, xs.length + 2 ≤ k → run M k f_r05_SameInts [.val (.slice tI) xs, .val (.slice tI) ys] = some ⟨.bool, eqsB eI xs ys⟩ := by
  intro k hk
  obtain ⟨k, rfl⟩ : ∃ i, k = i + 1 := ⟨k - 1, by omega⟩
  rw [e_r05_SameInts, b_r05_SameInts, decLen]
  by_cases hl : xs.length = ys.length
  case neg => rw [decide_eq_false hl, eqsB_len eI hl]; rfl
  rw [decide_eq_true hl]
  exact eqs_loop (F := fun j i => l_r05_SameInts_0 (run M k) j xs ys i) hl
    (fun j => by
      show s_r05_SameInts_0 (run M k) _ xs ys _ = _
      simp [s_r05_SameInts_0])
    (fun q j hq hq' => by
      show s_r05_SameInts_0 (run M k) _ xs ys _ = _
      simp only [s_r05_SameInts_0, inB_nat, hq, hq', decide_true, Int.ofNat_lt, cond_true, rd_nat (t := tI) xs q hq, rd_nat (t := tI) ys q hq']
      rw [wrap_succ (by omega)]; rfl) k (by omega)
theorem r05_Same_ev (g h : GraphD) (h1 : g.1.length ≤ 1000) (h2 : g.2.length ≤ 1000) : ∀ k, 1010 ≤ k → run M k f_r05_Same [.val tGraph g, .val tGraph h] = some ⟨.bool, eqsB eI g.1 h.1 && eqsB eEdge g.2 h.2⟩ := by
  intro k hk
  obtain ⟨k, rfl⟩ : ∃ i, k = i + 1 := ⟨k - 1, by omega⟩
  rw [e_r05_Same, b_r05_Same, r05_SameInts_ev g.1 h.1 (by omega) k (by omega), res_some, bindS, decLen]
  cases eqsB eI g.1 h.1 with
  | false => rfl
  | true =>
    by_cases hl : g.2.length = h.2.length
    case neg => rw [decide_eq_false hl, eqsB_len _ hl]; rfl
    rw [decide_eq_true hl]
    exact eqs_loop (F := fun j i => l_r05_Same_0 (run M k) j i g.1 g.2 h.1 h.2) (e := eEdge) (xs := g.2) (ys := h.2) hl
      (fun j => by
        show s_r05_Same_0 (run M k) _ _ g.1 g.2 h.1 h.2 = _
        simp [s_r05_Same_0])
      (fun q j hq hq' => by
        show s_r05_Same_0 (run M k) _ _ g.1 g.2 h.1 h.2 = _
        simp only [s_r05_Same_0, inB_nat, hq, hq', decide_true, Int.ofNat_lt, cond_true, rd_nat (t := tEdge) g.2 q hq, rd_nat (t := tEdge) h.2 q hq']
        rw [wrap_succ (by omega)]; rfl) k (by omega)
def samePB (p q : PatD) : Bool := eqsB eI p.1.1 q.1.1 && eqsB eEdge p.1.2 q.1.2 && decide (p.2.2.1 = q.2.2.1) && eqsB eSlot p.2.1 q.2.1 && eqsB eTest p.2.2.2 q.2.2.2
def sameMB (a b : MorD) : Bool := eqsB eI a.1 b.1 && eqsB eI a.2 b.2
theorem r21_Same_ev (p q : PatD) (h1 : p.1.1.length ≤ 1000) (h2 : p.1.2.length ≤ 1000) (h3 : p.2.1.length ≤ 1000) (h4 : p.2.2.2.length ≤ 1000) : ∀ k, 1020 ≤ k → run M k f_r21_Same [.val tPattern p, .val tPattern q] = some ⟨.bool, samePB p q⟩ := by
  intro k hk
  obtain ⟨k, rfl⟩ : ∃ i, k = i + 1 := ⟨k - 1, by omega⟩
  rw [e_r21_Same, b_r21_Same]
  show Option.bind (res .bool (run M k f_r05_Same [.val tGraph p.1, .val tGraph q.1])) _ = _
  rw [r05_Same_ev p.1 q.1 h1 h2 k (by omega), res_some, bindS, decLen, decLen]
  unfold samePB
  cases eqsB eI p.1.1 q.1.1 && eqsB eEdge p.1.2 q.1.2 with
  | false => simp only [Bool.false_and]; rfl
  | true =>
    by_cases hv : p.2.2.1 = q.2.2.1
    case neg => rw [decide_eq_false hv]; simp only [Bool.and_false, Bool.false_and]; rfl
    rw [decide_eq_true hv]
    by_cases hl : p.2.1.length = q.2.1.length
    case neg => rw [decide_eq_false hl, eqsB_len eSlot hl]; simp only [Bool.and_false, Bool.false_and]; rfl
    rw [decide_eq_true hl]
    by_cases hm : p.2.2.2.length = q.2.2.2.length
    case neg => rw [decide_eq_false hm, eqsB_len eTest hm]; simp only [Bool.and_false]; rfl
    rw [decide_eq_true hm]
    simp only [Bool.not_true, cond_false, Bool.true_and]
    have inner : ∀ j, p.2.2.2.length < j → l_r21_Same_2 (run M k) j (0 : Int) p.1.1 p.1.2 p.2.1 p.2.2.1 p.2.2.2 q.1.1 q.1.2 q.2.1 q.2.2.1 q.2.2.2 = some ⟨.bool, eqsB eTest p.2.2.2 q.2.2.2⟩ :=
      eqs_loop (F := fun j i => l_r21_Same_2 (run M k) j i p.1.1 p.1.2 p.2.1 p.2.2.1 p.2.2.2 q.1.1 q.1.2 q.2.1 q.2.2.1 q.2.2.2) (e := eTest) (xs := p.2.2.2) (ys := q.2.2.2) hm
        (fun j => by
          show s_r21_Same_2 (run M k) _ _ p.1.1 p.1.2 p.2.1 p.2.2.1 p.2.2.2 q.1.1 q.1.2 q.2.1 q.2.2.1 q.2.2.2 = _
          simp [s_r21_Same_2])
        (fun i j hq hq' => by
          show s_r21_Same_2 (run M k) _ _ p.1.1 p.1.2 p.2.1 p.2.2.1 p.2.2.2 q.1.1 q.1.2 q.2.1 q.2.2.1 q.2.2.2 = _
          simp only [s_r21_Same_2, inB_nat, hq, hq', decide_true, Int.ofNat_lt, cond_true, rd_nat (t := tTest) p.2.2.2 i hq, rd_nat (t := tTest) q.2.2.2 i hq']
          rw [wrap_succ (by omega)]; rfl)
    exact loop_down (n := p.2.1.length) (F := fun j i => l_r21_Same_0 (run M k) (l_r21_Same_2 (run M k) k) j i p.1.1 p.1.2 p.2.1 p.2.2.1 p.2.2.2 q.1.1 q.1.2 q.2.1 q.2.2.1 q.2.2.2) (G := fun m => some ⟨.bool, eqsB eSlot (p.2.1.drop m) (q.2.1.drop m) && eqsB eTest p.2.2.2 q.2.2.2⟩)
      (fun j => by
        rw [List.drop_eq_nil_of_le (Nat.le_refl _), List.drop_eq_nil_of_le (by omega)]
        show s_r21_Same_0 (run M k) (l_r21_Same_2 (run M k) k) _ _ p.1.1 p.1.2 p.2.1 p.2.2.1 p.2.2.2 q.1.1 q.1.2 q.2.1 q.2.2.1 q.2.2.2 = _
        simp only [s_r21_Same_0, Int.lt_irrefl, decide_false, cond_false]
        rw [inner k (by omega)]; rfl)
      (fun i j hq ih => by
        have hq' : i < q.2.1.length := by omega
        rw [List.drop_eq_getElem_cons hq, List.drop_eq_getElem_cons hq', eqsB_cons]
        show s_r21_Same_0 (run M k) (l_r21_Same_2 (run M k) k) _ _ p.1.1 p.1.2 p.2.1 p.2.2.1 p.2.2.2 q.1.1 q.1.2 q.2.1 q.2.2.1 q.2.2.2 = _
        simp only [s_r21_Same_0, inB_nat, hq, hq', decide_true, Int.ofNat_lt, cond_true, rd_nat (t := tSlot) p.2.1 i hq, rd_nat (t := tSlot) q.2.1 i hq']
        rw [wrap_succ (by omega), ih]
        show cond (!(eSlot p.2.1[i] q.2.1[i])) _ _ = _
        cases eSlot p.2.1[i] q.2.1[i] <;> rfl) 0 (Nat.zero_le _) k (by omega)
theorem morphism_Same_ev (a b : MorD) (h1 : a.1.length ≤ 1000) (h2 : a.2.length ≤ 1000) : ∀ k, 1010 ≤ k → run M k f_morphism_Same [.val tMorphism a, .val tMorphism b] = some ⟨.bool, sameMB a b⟩ := by
  intro k hk
  obtain ⟨k, rfl⟩ : ∃ i, k = i + 1 := ⟨k - 1, by omega⟩
  rw [e_morphism_Same, b_morphism_Same, Equal_int_ev a.1 b.1 (by omega) k (by omega), res_some, bindS, Equal_int_ev a.2 b.2 (by omega) k (by omega), res_some]
  unfold sameMB
  cases eqsB eI a.1 b.1 <;> rfl
theorem r06_Same_ev (a b : MorD) (h1 : a.1.length ≤ 1000) (h2 : a.2.length ≤ 1000) : ∀ k, 1010 ≤ k → run M k f_r06_Same [.val tMorphism a, .val tMorphism b] = some ⟨.bool, sameMB a b⟩ := by
  intro k hk
  obtain ⟨k, rfl⟩ : ∃ i, k = i + 1 := ⟨k - 1, by omega⟩
  rw [e_r06_Same, b_r06_Same, r02_SameInts_ev a.1 b.1 (by omega) k (by omega), res_some, bindS, r02_SameInts_ev a.2 b.2 (by omega) k (by omega), res_some]
  unfold sameMB
  cases eqsB eI a.1 b.1 <;> rfl
theorem sameMB_iff (a b : MorD) : sameMB a b = true ↔ a = b := by
  obtain ⟨a1, a2⟩ := a; obtain ⟨b1, b2⟩ := b
  simp only [sameMB, Bool.and_eq_true, eqsB_iff (fun x _ y _ => eI_iff x y), Prod.mk.injEq]
theorem samePB_iff (p q : PatD) : samePB p q = true ↔ p = q := by
  obtain ⟨⟨a1, a2⟩, a3, a4, a5⟩ := p; obtain ⟨⟨b1, b2⟩, b3, b4, b5⟩ := q
  simp only [samePB, Bool.and_eq_true, eqsB_iff (fun x _ y _ => eI_iff x y), eqsB_iff (fun x _ y _ => eEdge_iff x y), eqsB_iff (fun x _ y _ => eSlot_iff x y), eqsB_iff (fun x _ y _ => eTest_iff x y), decide_eq_true_eq, Prod.mk.injEq]
  constructor
  · rintro ⟨⟨⟨⟨h1, h2⟩, h3⟩, h4⟩, h5⟩; exact ⟨⟨h1, h2⟩, h4, h3, h5⟩
  · rintro ⟨⟨h1, h2⟩, h4, h3, h5⟩; exact ⟨⟨⟨⟨h1, h2⟩, h3⟩, h4⟩, h5⟩
end Go.Proofs.AM

namespace Go.Proofs.AM
open Go
noncomputable def sameC (a b : CD) : Bool := @decide (a = b) (Classical.propDecidable _)
theorem sameC_iff (a b : CD) : sameC a b = true ↔ a = b := by unfold sameC; exact @decide_eq_true_iff (a = b) (Classical.propDecidable _)
theorem sameC_refl (a : CD) : sameC a a = true := (sameC_iff a a).2 rfl
theorem sameC_ne {a b : CD} (h : a ≠ b) : sameC a b = false := by
  cases hs : sameC a b with
  | false => rfl
  | true => exact absurd ((sameC_iff a b).1 hs) h
theorem sameC_mk (k1 : Int) (c1 : List CD) (m1 : MorD) (q1 : PatD) (k2 : Int) (c2 : List CD) (m2 : MorD) (q2 : PatD) :
    sameC (mkC k1 c1 m1 q1) (mkC k2 c2 m2 q2) = (decide (k1 = k2) && (sameMB m1 m2 && (samePB q1 q2 && eqsB sameC c1 c2))) := by
  rw [Bool.eq_iff_iff]
  simp only [Bool.and_eq_true, sameC_iff, sameMB_iff, samePB_iff, eqsB_iff (fun x _ y _ => sameC_iff x y), decide_eq_true_eq]
  constructor
  · intro h
    obtain ⟨h1, h2, h3, h4⟩ := mkC_inj h
    exact ⟨h1, h3, h4, h2⟩
  · rintro ⟨rfl, rfl, rfl, rfl⟩; rfl
theorem EqualFunc_Condition_ev {k : Nat} (xs ys : List CD) (hs : xs.length ≤ 1000000) (hk : xs.length < k)
    (h : ∀ x ∈ xs, ∀ y, run M k f_condition_Same [.val (.nom 0) x, .val (.nom 0) y] = some ⟨.bool, sameC x y⟩) :
    run M (k + 1) f_slices_EqualFunc_Condition [.val (.slice (.nom 0)) xs, .val (.slice (.nom 0)) ys, .fn f_condition_Same []] = some ⟨.bool, eqsB sameC xs ys⟩ := by
  rw [e_slices_EqualFunc_Condition, b_slices_EqualFunc_Condition, decLen]
  by_cases hl : xs.length = ys.length
  case neg => rw [decide_eq_false hl, eqsB_len sameC hl]; rfl
  rw [decide_eq_true hl]
  exact eqs_loop (F := fun j i => l_slices_EqualFunc_Condition_0 (run M k) j ys f_condition_Same [] xs xs.length i) hl
    (fun j => by
      show s_slices_EqualFunc_Condition_0 (run M k) _ ys f_condition_Same [] xs _ _ = _
      simp [s_slices_EqualFunc_Condition_0])
    (fun q j hq hq' => by
      show s_slices_EqualFunc_Condition_0 (run M k) _ ys f_condition_Same [] xs _ _ = _
      have hx := h xs[q] (List.getElem_mem hq) ys[q]
      simp only [s_slices_EqualFunc_Condition_0, inB_nat, hq, hq', decide_true, Int.ofNat_lt, cond_true, rd_nat (t := .nom 0) xs q hq, rd_nat (t := .nom 0) ys q hq']
      rw [repack xs[q], repack ys[q]]
      show Option.bind (res .bool (run M k f_condition_Same [.val (.nom 0) xs[q], .val (.nom 0) ys[q]])) _ = _
      rw [hx, res_some, bindS, wrap_succ (by omega)]) k hk
theorem condition_Same_ev : ∀ a : CD, SmallC a → csize a ≤ 1000 → ∀ b : CD, ∀ k, 2000 + 2000 * csize a ≤ k → run M k f_condition_Same [.val (.nom 0) a, .val (.nom 0) b] = some ⟨.bool, sameC a b⟩ :=
  CD.ind fun kind kids m q ih hs hc b k hk => by
    obtain ⟨kind', kids', m', q', rfl⟩ := b.cases
    rw [csize_mk] at hc hk
    rw [small_mk] at hs
    obtain ⟨⟨s1, s2, s3, s4, s5, s6⟩, hs2⟩ := hs
    have hkl := csizes_length kids
    obtain ⟨k, rfl⟩ : ∃ i, k = i + 1 := ⟨k - 1, by omega⟩
    have hK : run M k f_slices_EqualFunc_Condition [.val (.slice (.nom 0)) kids, .val (.slice (.nom 0)) kids', .fn f_condition_Same []] = some ⟨.bool, eqsB sameC kids kids'⟩ := by
      obtain ⟨k, rfl⟩ : ∃ i, k = i + 1 := ⟨k - 1, by omega⟩
      exact EqualFunc_Condition_ev kids kids' (by omega) (by omega) fun x hx y => ih x hx (small_mem hs2 x hx) (by have := csize_mem hx; omega) y k (by have := csize_mem hx; omega)
    have hM := morphism_Same_ev m m' (by omega) (by omega) k (by omega)
    have hG := Equal_int_ev q.1.1 q'.1.1 (by omega) k (by omega)
    have hE := Equal_Edge_ev q.1.2 q'.1.2 (by omega) k (by omega)
    have hS := Equal_Slot_ev q.2.1 q'.2.1 (by omega) k (by omega)
    have hT := Equal_Test_ev q.2.2.2 q'.2.2.2 (by omega) k (by omega)
    rw [e_condition_Same, b_condition_Same, sameC_mk]
    unfold samePB
    show Option.bind (cond (!(!(decide (kind = kind')))) (res .bool (run M k f_morphism_Same [.val tMorphism m, .val tMorphism m'])) (some (dflt E .bool))) (fun r1 => Option.bind (cond (!(cond (cond (!(decide (kind = kind'))) true (!r1)) true (!(decide (q.2.2.1 = q'.2.2.1))))) (res .bool (run M k f_slices_Equal_int [.val (.slice tI) q.1.1, .val (.slice tI) q'.1.1])) (some (dflt E .bool)))
      (fun r2 => Option.bind (cond (!(cond (cond (cond (!(decide (kind = kind'))) true (!r1)) true (!(decide (q.2.2.1 = q'.2.2.1)))) true (!r2))) (res .bool (run M k f_slices_Equal_Edge [.val (.slice tEdge) q.1.2, .val (.slice tEdge) q'.1.2])) (some (dflt E .bool)))
      (fun r3 => cond (cond (cond (cond (cond (!(decide (kind = kind'))) true (!r1)) true (!(decide (q.2.2.1 = q'.2.2.1)))) true (!r2)) true (!r3)) (some (⟨.bool, false⟩ : Dt E)) (Option.bind (res .bool (run M k f_slices_Equal_Slot [.val (.slice tSlot) q.2.1, .val (.slice tSlot) q'.2.1]))
      (fun r4 => Option.bind (cond r4 (res .bool (run M k f_slices_Equal_Test [.val (.slice tTest) q.2.2.2, .val (.slice tTest) q'.2.2.2])) (some (dflt E .bool))) (fun r5 => Option.bind (cond (cond r4 r5 false) (res .bool (run M k f_slices_EqualFunc_Condition [.val (.slice (.nom 0)) kids, .val (.slice (.nom 0)) kids', .fn f_condition_Same []])) (some (dflt E .bool)))
      (fun r6 => some (⟨.bool, cond (cond r4 r5 false) r6 false⟩ : Dt E)))))))) = _
    rw [hK, hM, hG, hE, hS, hT]
    simp only [res_some]
    cases decide (kind = kind') with
    | false => rfl
    | true =>
      cases sameMB m m' with
      | false => rfl
      | true =>
        cases decide (q.2.2.1 = q'.2.2.1) with
        | false => cases eqsB eI q.1.1 q'.1.1 <;> cases eqsB eEdge q.1.2 q'.1.2 <;> rfl
        | true =>
          cases eqsB eI q.1.1 q'.1.1 with
          | false => rfl
          | true =>
            cases eqsB eEdge q.1.2 q'.1.2 with
            | false => rfl
            | true =>
              cases eqsB eSlot q.2.1 q'.2.1 with
              | false => rfl
              | true =>
                cases eqsB eTest q.2.2.2 q'.2.2.2 with
                | false => rfl
                | true => cases eqsB sameC kids kids' <;> rfl
theorem r22_Same_ev : ∀ a : CD, SmallC a → csize a ≤ 1000 → ∀ b : CD, ∀ k, 2000 + 2000 * csize a ≤ k → run M k f_r22_Same [.val (.nom 0) a, .val (.nom 0) b] = some ⟨.bool, sameC a b⟩ :=
  CD.ind fun kind kids m q ih hs hc b k hk => by
    obtain ⟨kind', kids', m', q', rfl⟩ := b.cases
    rw [csize_mk] at hc hk
    rw [small_mk] at hs
    obtain ⟨⟨s1, s2, s3, s4, s5, s6⟩, hs2⟩ := hs
    have hkl := csizes_length kids
    obtain ⟨k, rfl⟩ : ∃ i, k = i + 1 := ⟨k - 1, by omega⟩
    have hM := r06_Same_ev m m' (by omega) (by omega) k (by omega)
    have hP := r21_Same_ev q q' (by omega) (by omega) (by omega) (by omega) k (by omega)
    rw [e_r22_Same, b_r22_Same, sameC_mk]
    show Option.bind (cond (!(cond (!(decide (kind = kind'))) true (!(decide ((kids.length : Int) = (kids'.length : Int)))))) (res .bool (run M k f_r06_Same [.val tMorphism m, .val tMorphism m'])) (some (dflt E .bool))) (fun r1 => Option.bind (cond (!(cond (cond (!(decide (kind = kind'))) true (!(decide ((kids.length : Int) = (kids'.length : Int))))) true (!r1))) (res .bool (run M k f_r21_Same [.val tPattern q, .val tPattern q'])) (some (dflt E .bool)))
      (fun r2 => cond (cond (cond (cond (!(decide (kind = kind'))) true (!(decide ((kids.length : Int) = (kids'.length : Int))))) true (!r1)) true (!r2)) (some (⟨.bool, false⟩ : Dt E)) (l_r22_Same_0 (run M k) k (0 : Int) kind kids m.1 m.2 q.1.1 q.1.2 q.2.1 q.2.2.1 q.2.2.2 kind' kids' m'.1 m'.2 q'.1.1 q'.1.2 q'.2.1 q'.2.2.1 q'.2.2.2))) = _
    rw [hM, hP, decLen]
    simp only [res_some]
    cases decide (kind = kind') with
    | false => rfl
    | true =>
      by_cases hl : kids.length = kids'.length
      case neg =>
        rw [decide_eq_false hl, eqsB_len sameC hl]
        simp only [Bool.and_false]; rfl
      rw [decide_eq_true hl]
      cases sameMB m m' with
      | false => rfl
      | true =>
        cases samePB q q' with
        | false => rfl
        | true =>
          simp only [Bool.true_and]
          exact eqs_loop (F := fun j i => l_r22_Same_0 (run M k) j i kind kids m.1 m.2 q.1.1 q.1.2 q.2.1 q.2.2.1 q.2.2.2 kind' kids' m'.1 m'.2 q'.1.1 q'.1.2 q'.2.1 q'.2.2.1 q'.2.2.2) hl
            (fun j => by
              show s_r22_Same_0 (run M k) _ _ kind kids m.1 m.2 q.1.1 q.1.2 q.2.1 q.2.2.1 q.2.2.2 kind' kids' m'.1 m'.2 q'.1.1 q'.1.2 q'.2.1 q'.2.2.1 q'.2.2.2 = _
              simp [s_r22_Same_0])
            (fun i j hq hq' => by
              show s_r22_Same_0 (run M k) _ _ kind kids m.1 m.2 q.1.1 q.1.2 q.2.1 q.2.2.1 q.2.2.2 kind' kids' m'.1 m'.2 q'.1.1 q'.1.2 q'.2.1 q'.2.2.1 q'.2.2.2 = _
              have hmem := List.getElem_mem hq
              have hle := csize_mem hmem
              have hx := ih kids[i] hmem (small_mem hs2 _ hmem) (by omega) kids'[i] k (by omega)
              simp only [s_r22_Same_0, inB_nat, hq, hq', decide_true, Int.ofNat_lt, cond_true, rd_nat (t := .nom 0) kids i hq, rd_nat (t := .nom 0) kids' i hq']
              rw [repack kids[i], repack kids'[i], hx, res_some, bindS, wrap_succ (by omega)]) k (by omega)
end Go.Proofs.AM

namespace Go.Proofs.AM
open Go
def m0 : MorD := ([], [])
def q0 : PatD := (([], []), [], 0, [])
def yesC : CD := mkC 1 [] m0 q0
def noC : CD := mkC 2 [yesC] m0 q0
noncomputable def kindC (c : CD) : Int := (E.op 0 c).1
noncomputable def kidsC (c : CD) : List CD := (E.op 0 c).2.1
theorem kindC_mk (a : Int) (b : List CD) (c : MorD) (d : PatD) : kindC (mkC a b c d) = a := rfl
theorem kidsC_mk (a : Int) (b : List CD) (c : MorD) (d : PatD) : kidsC (mkC a b c d) = b := rfl
def wholeC (kind : Int) : CD := cond (decide (kind = 4)) yesC noC
def emptyC (kind : Int) : CD := cond (decide (kind = 4)) noC yesC
noncomputable def flatL (kind : Int) : List CD → List CD
  | [] => []
  | k :: r => cond (decide (kindC k = kind)) (kidsC k) [k] ++ flatL kind r
noncomputable def outL (kind : Int) : List CD → List CD → Option (List CD)
  | [], out => some out
  | k :: r, out => cond (sameC k (wholeC kind)) none (outL kind r (cond (cond (sameC k (emptyC kind)) true (out.any fun x => sameC x k)) out (out ++ [k])))
noncomputable def listC (kind : Int) (ks : List CD) : CD :=
  match outL kind (flatL kind ks) [] with
  | none => wholeC kind
  | some [] => emptyC kind
  | some [x] => x
  | some (x :: y :: r) => mkC kind (x :: y :: r) m0 q0
noncomputable def notC : List CD → CD
  | [k] => cond (decide (kindC k = 2)) (match kidsC k with | x :: _ => x | [] => yesC) (mkC 2 [k] m0 q0)
  | ks => mkC 2 ks m0 q0
noncomputable def exC (m : MorD) (q : PatD) : List CD → CD
  | [k] => cond (sameC k noC) noC (mkC 5 [k] m q)
  | ks => mkC 5 ks m q
noncomputable def simpT (kind : Int) (ks : List CD) (m : MorD) (q : PatD) : CD :=
  cond (decide (kind = 2)) (notC ks) (cond (cond (decide (kind = 3)) true (decide (kind = 4))) (listC kind ks) (cond (decide (kind = 5)) (exC m q ks) yesC))
mutual
noncomputable def simp0 : Cond → Cond
  | .mk kind kids m q => simpT kind (simps0 kids) m q
noncomputable def simps0 : List Cond → List Cond
  | [] => []
  | c :: r => simp0 c :: simps0 r
end
noncomputable def simpC : CD → CD := simp0
noncomputable def simpL : List CD → List CD := simps0
theorem simpC_mk (kind : Int) (kids : List CD) (m : MorD) (q : PatD) : simpC (mkC kind kids m q) = simpT kind (simpL kids) m q := by unfold simpC simpL mkC; simp only [simp0]
theorem simpL_nil : simpL [] = [] := by unfold simpL; simp only [simps0]; rfl
theorem simpL_cons (c : CD) (r : List CD) : simpL (c :: r) = simpC c :: simpL r := by unfold simpL simpC; simp only [simps0]; rfl
theorem notC_one (k : CD) : notC [k] = cond (decide (kindC k = 2)) (match kidsC k with | x :: _ => x | [] => yesC) (mkC 2 [k] m0 q0) := rfl
theorem exC_one (m : MorD) (q : PatD) (k : CD) : exC m q [k] = cond (sameC k noC) noC (mkC 5 [k] m q) := rfl
theorem csizes_one (k : CD) : csizes [k] = csize k := rfl
theorem simpL_map : ∀ l : List CD, simpL l = l.map simpC
  | [] => simpL_nil
  | c :: r => by rw [simpL_cons, simpL_map r]; rfl
theorem simpL_length (l : List CD) : (simpL l).length = l.length := by rw [simpL_map, List.length_map]
inductive NF : CD → Prop
  | yes : NF yesC
  | not {k : CD} : NF k → kindC k ≠ 2 → NF (mkC 2 [k] m0 q0)
  | lst {kind : Int} {ks : List CD} : (kind = 3 ∨ kind = 4) → 2 ≤ ks.length → ks.Nodup → (∀ k ∈ ks, NF k) → (∀ k ∈ ks, kindC k ≠ kind ∧ k ≠ yesC ∧ k ≠ noC) → NF (mkC kind ks m0 q0)
  | ex {k : CD} {m : MorD} {q : PatD} : NF k → k ≠ noC → NF (mkC 5 [k] m q)
theorem kind_yes : kindC yesC = 1 := rfl
theorem nf_no : NF noC := .not .yes (by decide)
theorem nf_whole (kind : Int) : NF (wholeC kind) := by unfold wholeC; cases decide (kind = 4) <;> first | exact .yes | exact nf_no
theorem nf_empty (kind : Int) : NF (emptyC kind) := by unfold emptyC; cases decide (kind = 4) <;> first | exact .yes | exact nf_no
theorem nf_yes {c : CD} (h : NF c) (hk : kindC c = 1) : c = yesC := by
  cases h with
  | yes => rfl
  | not _ _ => rw [kindC_mk] at hk; exact absurd hk (by decide)
  | lst h _ _ _ _ => rw [kindC_mk] at hk; omega
  | ex _ _ => exact absurd hk (by decide : (5 : Int) ≠ 1)
theorem nf_two {c : CD} (h : NF c) (hk : kindC c = 2) : ∃ k, c = mkC 2 [k] m0 q0 ∧ NF k ∧ kindC k ≠ 2 := by
  cases h with
  | yes => exact absurd hk (by decide)
  | not a b => exact ⟨_, rfl, a, b⟩
  | lst h _ _ _ _ => rw [kindC_mk] at hk; omega
  | ex _ _ => exact absurd hk (by decide : (5 : Int) ≠ 2)
theorem nf_list {c : CD} {kind : Int} (h : NF c) (hk : kindC c = kind) (h34 : kind = 3 ∨ kind = 4) :
    c = mkC kind (kidsC c) m0 q0 ∧ 2 ≤ (kidsC c).length ∧ (kidsC c).Nodup ∧ (∀ k ∈ kidsC c, NF k) ∧ (∀ k ∈ kidsC c, kindC k ≠ kind ∧ k ≠ yesC ∧ k ≠ noC) := by
  cases h with
  | yes => rw [kind_yes] at hk; omega
  | not a b => rw [kindC_mk] at hk; omega
  | lst h a b c d => rw [kindC_mk] at hk; subst hk; exact ⟨rfl, a, b, c, d⟩
  | ex _ _ => rw [kindC_mk] at hk; omega
theorem nf_isNo {c : CD} (h : NF c) : (cond (decide (kindC c = 2)) (decide (kindC ((kidsC c).getD 0 yesC) = 1)) false) = sameC c noC := by
  by_cases hk : kindC c = 2
  · obtain ⟨k, rfl, hn, h2⟩ := nf_two h hk
    rw [decide_eq_true hk, kidsC_mk, cond_true]
    by_cases h1 : kindC k = 1
    · have := nf_yes hn h1
      subst this
      rw [show sameC (mkC 2 [yesC] m0 q0) noC = true from sameC_refl noC]
      exact decide_eq_true h1
    · rw [sameC_ne (fun e => h1 (by
        obtain ⟨_, e, _, _⟩ := mkC_inj e
        injection e with e _
        rw [e]; rfl))]
      exact decide_eq_false h1
  · rw [decide_eq_false hk, sameC_ne (fun e => hk (by rw [e]; rfl))]; rfl
theorem nf_isYes {c : CD} (h : NF c) : decide (kindC c = 1) = sameC c yesC := by
  by_cases hk : kindC c = 1
  · rw [decide_eq_true hk, nf_yes h hk, sameC_refl]
  · rw [decide_eq_false hk, sameC_ne (fun e => hk (by rw [e]; rfl))]
theorem flat_mem {kind : Int} {P : CD → Prop} : ∀ {ks : List CD}, (∀ k ∈ ks, P k) → (∀ k ∈ ks, kindC k = kind → ∀ x ∈ kidsC k, P x) → ∀ x ∈ flatL kind ks, P x
  | [], _, _, x, hx => by simp [flatL] at hx
  | k :: r, h1, h2, x, hx => by
    rw [flatL, List.mem_append] at hx
    rcases hx with hx | hx
    · by_cases hk : kindC k = kind
      · rw [decide_eq_true hk] at hx; exact h2 k (by simp) hk x hx
      · rw [decide_eq_false hk] at hx
        simp only [cond_false, List.mem_singleton] at hx
        exact hx ▸ h1 k (by simp)
    · exact flat_mem (fun k hk => h1 k (by simp [hk])) (fun k hk => h2 k (by simp [hk])) x hx
theorem flat_kind {kind : Int} (h34 : kind = 3 ∨ kind = 4) {ks : List CD} (h : ∀ k ∈ ks, NF k) : ∀ x ∈ flatL kind ks, kindC x ≠ kind := by
  induction ks with
  | nil => intro x hx; simp [flatL] at hx
  | cons k r ih =>
    intro x hx
    rw [flatL, List.mem_append] at hx
    rcases hx with hx | hx
    · by_cases hk : kindC k = kind
      · rw [decide_eq_true hk] at hx; exact ((nf_list (h k (by simp)) hk h34).2.2.2.2 x hx).1
      · rw [decide_eq_false hk] at hx
        simp only [cond_false, List.mem_singleton] at hx
        exact hx ▸ hk
    · exact ih (fun k hk => h k (by simp [hk])) x hx
theorem flat_nf {kind : Int} (h34 : kind = 3 ∨ kind = 4) {ks : List CD} (h : ∀ k ∈ ks, NF k) : ∀ x ∈ flatL kind ks, NF x :=
  flat_mem h fun k hk e x hx => (nf_list (h k hk) e h34).2.2.2.1 x hx
theorem out_some {kind : Int} : ∀ (fl out res : List CD), outL kind fl out = some res → out.Nodup → (∀ x ∈ out, x ≠ wholeC kind ∧ x ≠ emptyC kind) →
    res.Nodup ∧ (∀ x ∈ res, x ≠ wholeC kind ∧ x ≠ emptyC kind) ∧ ∃ s, s.Sublist fl ∧ res = out ++ s
  | [], out, res, h, h1, h2 => by
    injection h with h; subst h
    exact ⟨h1, h2, [], .slnil, by simp⟩
  | k :: r, out, res, h, h1, h2 => by
    unfold outL at h
    cases hw : sameC k (wholeC kind) with
    | true => rw [hw] at h; cases h
    | false =>
      rw [hw] at h
      have hkw : k ≠ wholeC kind := fun e => by rw [e, sameC_refl] at hw; cases hw
      simp only [cond_false] at h
      cases hc : (cond (sameC k (emptyC kind)) true (out.any fun x => sameC x k)) with
      | true =>
        rw [hc] at h
        obtain ⟨a, b, s, c, d⟩ := out_some r out res h h1 h2
        exact ⟨a, b, s, .cons _ c, d⟩
      | false =>
        rw [hc] at h
        have hke : k ≠ emptyC kind := fun e => by rw [e, sameC_refl] at hc; cases hc
        have hko : k ∉ out := fun hm => by
          cases he : sameC k (emptyC kind) with
          | true => rw [he] at hc; cases hc
          | false =>
            rw [he] at hc
            have : (out.any fun x => sameC x k) = true := List.any_eq_true.2 ⟨k, hm, sameC_refl k⟩
            rw [cond_false, this] at hc; cases hc
        obtain ⟨a, b, s, c, d⟩ := out_some r (out ++ [k]) res h (List.nodup_append.2 ⟨h1, by simp, fun a ha b hb => by
          simp only [List.mem_singleton] at hb; subst hb; exact fun e => hko (e ▸ ha)⟩) (fun x hx => by
          rcases List.mem_append.1 hx with hx | hx
          · exact h2 x hx
          · simp only [List.mem_singleton] at hx; subst hx; exact ⟨hkw, hke⟩)
        exact ⟨a, b, k :: s, .cons_cons _ c, by rw [d]; simp⟩
theorem whole_empty {kind : Int} (x : CD) (h : x ≠ wholeC kind ∧ x ≠ emptyC kind) : x ≠ yesC ∧ x ≠ noC := by
  unfold wholeC emptyC at h
  cases hd : decide (kind = 4) with
  | true => rw [hd] at h; exact h
  | false => rw [hd] at h; exact ⟨h.2, h.1⟩
theorem listC_cases (kind : Int) (ks : List CD) : listC kind ks = wholeC kind ∨ listC kind ks = emptyC kind ∨ (∃ x ∈ flatL kind ks, listC kind ks = x) ∨
    (∃ s, s.Sublist (flatL kind ks) ∧ 2 ≤ s.length ∧ s.Nodup ∧ (∀ x ∈ s, x ≠ yesC ∧ x ≠ noC) ∧ listC kind ks = mkC kind s m0 q0) := by
  unfold listC
  cases h : outL kind (flatL kind ks) [] with
  | none => exact .inl rfl
  | some res =>
    obtain ⟨a, b, s, c, d⟩ := out_some _ [] res h (by simp) (by simp)
    rw [List.nil_append] at d
    subst d
    match res, a, b, c with
    | [], _, _, _ => exact .inr (.inl rfl)
    | [x], _, _, c => exact .inr (.inr (.inl ⟨x, c.subset (by simp), rfl⟩))
    | x :: y :: r, a, b, c => exact .inr (.inr (.inr ⟨_, c, by simp, a, fun z hz => whole_empty z (b z hz), rfl⟩))
theorem listC_nf {kind : Int} (h34 : kind = 3 ∨ kind = 4) {ks : List CD} (h : ∀ k ∈ ks, NF k) : NF (listC kind ks) := by
  rcases listC_cases kind ks with e | e | ⟨x, hx, e⟩ | ⟨s, h1, h2, h3, h4, e⟩
  · rw [e]; exact nf_whole kind
  · rw [e]; exact nf_empty kind
  · rw [e]; exact flat_nf h34 h x hx
  · rw [e]; exact .lst h34 h2 h3 (fun k hk => flat_nf h34 h k (h1.subset hk)) fun k hk => ⟨flat_kind h34 h k (h1.subset hk), h4 k hk⟩
theorem right_cases {kind : Int} {n : Nat} {b : Bool} (h : rightB kind n b = true) : (kind = 1 ∧ n = 0 ∧ b = true) ∨ (kind = 2 ∧ n = 1 ∧ b = true) ∨ ((kind = 3 ∨ kind = 4) ∧ 0 < n ∧ b = true) ∨ (kind = 5 ∧ n = 1) := by
  unfold rightB at h
  by_cases k1 : kind = 1
  · rw [decide_eq_true k1] at h; simp at h; exact .inl ⟨k1, h⟩
  rw [decide_eq_false k1] at h
  by_cases k2 : kind = 2
  · rw [decide_eq_true k2] at h; simp at h; exact .inr (.inl ⟨k2, h⟩)
  rw [decide_eq_false k2] at h
  by_cases k3 : kind = 3
  · rw [decide_eq_true k3] at h; simp at h; exact .inr (.inr (.inl ⟨.inl k3, h⟩))
  rw [decide_eq_false k3] at h
  by_cases k4 : kind = 4
  · rw [decide_eq_true k4] at h; simp at h; exact .inr (.inr (.inl ⟨.inr k4, h⟩))
  rw [decide_eq_false k4] at h
  by_cases k5 : kind = 5
  · rw [decide_eq_true k5] at h; simp at h; exact .inr (.inr (.inr ⟨k5, h⟩))
  rw [decide_eq_false k5] at h; cases h
theorem wf_cases {kind : Int} {kids : List CD} {m : MorD} {q : PatD} (h : wfB (mkC kind kids m q) = true) : ((kind = 1 ∧ kids = [] ∧ bareB m q = true) ∨ (kind = 2 ∧ (∃ k, kids = [k]) ∧ bareB m q = true) ∨ ((kind = 3 ∨ kind = 4) ∧ kids ≠ [] ∧ bareB m q = true) ∨ (kind = 5 ∧ ∃ k, kids = [k])) ∧ ∀ k ∈ kids, wfB k = true := by
  rw [wfB_mk, Bool.and_eq_true] at h
  refine ⟨?_, ?_⟩
  · rcases right_cases h.1 with ⟨a, b, c⟩ | ⟨a, b, c⟩ | ⟨a, b, c⟩ | ⟨a, b⟩
    · exact .inl ⟨a, List.eq_nil_of_length_eq_zero b, c⟩
    · obtain ⟨k, hk⟩ := List.length_eq_one_iff.1 b
      exact .inr (.inl ⟨a, ⟨k, hk⟩, c⟩)
    · exact .inr (.inr (.inl ⟨a, List.ne_nil_of_length_pos b, c⟩))
    · obtain ⟨k, hk⟩ := List.length_eq_one_iff.1 b
      exact .inr (.inr (.inr ⟨a, k, hk⟩))
  · have key : ∀ l : List CD, wfAll l = true → ∀ k ∈ l, wfB k = true := by
      intro l
      induction l with
      | nil => intro _ k hk; simp at hk
      | cons c r ih =>
        intro hl k hk
        rw [wfAll_cons, Bool.and_eq_true] at hl
        rcases List.mem_cons.1 hk with e | e
        · exact e ▸ hl.1
        · exact ih hl.2 k e
    exact key kids h.2
theorem bare_eq {m : MorD} {q : PatD} (h : bareB m q = true) : m = m0 ∧ q = q0 := by
  obtain ⟨a, b⟩ := m
  obtain ⟨⟨c, d⟩, e, f, g⟩ := q
  unfold bareB at h
  simp only [decide_eq_true_eq, List.length_eq_zero_iff] at h
  obtain ⟨h1, h2, h3, h4, h5, h6, h7⟩ := h
  subst h1 h2 h3 h4 h5 h6 h7
  exact ⟨rfl, rfl⟩
theorem simpT_2 (ks : List CD) (m : MorD) (q : PatD) : simpT 2 ks m q = notC ks := rfl
theorem simpT_34 {kind : Int} (h : kind = 3 ∨ kind = 4) (ks : List CD) (m : MorD) (q : PatD) : simpT kind ks m q = listC kind ks := by rcases h with rfl | rfl <;> rfl
theorem simpT_5 (ks : List CD) (m : MorD) (q : PatD) : simpT 5 ks m q = exC m q ks := rfl
theorem simp_nf : ∀ c : CD, wfB c = true → NF (simpC c) :=
  CD.ind fun kind kids m q ih h => by
    obtain ⟨hc, hk⟩ := wf_cases h
    rw [simpC_mk]
    rcases hc with ⟨rfl, rfl, _⟩ | ⟨rfl, ⟨k, rfl⟩, _⟩ | ⟨h34, _, _⟩ | ⟨rfl, k, rfl⟩
    · exact .yes
    · rw [simpT_2, simpL_cons, simpL_nil]
      have hn := ih k (by simp) (hk k (by simp))
      rw [notC_one]
      by_cases h2 : kindC (simpC k) = 2
      · rw [decide_eq_true h2]
        obtain ⟨x, e, hx, _⟩ := nf_two hn h2
        rw [e]; exact hx
      · rw [decide_eq_false h2]; exact .not hn h2
    · rw [simpT_34 h34, simpL_map]
      refine listC_nf h34 fun x hx => ?_
      obtain ⟨y, hy, rfl⟩ := List.mem_map.1 hx
      exact ih y hy (hk y hy)
    · rw [simpT_5, simpL_cons, simpL_nil]
      have hn := ih k (by simp) (hk k (by simp))
      rw [exC_one]
      cases hs : sameC (simpC k) noC with
      | true => exact nf_no
      | false => exact .ex hn fun e => by rw [e, sameC_refl] at hs; cases hs
theorem flat_id {kind : Int} : ∀ {ks : List CD}, (∀ k ∈ ks, kindC k ≠ kind) → flatL kind ks = ks
  | [], _ => rfl
  | k :: r, h => by
    rw [flatL, decide_eq_false (h k (by simp)), flat_id (fun x hx => h x (by simp [hx]))]; rfl
theorem out_id {kind : Int} : ∀ (fl out : List CD), (out ++ fl).Nodup → (∀ k ∈ fl, k ≠ yesC ∧ k ≠ noC) → outL kind fl out = some (out ++ fl)
  | [], out, _, _ => by simp [outL]
  | k :: r, out, h1, h2 => by
    have hk := h2 k (by simp)
    have hw : k ≠ wholeC kind ∧ k ≠ emptyC kind := by
      unfold wholeC emptyC
      cases decide (kind = 4)
      · exact ⟨hk.2, hk.1⟩
      · exact hk
    have hno : (out.any fun x => sameC x k) = false := by
      rw [List.any_eq_false]
      intro x hx
      rw [sameC_ne]
      · simp
      · intro e; subst e
        exact (List.nodup_append.1 h1).2.2 x hx x (by simp) rfl
    unfold outL
    rw [sameC_ne hw.1, sameC_ne hw.2, hno]
    simp only [cond_false]
    rw [out_id r (out ++ [k]) (by simpa using h1) (fun x hx => h2 x (by simp [hx]))]
    simp
theorem simp_id {c : CD} (h : NF c) : simpC c = c := by
  induction h with
  | yes => exact simpC_mk 1 [] m0 q0
  | @not k hk h2 ih => rw [simpC_mk, simpT_2, simpL_cons, simpL_nil, ih]; rw [notC_one, decide_eq_false h2]; rfl
  | @lst kind ks h34 hl hnd hn hx ih =>
    rw [simpC_mk, simpT_34 h34]
    have : simpL ks = ks := by
      rw [simpL_map]
      have : ks.map simpC = ks.map id := List.map_congr_left fun k hk => ih k hk
      rw [this, List.map_id]
    rw [this]
    unfold listC
    rw [flat_id (fun k hk => (hx k hk).1), out_id ks [] (by simpa using hnd) (fun k hk => (hx k hk).2)]
    match ks, hl with
    | x :: y :: r, _ => rfl
  | @ex k m q hk hno ih => rw [simpC_mk, simpT_5, simpL_cons, simpL_nil, ih]; rw [exC_one, sameC_ne hno]; rfl
theorem csizes_append : ∀ a b : List CD, csizes (a ++ b) = csizes a + csizes b
  | [], b => by rw [List.nil_append, csizes_nil]; omega
  | x :: a, b => by rw [List.cons_append, csizes_cons, csizes_cons, csizes_append a b]; omega
theorem csizes_sub : ∀ {a b : List CD}, a.Sublist b → csizes a ≤ csizes b
  | _, _, .slnil => Nat.le_refl _
  | _, _, .cons x h => by have := csizes_sub h; rw [csizes_cons]; omega
  | _, _, .cons_cons x h => by have := csizes_sub h; rw [csizes_cons, csizes_cons]; omega
theorem csize_kids (c : CD) : csize c = 1 + csizes (kidsC c) := by obtain ⟨a, b, m, q, rfl⟩ := c.cases; rfl
theorem csizes_flat (kind : Int) : ∀ ks : List CD, csizes (flatL kind ks) ≤ csizes ks
  | [] => Nat.le_refl _
  | k :: r => by
    rw [flatL, csizes_append, csizes_cons]
    have := csizes_flat kind r
    by_cases hk : kindC k = kind
    · rw [decide_eq_true hk]
      have := csize_kids k
      simp only [cond_true]; omega
    · rw [decide_eq_false hk]
      exact Nat.add_le_add (Nat.le_refl (csize k)) this
theorem simpL_size {l : List CD} (h : ∀ x ∈ l, csize (simpC x) ≤ csize x) : csizes (simpL l) ≤ csizes l := by
  induction l with
  | nil => rw [simpL_nil]; omega
  | cons c r ih => rw [simpL_cons, csizes_cons, csizes_cons]; have := h c (by simp); have := ih (fun x hx => h x (by simp [hx])); omega
theorem size_yes : csize yesC = 1 := rfl
theorem size_no : csize noC = 2 := rfl
theorem csize_we (kind : Int) : csize (wholeC kind) ≤ 2 ∧ csize (emptyC kind) ≤ 2 := by
  unfold wholeC emptyC; cases decide (kind = 4) <;> simp only [cond_true, cond_false, size_yes, size_no] <;> omega
theorem simp_size : ∀ c : CD, wfB c = true → csize (simpC c) ≤ csize c :=
  CD.ind fun kind kids m q ih h => by
    obtain ⟨hc, hk⟩ := wf_cases h
    have hL := simpL_size (l := kids) fun x hx => ih x hx (hk x hx)
    rw [simpC_mk, csize_mk]
    rcases hc with ⟨rfl, rfl, _⟩ | ⟨rfl, ⟨k, rfl⟩, _⟩ | ⟨h34, hne, _⟩ | ⟨rfl, k, rfl⟩
    · exact Nat.le_refl 1
    · rw [simpT_2]
      rw [simpL_cons, simpL_nil] at hL ⊢
      have hL : csize (simpC k) ≤ csize k := hL
      show csize (notC [simpC k]) ≤ 1 + csize k
      rw [notC_one]
      by_cases h2 : kindC (simpC k) = 2
      · rw [decide_eq_true h2]
        obtain ⟨x, e, hx, _⟩ := nf_two (simp_nf k (hk k (by simp))) h2
        rw [e, csize_mk, csizes_one] at hL
        rw [e]
        show csize x ≤ _
        omega
      · rw [decide_eq_false h2, cond_false, csize_mk, csizes_one]; omega
    · rw [simpT_34 h34]
      have h1 : 1 ≤ csizes kids := by
        cases kids with
        | nil => exact absurd rfl hne
        | cons c r => rw [csizes_cons]; have := csize_pos c; omega
      have hf := csizes_flat kind (simpL kids)
      obtain ⟨w1, w2⟩ := csize_we kind
      rcases listC_cases kind (simpL kids) with e | e | ⟨x, hx, e⟩ | ⟨s, h1, h2, h3, h4, e⟩
      · rw [e]; omega
      · rw [e]; omega
      · rw [e]; have := csize_mem hx; omega
      · rw [e, csize_mk]; have := csizes_sub h1; omega
    · rw [simpT_5]
      rw [simpL_cons, simpL_nil] at hL ⊢
      have hL : csize (simpC k) ≤ csize k := hL
      show csize (exC m q [simpC k]) ≤ 1 + csize k
      rw [exC_one]
      cases sameC (simpC k) noC with
      | true => rw [cond_true, size_no]; have := csize_pos (simpC k); omega
      | false => rw [cond_false, csize_mk, csizes_one]; omega
theorem depthL_spec : ∀ (l : List CD) (n d : Nat), depthL n l ≤ d ↔ n ≤ d ∧ ∀ x ∈ l, depthC x ≤ d
  | [], n, d => by rw [depthL_nil]; simp
  | c :: r, n, d => by
    rw [depthL_cons, depthL_spec r]
    constructor
    · rintro ⟨h1, h2⟩
      exact ⟨by omega, fun x hx => by
        rcases List.mem_cons.1 hx with e | e
        · subst e; omega
        · exact h2 x e⟩
    · rintro ⟨h1, h2⟩
      have := h2 c (by simp)
      exact ⟨by omega, fun x hx => h2 x (by simp [hx])⟩
theorem depth_yes : depthC yesC = 0 := by unfold yesC; rw [depthC_mk, depthL_nil]; rfl
theorem depth_no : depthC noC = 0 := by unfold noC; rw [depthC_mk, depthL_cons, depth_yes, depthL_nil]; rfl
theorem depth_we (kind : Int) : depthC (wholeC kind) = 0 ∧ depthC (emptyC kind) = 0 := by
  unfold wholeC emptyC
  cases decide (kind = 4) with
  | true => exact ⟨depth_yes, depth_no⟩
  | false => exact ⟨depth_no, depth_yes⟩
theorem depth_kid {c x : CD} (hx : x ∈ kidsC c) : depthC x ≤ depthC c := by
  obtain ⟨a, b, m, q, rfl⟩ := c.cases
  rw [kidsC_mk] at hx
  rw [depthC_mk]
  have := ((depthL_spec b 0 (depthL 0 b)).1 (Nat.le_refl _)).2 x hx
  omega
theorem simp_depth : ∀ c : CD, wfB c = true → depthC (simpC c) ≤ depthC c :=
  CD.ind fun kind kids m q ih h => by
    obtain ⟨hc, hk⟩ := wf_cases h
    have hall : ∀ x ∈ kids, depthC x ≤ depthL 0 kids := ((depthL_spec kids 0 _).1 (Nat.le_refl _)).2
    have hL : ∀ x ∈ simpL kids, depthC x ≤ depthL 0 kids := fun x hx => by
      rw [simpL_map] at hx
      obtain ⟨y, hy, rfl⟩ := List.mem_map.1 hx
      exact Nat.le_trans (ih y hy (hk y hy)) (hall y hy)
    rw [simpC_mk, depthC_mk]
    rcases hc with ⟨rfl, rfl, _⟩ | ⟨rfl, ⟨k, rfl⟩, _⟩ | ⟨h34, hne, _⟩ | ⟨rfl, k, rfl⟩
    · show depthC yesC ≤ _
      rw [depth_yes]; omega
    · rw [simpT_2]
      rw [simpL_cons, simpL_nil] at hL ⊢
      have hx := hL (simpC k) (by simp)
      rw [notC_one]
      by_cases h2 : kindC (simpC k) = 2
      · rw [decide_eq_true h2]
        obtain ⟨x, e, _, _⟩ := nf_two (simp_nf k (hk k (by simp))) h2
        have : depthC x ≤ depthC (simpC k) := depth_kid (by rw [e]; simp [kidsC_mk])
        rw [e]
        show depthC x ≤ _
        omega
      · rw [decide_eq_false h2, cond_false, depthC_mk, depthL_cons, depthL_nil, show (cond (decide ((2 : Int) = 5)) 1 0) = 0 from rfl]; omega
    · rw [simpT_34 h34]
      have hf : ∀ x ∈ flatL kind (simpL kids), depthC x ≤ depthL 0 kids := flat_mem hL fun k hk _ x hx => Nat.le_trans (depth_kid hx) (hL k hk)
      obtain ⟨w1, w2⟩ := depth_we kind
      rcases listC_cases kind (simpL kids) with e | e | ⟨x, hx, e⟩ | ⟨s, h1, h2, h3, h4, e⟩
      · rw [e]; omega
      · rw [e]; omega
      · rw [e]; have := hf x hx; omega
      · rw [e, depthC_mk]
        have := (depthL_spec s 0 (depthL 0 kids)).2 ⟨by omega, fun x hx => hf x (h1.subset hx)⟩
        omega
    · rw [simpT_5]
      rw [simpL_cons, simpL_nil] at hL ⊢
      have hx := hL (simpC k) (by simp)
      rw [exC_one]
      cases sameC (simpC k) noC with
      | true => rw [cond_true, depth_no]; omega
      | false => rw [cond_false, depthC_mk, depthL_cons, depthL_nil]; omega
theorem smalls_iff : ∀ l : List CD, SmallCs l ↔ ∀ x ∈ l, SmallC x
  | [] => ⟨fun _ x hx => by simp at hx, fun _ => trivial⟩
  | c :: r => by
    rw [smalls_cons, smalls_iff r]
    constructor
    · rintro ⟨h1, h2⟩ x hx
      rcases List.mem_cons.1 hx with e | e
      · exact e ▸ h1
      · exact h2 x e
    · intro h; exact ⟨h c (by simp), fun x hx => h x (by simp [hx])⟩
theorem small_m0 : smallQ m0 q0 := by unfold smallQ m0 q0; simp
theorem small_yes : SmallC yesC := small_mk.2 ⟨small_m0, trivial⟩
theorem small_no : SmallC noC := small_mk.2 ⟨small_m0, smalls_cons.2 ⟨small_yes, trivial⟩⟩
theorem small_kids {c : CD} (h : SmallC c) : ∀ x ∈ kidsC c, SmallC x := by
  obtain ⟨a, b, m, q, rfl⟩ := c.cases
  exact (smalls_iff b).1 (small_mk.1 h).2
theorem simp_small : ∀ c : CD, SmallC c → SmallC (simpC c) :=
  CD.ind fun kind kids m q ih h => by
    have hq := small_mk.1 h
    have hk := (smalls_iff kids).1 hq.2
    have hL : ∀ x ∈ simpL kids, SmallC x := fun x hx => by
      rw [simpL_map] at hx
      obtain ⟨y, hy, rfl⟩ := List.mem_map.1 hx
      exact ih y hy (hk y hy)
    rw [simpC_mk]
    generalize simpL kids = ks at hL
    unfold simpT
    cases decide (kind = 2) with
    | true =>
      rw [cond_true]
      unfold notC
      split
      · rename_i k
        cases decide (kindC k = 2) with
        | true =>
          rw [cond_true]
          split
          · rename_i x r hx
            exact small_kids (hL k (by simp)) x (by rw [hx]; simp)
          · exact small_yes
        | false => exact small_mk.2 ⟨small_m0, (smalls_iff _).2 hL⟩
      · exact small_mk.2 ⟨small_m0, (smalls_iff _).2 hL⟩
    | false =>
      rw [cond_false]
      cases (cond (decide (kind = 3)) true (decide (kind = 4))) with
      | true =>
        rw [cond_true]
        have hf : ∀ x ∈ flatL kind ks, SmallC x := flat_mem hL fun k hk _ x hx => small_kids (hL k hk) x hx
        have w : SmallC (wholeC kind) ∧ SmallC (emptyC kind) := by unfold wholeC emptyC; cases decide (kind = 4) <;> first | exact ⟨small_yes, small_no⟩ | exact ⟨small_no, small_yes⟩
        rcases listC_cases kind ks with e | e | ⟨x, hx, e⟩ | ⟨s, h1, h2, h3, h4, e⟩
        · rw [e]; exact w.1
        · rw [e]; exact w.2
        · rw [e]; exact hf x hx
        · rw [e]; exact small_mk.2 ⟨small_m0, (smalls_iff _).2 fun x hx => hf x (h1.subset hx)⟩
      | false =>
        rw [cond_false]
        cases decide (kind = 5) with
        | true =>
          rw [cond_true]
          unfold exC
          split
          · rename_i k
            cases sameC k noC with
            | true => exact small_no
            | false => exact small_mk.2 ⟨hq.1, (smalls_iff _).2 hL⟩
          · exact small_mk.2 ⟨hq.1, (smalls_iff _).2 hL⟩
        | false => exact small_yes
theorem wfAll_iff : ∀ l : List CD, wfAll l = true ↔ ∀ x ∈ l, wfB x = true
  | [] => ⟨fun _ x hx => by simp at hx, fun _ => rfl⟩
  | c :: r => by
    rw [wfAll_cons, Bool.and_eq_true, wfAll_iff r]
    constructor
    · rintro ⟨h1, h2⟩ x hx
      rcases List.mem_cons.1 hx with e | e
      · exact e ▸ h1
      · exact h2 x e
    · intro h; exact ⟨h c (by simp), fun x hx => h x (by simp [hx])⟩
theorem bare0 : bareB m0 q0 = true := by decide
theorem nf_wf {c : CD} (h : NF c) : wfB c = true := by
  induction h with
  | yes => exact (by unfold yesC; rw [wfB_mk, bare0]; rfl)
  | @not k hk h2 ih => rw [wfB_mk, wfAll_cons, ih, bare0]; rfl
  | @lst kind ks h34 hl hnd hn hx ih =>
    rw [wfB_mk, (wfAll_iff ks).2 ih, bare0, Bool.and_true]
    unfold rightB
    rcases h34 with rfl | rfl <;> simp <;> omega
  | @ex k m q hk hno ih => rw [wfB_mk, wfAll_cons, ih]; rfl
theorem shape_simp {c : CD} (h : shapeCE c = 0) : wfB c = true ∧ csize c ≤ 12 ∧ shapeCE (simpC c) = 0 ∧ simpC (simpC c) = simpC c := by
  have hw : wfB c = true := by
    cases hw : wfB c with
    | true => rfl
    | false => unfold shapeCE at h; rw [hw] at h; cases h
  have hn := simp_nf c hw
  have h1 := simp_size c hw
  have h2 := simp_depth c hw
  unfold shapeCE at h ⊢
  rw [hw] at h
  rw [nf_wf hn]
  simp only [Bool.not_true, cond_false] at h ⊢
  by_cases hs : (12 : Int) < (csize c : Int)
  · rw [decide_eq_true hs] at h; cases h
  rw [decide_eq_false hs] at h
  by_cases hd : (3 : Int) < (depthC c : Int)
  · rw [decide_eq_true hd] at h; cases h
  exact ⟨hw, by omega, by rw [decide_eq_false (by omega), decide_eq_false (by omega)]; rfl, simp_id hn⟩
end Go.Proofs.AM

namespace Go.Proofs.AM
open Go
theorem room184 {n : Nat} (h : n ≤ 1000) : roomy n 184 = true := by
  unfold roomy; exact decide_eq_true (by omega)
theorem getDn {xs : List CD} {p : Nat} (hp : p < xs.length) : List.getD xs (Int.toNat (p : Int)) (dflt E (.nom 0)) = xs[p] := by
  rw [Int.toNat_natCast]; simp [hp]
noncomputable def finL (kind : Int) (ne ab : CD) : Option (List CD) → CD
  | none => ab
  | some [] => ne
  | some [x] => x
  | some (x :: y :: r) => mkC kind (x :: y :: r) m0 q0
theorem listC_fin (kind : Int) (ks : List CD) : listC kind ks = finL kind (emptyC kind) (wholeC kind) (outL kind (flatL kind ks) []) := by
  unfold listC
  cases outL kind (flatL kind ks) [] with
  | none => rfl
  | some l => match l with
    | [] => rfl
    | [x] => rfl
    | x :: y :: r => rfl
theorem conn4 {k : Nat} (c2 : V_r22_connected_2) (kind : Int) (ne ab : CD) (fl out : List CD) (p : Nat) (hp : p < fl.length) (hf : fl.length ≤ 900) (ho : out.length ≤ 900)
    (hS : ∀ y ∈ out, run M k f_r22_Same [.val (.nom 0) y, .val (.nom 0) fl[p]] = some ⟨.bool, sameC y fl[p]⟩) (found : Bool) (j : Nat) (hj : out.length < j) :
    l_r22_connected_4 (run M k) c2 j kind (p : Int) found (0 : Int) (0 : Int) (0 : Int) (E.op 0 ne).1 (E.op 0 ne).2.1 (E.op 0 ne).2.2.1.1 (E.op 0 ne).2.2.1.2 (E.op 0 ne).2.2.2.1.1 (E.op 0 ne).2.2.2.1.2 (E.op 0 ne).2.2.2.2.1 (E.op 0 ne).2.2.2.2.2.1 (E.op 0 ne).2.2.2.2.2.2 (E.op 0 ab).1 (E.op 0 ab).2.1 (E.op 0 ab).2.2.1.1 (E.op 0 ab).2.2.1.2 (E.op 0 ab).2.2.2.1.1 (E.op 0 ab).2.2.2.1.2 (E.op 0 ab).2.2.2.2.1 (E.op 0 ab).2.2.2.2.2.1 (E.op 0 ab).2.2.2.2.2.2 fl out =
      c2 kind ((p + 1 : Nat) : Int) (0 : Int) (0 : Int) (E.op 0 ne).1 (E.op 0 ne).2.1 (E.op 0 ne).2.2.1.1 (E.op 0 ne).2.2.1.2 (E.op 0 ne).2.2.2.1.1 (E.op 0 ne).2.2.2.1.2 (E.op 0 ne).2.2.2.2.1 (E.op 0 ne).2.2.2.2.2.1 (E.op 0 ne).2.2.2.2.2.2 (E.op 0 ab).1 (E.op 0 ab).2.1 (E.op 0 ab).2.2.1.1 (E.op 0 ab).2.2.1.2 (E.op 0 ab).2.2.2.1.1 (E.op 0 ab).2.2.2.1.2 (E.op 0 ab).2.2.2.2.1 (E.op 0 ab).2.2.2.2.2.1 (E.op 0 ab).2.2.2.2.2.2 fl (cond (cond found true (out.any fun y => sameC y fl[p])) out (out ++ [fl[p]])) := by
  have key := down_any (n := out.length) (Q := fun j i => ∀ found : Bool, l_r22_connected_4 (run M k) c2 j kind (p : Int) found (i : Int) (0 : Int) (0 : Int) (E.op 0 ne).1 (E.op 0 ne).2.1 (E.op 0 ne).2.2.1.1 (E.op 0 ne).2.2.1.2 (E.op 0 ne).2.2.2.1.1 (E.op 0 ne).2.2.2.1.2 (E.op 0 ne).2.2.2.2.1 (E.op 0 ne).2.2.2.2.2.1 (E.op 0 ne).2.2.2.2.2.2 (E.op 0 ab).1 (E.op 0 ab).2.1 (E.op 0 ab).2.2.1.1 (E.op 0 ab).2.2.1.2 (E.op 0 ab).2.2.2.1.1 (E.op 0 ab).2.2.2.1.2 (E.op 0 ab).2.2.2.2.1 (E.op 0 ab).2.2.2.2.2.1 (E.op 0 ab).2.2.2.2.2.2 fl out =
      c2 kind ((p + 1 : Nat) : Int) (0 : Int) (0 : Int) (E.op 0 ne).1 (E.op 0 ne).2.1 (E.op 0 ne).2.2.1.1 (E.op 0 ne).2.2.1.2 (E.op 0 ne).2.2.2.1.1 (E.op 0 ne).2.2.2.1.2 (E.op 0 ne).2.2.2.2.1 (E.op 0 ne).2.2.2.2.2.1 (E.op 0 ne).2.2.2.2.2.2 (E.op 0 ab).1 (E.op 0 ab).2.1 (E.op 0 ab).2.2.1.1 (E.op 0 ab).2.2.1.2 (E.op 0 ab).2.2.2.1.1 (E.op 0 ab).2.2.2.1.2 (E.op 0 ab).2.2.2.2.1 (E.op 0 ab).2.2.2.2.2.1 (E.op 0 ab).2.2.2.2.2.2 fl (cond (cond found true ((out.drop i).any fun y => sameC y fl[p])) out (out ++ [fl[p]])))
    (fun j found => by
      show s_r22_connected_4 (run M k) c2 _ kind _ found _ (0 : Int) (0 : Int) (E.op 0 ne).1 (E.op 0 ne).2.1 (E.op 0 ne).2.2.1.1 (E.op 0 ne).2.2.1.2 (E.op 0 ne).2.2.2.1.1 (E.op 0 ne).2.2.2.1.2 (E.op 0 ne).2.2.2.2.1 (E.op 0 ne).2.2.2.2.2.1 (E.op 0 ne).2.2.2.2.2.2 (E.op 0 ab).1 (E.op 0 ab).2.1 (E.op 0 ab).2.2.1.1 (E.op 0 ab).2.2.1.2 (E.op 0 ab).2.2.2.1.1 (E.op 0 ab).2.2.2.1.2 (E.op 0 ab).2.2.2.2.1 (E.op 0 ab).2.2.2.2.2.1 (E.op 0 ab).2.2.2.2.2.2 fl out = _
      rw [List.drop_eq_nil_of_le (Nat.le_refl _)]
      simp only [s_r22_connected_4, Int.lt_irrefl, decide_false, cond_false, inB_nat, hp, decide_true, cond_true, getDn hp, List.any_nil]
      cases found with
      | true => simp only [Bool.not_true, cond_false, cond_true]; rw [wrap_succ (by omega)]
      | false =>
        simp only [Bool.not_false, cond_true, cond_false]
        rw [repack fl[p], room184 (by simp only [List.length_singleton]; omega), cond_true, wrap_succ (by omega)])
    (fun i j hi ih found => by
      show s_r22_connected_4 (run M k) c2 _ kind _ found _ (0 : Int) (0 : Int) (E.op 0 ne).1 (E.op 0 ne).2.1 (E.op 0 ne).2.2.1.1 (E.op 0 ne).2.2.1.2 (E.op 0 ne).2.2.2.1.1 (E.op 0 ne).2.2.2.1.2 (E.op 0 ne).2.2.2.2.1 (E.op 0 ne).2.2.2.2.2.1 (E.op 0 ne).2.2.2.2.2.2 (E.op 0 ab).1 (E.op 0 ab).2.1 (E.op 0 ab).2.2.1.1 (E.op 0 ab).2.2.1.2 (E.op 0 ab).2.2.2.1.1 (E.op 0 ab).2.2.2.1.2 (E.op 0 ab).2.2.2.2.1 (E.op 0 ab).2.2.2.2.2.1 (E.op 0 ab).2.2.2.2.2.2 fl out = _
      rw [List.drop_eq_getElem_cons hi, List.any_cons]
      simp only [s_r22_connected_4, inB_nat, hi, hp, decide_true, Int.ofNat_lt, cond_true, Bool.true_or, getDn hp, getDn hi]
      cases found with
      | true =>
        simp only [Bool.not_true, cond_false, cond_true]
        rw [bindS, wrap_succ (by omega), ih]
        rfl
      | false =>
        simp only [Bool.not_false, cond_true, cond_false]
        rw [repack out[i], repack fl[p], hS _ (List.getElem_mem hi), res_some, bindS, wrap_succ (by omega), ih]
        cases sameC out[i] fl[p] <;> rfl) 0 (Nat.zero_le _) j hj found
  exact key
theorem fin_len {k0 : Int} {ne ab : CD} (out : List CD) (ho : out.length ≤ 900) (A : Res E) (B : Res E) (C : Res E) (hA : A = some ⟨.nom 0, ne⟩) (hB : ∀ h : 0 < out.length, B = some ⟨.nom 0, out[0]⟩) (hC : C = some ⟨.nom 0, mkC k0 out m0 q0⟩) :
    cond (decide ((out.length : Int) = (0 : Int))) A (cond (decide ((out.length : Int) = (1 : Int))) B C) = some ⟨.nom 0, finL k0 ne ab (some out)⟩ := by
  match out, hB, hC with
  | [], _, _ => rw [hA]; rfl
  | [x], hB, _ => rw [hB (by simp)]; rfl
  | x :: y :: r, _, hC =>
    rw [d0, d1, decide_eq_false (by simp), decide_eq_false (by simp), hC]; rfl
theorem conn2 {k : Nat} (kind : Int) (fl : List CD) (hf : fl.length ≤ 900) (hS : ∀ x ∈ fl, ∀ y, run M k f_r22_Same [.val (.nom 0) x, .val (.nom 0) y] = some ⟨.bool, sameC x y⟩) (ne ab : CD) (hne : ne = emptyC kind) (hab : ab = wholeC kind) :
    ∀ (d p : Nat) (out : List CD), p + d = fl.length → out.length ≤ p → (∀ y ∈ out, y ∈ fl) → ∀ j, d + fl.length < j →
      l_r22_connected_2 (run M k) j kind (p : Int) (0 : Int) (0 : Int) (E.op 0 ne).1 (E.op 0 ne).2.1 (E.op 0 ne).2.2.1.1 (E.op 0 ne).2.2.1.2 (E.op 0 ne).2.2.2.1.1 (E.op 0 ne).2.2.2.1.2 (E.op 0 ne).2.2.2.2.1 (E.op 0 ne).2.2.2.2.2.1 (E.op 0 ne).2.2.2.2.2.2 (E.op 0 ab).1 (E.op 0 ab).2.1 (E.op 0 ab).2.2.1.1 (E.op 0 ab).2.2.1.2 (E.op 0 ab).2.2.2.1.1 (E.op 0 ab).2.2.2.1.2 (E.op 0 ab).2.2.2.2.1 (E.op 0 ab).2.2.2.2.2.1 (E.op 0 ab).2.2.2.2.2.2 fl out = some ⟨.nom 0, finL kind ne ab (outL kind (fl.drop p) out)⟩
  | 0, p, out, hp, ho, hm, j, hj => by
    obtain ⟨j, rfl⟩ : ∃ i, j = i + 1 := ⟨j - 1, by omega⟩
    show s_r22_connected_2 (run M k) _ _ kind _ (0 : Int) (0 : Int) (E.op 0 ne).1 (E.op 0 ne).2.1 (E.op 0 ne).2.2.1.1 (E.op 0 ne).2.2.1.2 (E.op 0 ne).2.2.2.1.1 (E.op 0 ne).2.2.2.1.2 (E.op 0 ne).2.2.2.2.1 (E.op 0 ne).2.2.2.2.2.1 (E.op 0 ne).2.2.2.2.2.2 (E.op 0 ab).1 (E.op 0 ab).2.1 (E.op 0 ab).2.2.1.1 (E.op 0 ab).2.2.1.2 (E.op 0 ab).2.2.2.1.1 (E.op 0 ab).2.2.2.1.2 (E.op 0 ab).2.2.2.2.1 (E.op 0 ab).2.2.2.2.2.1 (E.op 0 ab).2.2.2.2.2.2 fl out = _
    obtain rfl : p = fl.length := by omega
    rw [List.drop_eq_nil_of_le (Nat.le_refl _)]
    simp only [s_r22_connected_2, Int.lt_irrefl, decide_false, cond_false]
    refine fin_len out (by omega) _ _ _ ?_ ?_ ?_
    · rw [repack ne]
    · intro h
      have h0 : inB (0 : Int) (out.length : Int) = true := by have := inB_nat 0 out.length; simp only [h, decide_true] at this; exact this
      rw [h0, cond_true]
      have := getDn (xs := out) (p := 0) h
      rw [show ((0 : Nat) : Int) = (0 : Int) from rfl] at this
      rw [this, repack out[0]]
    · rfl
  | d + 1, p, out, hp, ho, hm, j, hj => by
    obtain ⟨j, rfl⟩ : ∃ i, j = i + 1 := ⟨j - 1, by omega⟩
    have hpl : p < fl.length := by omega
    have hmem := List.getElem_mem hpl
    show s_r22_connected_2 (run M k) (l_r22_connected_4 (run M k) (l_r22_connected_2 (run M k) j) j) _ kind _ (0 : Int) (0 : Int) (E.op 0 ne).1 (E.op 0 ne).2.1 (E.op 0 ne).2.2.1.1 (E.op 0 ne).2.2.1.2 (E.op 0 ne).2.2.2.1.1 (E.op 0 ne).2.2.2.1.2 (E.op 0 ne).2.2.2.2.1 (E.op 0 ne).2.2.2.2.2.1 (E.op 0 ne).2.2.2.2.2.2 (E.op 0 ab).1 (E.op 0 ab).2.1 (E.op 0 ab).2.2.1.1 (E.op 0 ab).2.2.1.2 (E.op 0 ab).2.2.2.1.1 (E.op 0 ab).2.2.2.1.2 (E.op 0 ab).2.2.2.2.1 (E.op 0 ab).2.2.2.2.2.1 (E.op 0 ab).2.2.2.2.2.2 fl out = _
    rw [List.drop_eq_getElem_cons hpl]
    unfold outL
    simp only [s_r22_connected_2, inB_nat, hpl, decide_true, Int.ofNat_lt, cond_true, getDn hpl]
    rw [repack fl[p], repack ab, repack ne, hS _ hmem ab, res_some, bindS, hS _ hmem ne, res_some, bindS, ← hab, ← hne]
    cases sameC fl[p] ab with
    | true => rfl
    | false =>
      simp only [cond_false]
      rw [conn4 (l_r22_connected_2 (run M k) j) kind ne ab fl out p hpl hf (by omega) (fun y hy => hS y (hm y hy) fl[p]) (sameC fl[p] ne) j (by omega)]
      refine conn2 kind fl hf hS ne ab hne hab d (p + 1) _ (by omega) ?_ ?_ j (by omega)
      · cases (cond (sameC fl[p] ne) true (out.any fun y => sameC y fl[p])) <;> simp <;> omega
      · intro y hy
        cases hc : (cond (sameC fl[p] ne) true (out.any fun y => sameC y fl[p])) with
        | true => rw [hc] at hy; exact hm y hy
        | false =>
          rw [hc] at hy
          rcases List.mem_append.1 hy with hy | hy
          · exact hm y hy
          · simp only [List.mem_singleton] at hy; subst hy; exact hmem
theorem flat_length (kind : Int) (ks : List CD) : (flatL kind ks).length ≤ csizes ks := Nat.le_trans (csizes_length _) (csizes_flat kind ks)
theorem conn0 {k : Nat} (c2 : V_r22_connected_2) (kind : Int) (ks : List CD) (hk : csizes ks ≤ 100) (ne ab : CD) (j : Nat) (hj : ks.length < j) :
    l_r22_connected_0 (run M k) c2 j kind ks (0 : Int) (0 : Int) (0 : Int) (E.op 0 ne).1 (E.op 0 ne).2.1 (E.op 0 ne).2.2.1.1 (E.op 0 ne).2.2.1.2 (E.op 0 ne).2.2.2.1.1 (E.op 0 ne).2.2.2.1.2 (E.op 0 ne).2.2.2.2.1 (E.op 0 ne).2.2.2.2.2.1 (E.op 0 ne).2.2.2.2.2.2 (E.op 0 ab).1 (E.op 0 ab).2.1 (E.op 0 ab).2.2.1.1 (E.op 0 ab).2.2.1.2 (E.op 0 ab).2.2.2.1.1 (E.op 0 ab).2.2.2.1.2 (E.op 0 ab).2.2.2.2.1 (E.op 0 ab).2.2.2.2.2.1 (E.op 0 ab).2.2.2.2.2.2 [] = c2 kind (0 : Int) (0 : Int) (0 : Int) (E.op 0 ne).1 (E.op 0 ne).2.1 (E.op 0 ne).2.2.1.1 (E.op 0 ne).2.2.1.2 (E.op 0 ne).2.2.2.1.1 (E.op 0 ne).2.2.2.1.2 (E.op 0 ne).2.2.2.2.1 (E.op 0 ne).2.2.2.2.2.1 (E.op 0 ne).2.2.2.2.2.2 (E.op 0 ab).1 (E.op 0 ab).2.1 (E.op 0 ab).2.2.1.1 (E.op 0 ab).2.2.1.2 (E.op 0 ab).2.2.2.1.1 (E.op 0 ab).2.2.2.1.2 (E.op 0 ab).2.2.2.2.1 (E.op 0 ab).2.2.2.2.2.1 (E.op 0 ab).2.2.2.2.2.2 (flatL kind ks) [] := by
  have hkl := csizes_length ks
  have key := down_any (n := ks.length) (Q := fun j i => ∀ fl : List CD, fl.length + csizes (ks.drop i) ≤ 200 → l_r22_connected_0 (run M k) c2 j kind ks (i : Int) (0 : Int) (0 : Int) (E.op 0 ne).1 (E.op 0 ne).2.1 (E.op 0 ne).2.2.1.1 (E.op 0 ne).2.2.1.2 (E.op 0 ne).2.2.2.1.1 (E.op 0 ne).2.2.2.1.2 (E.op 0 ne).2.2.2.2.1 (E.op 0 ne).2.2.2.2.2.1 (E.op 0 ne).2.2.2.2.2.2 (E.op 0 ab).1 (E.op 0 ab).2.1 (E.op 0 ab).2.2.1.1 (E.op 0 ab).2.2.1.2 (E.op 0 ab).2.2.2.1.1 (E.op 0 ab).2.2.2.1.2 (E.op 0 ab).2.2.2.2.1 (E.op 0 ab).2.2.2.2.2.1 (E.op 0 ab).2.2.2.2.2.2 fl = c2 kind (0 : Int) (0 : Int) (0 : Int) (E.op 0 ne).1 (E.op 0 ne).2.1 (E.op 0 ne).2.2.1.1 (E.op 0 ne).2.2.1.2 (E.op 0 ne).2.2.2.1.1 (E.op 0 ne).2.2.2.1.2 (E.op 0 ne).2.2.2.2.1 (E.op 0 ne).2.2.2.2.2.1 (E.op 0 ne).2.2.2.2.2.2 (E.op 0 ab).1 (E.op 0 ab).2.1 (E.op 0 ab).2.2.1.1 (E.op 0 ab).2.2.1.2 (E.op 0 ab).2.2.2.1.1 (E.op 0 ab).2.2.2.1.2 (E.op 0 ab).2.2.2.2.1 (E.op 0 ab).2.2.2.2.2.1 (E.op 0 ab).2.2.2.2.2.2 (fl ++ flatL kind (ks.drop i)) [])
    (fun j fl _ => by
      show s_r22_connected_0 (run M k) c2 _ kind ks _ (0 : Int) (0 : Int) (E.op 0 ne).1 (E.op 0 ne).2.1 (E.op 0 ne).2.2.1.1 (E.op 0 ne).2.2.1.2 (E.op 0 ne).2.2.2.1.1 (E.op 0 ne).2.2.2.1.2 (E.op 0 ne).2.2.2.2.1 (E.op 0 ne).2.2.2.2.2.1 (E.op 0 ne).2.2.2.2.2.2 (E.op 0 ab).1 (E.op 0 ab).2.1 (E.op 0 ab).2.2.1.1 (E.op 0 ab).2.2.1.2 (E.op 0 ab).2.2.2.1.1 (E.op 0 ab).2.2.2.1.2 (E.op 0 ab).2.2.2.2.1 (E.op 0 ab).2.2.2.2.2.1 (E.op 0 ab).2.2.2.2.2.2 fl = _
      rw [List.drop_eq_nil_of_le (Nat.le_refl _)]
      simp only [s_r22_connected_0, Int.lt_irrefl, decide_false, cond_false, flatL, List.append_nil])
    (fun i j hi ih fl hfl => by
      show s_r22_connected_0 (run M k) c2 _ kind ks _ (0 : Int) (0 : Int) (E.op 0 ne).1 (E.op 0 ne).2.1 (E.op 0 ne).2.2.1.1 (E.op 0 ne).2.2.1.2 (E.op 0 ne).2.2.2.1.1 (E.op 0 ne).2.2.2.1.2 (E.op 0 ne).2.2.2.2.1 (E.op 0 ne).2.2.2.2.2.1 (E.op 0 ne).2.2.2.2.2.2 (E.op 0 ab).1 (E.op 0 ab).2.1 (E.op 0 ab).2.2.1.1 (E.op 0 ab).2.2.1.2 (E.op 0 ab).2.2.2.1.1 (E.op 0 ab).2.2.2.1.2 (E.op 0 ab).2.2.2.2.1 (E.op 0 ab).2.2.2.2.2.1 (E.op 0 ab).2.2.2.2.2.2 fl = _
      rw [List.drop_eq_getElem_cons hi, csizes_cons] at hfl
      rw [List.drop_eq_getElem_cons hi, flatL]
      simp only [s_r22_connected_0, inB_nat, hi, decide_true, Int.ofNat_lt, cond_true, rd_nat (t := .nom 0) ks i hi]
      have hsz := csize_kids ks[i]
      have hln := csizes_length (kidsC ks[i])
      by_cases hki : kindC ks[i] = kind
      · rw [decide_eq_true hki, show decide ((E.op 0 ks[i]).1 = kind) = true from decide_eq_true hki, cond_true, cond_true]
        show cond (roomy (fl.length + (kidsC ks[i]).length) 184) _ _ = _
        rw [room184 (by omega), cond_true, wrap_succ (by omega), ih _ (by show (fl ++ kidsC ks[i]).length + _ ≤ _; rw [List.length_append]; omega), ← List.append_assoc]
        rfl
      · rw [decide_eq_false hki, show decide ((E.op 0 ks[i]).1 = kind) = false from decide_eq_false hki, cond_false, cond_false, repack ks[i], room184 (by simp only [List.length_singleton]; omega), cond_true, wrap_succ (by omega), ih _ (by rw [List.length_append]; simp only [List.length_singleton]; omega), List.append_assoc]) 0 (Nat.zero_le _) j hj [] (by simp; omega)
  exact key
theorem r22_True_ev : ∀ k, 1 ≤ k → run M k f_r22_True [] = some ⟨.nom 0, yesC⟩ := by
  intro k hk
  obtain ⟨k, rfl⟩ : ∃ i, k = i + 1 := ⟨k - 1, by omega⟩
  rw [e_r22_True]; rfl
theorem r22_False_ev : ∀ k, 2 ≤ k → run M k f_r22_False [] = some ⟨.nom 0, noC⟩ := by
  intro k hk
  obtain ⟨k, rfl⟩ : ∃ i, k = i + 1 := ⟨k - 1, by omega⟩
  rw [e_r22_False, b_r22_False, r22_True_ev k (by omega), res_some, bindS, repack yesC]; rfl
theorem r22_connected_ev (kind : Int) (h34 : kind = 3 ∨ kind = 4) (ks : List CD) (hk : csizes ks ≤ 100) (hs : ∀ x ∈ ks, SmallC x) : ∀ k, 210000 ≤ k → run M k f_r22_connected [.val tI kind, .val (.slice (.nom 0)) ks] = some ⟨.nom 0, listC kind ks⟩ := by
  intro k hkk
  obtain ⟨k, rfl⟩ : ∃ i, k = i + 1 := ⟨k - 1, by omega⟩
  have hkl := csizes_length ks
  have hfl := flat_length kind ks
  have hS : ∀ x ∈ flatL kind ks, ∀ y, run M k f_r22_Same [.val (.nom 0) x, .val (.nom 0) y] = some ⟨.bool, sameC x y⟩ := fun x hx y => by
    have h1 := csize_mem hx
    have h2 := csizes_flat kind ks
    exact r22_Same_ev x (flat_mem hs (fun k hk _ x hx => small_kids (hs k hk) x hx) x hx) (by omega) y k (by omega)
  rw [e_r22_connected, b_r22_connected, r22_True_ev k (by omega), r22_False_ev k (by omega), res_some, res_some, bindS, bindS, listC_fin]
  rcases h34 with rfl | rfl
  · rw [show decide ((3 : Int) = 4) = false from rfl, cond_false]
    rw [conn0 (l_r22_connected_2 (run M k) k) 3 ks hk yesC noC k (by omega)]
    exact conn2 3 _ (by omega) hS yesC noC rfl rfl _ 0 [] (Nat.zero_add _) (by simp) (by simp) k (by omega)
  · rw [show decide ((4 : Int) = 4) = true from rfl, cond_true, bindS, bindS]
    rw [conn0 (l_r22_connected_2 (run M k) k) 4 ks hk noC yesC k (by omega)]
    exact conn2 4 _ (by omega) hS noC yesC rfl rfl _ 0 [] (Nat.zero_add _) (by simp) (by simp) k (by omega)
end Go.Proofs.AM

namespace Go.Proofs.AM
open Go
theorem simpL_take {kids : List CD} {i : Nat} (hi : i < kids.length) : simpL (kids.take i) ++ [simpC kids[i]] = simpL (kids.take (i + 1)) := by
  rw [simpL_map, simpL_map, List.take_succ_eq_append_getElem hi, List.map_append]; rfl
theorem inB00 : inB (0 : Int) ((1 : Nat) : Int) = true := rfl
theorem r22_simple_ev : ∀ c : CD, wfB c = true → SmallC c → csize c ≤ 100 → ∀ k, 220000 + 10 * csize c ≤ k → run M k f_r22_simple [.val (.nom 0) c] = some ⟨.nom 0, simpC c⟩ :=
  CD.ind fun kind kids m q ih hw hs hc k hk => by
    obtain ⟨hcs, hkw⟩ := wf_cases hw
    rw [csize_mk] at hc hk
    rw [small_mk] at hs
    have hks := (smalls_iff kids).1 hs.2
    have hkl := csizes_length kids
    obtain ⟨k, rfl⟩ : ∃ i, k = i + 1 := ⟨k - 1, by omega⟩
    have hL := simpL_size (l := kids) fun x hx => simp_size x (hkw x hx)
    have hLs : ∀ x ∈ simpL kids, SmallC x ∧ NF x := fun x hx => by
      rw [simpL_map] at hx
      obtain ⟨y, hy, rfl⟩ := List.mem_map.1 hx
      exact ⟨simp_small y (hks y hy), simp_nf y (hkw y hy)⟩
    have hlen := simpL_length kids
    have hend : ∀ j, s_r22_simple_0 (run M k) j (kids.length : Int) kind kids m.1 m.2 q.1.1 q.1.2 q.2.1 q.2.2.1 q.2.2.2 (0 : Int) (0 : Int) (simpL kids) = some ⟨.nom 0, simpT kind (simpL kids) m q⟩ := by
      intro j
      rcases hcs with ⟨rfl, rfl, hb⟩ | ⟨rfl, ⟨z, rfl⟩, hb⟩ | ⟨h34, hne, hb⟩ | ⟨rfl, z, rfl⟩
      · obtain ⟨rfl, rfl⟩ := bare_eq hb
        rw [simpL_nil]; rfl
      · obtain ⟨rfl, rfl⟩ := bare_eq hb
        obtain ⟨t, ht⟩ : ∃ t, t = simpL [z] := ⟨_, rfl⟩
        obtain ⟨x, hx⟩ : ∃ x, x = simpC z := ⟨_, rfl⟩
        have ht1 : t = [x] := by rw [ht, simpL_cons, simpL_nil, hx]
        rw [← ht] at hLs ⊢
        have hn := (hLs x (by rw [ht1]; simp)).2
        have hT : List.getD t (Int.toNat (0 : Int)) (dflt E (.nom 0)) = x := by rw [ht1]; rfl
        have hl1 : t.length = 1 := by rw [ht1]; rfl
        simp only [s_r22_simple_0, Int.lt_irrefl, decide_false, cond_false, List.length_singleton, inB00, Int.reduceEq, decide_true, cond_true, Bool.true_or, hl1, hT]
        rw [ht1]
        by_cases h2 : kindC x = 2
        · obtain ⟨y, hy, _, _⟩ := nf_two hn h2
          rw [hy]
          show some (⟨.nom 0, (E.cl 0 ((E.op 0 y).1, ((E.op 0 y).2.1, (((E.op 0 y).2.2.1.1, (E.op 0 y).2.2.1.2), (((E.op 0 y).2.2.2.1.1, (E.op 0 y).2.2.2.1.2), ((E.op 0 y).2.2.2.2.1, ((E.op 0 y).2.2.2.2.2.1, (E.op 0 y).2.2.2.2.2.2)))))))⟩ : Dt E) = _
          rw [repack y]; rfl
        · rw [show decide ((E.op 0 x).1 = (2 : Int)) = false from decide_eq_false h2, simpT_2, notC_one, decide_eq_false h2]; rfl
      · have hcc : (cond (decide (kind = (3 : Int))) true (decide (kind = (4 : Int)))) = true := by rcases h34 with rfl | rfl <;> rfl
        simp only [s_r22_simple_0, Int.lt_irrefl, decide_false, cond_false, hcc, cond_true]
        rw [r22_connected_ev kind h34 (simpL kids) (by omega) (fun x hx => (hLs x hx).1) k (by omega), res_some, bindS, repack, simpT_34 h34]
      · obtain ⟨t, ht⟩ : ∃ t, t = simpL [z] := ⟨_, rfl⟩
        obtain ⟨x, hx⟩ : ∃ x, x = simpC z := ⟨_, rfl⟩
        have ht1 : t = [x] := by rw [ht, simpL_cons, simpL_nil, hx]
        rw [← ht] at hLs ⊢
        have hn := hLs x (by rw [ht1]; simp)
        have hz : csize x ≤ csize z := by rw [hx]; exact simp_size z (hkw z (by simp))
        have hzz : csize z ≤ csizes [z] := csize_mem (by simp)
        have hT : List.getD t (Int.toNat (0 : Int)) (dflt E (.nom 0)) = x := by rw [ht1]; rfl
        have hl1 : t.length = 1 := by rw [ht1]; rfl
        simp only [s_r22_simple_0, Int.lt_irrefl, decide_false, cond_false, List.length_singleton, inB00, Int.reduceEq, decide_true, cond_true, Bool.true_or, Bool.not_true, Bool.not_false, Bool.or_true, hl1, hT]
        rw [r22_False_ev k (by omega), res_some, bindS, repack x, repack noC, r22_Same_ev x hn.1 (by omega) noC k (by omega), res_some, bindS, simpT_5, ht1, exC_one]
        cases sameC x noC with
        | true => simp only [cond_true]; rw [bindS, repack noC]
        | false => rfl
    rw [e_r22_simple, b_r22_simple, simpC_mk]
    have key := down_any (n := kids.length) (Q := fun j i => l_r22_simple_0 (run M k) j (i : Int) kind kids m.1 m.2 q.1.1 q.1.2 q.2.1 q.2.2.1 q.2.2.2 (0 : Int) (0 : Int) (simpL (kids.take i)) = some ⟨.nom 0, simpT kind (simpL kids) m q⟩)
      (fun j => by rw [List.take_length]; exact hend _)
      (fun i j hi ihl => by
        have hmem := List.getElem_mem hi
        have hle := csize_mem hmem
        show s_r22_simple_0 (run M k) _ _ kind kids m.1 m.2 q.1.1 q.1.2 q.2.1 q.2.2.1 q.2.2.2 (0 : Int) (0 : Int) _ = _
        simp only [s_r22_simple_0, inB_nat, hi, decide_true, Int.ofNat_lt, cond_true, rd_nat (t := .nom 0) kids i hi]
        rw [repack kids[i], ih kids[i] hmem (hkw _ hmem) (hks _ hmem) (by omega) k (by omega), res_some, bindS, repack (simpC kids[i]), room184 (by rw [simpL_length, List.length_take]; simp only [List.length_singleton]; omega), cond_true, wrap_succ (by omega), simpL_take hi, ihl]) 0 (Nat.zero_le _) k (by omega)
    rw [List.take_zero, simpL_nil] at key
    exact key
theorem r22_Simplify_ev (c : CD) (hs : SmallC c) (hc : csize c ≤ 1000) : ∀ k, 2000030 ≤ k → run M k f_r22_Simplify [.val (.nom 0) c] = some ⟨.pair (.nom 0) tI, (cond (decide (shapeCE c = 0)) (simpC c) (mkC 0 [] m0 q0), shapeCE c)⟩ := by
  intro k hk
  obtain ⟨k, rfl⟩ : ∃ i, k = i + 1 := ⟨k - 1, by omega⟩
  rw [e_r22_Simplify, b_r22_Simplify, repack c, r22_Shape_ev c hs hc k (by omega), res_some, bindS]
  by_cases h0 : shapeCE c = 0
  · obtain ⟨h1, h2, _, _⟩ := shape_simp h0
    rw [decide_eq_true h0, r22_simple_ev c h1 hs (by omega) k (by omega), res_some, bindS, repack (simpC c), h0]
    rfl
  · rw [decide_eq_false h0]; rfl
end Go.Proofs.AM

namespace Go.Proofs.AM
open Go
theorem condition_yes_ev : ∀ k, 1 ≤ k → run M k f_condition_yes [] = some ⟨.nom 0, yesC⟩ := by
  intro k hk
  obtain ⟨k, rfl⟩ : ∃ i, k = i + 1 := ⟨k - 1, by omega⟩
  rw [e_condition_yes]; rfl
theorem condition_no_ev : ∀ k, 2 ≤ k → run M k f_condition_no [] = some ⟨.nom 0, noC⟩ := by
  intro k hk
  obtain ⟨k, rfl⟩ : ∃ i, k = i + 1 := ⟨k - 1, by omega⟩
  rw [e_condition_no, b_condition_no, condition_yes_ev k (by omega), res_some, bindS, repack yesC]; rfl
theorem condition_isYes_ev {x : CD} (h : NF x) : ∀ k, 1 ≤ k → run M k f_condition_isYes [.val (.nom 0) x] = some ⟨.bool, sameC x yesC⟩ := by
  intro k hk
  obtain ⟨k, rfl⟩ : ∃ i, k = i + 1 := ⟨k - 1, by omega⟩
  rw [e_condition_isYes, ← nf_isYes h]; rfl
theorem condition_isNo_ev {x : CD} (h : NF x) : ∀ k, 1 ≤ k → run M k f_condition_isNo [.val (.nom 0) x] = some ⟨.bool, sameC x noC⟩ := by
  intro k hk
  obtain ⟨k, rfl⟩ : ∃ i, k = i + 1 := ⟨k - 1, by omega⟩
  rw [e_condition_isNo, b_condition_isNo, ← nf_isNo h]
  by_cases h2 : kindC x = 2
  · obtain ⟨y, rfl, _, _⟩ := nf_two h h2
    rfl
  · rw [show decide ((E.op 0 x).1 = (2 : Int)) = false from decide_eq_false h2, decide_eq_false h2]
    simp only [Bool.not_false, Bool.or_true, cond_true, cond_false]
theorem condition_list_1_ev {x y : CD} (hy : SmallC y) (hc : csize y ≤ 100) : ∀ k, 202001 ≤ k → run M k f_condition_list_1 ([.val (.nom 0) y] ++ capArgs [⟨.nom 0, x⟩]) = some ⟨.bool, sameC y x⟩ := by
  intro k hk
  obtain ⟨k, rfl⟩ : ∃ i, k = i + 1 := ⟨k - 1, by omega⟩
  show run M (k + 1) f_condition_list_1 [.val (.nom 0) y, .ro (.nom 0) x] = _
  rw [e_condition_list_1, b_condition_list_1, repack y, repack x, condition_Same_ev y hy (by omega) x k (by omega), res_some, bindS]
theorem list2 {k : Nat} (kind : Int) (fl : List CD) (hf : fl.length ≤ 900) (fn fa : FuncId) (ne ab : CD) (hne : ne = emptyC kind) (hab : ab = wholeC kind)
    (hA : ∀ x ∈ fl, run M k fa ([.val (.nom 0) x] ++ capArgs []) = some ⟨.bool, sameC x ab⟩) (hN : ∀ x ∈ fl, run M k fn ([.val (.nom 0) x] ++ capArgs []) = some ⟨.bool, sameC x ne⟩)
    (hC : ∀ x ∈ fl, ∀ out : List CD, (∀ y ∈ out, y ∈ fl) → out.length ≤ 900 → run M k f_slices_ContainsFunc_Condition [.val (.slice (.nom 0)) out, .fn f_condition_list_1 [⟨.nom 0, x⟩]] = some ⟨.bool, out.any fun y => sameC y x⟩) :
    ∀ (d p : Nat) (out : List CD), p + d = fl.length → out.length ≤ p → (∀ y ∈ out, y ∈ fl) → ∀ j, d < j →
      l_condition_list_2 (run M k) j kind fn [] fa [] (fl.length : Int) (p : Int) (0 : Int) (0 : Int) (E.op 0 ne).1 (E.op 0 ne).2.1 (E.op 0 ne).2.2.1.1 (E.op 0 ne).2.2.1.2 (E.op 0 ne).2.2.2.1.1 (E.op 0 ne).2.2.2.1.2 (E.op 0 ne).2.2.2.2.1 (E.op 0 ne).2.2.2.2.2.1 (E.op 0 ne).2.2.2.2.2.2 (E.op 0 ab).1 (E.op 0 ab).2.1 (E.op 0 ab).2.2.1.1 (E.op 0 ab).2.2.1.2 (E.op 0 ab).2.2.2.1.1 (E.op 0 ab).2.2.2.1.2 (E.op 0 ab).2.2.2.2.1 (E.op 0 ab).2.2.2.2.2.1 (E.op 0 ab).2.2.2.2.2.2 fl out = some ⟨.nom 0, finL kind ne ab (outL kind (fl.drop p) out)⟩
  | 0, p, out, hp, ho, hm, j, hj => by
    obtain ⟨j, rfl⟩ : ∃ i, j = i + 1 := ⟨j - 1, by omega⟩
    show s_condition_list_2 (run M k) _ kind fn [] fa [] _ _ (0 : Int) (0 : Int) (E.op 0 ne).1 (E.op 0 ne).2.1 (E.op 0 ne).2.2.1.1 (E.op 0 ne).2.2.1.2 (E.op 0 ne).2.2.2.1.1 (E.op 0 ne).2.2.2.1.2 (E.op 0 ne).2.2.2.2.1 (E.op 0 ne).2.2.2.2.2.1 (E.op 0 ne).2.2.2.2.2.2 (E.op 0 ab).1 (E.op 0 ab).2.1 (E.op 0 ab).2.2.1.1 (E.op 0 ab).2.2.1.2 (E.op 0 ab).2.2.2.1.1 (E.op 0 ab).2.2.2.1.2 (E.op 0 ab).2.2.2.2.1 (E.op 0 ab).2.2.2.2.2.1 (E.op 0 ab).2.2.2.2.2.2 fl out = _
    obtain rfl : p = fl.length := by omega
    rw [List.drop_eq_nil_of_le (Nat.le_refl _)]
    simp only [s_condition_list_2, Int.lt_irrefl, decide_false, cond_false]
    refine fin_len out (by omega) _ _ _ ?_ ?_ ?_
    · rw [repack ne]
    · intro h
      have h0 : inB (0 : Int) (out.length : Int) = true := by have := inB_nat 0 out.length; simp only [h, decide_true] at this; exact this
      rw [h0, cond_true]
      have := getDn (xs := out) (p := 0) h
      rw [show ((0 : Nat) : Int) = (0 : Int) from rfl] at this
      rw [this, repack out[0]]
    · rfl
  | d + 1, p, out, hp, ho, hm, j, hj => by
    obtain ⟨j, rfl⟩ : ∃ i, j = i + 1 := ⟨j - 1, by omega⟩
    have hpl : p < fl.length := by omega
    have hmem := List.getElem_mem hpl
    show s_condition_list_2 (run M k) (l_condition_list_2 (run M k) j) kind fn [] fa [] _ _ (0 : Int) (0 : Int) (E.op 0 ne).1 (E.op 0 ne).2.1 (E.op 0 ne).2.2.1.1 (E.op 0 ne).2.2.1.2 (E.op 0 ne).2.2.2.1.1 (E.op 0 ne).2.2.2.1.2 (E.op 0 ne).2.2.2.2.1 (E.op 0 ne).2.2.2.2.2.1 (E.op 0 ne).2.2.2.2.2.2 (E.op 0 ab).1 (E.op 0 ab).2.1 (E.op 0 ab).2.2.1.1 (E.op 0 ab).2.2.1.2 (E.op 0 ab).2.2.2.1.1 (E.op 0 ab).2.2.2.1.2 (E.op 0 ab).2.2.2.2.1 (E.op 0 ab).2.2.2.2.2.1 (E.op 0 ab).2.2.2.2.2.2 fl out = _
    rw [List.drop_eq_getElem_cons hpl]
    unfold outL
    simp only [s_condition_list_2, inB_nat, hpl, decide_true, Int.ofNat_lt, cond_true, getDn hpl]
    rw [repack fl[p], hA _ hmem, res_some, bindS, hN _ hmem, res_some, bindS, hC _ hmem out hm (by omega), res_some, repack ab, ← hab, ← hne]
    have next : ∀ out' : List CD, out'.length ≤ p + 1 → (∀ y ∈ out', y ∈ fl) → l_condition_list_2 (run M k) j kind fn [] fa [] (fl.length : Int) ((p + 1 : Nat) : Int) (0 : Int) (0 : Int) (E.op 0 ne).1 (E.op 0 ne).2.1 (E.op 0 ne).2.2.1.1 (E.op 0 ne).2.2.1.2 (E.op 0 ne).2.2.2.1.1 (E.op 0 ne).2.2.2.1.2 (E.op 0 ne).2.2.2.2.1 (E.op 0 ne).2.2.2.2.2.1 (E.op 0 ne).2.2.2.2.2.2 (E.op 0 ab).1 (E.op 0 ab).2.1 (E.op 0 ab).2.2.1.1 (E.op 0 ab).2.2.1.2 (E.op 0 ab).2.2.2.1.1 (E.op 0 ab).2.2.2.1.2 (E.op 0 ab).2.2.2.2.1 (E.op 0 ab).2.2.2.2.2.1 (E.op 0 ab).2.2.2.2.2.2 fl out' = some ⟨.nom 0, finL kind ne ab (outL kind (fl.drop (p + 1)) out')⟩ :=
      fun out' h1 h2 => list2 kind fl hf fn fa ne ab hne hab hA hN hC d (p + 1) out' (by omega) h1 h2 j (by omega)
    have hr : roomy (out.length + ([fl[p]] : List CD).length) 184 = true := room184 (by simp only [List.length_singleton]; omega)
    cases sameC fl[p] ab with
    | true => rfl
    | false =>
      cases sameC fl[p] ne with
      | true =>
        simp only [Bool.not_true, cond_false, cond_true]
        rw [bindS, wrap_succ (by omega), next out (by omega) hm]
      | false =>
        simp only [Bool.not_false, cond_false, cond_true]
        rw [bindS]
        cases (out.any fun y => sameC y fl[p]) with
        | true =>
          simp only [Bool.not_true, cond_false, cond_true]
          rw [wrap_succ (by omega), next out (by omega) hm]
        | false =>
          simp only [Bool.not_false, cond_false, cond_true]
          rw [hr, cond_true, wrap_succ (by omega), next (out ++ [fl[p]]) (by simp; omega) (fun y hy => by
            rcases List.mem_append.1 hy with hy | hy
            · exact hm y hy
            · simp only [List.mem_singleton] at hy; subst hy; exact hmem)]
theorem list0 {k : Nat} (c2 : V_condition_list_2) (kind : Int) (fn fa : FuncId) (ks : List CD) (hk : csizes ks ≤ 100) (ne ab : CD) (j : Nat) (hj : ks.length < j) :
    l_condition_list_0 (run M k) c2 j kind fn [] fa [] ks (ks.length : Int) (0 : Int) (0 : Int) (0 : Int) (E.op 0 ne).1 (E.op 0 ne).2.1 (E.op 0 ne).2.2.1.1 (E.op 0 ne).2.2.1.2 (E.op 0 ne).2.2.2.1.1 (E.op 0 ne).2.2.2.1.2 (E.op 0 ne).2.2.2.2.1 (E.op 0 ne).2.2.2.2.2.1 (E.op 0 ne).2.2.2.2.2.2 (E.op 0 ab).1 (E.op 0 ab).2.1 (E.op 0 ab).2.2.1.1 (E.op 0 ab).2.2.1.2 (E.op 0 ab).2.2.2.1.1 (E.op 0 ab).2.2.2.1.2 (E.op 0 ab).2.2.2.2.1 (E.op 0 ab).2.2.2.2.2.1 (E.op 0 ab).2.2.2.2.2.2 [] = c2 kind fn [] fa [] ((flatL kind ks).length : Int) (0 : Int) (0 : Int) (0 : Int) (E.op 0 ne).1 (E.op 0 ne).2.1 (E.op 0 ne).2.2.1.1 (E.op 0 ne).2.2.1.2 (E.op 0 ne).2.2.2.1.1 (E.op 0 ne).2.2.2.1.2 (E.op 0 ne).2.2.2.2.1 (E.op 0 ne).2.2.2.2.2.1 (E.op 0 ne).2.2.2.2.2.2 (E.op 0 ab).1 (E.op 0 ab).2.1 (E.op 0 ab).2.2.1.1 (E.op 0 ab).2.2.1.2 (E.op 0 ab).2.2.2.1.1 (E.op 0 ab).2.2.2.1.2 (E.op 0 ab).2.2.2.2.1 (E.op 0 ab).2.2.2.2.2.1 (E.op 0 ab).2.2.2.2.2.2 (flatL kind ks) [] := by
  have hkl := csizes_length ks
  have key := down_any (n := ks.length) (Q := fun j i => ∀ fl : List CD, fl.length + csizes (ks.drop i) ≤ 200 → l_condition_list_0 (run M k) c2 j kind fn [] fa [] ks (ks.length : Int) (i : Int) (0 : Int) (0 : Int) (E.op 0 ne).1 (E.op 0 ne).2.1 (E.op 0 ne).2.2.1.1 (E.op 0 ne).2.2.1.2 (E.op 0 ne).2.2.2.1.1 (E.op 0 ne).2.2.2.1.2 (E.op 0 ne).2.2.2.2.1 (E.op 0 ne).2.2.2.2.2.1 (E.op 0 ne).2.2.2.2.2.2 (E.op 0 ab).1 (E.op 0 ab).2.1 (E.op 0 ab).2.2.1.1 (E.op 0 ab).2.2.1.2 (E.op 0 ab).2.2.2.1.1 (E.op 0 ab).2.2.2.1.2 (E.op 0 ab).2.2.2.2.1 (E.op 0 ab).2.2.2.2.2.1 (E.op 0 ab).2.2.2.2.2.2 fl = c2 kind fn [] fa [] ((fl ++ flatL kind (ks.drop i)).length : Int) (0 : Int) (0 : Int) (0 : Int) (E.op 0 ne).1 (E.op 0 ne).2.1 (E.op 0 ne).2.2.1.1 (E.op 0 ne).2.2.1.2 (E.op 0 ne).2.2.2.1.1 (E.op 0 ne).2.2.2.1.2 (E.op 0 ne).2.2.2.2.1 (E.op 0 ne).2.2.2.2.2.1 (E.op 0 ne).2.2.2.2.2.2 (E.op 0 ab).1 (E.op 0 ab).2.1 (E.op 0 ab).2.2.1.1 (E.op 0 ab).2.2.1.2 (E.op 0 ab).2.2.2.1.1 (E.op 0 ab).2.2.2.1.2 (E.op 0 ab).2.2.2.2.1 (E.op 0 ab).2.2.2.2.2.1 (E.op 0 ab).2.2.2.2.2.2 (fl ++ flatL kind (ks.drop i)) [])
    (fun j fl _ => by
      show s_condition_list_0 (run M k) c2 _ kind fn [] fa [] ks _ _ (0 : Int) (0 : Int) (E.op 0 ne).1 (E.op 0 ne).2.1 (E.op 0 ne).2.2.1.1 (E.op 0 ne).2.2.1.2 (E.op 0 ne).2.2.2.1.1 (E.op 0 ne).2.2.2.1.2 (E.op 0 ne).2.2.2.2.1 (E.op 0 ne).2.2.2.2.2.1 (E.op 0 ne).2.2.2.2.2.2 (E.op 0 ab).1 (E.op 0 ab).2.1 (E.op 0 ab).2.2.1.1 (E.op 0 ab).2.2.1.2 (E.op 0 ab).2.2.2.1.1 (E.op 0 ab).2.2.2.1.2 (E.op 0 ab).2.2.2.2.1 (E.op 0 ab).2.2.2.2.2.1 (E.op 0 ab).2.2.2.2.2.2 fl = _
      rw [List.drop_eq_nil_of_le (Nat.le_refl _)]
      simp only [s_condition_list_0, Int.lt_irrefl, decide_false, cond_false, flatL, List.append_nil])
    (fun i j hi ih fl hfl => by
      show s_condition_list_0 (run M k) c2 _ kind fn [] fa [] ks _ _ (0 : Int) (0 : Int) (E.op 0 ne).1 (E.op 0 ne).2.1 (E.op 0 ne).2.2.1.1 (E.op 0 ne).2.2.1.2 (E.op 0 ne).2.2.2.1.1 (E.op 0 ne).2.2.2.1.2 (E.op 0 ne).2.2.2.2.1 (E.op 0 ne).2.2.2.2.2.1 (E.op 0 ne).2.2.2.2.2.2 (E.op 0 ab).1 (E.op 0 ab).2.1 (E.op 0 ab).2.2.1.1 (E.op 0 ab).2.2.1.2 (E.op 0 ab).2.2.2.1.1 (E.op 0 ab).2.2.2.1.2 (E.op 0 ab).2.2.2.2.1 (E.op 0 ab).2.2.2.2.2.1 (E.op 0 ab).2.2.2.2.2.2 fl = _
      rw [List.drop_eq_getElem_cons hi, csizes_cons] at hfl
      rw [List.drop_eq_getElem_cons hi, flatL]
      simp only [s_condition_list_0, inB_nat, hi, decide_true, Int.ofNat_lt, cond_true, rd_nat (t := .nom 0) ks i hi]
      have hsz := csize_kids ks[i]
      have hln := csizes_length (kidsC ks[i])
      by_cases hki : kindC ks[i] = kind
      · rw [decide_eq_true hki, show decide ((E.op 0 ks[i]).1 = kind) = true from decide_eq_true hki, cond_true, cond_true]
        show cond (roomy (fl.length + (kidsC ks[i]).length) 184) _ _ = _
        rw [room184 (by omega), cond_true, wrap_succ (by omega), ih _ (by show (fl ++ kidsC ks[i]).length + _ ≤ _; rw [List.length_append]; omega), ← List.append_assoc]
        rfl
      · rw [decide_eq_false hki, show decide ((E.op 0 ks[i]).1 = kind) = false from decide_eq_false hki, cond_false, cond_false, repack ks[i], room184 (by simp only [List.length_singleton]; omega), cond_true, wrap_succ (by omega), ih _ (by rw [List.length_append]; simp only [List.length_singleton]; omega), List.append_assoc]) 0 (Nat.zero_le _) j hj [] (by simp; omega)
  exact key
theorem condition_list_ev (kind : Int) (h34 : kind = 3 ∨ kind = 4) (ks : List CD) (hk : csizes ks ≤ 100) (hs : ∀ x ∈ ks, SmallC x ∧ NF x) : ∀ k, 210000 ≤ k → run M k f_condition_list [.val tI kind, .val (.slice (.nom 0)) ks] = some ⟨.nom 0, listC kind ks⟩ := by
  intro k hkk
  obtain ⟨k, rfl⟩ : ∃ i, k = i + 1 := ⟨k - 1, by omega⟩
  have hkl := csizes_length ks
  have hfl := flat_length kind ks
  have hr : 1000 ≤ reachBytes := by decide
  have hfs : ∀ x ∈ flatL kind ks, SmallC x ∧ csize x ≤ 100 := fun x hx => by
    have h1 := csize_mem hx
    have h2 := csizes_flat kind ks
    exact ⟨flat_mem (fun k hk => (hs k hk).1) (fun k hk _ x hx => small_kids (hs k hk).1 x hx) x hx, by omega⟩
  have hfn : ∀ x ∈ flatL kind ks, NF x := flat_nf h34 fun k hk => (hs k hk).2
  have hY : ∀ x ∈ flatL kind ks, run M k f_condition_isYes ([.val (.nom 0) x] ++ capArgs []) = some ⟨.bool, sameC x yesC⟩ := fun x hx => condition_isYes_ev (hfn x hx) k (by omega)
  have hN : ∀ x ∈ flatL kind ks, run M k f_condition_isNo ([.val (.nom 0) x] ++ capArgs []) = some ⟨.bool, sameC x noC⟩ := fun x hx => condition_isNo_ev (hfn x hx) k (by omega)
  have hC : ∀ x ∈ flatL kind ks, ∀ out : List CD, (∀ y ∈ out, y ∈ flatL kind ks) → out.length ≤ 900 → run M k f_slices_ContainsFunc_Condition [.val (.slice (.nom 0)) out, .fn f_condition_list_1 [⟨.nom 0, x⟩]] = some ⟨.bool, out.any fun y => sameC y x⟩ := fun x hx out hm ho =>
    ContainsFunc_Condition_ev (c := 202001) (fun y hy k hk => condition_list_1_ev (hfs y (hm y hy)).1 (hfs y (hm y hy)).2 k hk) (by show out.length ≤ _; omega) k (by show 202001 + out.length + 3 ≤ _; omega)
  rw [e_condition_list, b_condition_list, condition_yes_ev k (by omega), condition_no_ev k (by omega), res_some, res_some, bindS, bindS, listC_fin]
  rcases h34 with rfl | rfl
  · rw [show decide ((3 : Int) = 4) = false from rfl, cond_false]
    rw [list0 (l_condition_list_2 (run M k) k) 3 202 136 ks hk yesC noC k (by omega)]
    exact list2 3 _ (by omega) 202 136 yesC noC rfl rfl hN hY hC _ 0 [] (Nat.zero_add _) (by simp) (by simp) k (by omega)
  · rw [show decide ((4 : Int) = 4) = true from rfl, cond_true, bindS, bindS]
    rw [list0 (l_condition_list_2 (run M k) k) 4 136 202 ks hk noC yesC k (by omega)]
    exact list2 4 _ (by omega) 136 202 noC yesC rfl rfl hY hN hC _ 0 [] (Nat.zero_add _) (by simp) (by simp) k (by omega)
theorem Clone_Edge_ev (xs : List (Int × (Int × Int))) (hs : xs.length ≤ 1000000) : ∀ k, 1 ≤ k → run M k f_slices_Clone_Edge [.val (.slice tEdge) xs] = some ⟨.slice tEdge, xs⟩ := by
  intro k hk
  obtain ⟨k, rfl⟩ : ∃ i, k = i + 1 := ⟨k - 1, by omega⟩
  rw [e_slices_Clone_Edge, b_slices_Clone_Edge]
  cases xs with
  | nil => rfl
  | cons x r =>
    have h1 : roomy (([] : List (D tEdge)).length + (x :: r : List (Int × (Int × Int))).length) 24 = true := by
      unfold roomy
      refine decide_eq_true ?_
      simp only [List.length_nil, List.length_cons] at hs ⊢
      omega
    have h2 : decide (0 < (x :: r : List (Int × (Int × Int))).length) = true := by simp
    rw [h2, cond_true, h1, cond_true]
    rfl
theorem Clone_Slot_ev (xs : List SlotD) (hs : xs.length ≤ 1000000) : ∀ k, 1 ≤ k → run M k f_slices_Clone_Slot [.val (.slice tSlot) xs] = some ⟨.slice tSlot, xs⟩ := by
  intro k hk
  obtain ⟨k, rfl⟩ : ∃ i, k = i + 1 := ⟨k - 1, by omega⟩
  rw [e_slices_Clone_Slot, b_slices_Clone_Slot]
  cases xs with
  | nil => rfl
  | cons x r =>
    have h1 : roomy (([] : List (D tSlot)).length + (x :: r : List SlotD).length) 32 = true := by
      unfold roomy
      refine decide_eq_true ?_
      simp only [List.length_nil, List.length_cons] at hs ⊢
      omega
    have h2 : decide (0 < (x :: r : List SlotD).length) = true := by simp
    rw [h2, cond_true, h1, cond_true]
    rfl
theorem Clone_Test_ev (xs : List TestD) (hs : xs.length ≤ 1000000) : ∀ k, 1 ≤ k → run M k f_slices_Clone_Test [.val (.slice tTest) xs] = some ⟨.slice tTest, xs⟩ := by
  intro k hk
  obtain ⟨k, rfl⟩ : ∃ i, k = i + 1 := ⟨k - 1, by omega⟩
  rw [e_slices_Clone_Test, b_slices_Clone_Test]
  cases xs with
  | nil => rfl
  | cons x r =>
    have h1 : roomy (([] : List (D tTest)).length + (x :: r : List TestD).length) 40 = true := by
      unfold roomy
      refine decide_eq_true ?_
      simp only [List.length_nil, List.length_cons] at hs ⊢
      omega
    have h2 : decide (0 < (x :: r : List TestD).length) = true := by simp
    rw [h2, cond_true, h1, cond_true]
    rfl
theorem condition_copied_ev (q : PatD) (h1 : q.1.1.length ≤ 1000) (h2 : q.1.2.length ≤ 1000) (h3 : q.2.1.length ≤ 1000) (h4 : q.2.2.2.length ≤ 1000) : ∀ k, 2 ≤ k →
    run M k f_condition_copied [.val tPattern q] = some ⟨.pair (.slice tI) (.pair (.slice tEdge) (.pair (.slice tSlot) (.pair tI (.slice tTest)))), (q.1.1, (q.1.2, (q.2.1, (q.2.2.1, q.2.2.2))))⟩ := by
  intro k hk
  obtain ⟨k, rfl⟩ : ∃ i, k = i + 1 := ⟨k - 1, by omega⟩
  rw [e_condition_copied, b_condition_copied, Clone_int_ev _ (by omega) k (by omega), res_some, bindS, Clone_Edge_ev _ (by omega) k (by omega), res_some, bindS, Clone_Slot_ev _ (by omega) k (by omega), res_some, bindS, Clone_Test_ev _ (by omega) k (by omega), res_some, bindS]
theorem condition_simplify_ev : ∀ c : CD, wfB c = true → SmallC c → csize c ≤ 100 → ∀ k, 220000 + 10 * csize c ≤ k → run M k f_condition_simplify [.val (.nom 0) c] = some ⟨.nom 0, simpC c⟩ :=
  CD.ind fun kind kids m q ih hw hs hc k hk => by
    obtain ⟨hcs, hkw⟩ := wf_cases hw
    rw [csize_mk] at hc hk
    rw [small_mk] at hs
    have hks := (smalls_iff kids).1 hs.2
    have hkl := csizes_length kids
    obtain ⟨⟨s1, s2, s3, s4, s5, s6⟩, _⟩ := hs
    obtain ⟨k, rfl⟩ : ∃ i, k = i + 1 := ⟨k - 1, by omega⟩
    have hL := simpL_size (l := kids) fun x hx => simp_size x (hkw x hx)
    have hLs : ∀ x ∈ simpL kids, SmallC x ∧ NF x := fun x hx => by
      rw [simpL_map] at hx
      obtain ⟨y, hy, rfl⟩ := List.mem_map.1 hx
      exact ⟨simp_small y (hks y hy), simp_nf y (hkw y hy)⟩
    have hlen := simpL_length kids
    have hend : ∀ j, s_condition_simplify_0 (run M k) j kids (kids.length : Int) (kids.length : Int) kind kids m.1 m.2 q.1.1 q.1.2 q.2.1 q.2.2.1 q.2.2.2 (0 : Int) (0 : Int) (simpL kids) = some ⟨.nom 0, simpT kind (simpL kids) m q⟩ := by
      intro j
      rcases hcs with ⟨rfl, rfl, hb⟩ | ⟨rfl, ⟨z, rfl⟩, hb⟩ | ⟨h34, hne, hb⟩ | ⟨rfl, z, rfl⟩
      · simp only [s_condition_simplify_0, Int.lt_irrefl, decide_false, cond_false, Int.reduceEq, decide_true, cond_true]
        rw [condition_yes_ev k (by omega), res_some, bindS, repack yesC]; rfl
      · obtain ⟨t, ht⟩ : ∃ t, t = simpL [z] := ⟨_, rfl⟩
        obtain ⟨x, hx⟩ : ∃ x, x = simpC z := ⟨_, rfl⟩
        have ht1 : t = [x] := by rw [ht, simpL_cons, simpL_nil, hx]
        rw [← ht] at hLs ⊢
        have hn := (hLs x (by rw [ht1]; simp)).2
        have hT : List.getD t (Int.toNat (0 : Int)) (dflt E (.nom 0)) = x := by rw [ht1]; rfl
        have hl1 : t.length = 1 := by rw [ht1]; rfl
        simp only [s_condition_simplify_0, Int.lt_irrefl, decide_false, cond_false, List.length_singleton, inB00, Int.reduceEq, decide_true, cond_true, hl1, hT]
        rw [ht1]
        by_cases h2 : kindC x = 2
        · obtain ⟨y, hy, _, _⟩ := nf_two hn h2
          rw [hy]
          show some (⟨.nom 0, (E.cl 0 ((E.op 0 y).1, ((E.op 0 y).2.1, (((E.op 0 y).2.2.1.1, (E.op 0 y).2.2.1.2), (((E.op 0 y).2.2.2.1.1, (E.op 0 y).2.2.2.1.2), ((E.op 0 y).2.2.2.2.1, ((E.op 0 y).2.2.2.2.2.1, (E.op 0 y).2.2.2.2.2.2)))))))⟩ : Dt E) = _
          rw [repack y]; rfl
        · rw [show decide ((E.op 0 x).1 = (2 : Int)) = false from decide_eq_false h2, simpT_2, notC_one, decide_eq_false h2]; rfl
      · rcases h34 with rfl | rfl
        · simp only [s_condition_simplify_0, Int.lt_irrefl, decide_false, cond_false, Int.reduceEq, decide_true, cond_true]
          rw [condition_list_ev 3 (.inl rfl) (simpL kids) (by omega) hLs k (by omega), res_some, bindS, repack]; rfl
        · simp only [s_condition_simplify_0, Int.lt_irrefl, decide_false, cond_false, Int.reduceEq, decide_true, cond_true]
          rw [condition_list_ev 4 (.inr rfl) (simpL kids) (by omega) hLs k (by omega), res_some, bindS, repack]; rfl
      · obtain ⟨t, ht⟩ : ∃ t, t = simpL [z] := ⟨_, rfl⟩
        obtain ⟨x, hx⟩ : ∃ x, x = simpC z := ⟨_, rfl⟩
        have ht1 : t = [x] := by rw [ht, simpL_cons, simpL_nil, hx]
        rw [← ht] at hLs ⊢
        have hn := hLs x (by rw [ht1]; simp)
        have hT : List.getD t (Int.toNat (0 : Int)) (dflt E (.nom 0)) = x := by rw [ht1]; rfl
        have hl1 : t.length = 1 := by rw [ht1]; rfl
        simp only [s_condition_simplify_0, Int.lt_irrefl, decide_false, cond_false, List.length_singleton, inB00, Int.reduceEq, decide_true, cond_true, hl1, hT]
        rw [repack x, condition_isNo_ev hn.2 k (by omega), res_some, bindS, simpT_5, ht1, exC_one]
        cases sameC x noC with
        | true =>
          simp only [cond_true]
          rw [condition_no_ev k (by omega), res_some, bindS, repack noC]
        | false =>
          simp only [cond_false]
          show Option.bind (res (.slice tI) (run M k f_slices_Clone_int [.val (.slice tI) m.1])) (fun r5 => Option.bind (res (.slice tI) (run M k f_slices_Clone_int [.val (.slice tI) m.2])) (fun r6 => Option.bind (res (.pair (.slice tI) (.pair (.slice tEdge) (.pair (.slice tSlot) (.pair tI (.slice tTest))))) (run M k f_condition_copied [.val tPattern q])) (fun r7 => some (⟨.nom 0, E.cl 0 ((5 : Int), ([x], ((r5, r6), ((r7.1, r7.2.1), (r7.2.2.1, (r7.2.2.2.1, r7.2.2.2.2))))))⟩ : Dt E)))) = _
          rw [Clone_int_ev _ (by omega) k (by omega), res_some, bindS, Clone_int_ev _ (by omega) k (by omega), res_some, bindS, condition_copied_ev q (by omega) (by omega) (by omega) (by omega) k (by omega), res_some, bindS]
          rfl
    rw [e_condition_simplify, b_condition_simplify, simpC_mk]
    have key := down_any (n := kids.length) (Q := fun j i => l_condition_simplify_0 (run M k) j kids (kids.length : Int) (i : Int) kind kids m.1 m.2 q.1.1 q.1.2 q.2.1 q.2.2.1 q.2.2.2 (0 : Int) (0 : Int) (simpL (kids.take i)) = some ⟨.nom 0, simpT kind (simpL kids) m q⟩)
      (fun j => by rw [List.take_length]; exact hend _)
      (fun i j hi ihl => by
        have hmem := List.getElem_mem hi
        have hle := csize_mem hmem
        show s_condition_simplify_0 (run M k) _ kids _ _ kind kids m.1 m.2 q.1.1 q.1.2 q.2.1 q.2.2.1 q.2.2.2 (0 : Int) (0 : Int) _ = _
        simp only [s_condition_simplify_0, inB_nat, hi, decide_true, Int.ofNat_lt, cond_true, rd_nat (t := .nom 0) kids i hi]
        rw [repack kids[i], ih kids[i] hmem (hkw _ hmem) (hks _ hmem) (by omega) k (by omega), res_some, bindS, repack (simpC kids[i]), room184 (by rw [simpL_length, List.length_take]; simp only [List.length_singleton]; omega), cond_true, wrap_succ (by omega), simpL_take hi, ihl]) 0 (Nat.zero_le _) k (by omega)
    rw [List.take_zero, simpL_nil] at key
    exact key
theorem condition_Simplify_ev (c : CD) (hs : SmallC c) (hc : csize c ≤ 1000) : ∀ k, 2000030 ≤ k → run M k f_condition_Simplify [.val (.nom 0) c] = some ⟨.pair (.nom 0) tI, (cond (decide (shapeCE c = 0)) (simpC c) (mkC 0 [] m0 q0), shapeCE c)⟩ := by
  intro k hk
  obtain ⟨k, rfl⟩ : ∃ i, k = i + 1 := ⟨k - 1, by omega⟩
  rw [e_condition_Simplify, b_condition_Simplify, repack c, condition_shape_ev c hs hc k (by omega), res_some, bindS]
  by_cases h0 : shapeCE c = 0
  · obtain ⟨h1, h2, _, _⟩ := shape_simp h0
    rw [decide_eq_true h0, condition_simplify_ev c h1 hs (by omega) k (by omega), res_some, bindS, repack (simpC c), h0]
    rfl
  · rw [decide_eq_false h0]; rfl
end Go.Proofs.AM

namespace Go.Proofs.AM
open Go
theorem simp22_data (c d : CD) (hb : BigOk c) : run M 3000001 f_w22_ConditionSimplify [.val (.nom 0) c, .val (.nom 0) d] = some ⟨.bool, true⟩ := by
  rw [e_w22_ConditionSimplify, b_w22_ConditionSimplify, repack c, repack d, awake22 (by omega), res_some, bindS, r22_Few_ev c 3000000 (by omega), r22_Few_ev d 3000000 (by omega), res_some, res_some]
  simp only [Bool.not_true, Bool.not_false, cond_true, cond_false]
  rw [bindS]
  by_cases hC : (0 : Int) ≤ leftI c 40
  case neg => rw [decide_eq_false hC]; rfl
  rw [decide_eq_true hC]
  simp only [Bool.not_true, Bool.not_false, cond_true, cond_false]
  rw [bindS]
  cases decide ((0 : Int) ≤ leftI d 40) with
  | false => rfl
  | true =>
    obtain ⟨h1, h2⟩ := leftI_size c hb 40 (by omega) hC
    have h3 : csize c ≤ 40 := by omega
    simp only [Bool.not_true, cond_false]
    rw [condition_Simplify_ev c h1 (by omega) 3000000 (by omega), r22_Simplify_ev c h1 (by omega) 3000000 (by omega), res_some, bindS, bindS]
    have hS : SmallC (cond (decide (shapeCE c = 0)) (simpC c) (mkC 0 [] m0 q0)) ∧ csize (cond (decide (shapeCE c = 0)) (simpC c) (mkC 0 [] m0 q0)) ≤ 40 := by
      by_cases h0 : shapeCE c = 0
      · rw [decide_eq_true h0]
        have := simp_size c (shape_simp h0).1
        exact ⟨simp_small c h1, by rw [cond_true]; omega⟩
      · rw [decide_eq_false h0]
        exact ⟨small_mk.2 ⟨small_m0, trivial⟩, by rw [cond_false, csize_mk, csizes_nil]; omega⟩
    have hI : shapeCE c = 0 → shapeCE (cond (decide (shapeCE c = 0)) (simpC c) (mkC 0 [] m0 q0)) = 0 ∧ simpC (cond (decide (shapeCE c = 0)) (simpC c) (mkC 0 [] m0 q0)) = cond (decide (shapeCE c = 0)) (simpC c) (mkC 0 [] m0 q0) := fun h0 => by
      rw [decide_eq_true h0]; exact ⟨(shape_simp h0).2.2.1, (shape_simp h0).2.2.2⟩
    generalize (cond (decide (shapeCE c = 0)) (simpC c) (mkC 0 [] m0 q0)) = S at hS hI
    simp only [decide_true, Bool.not_true, Bool.not_false, cond_true, cond_false]
    rw [repack S]
    rw [r22_Same_ev S hS.1 (by omega) S 3000000 (by omega), res_some, bindS, sameC_refl]
    simp only [Bool.not_true, Bool.not_false, cond_true, cond_false]
    rw [condition_Same_ev c h1 (by omega) d 3000000 (by omega), res_some, bindS, r22_Same_ev c h1 (by omega) d 3000000 (by omega), res_some, bindS, beq_self_eq_true]
    simp only [Bool.not_true, Bool.not_false, cond_true, cond_false]
    rw [condition_Same_ev c h1 (by omega) c 3000000 (by omega), res_some, bindS, sameC_refl]
    simp only [Bool.not_true, Bool.not_false, cond_true, cond_false]
    by_cases h0 : shapeCE c = 0
    · obtain ⟨i1, i2⟩ := hI h0
      rw [decide_eq_true h0]
      simp only [Bool.not_true, cond_false]
      rw [condition_Simplify_ev S hS.1 (by omega) 3000000 (by omega), res_some, bindS, i1, i2]
      simp only [decide_true, cond_true]
      rw [repack S, condition_Same_ev S hS.1 (by omega) S 3000000 (by omega), res_some, bindS, sameC_refl]
    · rw [decide_eq_false h0]; rfl
end Go.Proofs.AM
