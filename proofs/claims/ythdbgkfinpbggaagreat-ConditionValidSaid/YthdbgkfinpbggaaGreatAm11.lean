/- Helpers of this claim: an abstract machine over the model, proved sound; what it computes. Part 11. -/
import Derived.Test.YthdbgkfinpbggaaGreatAm6
import Derived.Test.YthdbgkfinpbggaaGreatAm3
import Derived.IntWalk
import Derived.Test.YthdbgkfinpbggaaGreatAm7
import Derived.Test.YthdbgkfinpbggaaGreatAm8
set_option linter.unusedVariables false
set_option linter.unusedSimpArgs false
namespace Go.Proofs.AM
open Go
theorem res_some (t : Ty) (x : D t) : res (E := E) t (some ⟨t, x⟩) = some x := by simp [res, castD]
theorem dflt_bool : dflt E .bool = false := rfl
theorem bindS {α β : Type} (x : α) (f : α → Option β) : Option.bind (some x) f = f x := rfl
theorem loop_down {ρ : Type} {n : Nat} {F : Nat → Int → ρ} {G : Nat → ρ} (hend : ∀ j, F (j + 1) n = G n) (hstep : ∀ m j, m < n → F j ((m + 1 : Nat) : Int) = G (m + 1) → F (j + 1) (m : Int) = G m) :
    ∀ m, m ≤ n → ∀ j, n - m < j → F j (m : Int) = G m := by
  intro m hm
  induction h : n - m generalizing m with
  | zero =>
    intro j hj
    have : m = n := by omega
    subst this
    obtain ⟨i, rfl⟩ : ∃ i, j = i + 1 := ⟨j - 1, by omega⟩
    exact hend i
  | succ d ih =>
    intro j hj
    obtain ⟨i, rfl⟩ : ∃ i, j = i + 1 := ⟨j - 1, by omega⟩
    exact hstep m i (by omega) (ih (m + 1) (by omega) (by omega) i (by omega))
theorem loop_down' {ρ : Type} {n : Nat} (c : Nat) {F : Nat → Int → ρ} {G : Nat → ρ} (hend : ∀ j, c ≤ j → F (j + 1) n = G n) (hstep : ∀ m j, m < n → c ≤ j → F j ((m + 1 : Nat) : Int) = G (m + 1) → F (j + 1) (m : Int) = G m) :
    ∀ m, m ≤ n → ∀ j, c + (n - m) < j → F j (m : Int) = G m := by
  intro m hm
  induction h : n - m generalizing m with
  | zero =>
    intro j hj
    have : m = n := by omega
    subst this
    obtain ⟨i, rfl⟩ : ∃ i, j = i + 1 := ⟨j - 1, by omega⟩
    exact hend i (by omega)
  | succ d ih =>
    intro j hj
    obtain ⟨i, rfl⟩ : ∃ i, j = i + 1 := ⟨j - 1, by omega⟩
    exact hstep m i (by omega) (by omega) (ih (m + 1) (by omega) (by omega) i (by omega))
theorem wrap_id {x : Int} (h0 : -9223372036854775808 ≤ x) (h1 : x ≤ 9223372036854775807) : IntKind.i64.wrap x = x := by
  rw [IntKind.wrap_i64]; omega
theorem wrap_succ {m : Nat} (h : m < 9223372036854775807) : IntKind.i64.wrap ((m : Int) + 1) = ((m + 1 : Nat) : Int) := by
  rw [wrap_id (by omega) (by omega)]; simp
theorem inB_nat (m n : Nat) : inB (m : Int) (n : Int) = decide (m < n) := by
  simp [inB]
theorem rd_nat {t : Ty} (xs : List (D t)) (m : Nat) (h : m < xs.length) : rd (E := E) (t := t) xs (m : Int) = xs[m] := by
  simp [rd, h]
def by_ (s : ByteArray) : List Int := s.data.toList.map fun u => (u.toNat : Int)
theorem by_length (s : ByteArray) : (by_ s).length = s.size := by unfold by_; rw [List.length_map, Array.length_toList]; rfl
theorem bt_nat (s : ByteArray) (m : Nat) (h : m < (by_ s).length) : bt s (m : Int) = (by_ s)[m] := by
  have h' : m < s.data.toList.length := by unfold by_ at h; rw [List.length_map] at h; exact h
  unfold bt
  rw [Int.toNat_natCast, List.getD_eq_getElem?_getD, List.getElem?_eq_getElem h']
  simp only [by_, List.getElem_map, Option.getD_some]
theorem beqS_iff (a b : ByteArray) : beqS a b = decide (by_ a = by_ b) := by
  have hinj : ∀ l m : List UInt8, l.map (fun u => (u.toNat : Int)) = m.map (fun u => (u.toNat : Int)) → l = m := by
    intro l
    induction l with
    | nil => intro m h; cases m with
      | nil => rfl
      | cons _ _ => simp at h
    | cons x l ih => intro m h; cases m with
      | nil => simp at h
      | cons y m =>
        simp only [List.map_cons, List.cons.injEq] at h
        have : x = y := UInt8.toNat_inj.1 (by have := h.1; omega)
        rw [this, ih m h.2]
  unfold beqS by_
  by_cases h : a.data.toList = b.data.toList
  · simp [h]
  · rw [beq_eq_false_iff_ne.2 h, decide_eq_false (fun e => h (hinj _ _ e))]
def lead {α : Type} (p : α → Bool) : List α → Nat
  | [] => 0
  | x :: r => cond (p x) (lead p r + 1) 0
theorem lead_le {α : Type} (p : α → Bool) : ∀ l, lead p l ≤ l.length
  | [] => Nat.le_refl _
  | x :: r => by
    unfold lead
    have := lead_le p r
    cases p x <;> simp <;> omega
def idx {α : Type} (p : α → Bool) : Nat → List α → Int
  | _, [] => -1
  | m, x :: r => cond (p x) (m : Int) (idx p (m + 1) r)
theorem idx_nonneg {α : Type} (p : α → Bool) : ∀ (m : Nat) (l : List α), decide (0 ≤ idx p m l) = l.any p
  | _, [] => rfl
  | m, x :: r => by
    unfold idx
    rw [List.any_cons]
    cases p x with
    | true => simp
    | false => simpa using idx_nonneg p (m + 1) r
theorem reach_lt : reachBytes < 9223372036854775807 := by decide
theorem down_any {n : Nat} {Q : Nat → Nat → Prop} (hend : ∀ j, Q (j + 1) n) (hstep : ∀ m j, m < n → Q j (m + 1) → Q (j + 1) m) : ∀ m, m ≤ n → ∀ j, n - m < j → Q j m := by
  intro m hm
  induction h : n - m generalizing m with
  | zero =>
    intro j hj
    have : m = n := by omega
    subst this
    obtain ⟨i, rfl⟩ : ∃ i, j = i + 1 := ⟨j - 1, by omega⟩
    exact hend i
  | succ d ih =>
    intro j hj
    obtain ⟨i, rfl⟩ : ∃ i, j = i + 1 := ⟨j - 1, by omega⟩
    exact hstep m i (by omega) (ih (m + 1) (by omega) (by omega) i (by omega))
end Go.Proofs.AM

namespace Go.Proofs.AM
open Go
theorem IndexFunc_Edge_ev {xs : List (D tEdge)} {f : FuncId} {caps : List (Dt E)} {p : D tEdge → Bool} {c : Nat} (hf : ∀ x ∈ xs, ∀ k, c ≤ k → run M k f ([.val tEdge x] ++ capArgs caps) = some ⟨.bool, p x⟩) (hs : xs.length ≤ reachBytes) :
    ∀ k, c + xs.length + 2 ≤ k → run M k f_slices_IndexFunc_Edge [.val (.slice tEdge) xs, .fn f caps] = some ⟨tI, idx p 0 xs⟩ := by
  intro k hk
  obtain ⟨k, rfl⟩ : ∃ i, k = i + 1 := ⟨k - 1, by omega⟩
  rw [e_slices_IndexFunc_Edge, b_slices_IndexFunc_Edge]
  have hr := reach_lt
  exact loop_down (n := xs.length) (F := fun j i => l_slices_IndexFunc_Edge_0 (run M k) j xs f caps xs.length i) (G := fun m => some ⟨tI, idx p m (xs.drop m)⟩)
    (fun j => by
      show s_slices_IndexFunc_Edge_0 (run M k) _ xs f caps _ _ = _
      rw [List.drop_eq_nil_of_le (Nat.le_refl _)]
      simp [s_slices_IndexFunc_Edge_0, idx])
    (fun m j hm ih => by
      show s_slices_IndexFunc_Edge_0 (run M k) _ xs f caps _ _ = _
      have hx := hf _ (List.getElem_mem hm) k (by omega)
      rw [List.drop_eq_getElem_cons hm]
      simp only [s_slices_IndexFunc_Edge_0, inB_nat, rd_nat xs m hm, hm, decide_true, Int.ofNat_lt, cond_true]
      rw [hx, res_some, bindS]
      simp only [idx]
      cases p xs[m] with
      | true => rfl
      | false =>
        simp only [cond_false]
        rw [wrap_succ (by omega)]
        exact ih) 0 (Nat.zero_le _) k (by omega)
theorem ContainsFunc_Edge_ev {xs : List (D tEdge)} {f : FuncId} {caps : List (Dt E)} {p : D tEdge → Bool} {c : Nat} (hf : ∀ x ∈ xs, ∀ k, c ≤ k → run M k f ([.val tEdge x] ++ capArgs caps) = some ⟨.bool, p x⟩) (hs : xs.length ≤ reachBytes) :
    ∀ k, c + xs.length + 3 ≤ k → run M k f_slices_ContainsFunc_Edge [.val (.slice tEdge) xs, .fn f caps] = some ⟨.bool, xs.any p⟩ := by
  intro k hk
  obtain ⟨k, rfl⟩ : ∃ i, k = i + 1 := ⟨k - 1, by omega⟩
  rw [e_slices_ContainsFunc_Edge, b_slices_ContainsFunc_Edge, IndexFunc_Edge_ev hf hs k (by omega), res_some, bindS, idx_nonneg]
theorem IndexFunc_int_ev {xs : List (D tI)} {f : FuncId} {caps : List (Dt E)} {p : D tI → Bool} {c : Nat} (hf : ∀ x ∈ xs, ∀ k, c ≤ k → run M k f ([.val tI x] ++ capArgs caps) = some ⟨.bool, p x⟩) (hs : xs.length ≤ reachBytes) :
    ∀ k, c + xs.length + 2 ≤ k → run M k f_slices_IndexFunc_int [.val (.slice tI) xs, .fn f caps] = some ⟨tI, idx p 0 xs⟩ := by
  intro k hk
  obtain ⟨k, rfl⟩ : ∃ i, k = i + 1 := ⟨k - 1, by omega⟩
  rw [e_slices_IndexFunc_int, b_slices_IndexFunc_int]
  have hr := reach_lt
  exact loop_down (n := xs.length) (F := fun j i => l_slices_IndexFunc_int_0 (run M k) j xs f caps xs.length i) (G := fun m => some ⟨tI, idx p m (xs.drop m)⟩)
    (fun j => by
      show s_slices_IndexFunc_int_0 (run M k) _ xs f caps _ _ = _
      rw [List.drop_eq_nil_of_le (Nat.le_refl _)]
      simp [s_slices_IndexFunc_int_0, idx])
    (fun m j hm ih => by
      show s_slices_IndexFunc_int_0 (run M k) _ xs f caps _ _ = _
      have hx := hf _ (List.getElem_mem hm) k (by omega)
      rw [List.drop_eq_getElem_cons hm]
      simp only [s_slices_IndexFunc_int_0, inB_nat, rd_nat xs m hm, hm, decide_true, Int.ofNat_lt, cond_true]
      rw [hx, res_some, bindS]
      simp only [idx]
      cases p xs[m] with
      | true => rfl
      | false =>
        simp only [cond_false]
        rw [wrap_succ (by omega)]
        exact ih) 0 (Nat.zero_le _) k (by omega)
theorem ContainsFunc_int_ev {xs : List (D tI)} {f : FuncId} {caps : List (Dt E)} {p : D tI → Bool} {c : Nat} (hf : ∀ x ∈ xs, ∀ k, c ≤ k → run M k f ([.val tI x] ++ capArgs caps) = some ⟨.bool, p x⟩) (hs : xs.length ≤ reachBytes) :
    ∀ k, c + xs.length + 3 ≤ k → run M k f_slices_ContainsFunc_int [.val (.slice tI) xs, .fn f caps] = some ⟨.bool, xs.any p⟩ := by
  intro k hk
  obtain ⟨k, rfl⟩ : ∃ i, k = i + 1 := ⟨k - 1, by omega⟩
  rw [e_slices_ContainsFunc_int, b_slices_ContainsFunc_int, IndexFunc_int_ev hf hs k (by omega), res_some, bindS, idx_nonneg]
theorem IndexFunc_NodeType_ev {xs : List (D tNodeType)} {f : FuncId} {caps : List (Dt E)} {p : D tNodeType → Bool} {c : Nat} (hf : ∀ x ∈ xs, ∀ k, c ≤ k → run M k f ([.val tNodeType x] ++ capArgs caps) = some ⟨.bool, p x⟩) (hs : xs.length ≤ reachBytes) :
    ∀ k, c + xs.length + 2 ≤ k → run M k f_slices_IndexFunc_NodeType [.val (.slice tNodeType) xs, .fn f caps] = some ⟨tI, idx p 0 xs⟩ := by
  intro k hk
  obtain ⟨k, rfl⟩ : ∃ i, k = i + 1 := ⟨k - 1, by omega⟩
  rw [e_slices_IndexFunc_NodeType, b_slices_IndexFunc_NodeType]
  have hr := reach_lt
  exact loop_down (n := xs.length) (F := fun j i => l_slices_IndexFunc_NodeType_0 (run M k) j xs f caps xs.length i) (G := fun m => some ⟨tI, idx p m (xs.drop m)⟩)
    (fun j => by
      show s_slices_IndexFunc_NodeType_0 (run M k) _ xs f caps _ _ = _
      rw [List.drop_eq_nil_of_le (Nat.le_refl _)]
      simp [s_slices_IndexFunc_NodeType_0, idx])
    (fun m j hm ih => by
      show s_slices_IndexFunc_NodeType_0 (run M k) _ xs f caps _ _ = _
      have hx := hf _ (List.getElem_mem hm) k (by omega)
      rw [List.drop_eq_getElem_cons hm]
      simp only [s_slices_IndexFunc_NodeType_0, inB_nat, rd_nat xs m hm, hm, decide_true, Int.ofNat_lt, cond_true]
      rw [hx, res_some, bindS]
      simp only [idx]
      cases p xs[m] with
      | true => rfl
      | false =>
        simp only [cond_false]
        rw [wrap_succ (by omega)]
        exact ih) 0 (Nat.zero_le _) k (by omega)
theorem ContainsFunc_NodeType_ev {xs : List (D tNodeType)} {f : FuncId} {caps : List (Dt E)} {p : D tNodeType → Bool} {c : Nat} (hf : ∀ x ∈ xs, ∀ k, c ≤ k → run M k f ([.val tNodeType x] ++ capArgs caps) = some ⟨.bool, p x⟩) (hs : xs.length ≤ reachBytes) :
    ∀ k, c + xs.length + 3 ≤ k → run M k f_slices_ContainsFunc_NodeType [.val (.slice tNodeType) xs, .fn f caps] = some ⟨.bool, xs.any p⟩ := by
  intro k hk
  obtain ⟨k, rfl⟩ : ∃ i, k = i + 1 := ⟨k - 1, by omega⟩
  rw [e_slices_ContainsFunc_NodeType, b_slices_ContainsFunc_NodeType, IndexFunc_NodeType_ev hf hs k (by omega), res_some, bindS, idx_nonneg]
theorem IndexFunc_EdgeType_ev {xs : List (D tEdgeType)} {f : FuncId} {caps : List (Dt E)} {p : D tEdgeType → Bool} {c : Nat} (hf : ∀ x ∈ xs, ∀ k, c ≤ k → run M k f ([.val tEdgeType x] ++ capArgs caps) = some ⟨.bool, p x⟩) (hs : xs.length ≤ reachBytes) :
    ∀ k, c + xs.length + 2 ≤ k → run M k f_slices_IndexFunc_EdgeType [.val (.slice tEdgeType) xs, .fn f caps] = some ⟨tI, idx p 0 xs⟩ := by
  intro k hk
  obtain ⟨k, rfl⟩ : ∃ i, k = i + 1 := ⟨k - 1, by omega⟩
  rw [e_slices_IndexFunc_EdgeType, b_slices_IndexFunc_EdgeType]
  have hr := reach_lt
  exact loop_down (n := xs.length) (F := fun j i => l_slices_IndexFunc_EdgeType_0 (run M k) j xs f caps xs.length i) (G := fun m => some ⟨tI, idx p m (xs.drop m)⟩)
    (fun j => by
      show s_slices_IndexFunc_EdgeType_0 (run M k) _ xs f caps _ _ = _
      rw [List.drop_eq_nil_of_le (Nat.le_refl _)]
      simp [s_slices_IndexFunc_EdgeType_0, idx])
    (fun m j hm ih => by
      show s_slices_IndexFunc_EdgeType_0 (run M k) _ xs f caps _ _ = _
      have hx := hf _ (List.getElem_mem hm) k (by omega)
      rw [List.drop_eq_getElem_cons hm]
      simp only [s_slices_IndexFunc_EdgeType_0, inB_nat, rd_nat xs m hm, hm, decide_true, Int.ofNat_lt, cond_true]
      rw [hx, res_some, bindS]
      simp only [idx]
      cases p xs[m] with
      | true => rfl
      | false =>
        simp only [cond_false]
        rw [wrap_succ (by omega)]
        exact ih) 0 (Nat.zero_le _) k (by omega)
theorem ContainsFunc_EdgeType_ev {xs : List (D tEdgeType)} {f : FuncId} {caps : List (Dt E)} {p : D tEdgeType → Bool} {c : Nat} (hf : ∀ x ∈ xs, ∀ k, c ≤ k → run M k f ([.val tEdgeType x] ++ capArgs caps) = some ⟨.bool, p x⟩) (hs : xs.length ≤ reachBytes) :
    ∀ k, c + xs.length + 3 ≤ k → run M k f_slices_ContainsFunc_EdgeType [.val (.slice tEdgeType) xs, .fn f caps] = some ⟨.bool, xs.any p⟩ := by
  intro k hk
  obtain ⟨k, rfl⟩ : ∃ i, k = i + 1 := ⟨k - 1, by omega⟩
  rw [e_slices_ContainsFunc_EdgeType, b_slices_ContainsFunc_EdgeType, IndexFunc_EdgeType_ev hf hs k (by omega), res_some, bindS, idx_nonneg]
theorem IndexFunc_Attr_ev {xs : List (D tAttr)} {f : FuncId} {caps : List (Dt E)} {p : D tAttr → Bool} {c : Nat} (hf : ∀ x ∈ xs, ∀ k, c ≤ k → run M k f ([.val tAttr x] ++ capArgs caps) = some ⟨.bool, p x⟩) (hs : xs.length ≤ reachBytes) :
    ∀ k, c + xs.length + 2 ≤ k → run M k f_slices_IndexFunc_Attr [.val (.slice tAttr) xs, .fn f caps] = some ⟨tI, idx p 0 xs⟩ := by
  intro k hk
  obtain ⟨k, rfl⟩ : ∃ i, k = i + 1 := ⟨k - 1, by omega⟩
  rw [e_slices_IndexFunc_Attr, b_slices_IndexFunc_Attr]
  have hr := reach_lt
  exact loop_down (n := xs.length) (F := fun j i => l_slices_IndexFunc_Attr_0 (run M k) j xs f caps xs.length i) (G := fun m => some ⟨tI, idx p m (xs.drop m)⟩)
    (fun j => by
      show s_slices_IndexFunc_Attr_0 (run M k) _ xs f caps _ _ = _
      rw [List.drop_eq_nil_of_le (Nat.le_refl _)]
      simp [s_slices_IndexFunc_Attr_0, idx])
    (fun m j hm ih => by
      show s_slices_IndexFunc_Attr_0 (run M k) _ xs f caps _ _ = _
      have hx := hf _ (List.getElem_mem hm) k (by omega)
      rw [List.drop_eq_getElem_cons hm]
      simp only [s_slices_IndexFunc_Attr_0, inB_nat, rd_nat xs m hm, hm, decide_true, Int.ofNat_lt, cond_true]
      rw [hx, res_some, bindS]
      simp only [idx]
      cases p xs[m] with
      | true => rfl
      | false =>
        simp only [cond_false]
        rw [wrap_succ (by omega)]
        exact ih) 0 (Nat.zero_le _) k (by omega)
theorem ContainsFunc_Attr_ev {xs : List (D tAttr)} {f : FuncId} {caps : List (Dt E)} {p : D tAttr → Bool} {c : Nat} (hf : ∀ x ∈ xs, ∀ k, c ≤ k → run M k f ([.val tAttr x] ++ capArgs caps) = some ⟨.bool, p x⟩) (hs : xs.length ≤ reachBytes) :
    ∀ k, c + xs.length + 3 ≤ k → run M k f_slices_ContainsFunc_Attr [.val (.slice tAttr) xs, .fn f caps] = some ⟨.bool, xs.any p⟩ := by
  intro k hk
  obtain ⟨k, rfl⟩ : ∃ i, k = i + 1 := ⟨k - 1, by omega⟩
  rw [e_slices_ContainsFunc_Attr, b_slices_ContainsFunc_Attr, IndexFunc_Attr_ev hf hs k (by omega), res_some, bindS, idx_nonneg]
theorem IndexFunc_Slot_ev {xs : List (D tSlot)} {f : FuncId} {caps : List (Dt E)} {p : D tSlot → Bool} {c : Nat} (hf : ∀ x ∈ xs, ∀ k, c ≤ k → run M k f ([.val tSlot x] ++ capArgs caps) = some ⟨.bool, p x⟩) (hs : xs.length ≤ reachBytes) :
    ∀ k, c + xs.length + 2 ≤ k → run M k f_slices_IndexFunc_Slot [.val (.slice tSlot) xs, .fn f caps] = some ⟨tI, idx p 0 xs⟩ := by
  intro k hk
  obtain ⟨k, rfl⟩ : ∃ i, k = i + 1 := ⟨k - 1, by omega⟩
  rw [e_slices_IndexFunc_Slot, b_slices_IndexFunc_Slot]
  have hr := reach_lt
  exact loop_down (n := xs.length) (F := fun j i => l_slices_IndexFunc_Slot_0 (run M k) j xs f caps xs.length i) (G := fun m => some ⟨tI, idx p m (xs.drop m)⟩)
    (fun j => by
      show s_slices_IndexFunc_Slot_0 (run M k) _ xs f caps _ _ = _
      rw [List.drop_eq_nil_of_le (Nat.le_refl _)]
      simp [s_slices_IndexFunc_Slot_0, idx])
    (fun m j hm ih => by
      show s_slices_IndexFunc_Slot_0 (run M k) _ xs f caps _ _ = _
      have hx := hf _ (List.getElem_mem hm) k (by omega)
      rw [List.drop_eq_getElem_cons hm]
      simp only [s_slices_IndexFunc_Slot_0, inB_nat, rd_nat xs m hm, hm, decide_true, Int.ofNat_lt, cond_true]
      rw [hx, res_some, bindS]
      simp only [idx]
      cases p xs[m] with
      | true => rfl
      | false =>
        simp only [cond_false]
        rw [wrap_succ (by omega)]
        exact ih) 0 (Nat.zero_le _) k (by omega)
theorem ContainsFunc_Slot_ev {xs : List (D tSlot)} {f : FuncId} {caps : List (Dt E)} {p : D tSlot → Bool} {c : Nat} (hf : ∀ x ∈ xs, ∀ k, c ≤ k → run M k f ([.val tSlot x] ++ capArgs caps) = some ⟨.bool, p x⟩) (hs : xs.length ≤ reachBytes) :
    ∀ k, c + xs.length + 3 ≤ k → run M k f_slices_ContainsFunc_Slot [.val (.slice tSlot) xs, .fn f caps] = some ⟨.bool, xs.any p⟩ := by
  intro k hk
  obtain ⟨k, rfl⟩ : ∃ i, k = i + 1 := ⟨k - 1, by omega⟩
  rw [e_slices_ContainsFunc_Slot, b_slices_ContainsFunc_Slot, IndexFunc_Slot_ev hf hs k (by omega), res_some, bindS, idx_nonneg]
abbrev CD : Type := D (.nom 0)
theorem repack0 (x : Cond) : (E.cl 0 ((E.op 0 x).1, (((E.op 0 x).2).1, ((((((E.op 0 x).2).2).1).1, ((((E.op 0 x).2).2).1).2), (((((((E.op 0 x).2).2).2).1).1, (((((E.op 0 x).2).2).2).1).2), ((((((E.op 0 x).2).2).2).2).1, (((((((E.op 0 x).2).2).2).2).2).1, ((((((E.op 0 x).2).2).2).2).2).2)))))) : Cond) = x := by cases x; rfl
theorem repack (x : CD) : (E.cl 0 ((E.op 0 x).1, (((E.op 0 x).2).1, ((((((E.op 0 x).2).2).1).1, ((((E.op 0 x).2).2).1).2), (((((((E.op 0 x).2).2).2).1).1, (((((E.op 0 x).2).2).2).1).2), ((((((E.op 0 x).2).2).2).2).1, (((((((E.op 0 x).2).2).2).2).2).1, ((((((E.op 0 x).2).2).2).2).2).2)))))) : CD) = x := repack0 x
theorem IndexFunc_Condition_ev {xs : List (D (.nom 0))} {f : FuncId} {caps : List (Dt E)} {p : D (.nom 0) → Bool} {c : Nat} (hf : ∀ x ∈ xs, ∀ k, c ≤ k → run M k f ([.val (.nom 0) x] ++ capArgs caps) = some ⟨.bool, p x⟩) (hs : xs.length ≤ reachBytes) :
    ∀ k, c + xs.length + 2 ≤ k → run M k f_slices_IndexFunc_Condition [.val (.slice (.nom 0)) xs, .fn f caps] = some ⟨tI, idx p 0 xs⟩ := by
  intro k hk
  obtain ⟨k, rfl⟩ : ∃ i, k = i + 1 := ⟨k - 1, by omega⟩
  rw [e_slices_IndexFunc_Condition, b_slices_IndexFunc_Condition]
  have hr := reach_lt
  exact loop_down (n := xs.length) (F := fun j i => l_slices_IndexFunc_Condition_0 (run M k) j xs f caps xs.length i) (G := fun m => some ⟨tI, idx p m (xs.drop m)⟩)
    (fun j => by
      show s_slices_IndexFunc_Condition_0 (run M k) _ xs f caps _ _ = _
      rw [List.drop_eq_nil_of_le (Nat.le_refl _)]
      simp [s_slices_IndexFunc_Condition_0, idx])
    (fun m j hm ih => by
      show s_slices_IndexFunc_Condition_0 (run M k) _ xs f caps _ _ = _
      have hx := hf _ (List.getElem_mem hm) k (by omega)
      rw [List.drop_eq_getElem_cons hm]
      simp only [s_slices_IndexFunc_Condition_0, inB_nat, rd_nat xs m hm, hm, decide_true, Int.ofNat_lt, cond_true]
      rw [repack xs[m], hx, res_some, bindS]
      simp only [idx]
      cases p xs[m] with
      | true => rfl
      | false =>
        simp only [cond_false]
        rw [wrap_succ (by omega)]
        exact ih) 0 (Nat.zero_le _) k (by omega)
theorem ContainsFunc_Condition_ev {xs : List (D (.nom 0))} {f : FuncId} {caps : List (Dt E)} {p : D (.nom 0) → Bool} {c : Nat} (hf : ∀ x ∈ xs, ∀ k, c ≤ k → run M k f ([.val (.nom 0) x] ++ capArgs caps) = some ⟨.bool, p x⟩) (hs : xs.length ≤ reachBytes) :
    ∀ k, c + xs.length + 3 ≤ k → run M k f_slices_ContainsFunc_Condition [.val (.slice (.nom 0)) xs, .fn f caps] = some ⟨.bool, xs.any p⟩ := by
  intro k hk
  obtain ⟨k, rfl⟩ : ∃ i, k = i + 1 := ⟨k - 1, by omega⟩
  rw [e_slices_ContainsFunc_Condition, b_slices_ContainsFunc_Condition, IndexFunc_Condition_ev hf hs k (by omega), res_some, bindS, idx_nonneg]
theorem Index_string_ev {xs : List (D .str)} (x : D .str) (hs : xs.length ≤ reachBytes) :
    ∀ k, xs.length + 2 ≤ k → run M k f_slices_Index_string [.val (.slice .str) xs, .val .str x] = some ⟨tI, idx (fun y => beqS x y) 0 xs⟩ := by
  intro k hk
  obtain ⟨k, rfl⟩ : ∃ i, k = i + 1 := ⟨k - 1, by omega⟩
  rw [e_slices_Index_string, b_slices_Index_string]
  have hr := reach_lt
  exact loop_down (n := xs.length) (F := fun j i => l_slices_Index_string_0 (run M k) j xs x xs.length i) (G := fun m => some ⟨tI, idx (fun y => beqS x y) m (xs.drop m)⟩)
    (fun j => by
      show s_slices_Index_string_0 (run M k) _ xs x _ _ = _
      rw [List.drop_eq_nil_of_le (Nat.le_refl _)]
      simp [s_slices_Index_string_0, idx])
    (fun m j hm ih => by
      show s_slices_Index_string_0 (run M k) _ xs x _ _ = _
      rw [List.drop_eq_getElem_cons hm]
      simp only [s_slices_Index_string_0, inB_nat, rd_nat xs m hm, hm, decide_true, Int.ofNat_lt, cond_true, idx]
      rw [wrap_succ (by omega), ih]
      rcases Bool.eq_false_or_eq_true (beqS x xs[m]) with h | h <;> rw [h] <;> rfl) 0 (Nat.zero_le _) k (by omega)
theorem Contains_string_ev {xs : List (D .str)} (x : D .str) (hs : xs.length ≤ reachBytes) :
    ∀ k, xs.length + 3 ≤ k → run M k f_slices_Contains_string [.val (.slice .str) xs, .val .str x] = some ⟨.bool, xs.any (fun y => beqS x y)⟩ := by
  intro k hk
  obtain ⟨k, rfl⟩ : ∃ i, k = i + 1 := ⟨k - 1, by omega⟩
  rw [e_slices_Contains_string, b_slices_Contains_string, Index_string_ev x hs k (by omega), res_some, bindS, idx_nonneg]
theorem Index_bool_ev {xs : List (D .bool)} (x : D .bool) (hs : xs.length ≤ reachBytes) :
    ∀ k, xs.length + 2 ≤ k → run M k f_slices_Index_bool [.val (.slice .bool) xs, .val .bool x] = some ⟨tI, idx (fun y => x == y) 0 xs⟩ := by
  intro k hk
  obtain ⟨k, rfl⟩ : ∃ i, k = i + 1 := ⟨k - 1, by omega⟩
  rw [e_slices_Index_bool, b_slices_Index_bool]
  have hr := reach_lt
  exact loop_down (n := xs.length) (F := fun j i => l_slices_Index_bool_0 (run M k) j xs x xs.length i) (G := fun m => some ⟨tI, idx (fun y => x == y) m (xs.drop m)⟩)
    (fun j => by
      show s_slices_Index_bool_0 (run M k) _ xs x _ _ = _
      rw [List.drop_eq_nil_of_le (Nat.le_refl _)]
      simp [s_slices_Index_bool_0, idx])
    (fun m j hm ih => by
      show s_slices_Index_bool_0 (run M k) _ xs x _ _ = _
      rw [List.drop_eq_getElem_cons hm]
      simp only [s_slices_Index_bool_0, inB_nat, rd_nat xs m hm, hm, decide_true, Int.ofNat_lt, cond_true, idx]
      rw [wrap_succ (by omega), ih]
      rcases Bool.eq_false_or_eq_true (x == xs[m]) with h | h <;> rw [h] <;> rfl) 0 (Nat.zero_le _) k (by omega)
theorem Contains_bool_ev {xs : List (D .bool)} (x : D .bool) (hs : xs.length ≤ reachBytes) :
    ∀ k, xs.length + 3 ≤ k → run M k f_slices_Contains_bool [.val (.slice .bool) xs, .val .bool x] = some ⟨.bool, xs.any (fun y => x == y)⟩ := by
  intro k hk
  obtain ⟨k, rfl⟩ : ∃ i, k = i + 1 := ⟨k - 1, by omega⟩
  rw [e_slices_Contains_bool, b_slices_Contains_bool, Index_bool_ev x hs k (by omega), res_some, bindS, idx_nonneg]
end Go.Proofs.AM

namespace Go.Proofs.AM
open Go
def isLetter (x : Int) : Bool := cond (cond (decide ((97 : Int) ≤ x)) (decide (x ≤ (122 : Int))) false) true (cond (decide ((65 : Int) ≤ x)) (decide (x ≤ (90 : Int))) false)
def isDigit (x : Int) : Bool := cond (decide ((48 : Int) ≤ x)) (decide (x ≤ (57 : Int))) false
def isPart (x : Int) : Bool := cond (cond (isLetter x) true (isDigit x)) true (decide (x = (95 : Int)))
def inQuotes (x : Int) : Bool := cond (cond (decide ((32 : Int) ≤ x)) (decide (x ≤ (126 : Int))) false) (!(decide (x = (34 : Int)))) false
theorem token_letter_ev (x : Int) : ∀ k, 1 ≤ k → run M k f_token_letter [.val tU8 x] = some ⟨.bool, isLetter x⟩ := by
  intro k hk
  obtain ⟨k, rfl⟩ : ∃ i, k = i + 1 := ⟨k - 1, by omega⟩
  exact e_token_letter k x
theorem token_digit_ev (x : Int) : ∀ k, 1 ≤ k → run M k f_token_digit [.val tU8 x] = some ⟨.bool, isDigit x⟩ := by
  intro k hk
  obtain ⟨k, rfl⟩ : ∃ i, k = i + 1 := ⟨k - 1, by omega⟩
  exact e_token_digit k x
theorem token_quoted_1_ev (x : Int) : ∀ k, 1 ≤ k → run M k f_token_quoted_1 [.val tU8 x] = some ⟨.bool, inQuotes x⟩ := by
  intro k hk
  obtain ⟨k, rfl⟩ : ∃ i, k = i + 1 := ⟨k - 1, by omega⟩
  exact e_token_quoted_1 k x
theorem r01_letter_ev (x : Int) : ∀ k, 1 ≤ k → run M k f_r01_letter [.val tU8 x] = some ⟨.bool, isLetter x⟩ := by
  intro k hk
  obtain ⟨k, rfl⟩ : ∃ i, k = i + 1 := ⟨k - 1, by omega⟩
  exact e_r01_letter k x
theorem r01_digit_ev (x : Int) : ∀ k, 1 ≤ k → run M k f_r01_digit [.val tU8 x] = some ⟨.bool, isDigit x⟩ := by
  intro k hk
  obtain ⟨k, rfl⟩ : ∃ i, k = i + 1 := ⟨k - 1, by omega⟩
  exact e_r01_digit k x
theorem token_part_ev (x : Int) : ∀ k, 2 ≤ k → run M k f_token_part [.val tU8 x] = some ⟨.bool, isPart x⟩ := by
  intro k hk
  obtain ⟨k, rfl⟩ : ∃ i, k = i + 1 := ⟨k - 1, by omega⟩
  rw [e_token_part, b_token_part, token_letter_ev x k (by omega), token_digit_ev x k (by omega), res_some, bindS]
  unfold isPart
  cases isLetter x <;> simp [res_some, dflt_bool]
theorem token_run_ev {s : ByteArray} {f : FuncId} {p : Int → Bool} {c : Nat} (hf : ∀ x ∈ by_ s, ∀ k, c ≤ k → run M k f [.val tU8 x] = some ⟨.bool, p x⟩) (hs : s.size ≤ reachBytes) :
    ∀ k, c + s.size + 2 ≤ k → run M k f_token_run [.val .str s, .fn f []] = some ⟨tI, ((lead p (by_ s) : Nat) : Int)⟩ := by
  intro k hk
  obtain ⟨k, rfl⟩ : ∃ i, k = i + 1 := ⟨k - 1, by omega⟩
  rw [e_token_run, b_token_run]
  have hr := reach_lt
  have := loop_down (n := s.size) (F := fun j i => l_token_run_0 (run M k) j s f [] i) (G := fun m => some ⟨tI, ((m + lead p ((by_ s).drop m) : Nat) : Int)⟩)
    (fun j => by
      show s_token_run_0 (run M k) _ s f [] _ = _
      rw [List.drop_eq_nil_of_le (by rw [by_length]; exact Nat.le_refl _)]
      simp [s_token_run_0, inB_nat, lead, dflt_bool])
    (fun m j hm ih => by
      show s_token_run_0 (run M k) _ s f [] _ = _
      have hm' : m < (by_ s).length := by rw [by_length]; exact hm
      have hx := hf _ (List.getElem_mem hm') k (by omega)
      rw [List.drop_eq_getElem_cons hm']
      simp only [s_token_run_0, inB_nat, bt_nat s m hm', capArgs, List.map_nil, List.append_nil]
      simp only [hm, decide_true, Int.ofNat_lt, cond_true, Bool.true_or]
      rw [hx, res_some, bindS]
      simp only [lead]
      cases p (by_ s)[m] with
      | false => simp
      | true =>
        simp only [cond_true]
        rw [wrap_succ (by omega)]
        rw [ih]
        rw [show m + (lead p ((by_ s).drop (m + 1)) + 1) = m + 1 + lead p ((by_ s).drop (m + 1)) by omega]) 0 (Nat.zero_le _) k (by omega)
  simpa using this
theorem by_sub (s : ByteArray) (l h : Nat) (hh : h ≤ s.size) : by_ (subS s (l : Int) (h : Int)) = ((by_ s).take h).drop l := by
  unfold subS by_
  rw [Int.toNat_natCast, Int.toNat_natCast]
  simp only [ByteArray.data_extract, Array.toList_extract, List.extract_eq_take_drop, List.map_take, List.map_drop]
  rw [List.drop_take]
theorem size_sub (s : ByteArray) (l h : Nat) (hh : h ≤ s.size) : (subS s (l : Int) (h : Int)).size = h - l := by
  rw [← by_length, by_sub s l h hh, List.length_drop, List.length_take, by_length, Nat.min_eq_left hh]
theorem token_quoted_ev {s : ByteArray} (h0 : 0 < s.size) (hs : s.size ≤ reachBytes) : ∀ k, s.size + 6 ≤ k → ∃ r, run M k f_token_quoted [.val .str s] = some ⟨tTerm, r⟩ := by
  intro k hk
  obtain ⟨k, rfl⟩ : ∃ i, k = i + 1 := ⟨k - 1, by omega⟩
  have hr := reach_lt
  have hz : (subS s (1 : Int) (s.size : Int)).size = s.size - 1 := size_sub s 1 s.size (Nat.le_refl _)
  have hl := lead_le inQuotes (by_ (subS s (1 : Int) (s.size : Int)))
  rw [by_length, hz] at hl
  rw [e_token_quoted, b_token_quoted, token_run_ev (p := inQuotes) (c := 1) (fun x _ k hk => token_quoted_1_ev x k hk) (by rw [hz]; omega) k (by rw [hz]; omega)]
  generalize lead inQuotes (by_ (subS s (1 : Int) (s.size : Int))) = n at hl
  rw [res_some, bindS, wrap_id (x := (1 : Int) + (n : Int)) (by omega) (by omega)]
  have h1 : inS (1 : Int) (s.size : Int) (s.size : Int) = true := by simp [inS]; omega
  rw [h1, cond_true]
  by_cases he : (1 : Int) + (n : Int) = (s.size : Int)
  · rw [decide_eq_true he]
    simp
  · have h2 : inB ((1 : Int) + (n : Int)) (s.size : Int) = true := by simp [inB]; omega
    rw [h2, decide_eq_false he]
    simp only [Bool.true_or, cond_true, cond_false]
    cases (!(decide ((bt s ((1 : Int) + (n : Int))) = (34 : Int)))) with
    | true => exact ⟨_, rfl⟩
    | false =>
      simp only [cond_false]
      cases (decide ((60 : Int) < (n : Int))) with
      | true => exact ⟨_, rfl⟩
      | false => exact ⟨_, rfl⟩
theorem token_pair_ev (s : ByteArray) : ∀ k, 9 ≤ k → ∃ b, run M k f_token_pair [.val .str s] = some ⟨.bool, b⟩ := by
  intro k hk
  obtain ⟨k, rfl⟩ : ∃ i, k = i + 1 := ⟨k - 1, by omega⟩
  rw [e_token_pair, b_token_pair]
  by_cases h : (2 : Int) ≤ (s.size : Int)
  · have h1 : inS (0 : Int) (2 : Int) (s.size : Int) = true := by simp [inS]; omega
    rw [h1, decide_eq_true h]
    simp only [Bool.true_or, cond_true]
    rw [Contains_string_ev _ (by decide) k (by simp; omega), res_some, bindS]
    exact ⟨_, rfl⟩
  · rw [decide_eq_false h]
    simp [dflt_bool]
theorem IndexByte_ev (s : ByteArray) (x : Int) : ∀ k, 1 ≤ k → run M k f_strings_IndexByte [.val .str s, .val tU8 x] = some ⟨tI, Lib.indexByte s.data.toList x.toNat.toUInt8⟩ := by
  intro k hk
  obtain ⟨k, rfl⟩ : ∃ i, k = i + 1 := ⟨k - 1, by omega⟩
  rfl
def isName (l : List Int) : Bool :=
  match l with
  | [] => false
  | x :: r => isLetter x && (decide (lead isPart (x :: r) ≤ 20) && decide (lead isPart (x :: r) = (x :: r).length))
theorem isName_cons (x : Int) (r : List Int) : isName (x :: r) = (isLetter x && (decide (lead isPart (x :: r) ≤ 20) && decide (lead isPart (x :: r) = (x :: r).length))) := rfl
theorem token_next_letter {s : ByteArray} {x : Int} {r : List Int} (hb : by_ s = x :: r) (hs : s.size ≤ reachBytes) (hx : isLetter x = true) : ∀ k, s.size + 8 ≤ k →
    run M k f_token_next [.val .str s] = some ⟨tEdge, cond (decide (20 < lead isPart (by_ s))) ((0 : Int), ((0 : Int), (3 : Int))) ((1 : Int), (((lead isPart (by_ s) : Nat) : Int), (0 : Int)))⟩ := by
  intro k hk
  obtain ⟨k, rfl⟩ : ∃ i, k = i + 1 := ⟨k - 1, by omega⟩
  have hsz : s.size = r.length + 1 := by rw [← by_length, hb]; rfl
  have h0 : bt s (0 : Int) = x := by
    have := bt_nat s 0 (by rw [by_length]; omega)
    simp only [hb] at this
    exact this
  have hin : inB (0 : Int) (s.size : Int) = true := by simp [inB]; omega
  rw [e_token_next, b_token_next, hin, cond_true, h0, token_letter_ev x k (by omega), res_some, bindS, hx, cond_true,
    token_run_ev (p := isPart) (c := 2) (fun x _ k hk => token_part_ev x k hk) hs k (by omega), res_some, bindS]
  have : decide ((20 : Int) < ((lead isPart (by_ s) : Nat) : Int)) = decide (20 < lead isPart (by_ s)) := by
    by_cases h : 20 < lead isPart (by_ s)
    · rw [decide_eq_true h, decide_eq_true (by omega)]
    · rw [decide_eq_false h, decide_eq_false (by omega)]
  rw [this]
  cases decide (20 < lead isPart (by_ s)) <;> rfl
theorem token_next_other {s : ByteArray} {x : Int} {r : List Int} (hb : by_ s = x :: r) (hs : s.size ≤ reachBytes) (hx : isLetter x = false) : ∀ k, s.size + 12 ≤ k →
    ∃ y : Int × (Int × Int), run M k f_token_next [.val .str s] = some ⟨tEdge, y⟩ ∧ y.1 ≠ 1 := by
  intro k hk
  obtain ⟨k, rfl⟩ : ∃ i, k = i + 1 := ⟨k - 1, by omega⟩
  have hsz : s.size = r.length + 1 := by rw [← by_length, hb]; rfl
  have h0 : bt s (0 : Int) = x := by
    have := bt_nat s 0 (by rw [by_length]; omega)
    simp only [hb] at this
    exact this
  have hin : inB (0 : Int) (s.size : Int) = true := by simp [inB]; omega
  rw [e_token_next, b_token_next, hin, cond_true, h0, token_letter_ev x k (by omega), res_some, bindS, hx, cond_false,
    token_digit_ev x k (by omega), res_some, bindS]
  cases isDigit x with
  | true =>
    rw [cond_true, token_run_ev (p := isDigit) (c := 1) (fun x _ k hk => token_digit_ev x k hk) hs k (by omega), res_some, bindS]
    cases decide ((9 : Int) < ((lead isDigit (by_ s) : Nat) : Int)) with
    | true => exact ⟨_, rfl, by decide⟩
    | false => exact ⟨_, rfl, show (2 : Int) ≠ 1 by decide⟩
  | false =>
    rw [cond_false]
    cases decide (x = (34 : Int)) with
    | true =>
      obtain ⟨y, hy⟩ := token_quoted_ev (s := s) (by omega) hs k (by omega)
      rw [cond_true, hy, res_some, bindS]
      exact ⟨_, rfl, show (3 : Int) ≠ 1 by decide⟩
    | false =>
      obtain ⟨b, hy⟩ := token_pair_ev s k (by omega)
      rw [cond_false, hy, res_some, bindS]
      cases b with
      | true => exact ⟨_, rfl, show (4 : Int) ≠ 1 by decide⟩
      | false =>
        rw [cond_false, IndexByte_ev _ _ k (by omega), res_some, bindS]
        cases decide ((0 : Int) ≤ Lib.indexByte (⟨#[123, 125, 40, 41, 91, 93, 44, 59, 58, 61, 43, 45, 42, 60, 62, 33, 38, 124, 46, 63]⟩ : ByteArray).data.toList x.toNat.toUInt8) with
        | true => exact ⟨_, rfl, show (4 : Int) ≠ 1 by decide⟩
        | false => exact ⟨_, rfl, show (0 : Int) ≠ 1 by decide⟩
theorem token_whole_ev {s : ByteArray} (hs : s.size ≤ reachBytes) : ∀ k, s.size + 14 ≤ k → ∃ z, run M k f_token_whole [.val tToken ((1 : Int), (s, (0 : Int)))] = some ⟨(.pair .str .bool), (z, isName (by_ s))⟩ := by
  intro k hk
  obtain ⟨k, rfl⟩ : ∃ i, k = i + 1 := ⟨k - 1, by omega⟩
  rw [e_token_whole, b_token_whole]
  simp only [show decide ((1 : Int) = (3 : Int)) = false from rfl, cond_false]
  rw [beqS_iff]
  cases hb : by_ s with
  | nil =>
    rw [show by_ (⟨#[]⟩ : ByteArray) = [] from rfl, decide_eq_true rfl, cond_true]
    exact ⟨_, rfl⟩
  | cons x r =>
    rw [show by_ (⟨#[]⟩ : ByteArray) = [] from rfl, decide_eq_false (by simp), cond_false]
    have hsz : s.size = (x :: r).length := by rw [← by_length, hb]
    cases hx : isLetter x with
    | true =>
      rw [token_next_letter hb hs hx k (by omega), res_some, bindS, hb]
      refine ⟨s, ?_⟩
      rw [isName_cons, hx]
      by_cases h : 20 < lead isPart (x :: r)
      · rw [decide_eq_true h, decide_eq_false (show ¬ lead isPart (x :: r) ≤ 20 by omega)]; rfl
      · rw [decide_eq_false h, decide_eq_true (show lead isPart (x :: r) ≤ 20 by omega)]
        simp only [cond_false]
        have : decide (((lead isPart (x :: r) : Nat) : Int) = (s.size : Int)) = decide (lead isPart (x :: r) = (x :: r).length) := by
          rw [hsz]
          by_cases h : lead isPart (x :: r) = (x :: r).length
          · rw [decide_eq_true h, decide_eq_true (by omega)]
          · rw [decide_eq_false h, decide_eq_false (by omega)]
        rw [this]
        rfl
    | false =>
      obtain ⟨y, h1, h2⟩ := token_next_other hb hs hx k (by omega)
      rw [h1, res_some, bindS]
      refine ⟨s, ?_⟩
      rw [isName_cons, hx, decide_eq_false h2]
      cases decide (y.2.2 = (0 : Int)) <;> rfl
theorem token_IsName_ev {s : ByteArray} (hs : s.size ≤ reachBytes) : ∀ k, s.size + 15 ≤ k → run M k f_token_IsName [.val .str s] = some ⟨.bool, isName (by_ s)⟩ := by
  intro k hk
  obtain ⟨k, rfl⟩ : ∃ i, k = i + 1 := ⟨k - 1, by omega⟩
  obtain ⟨z, hz⟩ := token_whole_ev hs k (by omega)
  rw [e_token_IsName, b_token_IsName, hz, res_some, bindS]
end Go.Proofs.AM

namespace Go.Proofs.AM
open Go
theorem zero_add_wrap {m : Nat} (h : m ≤ 9223372036854775807) : IntKind.i64.wrap ((0 : Int) + (m : Int)) = (m : Int) := by
  rw [wrap_id (by omega) (by omega)]; omega
def runP (d : Bool) (x : Int) : Bool := cond (isDigit x) true (cond (!d) (cond (isLetter x) true (decide (x = (95 : Int)))) false)
theorem r01_run_ev {s : ByteArray} (d : Bool) (hs : s.size ≤ reachBytes) :
    ∀ k, s.size + 4 ≤ k → run M k f_r01_run [.val .str s, .val tI (0 : Int), .val .bool d] = some ⟨tI, ((lead (runP d) (by_ s) : Nat) : Int)⟩ := by
  intro k hk
  obtain ⟨k, rfl⟩ : ∃ i, k = i + 1 := ⟨k - 1, by omega⟩
  rw [e_r01_run, b_r01_run]
  have hr := reach_lt
  have := loop_down (n := s.size) (F := fun j i => l_r01_run_0 (run M k) j s (0 : Int) d i) (G := fun m => some ⟨tI, ((m + lead (runP d) ((by_ s).drop m) : Nat) : Int)⟩)
    (fun j => by
      show s_r01_run_0 (run M k) _ s (0 : Int) d _ = _
      rw [List.drop_eq_nil_of_le (by rw [by_length]; exact Nat.le_refl _)]
      simp only [s_r01_run_0, zero_add_wrap (show s.size ≤ 9223372036854775807 by omega)]
      simp [inB_nat, lead, dflt_bool])
    (fun m j hm ih => by
      show s_r01_run_0 (run M k) _ s (0 : Int) d _ = _
      have hm' : m < (by_ s).length := by rw [by_length]; exact hm
      rw [List.drop_eq_getElem_cons hm']
      simp only [s_r01_run_0, zero_add_wrap (show m ≤ 9223372036854775807 by omega), inB_nat, bt_nat s m hm']
      simp only [hm, decide_true, Int.ofNat_lt, cond_true, Bool.true_or, Bool.true_and]
      rw [r01_digit_ev _ k (by omega), res_some, bindS, r01_letter_ev _ k (by omega), res_some]
      rw [wrap_succ (by omega), ih, lead]
      generalize lead (runP d) ((by_ s).drop (m + 1)) = L
      unfold runP
      generalize (by_ s)[m] = x
      generalize isDigit x = q
      generalize isLetter x = l
      generalize decide (x = (95 : Int)) = e
      rw [show m + 1 + L = m + (L + 1) by omega]
      cases q <;> cases d <;> cases l <;> cases e <;> rfl) 0 (Nat.zero_le _) k (by omega)
  simpa using this
theorem runP_false : runP false = isPart := by
  funext x
  unfold runP isPart
  cases isDigit x <;> cases isLetter x <;> rfl
def closes : Nat → List Int → Int
  | _, [] => 0
  | m, x :: r => cond (decide (x = (34 : Int))) ((m + 1 : Nat) : Int) (cond (cond (decide (x < (32 : Int))) true (decide ((126 : Int) < x))) 0 (closes (m + 1) r))
theorem closes_bound : ∀ (m : Nat) (l : List Int), closes m l = 0 ∨ ((m + 1 : Nat) : Int) ≤ closes m l ∧ closes m l ≤ ((m + l.length : Nat) : Int)
  | _, [] => .inl rfl
  | m, x :: r => by
    have ih := closes_bound (m + 1) r
    unfold closes
    cases decide (x = (34 : Int)) with
    | true => right; simp only [cond_true, List.length_cons]; omega
    | false =>
      cases (cond (decide (x < (32 : Int))) true (decide ((126 : Int) < x))) with
      | true => exact .inl rfl
      | false =>
        simp only [cond_false, List.length_cons] at ih ⊢
        rcases ih with h | h
        · exact .inl h
        · right; omega
theorem r01_quoted_ev {s : ByteArray} (h1 : 1 ≤ s.size) (hs : s.size ≤ reachBytes) :
    ∀ k, s.size + 2 ≤ k → run M k f_r01_quoted [.val .str s, .val tI (0 : Int)] = some ⟨tI, closes 1 ((by_ s).drop 1)⟩ := by
  intro k hk
  obtain ⟨k, rfl⟩ : ∃ i, k = i + 1 := ⟨k - 1, by omega⟩
  rw [e_r01_quoted, b_r01_quoted]
  have hr := reach_lt
  exact loop_down (n := s.size) (F := fun j i => l_r01_quoted_0 (run M k) j s (0 : Int) i) (G := fun m => some ⟨tI, closes m ((by_ s).drop m)⟩)
    (fun j => by
      show s_r01_quoted_0 (run M k) _ s (0 : Int) _ = _
      rw [List.drop_eq_nil_of_le (by rw [by_length]; exact Nat.le_refl _)]
      simp only [s_r01_quoted_0, zero_add_wrap (show s.size ≤ 9223372036854775807 by omega)]
      simp [closes])
    (fun m j hm ih => by
      show s_r01_quoted_0 (run M k) _ s (0 : Int) _ = _
      have hm' : m < (by_ s).length := by rw [by_length]; exact hm
      rw [List.drop_eq_getElem_cons hm']
      simp only [s_r01_quoted_0, zero_add_wrap (show m ≤ 9223372036854775807 by omega), inB_nat, bt_nat s m hm']
      simp only [hm, decide_true, Int.ofNat_lt, cond_true]
      rw [wrap_succ (by omega), ih, closes]
      generalize (by_ s)[m] = x
      generalize closes (m + 1) ((by_ s).drop (m + 1)) = L
      cases decide (x = (34 : Int)) <;> cases decide (x < (32 : Int)) <;> cases decide ((126 : Int) < x) <;> rfl) 1 h1 k (by omega)
def signOf (s : ByteArray) : List ByteArray → Int × (ByteArray × (Int × (Int × Int)))
  | [] => ((0 : Int), ((⟨#[]⟩ : ByteArray), ((0 : Int), ((0 : Int), (2 : Int)))))
  | y :: r => cond (decide (y.size ≤ s.size)) (cond (beqS (subS s (0 : Int) (y.size : Int)) y) ((4 : Int), (y, ((0 : Int), ((y.size : Int), (0 : Int))))) (signOf s r)) (signOf s r)
theorem signOf_kind (s : ByteArray) : ∀ l, (signOf s l).1 ≠ 1
  | [] => by show (0 : Int) ≠ 1; decide
  | y :: r => by
    unfold signOf
    have ih := signOf_kind s r
    cases decide (y.size ≤ s.size) with
    | false => exact ih
    | true =>
      cases beqS (subS s (0 : Int) (y.size : Int)) y with
      | true => show (4 : Int) ≠ 1; decide
      | false => exact ih
theorem getD_nat {t : List (D .str)} {m : Nat} (h : m < t.length) : List.getD t (Int.toNat (m : Int)) (dflt E .str) = t[m] := by
  rw [Int.toNat_natCast, List.getD_eq_getElem?_getD, List.getElem?_eq_getElem h]; rfl
theorem r01_signs_loop {s : ByteArray} (hs : s.size ≤ reachBytes) (t : List (D .str)) (ht : t.length ≤ 1000) (hts : ∀ y ∈ t, ByteArray.size y ≤ 1000) (a : D tI) (b : D .str) (c : D tI) (k j : Nat) (hj : t.length < j) :
    l_r01_one_0 (run M k) j s (0 : Int) (0 : Int) a b c t = some ⟨(.pair tI (.pair .str tEdge)), signOf s t⟩ := by
  have hr := reach_lt
  exact loop_down (n := t.length) (F := fun j i => l_r01_one_0 (run M k) j s (0 : Int) i a b c t) (G := fun m => some ⟨(.pair tI (.pair .str tEdge)), signOf s (t.drop m)⟩)
    (fun j => by
      show s_r01_one_0 (run M k) _ s (0 : Int) _ a b c t = _
      rw [List.drop_eq_nil_of_le (Nat.le_refl _)]
      simp [s_r01_one_0, signOf])
    (fun m j hm ih => by
      show s_r01_one_0 (run M k) _ s (0 : Int) _ a b c t = _
      have hsz := hts _ (List.getElem_mem hm)
      rw [List.drop_eq_getElem_cons hm]
      simp only [s_r01_one_0, inB_nat, hm, decide_true, Int.ofNat_lt, cond_true, getD_nat hm, Bool.true_or]
      generalize ht' : t[m] = y at hsz ⊢
      rw [zero_add_wrap (show ByteArray.size y ≤ 9223372036854775807 by omega), wrap_succ (by omega), ih, signOf]
      have hi : inS (0 : Int) (ByteArray.size y : Int) (s.size : Int) = decide (ByteArray.size y ≤ s.size) := by
        simp [inS]
      rw [hi]
      have hd : decide ((ByteArray.size y : Int) ≤ (s.size : Int)) = decide (ByteArray.size y ≤ s.size) := by simp
      rw [hd]
      cases decide (ByteArray.size y ≤ s.size) <;> cases beqS (subS s (0 : Int) (ByteArray.size y : Int)) y <;> rfl) 0 (Nat.zero_le _) j (by omega)
theorem r01_one_letter {s : ByteArray} {x : Int} {r : List Int} (hb : by_ s = x :: r) (hs : s.size ≤ reachBytes) (hx : isLetter x = true) : ∀ k, s.size + 40 ≤ k →
    ∃ z : Int × (ByteArray × (Int × (Int × Int))), run M k f_r01_one [.val .str s, .val tI (0 : Int)] = some ⟨(.pair tI (.pair .str tEdge)), z⟩ ∧
      (cond (cond (decide (z.2.2.2.2 = (0 : Int))) (decide (z.2.2.2.1 = (s.size : Int))) false) (decide (z.1 = (1 : Int))) false) = isName (by_ s) := by
  intro k hk
  obtain ⟨k, rfl⟩ : ∃ i, k = i + 1 := ⟨k - 1, by omega⟩
  have hr := reach_lt
  have hsz : s.size = r.length + 1 := by rw [← by_length, hb]; rfl
  have h0 : bt s (0 : Int) = x := by
    have := bt_nat s 0 (by rw [by_length]; omega)
    simp only [hb] at this
    exact this
  have hin : inB (0 : Int) (s.size : Int) = true := by simp [inB]; omega
  have hnd : isDigit x = false := by
    unfold isLetter at hx
    unfold isDigit
    cases h1 : decide ((48 : Int) ≤ x) with
    | false => rfl
    | true =>
      cases h2 : decide (x ≤ (57 : Int)) with
      | false => rfl
      | true =>
        have := of_decide_eq_true h2
        rw [decide_eq_false (show ¬ (97 : Int) ≤ x by omega), decide_eq_false (show ¬ (65 : Int) ≤ x by omega)] at hx
        cases hx
  rw [e_r01_one, b_r01_one, hin, cond_true, h0, r01_letter_ev x k (by omega), r01_digit_ev x k (by omega), res_some, bindS, hx, res_some]
  simp only [Bool.not_true, cond_false, bindS, dflt_bool, cond_true, hnd]
  rw [r01_run_ev false hs k (by omega), res_some, bindS, runP_false, hb, isName_cons, hx]
  have hle := lead_le isPart (by_ s)
  rw [hb] at hle
  have hsz2 : s.size = (x :: r).length := hsz
  generalize lead isPart (x :: r) = n at hle ⊢
  by_cases h : 20 < n
  · rw [decide_eq_true (show (20 : Int) < (n : Int) by omega), decide_eq_false (show ¬ n ≤ 20 by omega)]
    exact ⟨_, rfl, rfl⟩
  · rw [decide_eq_false (show ¬ (20 : Int) < (n : Int) by omega), decide_eq_true (show n ≤ 20 by omega), zero_add_wrap (by omega)]
    have : inS (0 : Int) (n : Int) (s.size : Int) = true := by simp [inS]; omega
    rw [this]
    refine ⟨_, rfl, ?_⟩
    have : decide ((n : Int) = (s.size : Int)) = decide (n = (x :: r).length) := by
      rw [hsz2]
      by_cases h : n = (x :: r).length
      · rw [decide_eq_true h, decide_eq_true (by omega)]
      · rw [decide_eq_false h, decide_eq_false (by omega)]
    show (cond (cond (decide ((0 : Int) = 0)) (decide ((n : Int) = (s.size : Int))) false) (decide ((1 : Int) = 1)) false) = _
    rw [this]
    cases decide (n = (x :: r).length) <;> rfl
theorem r01_one_other {s : ByteArray} {x : Int} {r : List Int} (hb : by_ s = x :: r) (hs : s.size ≤ reachBytes) (hx : isLetter x = false) : ∀ k, s.size + 40 ≤ k →
    ∃ z : Int × (ByteArray × (Int × (Int × Int))), run M k f_r01_one [.val .str s, .val tI (0 : Int)] = some ⟨(.pair tI (.pair .str tEdge)), z⟩ ∧ z.1 ≠ 1 := by
  intro k hk
  obtain ⟨k, rfl⟩ : ∃ i, k = i + 1 := ⟨k - 1, by omega⟩
  have hr := reach_lt
  have hsz : s.size = r.length + 1 := by rw [← by_length, hb]; rfl
  have h0 : bt s (0 : Int) = x := by
    have := bt_nat s 0 (by rw [by_length]; omega)
    simp only [hb] at this
    exact this
  have hin : inB (0 : Int) (s.size : Int) = true := by simp [inB]; omega
  rw [e_r01_one, b_r01_one, hin, cond_true, h0, r01_letter_ev x k (by omega), r01_digit_ev x k (by omega), res_some, bindS, hx, res_some]
  simp only [Bool.not_false, cond_true, bindS, cond_false]
  cases hd : isDigit x with
  | true =>
    simp only [cond_true, bindS]
    rw [r01_run_ev true hs k (by omega), res_some, bindS]
    have hle := lead_le (runP true) (by_ s)
    rw [by_length] at hle
    generalize lead (runP true) (by_ s) = n at hle ⊢
    cases h9 : decide ((9 : Int) < (n : Int)) with
    | true => exact ⟨_, rfl, show (0 : Int) ≠ 1 by decide⟩
    | false =>
      rw [zero_add_wrap (by omega)]
      have : inS (0 : Int) (n : Int) (s.size : Int) = true := by simp [inS]; omega
      rw [this]
      exact ⟨_, rfl, show (2 : Int) ≠ 1 by decide⟩
  | false =>
    simp only [cond_false]
    cases hq : decide (x = (34 : Int)) with
    | true =>
      rw [cond_true, r01_quoted_ev (by omega) hs k (by omega), res_some, bindS]
      have hcb := closes_bound 1 ((by_ s).drop 1)
      rw [List.length_drop, by_length] at hcb
      generalize closes 1 ((by_ s).drop 1) = c at hcb ⊢
      by_cases hc : c = 0
      · rw [decide_eq_true hc]; exact ⟨_, rfl, show (0 : Int) ≠ 1 by decide⟩
      · have hcb := hcb.resolve_left hc
        rw [decide_eq_false hc, cond_false]
        cases decide ((60 : Int) < IntKind.i64.wrap (c - (2 : Int))) with
        | true => exact ⟨_, rfl, show (0 : Int) ≠ 1 by decide⟩
        | false =>
          rw [wrap_id (x := (0 : Int) + (1 : Int)) (by omega) (by omega), wrap_id (x := (0 : Int) + c) (by omega) (by omega), wrap_id (x := (0 : Int) + c - 1) (by omega) (by omega)]
          have : inS ((0 : Int) + (1 : Int)) ((0 : Int) + c - 1) (s.size : Int) = true := by simp [inS]; omega
          rw [this]
          exact ⟨_, rfl, show (3 : Int) ≠ 1 by decide⟩
    | false =>
      obtain ⟨k, rfl⟩ : ∃ i, k = i + 1 := ⟨k - 1, by omega⟩
      rw [cond_false, e_r01_signs, b_r01_signs, res_some, bindS]
      rw [r01_signs_loop hs _ (by decide) (by decide) _ _ _ _ _ (by simp; omega)]
      exact ⟨_, rfl, signOf_kind _ _⟩
theorem r01_Right_ev {s : ByteArray} (hs : s.size ≤ reachBytes) : ∀ k, s.size + 42 ≤ k → run M k f_r01_Right [.val tToken ((1 : Int), (s, (0 : Int)))] = some ⟨.bool, isName (by_ s)⟩ := by
  intro k hk
  obtain ⟨k, rfl⟩ : ∃ i, k = i + 1 := ⟨k - 1, by omega⟩
  have ht : run M k f_r01_text [.val tToken ((1 : Int), (s, (0 : Int)))] = some ⟨.str, s⟩ := by
    obtain ⟨k, rfl⟩ : ∃ i, k = i + 1 := ⟨k - 1, by omega⟩
    rw [e_r01_text, b_r01_text]; rfl
  rw [e_r01_Right, b_r01_Right, ht, res_some, bindS, beqS_iff]
  cases hb : by_ s with
  | nil => rw [show by_ (⟨#[]⟩ : ByteArray) = [] from rfl, decide_eq_true rfl, cond_true]; rfl
  | cons x r =>
    rw [show by_ (⟨#[]⟩ : ByteArray) = [] from rfl, decide_eq_false (by simp), cond_false]
    cases hx : isLetter x with
    | true =>
      obtain ⟨z, h1, h2⟩ := r01_one_letter hb hs hx k (by omega)
      rw [h1, res_some, bindS, ← hb, ← h2]
    | false =>
      obtain ⟨z, h1, h2⟩ := r01_one_other hb hs hx k (by omega)
      rw [h1, res_some, bindS, isName_cons, hx, decide_eq_false h2]
      cases (cond (decide (z.2.2.2.2 = (0 : Int))) (decide (z.2.2.2.1 = (s.size : Int))) false) <;> rfl
theorem r01_IsName_ev {s : ByteArray} (hs : s.size ≤ reachBytes) : ∀ k, s.size + 43 ≤ k → run M k f_r01_IsName [.val .str s] = some ⟨.bool, isName (by_ s)⟩ := by
  intro k hk
  obtain ⟨k, rfl⟩ : ∃ i, k = i + 1 := ⟨k - 1, by omega⟩
  rw [e_r01_IsName, b_r01_IsName, r01_Right_ev hs k (by omega), res_some, bindS]
end Go.Proofs.AM

namespace Go.Proofs.AM
open Go
def kindB (x : Int) : Bool := cond (decide ((0 : Int) ≤ x)) (decide (x ≤ (99 : Int))) false
def edgeB (n : Int) (e : Int × (Int × Int)) : Bool := cond (cond (cond (cond (kindB e.1) (decide ((0 : Int) ≤ e.2.1)) false) (decide (e.2.1 < n)) false) (decide ((0 : Int) ≤ e.2.2)) false) (decide (e.2.2 < n)) false
def graphE (g : List Int × List (Int × (Int × Int))) : Int :=
  cond (cond (decide ((40 : Int) < (g.1.length : Int))) true (decide ((80 : Int) < (g.2.length : Int)))) 3 (cond (g.1.any fun x => !kindB x) 6 (cond (g.2.any fun e => !edgeB g.1.length e) 6 0))
theorem graph_within_ev (x y : Int) : ∀ k, 1 ≤ k → run M k f_graph_within [.val tI x, .val tI y] = some ⟨.bool, cond (decide ((0 : Int) ≤ x)) (decide (x ≤ y)) false⟩ := by
  intro k hk
  obtain ⟨k, rfl⟩ : ∃ i, k = i + 1 := ⟨k - 1, by omega⟩
  exact e_graph_within k x y
theorem r05_kind_ev (x : Int) : ∀ k, 1 ≤ k → run M k f_r05_kind [.val tI x] = some ⟨.bool, kindB x⟩ := by
  intro k hk
  obtain ⟨k, rfl⟩ : ∃ i, k = i + 1 := ⟨k - 1, by omega⟩
  exact e_r05_kind k x
theorem le_pred {x n : Int} : decide (x ≤ n - 1) = decide (x < n) := by
  by_cases h : x < n
  · rw [decide_eq_true h, decide_eq_true (by omega)]
  · rw [decide_eq_false h, decide_eq_false (by omega)]
theorem graph_fits_ev (e : Int × (Int × Int)) (n : Nat) (hn : n ≤ reachBytes) : ∀ k, 2 ≤ k → run M k f_graph_fits [.val tEdge e, .val tI (n : Int)] = some ⟨.bool, edgeB n e⟩ := by
  intro k hk
  obtain ⟨k, rfl⟩ : ∃ i, k = i + 1 := ⟨k - 1, by omega⟩
  have hr := reach_lt
  rw [e_graph_fits, b_graph_fits, wrap_id (x := (n : Int) - 1) (by omega) (by omega), graph_within_ev _ _ k (by omega), graph_within_ev _ _ k (by omega), graph_within_ev _ _ k (by omega), res_some, bindS, res_some, res_some, le_pred, le_pred]
  unfold edgeB kindB
  cases decide ((0 : Int) ≤ e.1) <;> cases decide (e.1 ≤ (99 : Int)) <;> cases decide ((0 : Int) ≤ e.2.1) <;> cases decide (e.2.1 < (n : Int)) <;> cases decide ((0 : Int) ≤ e.2.2) <;> cases decide (e.2.2 < (n : Int)) <;> rfl
theorem r05_right_ev (e : Int × (Int × Int)) (n : Int) : ∀ k, 2 ≤ k → run M k f_r05_right [.val tEdge e, .val tI n] = some ⟨.bool, edgeB n e⟩ := by
  intro k hk
  obtain ⟨k, rfl⟩ : ∃ i, k = i + 1 := ⟨k - 1, by omega⟩
  rw [e_r05_right, b_r05_right, r05_kind_ev _ k (by omega), res_some, bindS]
  rfl
theorem graph_Valid_ev (g : List Int × List (Int × (Int × Int))) : ∀ k, 200 ≤ k → run M k f_graph_Valid [.val tGraph g] = some ⟨tI, graphE g⟩ := by
  intro k hk
  obtain ⟨k, rfl⟩ : ∃ i, k = i + 1 := ⟨k - 1, by omega⟩
  have hr : 100 ≤ reachBytes := by decide
  rw [e_graph_Valid, b_graph_Valid]
  unfold graphE
  cases h1 : decide ((40 : Int) < (g.1.length : Int)) with
  | true => rfl
  | false =>
    cases h2 : decide ((80 : Int) < (g.2.length : Int)) with
    | true => rfl
    | false =>
      have h1 := of_decide_eq_false h1
      have h2 := of_decide_eq_false h2
      simp only [cond_false]
      rw [ContainsFunc_int_ev (p := fun x => !kindB x) (c := 2) (fun x _ k hk => by
          obtain ⟨k, rfl⟩ : ∃ i, k = i + 1 := ⟨k - 1, by omega⟩
          show run M (k + 1) f_graph_Valid_1 [.val tI x] = _
          rw [e_graph_Valid_1, b_graph_Valid_1, graph_within_ev _ _ k (by omega), res_some, bindS]; rfl) (by omega) k (by omega), res_some, bindS]
      rw [ContainsFunc_Edge_ev (p := fun e => !edgeB g.1.length e) (c := 3) (fun x _ k hk => by
          obtain ⟨k, rfl⟩ : ∃ i, k = i + 1 := ⟨k - 1, by omega⟩
          show run M (k + 1) f_graph_Valid_2 [.val tEdge x, .ro tGraph (g.1, g.2)] = _
          rw [e_graph_Valid_2, b_graph_Valid_2]
          show Option.bind (res .bool (run M k f_graph_fits [.val tEdge x, .val tI (g.1.length : Int)])) _ = _
          rw [graph_fits_ev x g.1.length (by omega) k (by omega), res_some, bindS]) (by omega) k (by omega), res_some, bindS]
      cases (g.1.any fun x => !kindB x) with
      | true => rfl
      | false => cases (g.2.any fun e => !edgeB g.1.length e) <;> rfl
theorem all_drop {α : Type} (p : α → Bool) (xs : List α) (m : Nat) (h : m < xs.length) : (xs.drop m).all p = (p xs[m] && (xs.drop (m + 1)).all p) := by
  rw [List.drop_eq_getElem_cons h, List.all_cons]
theorem any_drop {α : Type} (p : α → Bool) (xs : List α) (m : Nat) (h : m < xs.length) : (xs.drop m).any p = (p xs[m] || (xs.drop (m + 1)).any p) := by
  rw [List.drop_eq_getElem_cons h, List.any_cons]
theorem r05_Valid_ev (g : List Int × List (Int × (Int × Int))) : ∀ k, 200 ≤ k → run M k f_r05_Valid [.val tGraph g] = some ⟨tI, graphE g⟩ := by
  intro k hk
  obtain ⟨k, rfl⟩ : ∃ i, k = i + 1 := ⟨k - 1, by omega⟩
  have hr : 100 ≤ reachBytes := by decide
  rw [e_r05_Valid, b_r05_Valid]
  unfold graphE
  cases h1 : decide ((40 : Int) < (g.1.length : Int)) with
  | true => rfl
  | false =>
    cases h2 : decide ((80 : Int) < (g.2.length : Int)) with
    | true => rfl
    | false =>
      have h1 := of_decide_eq_false h1
      have h2 := of_decide_eq_false h2
      simp only [cond_false]
      have hE := loop_down (n := g.2.length) (F := fun j i => l_r05_Valid_2 (run M k) j i g.1 g.2) (G := fun m => some ⟨tI, cond ((g.2.drop m).any fun e => !edgeB g.1.length e) (6 : Int) 0⟩)
        (fun j => by
          show s_r05_Valid_2 (run M k) _ _ g.1 g.2 = _
          rw [List.drop_eq_nil_of_le (Nat.le_refl _)]
          simp [s_r05_Valid_2])
        (fun m j hm ih => by
          show s_r05_Valid_2 (run M k) _ _ g.1 g.2 = _
          rw [any_drop _ _ m hm]
          simp only [s_r05_Valid_2, inB_nat, rd_nat (t := tEdge) g.2 m hm, hm, decide_true, Int.ofNat_lt, cond_true]
          show Option.bind (res .bool (run M k f_r05_right [.val tEdge g.2[m], .val tI (g.1.length : Int)])) _ = _
          rw [r05_right_ev _ _ k (by omega), res_some, bindS, wrap_succ (by omega), ih]
          cases edgeB g.1.length g.2[m] <;> rfl) 0 (Nat.zero_le _) k (by omega)
      exact loop_down (n := g.1.length) (F := fun j i => l_r05_Valid_0 (run M k) (l_r05_Valid_2 (run M k) k) j i g.1 g.2) (G := fun m => some ⟨tI, cond ((g.1.drop m).any fun x => !kindB x) (6 : Int) (cond (g.2.any fun e => !edgeB g.1.length e) (6 : Int) 0)⟩)
        (fun j => by
          show s_r05_Valid_0 (run M k) _ _ _ g.1 g.2 = _
          rw [List.drop_eq_nil_of_le (Nat.le_refl _)]
          simp only [s_r05_Valid_0, Int.lt_irrefl, decide_false, cond_false, List.any_nil]
          exact hE)
        (fun m j hm ih => by
          show s_r05_Valid_0 (run M k) _ _ _ g.1 g.2 = _
          rw [any_drop _ _ m hm]
          simp only [s_r05_Valid_0, inB_nat, rd_nat (t := tI) g.1 m hm, hm, decide_true, Int.ofNat_lt, cond_true]
          rw [r05_kind_ev _ k (by omega), res_some, bindS, wrap_succ (by omega), ih]
          cases kindB g.1[m] <;> rfl) 0 (Nat.zero_le _) k (by omega)
end Go.Proofs.AM

namespace Go.Proofs.AM
open Go
abbrev GraphD := List Int × List (Int × (Int × Int))
abbrev MorD := List Int × List Int
noncomputable abbrev rdI (xs : List Int) (i : Int) : Int := rd (E := E) (t := tI) xs i
noncomputable abbrev rdE (xs : List (Int × (Int × Int))) (i : Int) : Int × (Int × Int) := rd (E := E) (t := tEdge) xs i
def firstE {α : Type} (f : Nat → α → Int) : Nat → List α → Int
  | _, [] => 0
  | m, x :: r => cond (decide (f m x = 0)) (firstE f (m + 1) r) (f m x)
noncomputable def nodeErr (an bn : List Int) (i : Nat) (k : Int) : Int :=
  cond (cond (decide (k < (0 : Int))) true (decide ((bn.length : Int) ≤ k))) 6 (cond (!(decide (rdI bn k = rdI an i))) 13 0)
noncomputable def edgeErr (ae be : List (Int × (Int × Int))) (mn : List Int) (i : Nat) (k : Int) : Int :=
  cond (cond (decide (k < (0 : Int))) true (decide ((be.length : Int) ≤ k))) 6 (cond (!(decide ((rdE ae i).1 = (rdE be k).1))) 13
    (cond (cond (!(decide (rdI mn (rdE ae i).2.1 = (rdE be k).2.1))) true (!(decide (rdI mn (rdE ae i).2.2 = (rdE be k).2.2)))) 11 0))
noncomputable def edgesE (a b : GraphD) (m : MorD) : Int := firstE (edgeErr a.2 b.2 m.1) 0 m.2
noncomputable def mapE (a b : GraphD) (m : MorD) : Int := cond (decide (firstE (nodeErr a.1 b.1) 0 m.1 = 0)) (edgesE a b m) (firstE (nodeErr a.1 b.1) 0 m.1)
noncomputable def morE (a b : GraphD) (m : MorD) : Int :=
  cond (!(decide (graphE a = 0))) (graphE a) (cond (!(decide (graphE b = 0))) (graphE b) (cond (cond (!(decide ((m.1.length : Int) = (a.1.length : Int)))) true (!(decide ((m.2.length : Int) = (a.2.length : Int))))) 20 (mapE a b m)))
theorem inB_of {i n : Int} (h : (cond (decide (i < (0 : Int))) true (decide (n ≤ i))) = false) : inB i n = true := by
  cases h1 : decide (i < (0 : Int)) with
  | true => rw [h1] at h; cases h
  | false =>
    rw [h1] at h
    have h1 := of_decide_eq_false h1
    have h := of_decide_eq_false (p := n ≤ i) h
    simp [inB]; omega
theorem graphE_zero {g : GraphD} (h : graphE g = 0) : g.1.length ≤ 40 ∧ g.2.length ≤ 80 ∧ (∀ x ∈ g.1, kindB x = true) ∧ ∀ e ∈ g.2, edgeB g.1.length e = true := by
  unfold graphE at h
  cases h1 : decide ((40 : Int) < (g.1.length : Int)) with
  | true => rw [h1] at h; cases h
  | false =>
    cases h2 : decide ((80 : Int) < (g.2.length : Int)) with
    | true => rw [h1, h2] at h; cases h
    | false =>
      rw [h1, h2] at h
      have h1 := of_decide_eq_false h1
      have h2 := of_decide_eq_false h2
      simp only [cond_false] at h
      cases h3 : (g.1.any fun x => !kindB x) with
      | true => rw [h3] at h; cases h
      | false =>
        cases h4 : (g.2.any fun e => !edgeB g.1.length e) with
        | true => rw [h3, h4] at h; cases h
        | false =>
          refine ⟨by omega, by omega, fun x hx => ?_, fun e he => ?_⟩
          · have := List.any_eq_false.1 h3 x hx; simpa using this
          · have := List.any_eq_false.1 h4 e he; simpa using this
theorem edgeB_ends {n : Nat} {e : Int × (Int × Int)} (h : edgeB n e = true) : kindB e.1 = true ∧ inB e.2.1 (n : Int) = true ∧ inB e.2.2 (n : Int) = true := by
  unfold edgeB at h
  cases h1 : kindB e.1 with
  | false => rw [h1] at h; cases h
  | true =>
    cases h2 : decide ((0 : Int) ≤ e.2.1) with
    | false => rw [h1, h2] at h; cases h
    | true =>
      cases h3 : decide (e.2.1 < (n : Int)) with
      | false => rw [h1, h2, h3] at h; cases h
      | true =>
        cases h4 : decide ((0 : Int) ≤ e.2.2) with
        | false => rw [h1, h2, h3, h4] at h; cases h
        | true =>
          cases h5 : decide (e.2.2 < (n : Int)) with
          | false => rw [h1, h2, h3, h4, h5] at h; cases h
          | true => exact ⟨rfl, by unfold inB; rw [h2, h3]; rfl, by unfold inB; rw [h4, h5]; rfl⟩
theorem rdE_mem {xs : List (Int × (Int × Int))} {m : Nat} (h : m < xs.length) : rdE xs m ∈ xs := by
  unfold rdE; rw [rd_nat (t := tEdge) xs m h]; exact List.getElem_mem h
theorem morphism_Valid_ev (a b : GraphD) (m : MorD) : ∀ k, 300 ≤ k → run M k f_morphism_Valid [.val tGraph a, .val tGraph b, .val tMorphism m] = some ⟨tI, morE a b m⟩ := by
  intro k hk
  obtain ⟨k, rfl⟩ : ∃ i, k = i + 1 := ⟨k - 1, by omega⟩
  rw [e_morphism_Valid, b_morphism_Valid]
  show Option.bind (res tI (run M k f_graph_Valid [.val tGraph a])) _ = _
  rw [graph_Valid_ev a k (by omega), res_some, bindS]
  show cond _ _ (Option.bind (res tI (run M k f_graph_Valid [.val tGraph b])) _) = _
  rw [graph_Valid_ev b k (by omega), res_some, bindS]
  unfold morE
  by_cases h1 : graphE a = 0
  case neg => rw [decide_eq_false h1]; rfl
  by_cases h2 : graphE b = 0
  case neg => rw [decide_eq_false h2, decide_eq_true h1]; rfl
  rw [decide_eq_true h1, decide_eq_true h2]
  simp only [Bool.not_true, cond_false]
  obtain ⟨ga, gb, gc, gd⟩ := graphE_zero h1
  by_cases l1 : (m.1.length : Int) = (a.1.length : Int)
  case neg => rw [decide_eq_false l1]; rfl
  by_cases l2 : (m.2.length : Int) = (a.2.length : Int)
  case neg => rw [decide_eq_false l2, decide_eq_true l1]; rfl
  rw [decide_eq_true l1, decide_eq_true l2]
  simp only [Bool.not_true, cond_false]
  have hE := loop_down (n := m.2.length) (F := fun j i => l_morphism_Valid_2 (run M k) j m.2 m.2.length i a.1 a.2 b.1 b.2 m.1 m.2) (G := fun q => some ⟨tI, firstE (edgeErr a.2 b.2 m.1) q (m.2.drop q)⟩)
    (fun j => by
      show s_morphism_Valid_2 (run M k) _ m.2 _ _ a.1 a.2 b.1 b.2 m.1 m.2 = _
      rw [List.drop_eq_nil_of_le (Nat.le_refl _)]
      simp [s_morphism_Valid_2, firstE])
    (fun q j hq ih => by
      show s_morphism_Valid_2 (run M k) _ m.2 _ _ a.1 a.2 b.1 b.2 m.1 m.2 = _
      rw [List.drop_eq_getElem_cons hq, firstE, edgeErr]
      have hqa : q < a.2.length := by omega
      obtain ⟨_, e1, e2⟩ := edgeB_ends (gd _ (rdE_mem hqa))
      rw [← l1] at e1 e2
      simp only [s_morphism_Valid_2, inB_nat, rd_nat (t := tI) m.2 q hq, hq, hqa, decide_true, Int.ofNat_lt, cond_true, e1, e2, Bool.true_or]
      rw [wrap_succ (by omega), ih]
      generalize m.2[q] = x
      cases hx : (cond (decide (x < (0 : Int))) true (decide ((b.2.length : Int) ≤ x))) with
      | true => rfl
      | false =>
        rw [inB_of hx]
        simp only [cond_true, cond_false]
        cases decide ((rdE a.2 q).1 = (rdE b.2 x).1) <;> cases decide (rdI m.1 (rdE a.2 q).2.1 = (rdE b.2 x).2.1) <;> cases decide (rdI m.1 (rdE a.2 q).2.2 = (rdE b.2 x).2.2) <;> rfl) 0 (Nat.zero_le _) k (by omega)
  exact loop_down (n := m.1.length) (F := fun j i => l_morphism_Valid_0 (run M k) (l_morphism_Valid_2 (run M k) k) j m.1 m.1.length i a.1 a.2 b.1 b.2 m.1 m.2) (G := fun q => some ⟨tI, cond (decide (firstE (nodeErr a.1 b.1) q (m.1.drop q) = 0)) (edgesE a b m) (firstE (nodeErr a.1 b.1) q (m.1.drop q))⟩)
    (fun j => by
      show s_morphism_Valid_0 (run M k) _ _ m.1 _ _ a.1 a.2 b.1 b.2 m.1 m.2 = _
      rw [List.drop_eq_nil_of_le (Nat.le_refl _)]
      simp only [s_morphism_Valid_0, Int.lt_irrefl, decide_false, cond_false, firstE]
      exact hE)
    (fun q j hq ih => by
      show s_morphism_Valid_0 (run M k) _ _ m.1 _ _ a.1 a.2 b.1 b.2 m.1 m.2 = _
      rw [List.drop_eq_getElem_cons hq, firstE, nodeErr]
      have hqa : q < a.1.length := by omega
      simp only [s_morphism_Valid_0, inB_nat, rd_nat (t := tI) m.1 q hq, hq, hqa, decide_true, Int.ofNat_lt, cond_true]
      rw [wrap_succ (by omega), ih]
      generalize m.1[q] = x
      cases hx : (cond (decide (x < (0 : Int))) true (decide ((b.1.length : Int) ≤ x))) with
      | true => rfl
      | false =>
        rw [inB_of hx]
        simp only [cond_true, cond_false]
        cases decide (rdI b.1 x = rdI a.1 q) <;> rfl) 0 (Nat.zero_le _) k (by omega)
theorem r06_Valid_ev (a b : GraphD) (m : MorD) : ∀ k, 300 ≤ k → run M k f_r06_Valid [.val tGraph a, .val tGraph b, .val tMorphism m] = some ⟨tI, morE a b m⟩ := by
  intro k hk
  obtain ⟨k, rfl⟩ : ∃ i, k = i + 1 := ⟨k - 1, by omega⟩
  rw [e_r06_Valid, b_r06_Valid]
  show Option.bind (res tI (run M k f_r05_Valid [.val tGraph a])) _ = _
  rw [r05_Valid_ev a k (by omega), res_some, bindS]
  show cond _ _ (Option.bind (res tI (run M k f_r05_Valid [.val tGraph b])) _) = _
  rw [r05_Valid_ev b k (by omega), res_some, bindS]
  unfold morE
  by_cases h1 : graphE a = 0
  case neg => rw [decide_eq_false h1]; rfl
  by_cases h2 : graphE b = 0
  case neg => rw [decide_eq_false h2, decide_eq_true h1]; rfl
  rw [decide_eq_true h1, decide_eq_true h2]
  simp only [Bool.not_true, cond_false]
  obtain ⟨ga, gb, gc, gd⟩ := graphE_zero h1
  by_cases l1 : (m.1.length : Int) = (a.1.length : Int)
  case neg => rw [decide_eq_false l1]; rfl
  by_cases l2 : (m.2.length : Int) = (a.2.length : Int)
  case neg => rw [decide_eq_false l2, decide_eq_true l1]; rfl
  rw [decide_eq_true l1, decide_eq_true l2]
  simp only [Bool.not_true, cond_false]
  have l1' : m.1.length = a.1.length := by omega
  have l2' : m.2.length = a.2.length := by omega
  have hE := loop_down (n := m.2.length) (F := fun j i => l_r06_Valid_2 (run M k) j i a.1 a.2 b.1 b.2 m.1 m.2) (G := fun q => some ⟨tI, firstE (edgeErr a.2 b.2 m.1) q (m.2.drop q)⟩)
    (fun j => by
      show s_r06_Valid_2 (run M k) _ _ a.1 a.2 b.1 b.2 m.1 m.2 = _
      rw [List.drop_eq_nil_of_le (Nat.le_refl _)]
      simp [s_r06_Valid_2, firstE, l2'])
    (fun q j hq ih => by
      show s_r06_Valid_2 (run M k) _ _ a.1 a.2 b.1 b.2 m.1 m.2 = _
      rw [List.drop_eq_getElem_cons hq, firstE, edgeErr]
      have hqa : q < a.2.length := by omega
      obtain ⟨_, e1, e2⟩ := edgeB_ends (gd _ (rdE_mem hqa))
      rw [← l1] at e1 e2
      simp only [s_r06_Valid_2, inB_nat, rd_nat (t := tI) m.2 q hq, hq, hqa, decide_true, Int.ofNat_lt, cond_true, e1, e2, Bool.true_or]
      rw [wrap_succ (by omega), ih]
      generalize m.2[q] = x
      cases hx : (cond (decide (x < (0 : Int))) true (decide ((b.2.length : Int) ≤ x))) with
      | true => rfl
      | false =>
        rw [inB_of hx]
        simp only [cond_true, cond_false]
        cases decide ((rdE a.2 q).1 = (rdE b.2 x).1) <;> cases decide (rdI m.1 (rdE a.2 q).2.1 = (rdE b.2 x).2.1) <;> cases decide (rdI m.1 (rdE a.2 q).2.2 = (rdE b.2 x).2.2) <;> rfl) 0 (Nat.zero_le _) k (by omega)
  exact loop_down (n := m.1.length) (F := fun j i => l_r06_Valid_0 (run M k) (l_r06_Valid_2 (run M k) k) j i a.1 a.2 b.1 b.2 m.1 m.2) (G := fun q => some ⟨tI, cond (decide (firstE (nodeErr a.1 b.1) q (m.1.drop q) = 0)) (edgesE a b m) (firstE (nodeErr a.1 b.1) q (m.1.drop q))⟩)
    (fun j => by
      show s_r06_Valid_0 (run M k) _ _ _ a.1 a.2 b.1 b.2 m.1 m.2 = _
      rw [List.drop_eq_nil_of_le (Nat.le_refl _)]
      simp only [s_r06_Valid_0, l1', Int.lt_irrefl, decide_false, cond_false, firstE]
      exact hE)
    (fun q j hq ih => by
      show s_r06_Valid_0 (run M k) _ _ _ a.1 a.2 b.1 b.2 m.1 m.2 = _
      rw [List.drop_eq_getElem_cons hq, firstE, nodeErr]
      have hqa : q < a.1.length := by omega
      simp only [s_r06_Valid_0, inB_nat, rd_nat (t := tI) m.1 q hq, hq, hqa, decide_true, Int.ofNat_lt, cond_true, Bool.true_or]
      rw [wrap_succ (by omega), ih]
      generalize m.1[q] = x
      cases hx : (cond (decide (x < (0 : Int))) true (decide ((b.1.length : Int) ≤ x))) with
      | true => rfl
      | false =>
        rw [inB_of hx]
        simp only [cond_true, cond_false]
        cases decide (rdI b.1 x = rdI a.1 q) <;> rfl) 0 (Nat.zero_le _) k (by omega)
def freshFrom (xs : List Int) : Nat → List Int → Bool
  | _, [] => true
  | m, x :: r => cond ((xs.take m).any fun y => decide (x = y)) false (freshFrom xs (m + 1) r)
def distinctB (xs : List Int) : Bool := freshFrom xs 0 xs
theorem freshFrom_iff (xs : List Int) : ∀ (n m : Nat), n + m = xs.length → (xs.take m).Nodup → (freshFrom xs m (xs.drop m) = true ↔ xs.Nodup)
  | 0, m, h, hn => by
    rw [List.drop_eq_nil_of_le (by omega)]
    rw [List.take_of_length_le (by omega)] at hn
    exact ⟨fun _ => hn, fun _ => rfl⟩
  | n + 1, m, h, hn => by
    have hm : m < xs.length := by omega
    rw [List.drop_eq_getElem_cons hm, freshFrom]
    have ht : xs.take (m + 1) = xs.take m ++ [xs[m]] := by rw [List.take_add_one, List.getElem?_eq_getElem hm]; rfl
    cases ha : ((xs.take m).any fun y => decide (xs[m] = y)) with
    | true =>
      simp only [cond_true, Bool.false_eq_true, false_iff]
      intro hx
      obtain ⟨y, hy, he⟩ := List.any_eq_true.1 ha
      have he := of_decide_eq_true he
      subst he
      have := hx.sublist (List.take_sublist (m + 1) xs)
      rw [ht, List.nodup_append] at this
      exact this.2.2 _ hy _ (by simp) rfl
    | false =>
      simp only [cond_false]
      refine freshFrom_iff xs n (m + 1) (by omega) ?_
      rw [ht, List.nodup_append]
      refine ⟨hn, by simp, fun y hy z hz => ?_⟩
      simp only [List.mem_singleton] at hz
      subst hz
      intro e
      have := List.any_eq_false.1 ha y hy
      simp [e] at this
theorem distinctB_iff (xs : List Int) : distinctB xs = true ↔ xs.Nodup := freshFrom_iff xs xs.length 0 rfl (by simp)
theorem r06_Distinct_ev (xs : List Int) (hs : xs.length ≤ reachBytes) : ∀ k, 2 * xs.length + 5 ≤ k → run M k f_r06_Distinct [.val (.slice tI) xs] = some ⟨.bool, distinctB xs⟩ := by
  intro k hk
  obtain ⟨k, rfl⟩ : ∃ i, k = i + 1 := ⟨k - 1, by omega⟩
  rw [e_r06_Distinct, b_r06_Distinct]
  have hr := reach_lt
  exact loop_down' (n := xs.length) xs.length (F := fun j i => l_r06_Distinct_0 (run M k) j xs i) (G := fun m => some ⟨.bool, freshFrom xs m (xs.drop m)⟩)
    (fun j _ => by
      show s_r06_Distinct_0 (run M k) _ _ xs _ = _
      rw [List.drop_eq_nil_of_le (Nat.le_refl _)]
      simp [s_r06_Distinct_0, freshFrom])
    (fun m j hm hj ih => by
      show s_r06_Distinct_0 (run M k) _ _ xs _ = _
      rw [List.drop_eq_getElem_cons hm, freshFrom]
      simp only [s_r06_Distinct_0, hm, decide_true, Int.ofNat_lt, cond_true]
      have hlt : (xs.take m).length = m := by rw [List.length_take]; omega
      have := loop_down (n := m) (F := fun i q => l_r06_Distinct_2 (run M k) (l_r06_Distinct_0 (run M k) j) i xs (m : Int) q)
        (G := fun q => some ⟨.bool, cond (((xs.take m).drop q).any fun y => decide (xs[m] = y)) false (freshFrom xs (m + 1) (xs.drop (m + 1)))⟩)
        (fun i => by
          show s_r06_Distinct_2 (run M k) _ _ xs _ _ = _
          rw [List.drop_eq_nil_of_le (by omega)]
          simp only [s_r06_Distinct_2, Int.lt_irrefl, decide_false, cond_false, List.any_nil]
          rw [wrap_succ (by omega)]
          exact ih)
        (fun q i hq ih2 => by
          show s_r06_Distinct_2 (run M k) _ _ xs _ _ = _
          rw [any_drop _ _ q (by omega)]
          simp only [s_r06_Distinct_2, inB_nat, rd_nat (t := tI) xs m hm, rd_nat (t := tI) xs q (by omega), hq, hm, show q < xs.length by omega, decide_true, Int.ofNat_lt, cond_true, List.getElem_take]
          rw [wrap_succ (by omega), ih2]
          cases decide (xs[m] = xs[q]) <;> rfl) 0 (Nat.zero_le _) j (by omega)
      simpa using this) 0 (Nat.zero_le _) k (by omega)
theorem Clone_int_ev (xs : List Int) (hs : xs.length ≤ 1000000) : ∀ k, 1 ≤ k → run M k f_slices_Clone_int [.val (.slice tI) xs] = some ⟨.slice tI, xs⟩ := by
  intro k hk
  obtain ⟨k, rfl⟩ : ∃ i, k = i + 1 := ⟨k - 1, by omega⟩
  rw [e_slices_Clone_int, b_slices_Clone_int]
  cases xs with
  | nil => rfl
  | cons x r =>
    have h1 : roomy (([] : List (D tI)).length + (x :: r : List Int).length) 8 = true := by
      unfold roomy
      refine decide_eq_true ?_
      simp only [List.length_nil, List.length_cons] at hs ⊢
      omega
    have h2 : decide (0 < (x :: r : List Int).length) = true := by simp
    rw [h2, cond_true, h1, cond_true]
    rfl
theorem Sort_int_ev (xs : List Int) (hs : xs.length ≤ 1000000) : ∀ k, 1 ≤ k → run M k f_slices_Sort_int [.own tI xs] = some ⟨.slice tI, isortI xs⟩ := by
  intro k hk
  obtain ⟨k, rfl⟩ : ∃ i, k = i + 1 := ⟨k - 1, by omega⟩
  show extSort [.own tI xs] = _
  unfold extSort
  have : Nat.blt (List.length xs) 4611686018427387904 = true := by rw [Nat.blt_eq]; omega
  show cond (Nat.blt (List.length xs) 4611686018427387904) _ _ = _
  rw [this]; rfl
theorem Compact_int_ev (xs : List Int) (hs : xs.length ≤ 1000000) : ∀ k, 1 ≤ k → run M k f_slices_Compact_int [.take tI xs] = some ⟨.slice tI, Lib.compact xs⟩ := by
  intro k hk
  obtain ⟨k, rfl⟩ : ∃ i, k = i + 1 := ⟨k - 1, by omega⟩
  show extCompact [.take tI xs] = _
  have : Nat.blt (List.length xs) 9223372036854775808 = true := by rw [Nat.blt_eq]; omega
  show cond (Nat.blt (List.length xs) 9223372036854775808) _ _ = _
  rw [this]; rfl
theorem images_ev (xs : List Int) (hs : xs.length ≤ 1000000) : ∀ k, 2 ≤ k → run M k f_morphism_images [.val (.slice tI) xs] = some ⟨tI, ((Lib.compact (isortI xs)).length : Int)⟩ := by
  intro k hk
  obtain ⟨k, rfl⟩ : ∃ i, k = i + 1 := ⟨k - 1, by omega⟩
  have hl := (isortI_perm xs).length_eq
  rw [e_morphism_images, b_morphism_images, Clone_int_ev xs hs k (by omega), res_some, bindS, Sort_int_ev xs hs k (by omega), res_some, bindS, decide_eq_true hl, cond_true,
    Compact_int_ev _ (by omega) k (by omega), res_some, bindS]
theorem compact_all_iff (l : List Int) : (Lib.compact l).length = l.length ↔ ∀ j (h : j < l.length), j = 0 ∨ l[j] ≠ l[j - 1] := by
  unfold Lib.compact Lib.compactUpTo
  rw [List.length_map]
  have key : ∀ j (h : j < l.length), (Lib.keeps l.toArray j = true ↔ j = 0 ∨ l[j] ≠ l[j - 1]) := by
    intro j h
    unfold Lib.keeps
    rw [decide_eq_true_iff]
    have h1 : l.toArray[j]! = l[j] := by simp [h]
    have h2 : l.toArray[j - 1]! = l[j - 1] := by
      have : j - 1 < l.length := by omega
      simp [this]
    rw [h1, h2]
  have hc : ((List.range l.length).filter (Lib.keeps l.toArray)).length = (List.range l.length).length ↔ ∀ j ∈ List.range l.length, Lib.keeps l.toArray j = true := List.length_filter_eq_length_iff
  rw [List.length_range] at hc
  rw [hc]
  exact ⟨fun h j hj => (key j hj).1 (h j (List.mem_range.2 hj)), fun h j hj => (key j (List.mem_range.1 hj)).2 (h j (List.mem_range.1 hj))⟩
theorem images_iff (xs : List Int) : decide (((Lib.compact (isortI xs)).length : Int) = (xs.length : Int)) = distinctB xs := by
  have hp := isortI_perm xs
  have hs := isortI_sorted xs
  have key : (Lib.compact (isortI xs)).length = (isortI xs).length ↔ (isortI xs).Nodup := by
    rw [compact_all_iff]
    constructor
    · intro h
      rw [List.pairwise_iff_getElem] at hs
      unfold List.Nodup
      rw [List.pairwise_iff_getElem]
      intro i j hi hj hij
      have h1 := (h j hj).resolve_left (by omega)
      have h2 : (isortI xs)[j - 1] ≤ (isortI xs)[j] := hs (j - 1) j (by omega) hj (by omega)
      have h3 : (isortI xs)[i] ≤ (isortI xs)[j - 1] := by
        rcases Nat.lt_or_ge i (j - 1) with h | h
        · exact hs i (j - 1) hi (by omega) h
        · have : i = j - 1 := by omega
          subst this; exact Int.le_refl _
      omega
    · intro h j hj
      unfold List.Nodup at h
      rw [List.pairwise_iff_getElem] at h
      rcases Nat.eq_zero_or_pos j with h0 | h0
      · exact .inl h0
      · exact .inr fun e => h (j - 1) j (by omega) hj (by omega) e.symm
  have hn : (isortI xs).Nodup ↔ xs.Nodup := hp.nodup_iff
  rw [hp.length_eq] at key
  cases hd : distinctB xs with
  | true =>
    have := key.2 (hn.2 ((distinctB_iff xs).1 hd))
    exact decide_eq_true (by omega)
  | false =>
    refine decide_eq_false fun e => ?_
    have := (distinctB_iff xs).2 (hn.1 (key.1 (by omega)))
    rw [this] at hd; cases hd
noncomputable def injB (a b : GraphD) (m : MorD) : Bool := cond (cond (decide (morE a b m = 0)) (distinctB m.1) false) (distinctB m.2) false
theorem morE_zero {a b : GraphD} {m : MorD} (h : morE a b m = 0) : graphE a = 0 ∧ graphE b = 0 ∧ m.1.length = a.1.length ∧ m.2.length = a.2.length := by
  unfold morE at h
  by_cases h1 : graphE a = 0
  case neg => rw [decide_eq_false h1] at h; exact absurd h h1
  by_cases h2 : graphE b = 0
  case neg => rw [decide_eq_false h2, decide_eq_true h1] at h; exact absurd h h2
  rw [decide_eq_true h1, decide_eq_true h2] at h
  simp only [Bool.not_true, cond_false] at h
  by_cases l1 : (m.1.length : Int) = (a.1.length : Int)
  case neg => rw [decide_eq_false l1] at h; cases h
  by_cases l2 : (m.2.length : Int) = (a.2.length : Int)
  case neg => rw [decide_eq_false l2, decide_eq_true l1] at h; cases h
  exact ⟨h1, h2, by omega, by omega⟩
theorem morphism_Injective_ev (a b : GraphD) (m : MorD) : ∀ k, 400 ≤ k → run M k f_morphism_Injective [.val tGraph a, .val tGraph b, .val tMorphism m] = some ⟨.bool, injB a b m⟩ := by
  intro k hk
  obtain ⟨k, rfl⟩ : ∃ i, k = i + 1 := ⟨k - 1, by omega⟩
  rw [e_morphism_Injective, b_morphism_Injective]
  show Option.bind (res tI (run M k f_morphism_Valid [.val tGraph a, .val tGraph b, .val tMorphism m])) _ = _
  rw [morphism_Valid_ev a b m k (by omega), res_some, bindS]
  unfold injB
  by_cases h : morE a b m = 0
  case neg => rw [decide_eq_false h]; rfl
  obtain ⟨h1, h2, l1, l2⟩ := morE_zero h
  obtain ⟨g1, g2, _, _⟩ := graphE_zero h1
  rw [decide_eq_true h]
  simp only [cond_true]
  rw [images_ev m.1 (by omega) k (by omega), res_some, bindS, images_iff]
  cases distinctB m.1 with
  | false => rfl
  | true =>
    simp only [cond_true]
    rw [images_ev m.2 (by omega) k (by omega), res_some, bindS, images_iff]
theorem r06_Injective_ev (a b : GraphD) (m : MorD) : ∀ k, 400 ≤ k → run M k f_r06_Injective [.val tGraph a, .val tGraph b, .val tMorphism m] = some ⟨.bool, injB a b m⟩ := by
  intro k hk
  obtain ⟨k, rfl⟩ : ∃ i, k = i + 1 := ⟨k - 1, by omega⟩
  have hr : 1000 ≤ reachBytes := by decide
  rw [e_r06_Injective, b_r06_Injective]
  show Option.bind (res tI (run M k f_r06_Valid [.val tGraph a, .val tGraph b, .val tMorphism m])) _ = _
  rw [r06_Valid_ev a b m k (by omega), res_some, bindS]
  unfold injB
  by_cases h : morE a b m = 0
  case neg => rw [decide_eq_false h]; rfl
  obtain ⟨h1, h2, l1, l2⟩ := morE_zero h
  obtain ⟨g1, g2, _, _⟩ := graphE_zero h1
  rw [decide_eq_true h]
  simp only [cond_true]
  rw [r06_Distinct_ev m.1 (by omega) k (by omega), res_some, bindS]
  cases distinctB m.1 with
  | false => rfl
  | true =>
    simp only [cond_true]
    rw [r06_Distinct_ev m.2 (by omega) k (by omega), res_some, bindS]
end Go.Proofs.AM

namespace Go.Proofs.AM
open Go
theorem inS_nat (m n : Nat) : inS (0 : Int) (m : Int) (n : Int) = decide (m ≤ n) := by simp [inS]
end Go.Proofs.AM

namespace Go.Proofs.AM
open Go
abbrev AttrD := ByteArray × (Int × (Int × List ByteArray))
abbrev NodeD := ByteArray × (Int × (Bool × List AttrD))
abbrev ETypeD := ByteArray × (Int × (Int × (Int × (Int × (Int × Int)))))
abbrev TypesD := List NodeD × List ETypeD
theorem sub_take {α : Type} (xs : List α) (m : Nat) : sub xs (0 : Int) (m : Int) = xs.take m := by simp [sub]
theorem sub_take' {α : Type} (xs : List α) (m : Nat) : (List.drop (Int.toNat (0 : Int)) xs).take (Int.toNat ((m : Int) - (0 : Int))) = xs.take m := by simp
theorem beqS_comm (a b : ByteArray) : beqS a b = beqS b a := by
  rw [beqS_iff, beqS_iff]
  by_cases h : by_ a = by_ b
  · rw [decide_eq_true h, decide_eq_true h.symm]
  · rw [decide_eq_false h, decide_eq_false fun e => h e.symm]
def nameErr (l : List ByteArray) (i : Nat) (s : ByteArray) : Int := cond (!isName (by_ s)) 2 (cond ((l.take i).any fun y => beqS y s) 5 0)
def namesE (l : List ByteArray) : Int := cond (decide ((20 : Int) < (l.length : Int))) 3 (firstE (nameErr l) 0 l)
theorem types_names_ev (l : List ByteArray) (hs : ∀ s ∈ l, s.size ≤ 40) : ∀ k, 200 ≤ k → run M k f_types_names [.val (.slice .str) l] = some ⟨tI, namesE l⟩ := by
  intro k hk
  obtain ⟨k, rfl⟩ : ∃ i, k = i + 1 := ⟨k - 1, by omega⟩
  have hr : 1000 ≤ reachBytes := by decide
  rw [e_types_names, b_types_names]
  unfold namesE
  cases h : decide ((20 : Int) < (l.length : Int)) with
  | true => rfl
  | false =>
    have h := of_decide_eq_false h
    simp only [cond_false]
    exact loop_down (n := l.length) (F := fun j i => l_types_names_0 (run M k) j l l l.length i) (G := fun q => some ⟨tI, firstE (nameErr l) q (l.drop q)⟩)
      (fun j => by
        show s_types_names_0 (run M k) _ l l _ _ = _
        rw [List.drop_eq_nil_of_le (Nat.le_refl _)]
        simp [s_types_names_0, firstE])
      (fun q j hq ih => by
        show s_types_names_0 (run M k) _ l l _ _ = _
        have hz := hs _ (List.getElem_mem hq)
        rw [List.drop_eq_getElem_cons hq, firstE, nameErr]
        simp only [s_types_names_0, inB_nat, rd_nat (t := .str) l q hq, hq, decide_true, Int.ofNat_lt, cond_true, inS_nat, show q ≤ l.length by omega, sub_take]
        rw [token_IsName_ev (by omega) k (by omega), res_some, bindS, Contains_string_ev l[q] (by simp; omega) k (by simp; omega), res_some, bindS, wrap_succ (by omega), ih]
        have : ((l.take q).any fun y => beqS l[q] y) = ((l.take q).any fun y => beqS y l[q]) := by
          congr 1; funext y; exact beqS_comm _ _
        rw [this]
        cases isName (by_ l[q]) with
        | false => rfl
        | true => cases ((l.take q).any fun y => beqS y l[q]) <;> rfl) 0 (Nat.zero_le _) k (by omega)
theorem r04_names_ev (l : List ByteArray) (hs : ∀ s ∈ l, s.size ≤ 40) : ∀ k, 200 ≤ k → run M k f_r04_names [.val (.slice .str) l] = some ⟨tI, namesE l⟩ := by
  intro k hk
  obtain ⟨k, rfl⟩ : ∃ i, k = i + 1 := ⟨k - 1, by omega⟩
  have hr : 1000 ≤ reachBytes := by decide
  rw [e_r04_names, b_r04_names]
  unfold namesE
  cases h : decide ((20 : Int) < (l.length : Int)) with
  | true => rfl
  | false =>
    have h := of_decide_eq_false h
    simp only [cond_false]
    exact loop_down' (n := l.length) l.length (F := fun j i => l_r04_names_0 (run M k) j l i) (G := fun q => some ⟨tI, firstE (nameErr l) q (l.drop q)⟩)
      (fun j _ => by
        show s_r04_names_0 (run M k) _ _ l _ = _
        rw [List.drop_eq_nil_of_le (Nat.le_refl _)]
        simp [s_r04_names_0, firstE])
      (fun q j hq hj ih => by
        show s_r04_names_0 (run M k) _ _ l _ = _
        have hz := hs _ (List.getElem_mem hq)
        rw [List.drop_eq_getElem_cons hq, firstE, nameErr]
        simp only [s_r04_names_0, inB_nat, rd_nat (t := .str) l q hq, hq, decide_true, Int.ofNat_lt, cond_true]
        rw [r01_IsName_ev (by omega) k (by omega), res_some, bindS]
        cases isName (by_ l[q]) with
        | false => rfl
        | true =>
          have hlt : (l.take q).length = q := by rw [List.length_take]; omega
          have := loop_down (n := q) (F := fun i p => l_r04_names_2 (run M k) (l_r04_names_0 (run M k) j) i l (q : Int) p)
            (G := fun p => some ⟨tI, cond (((l.take q).drop p).any fun y => beqS y l[q]) (5 : Int) (firstE (nameErr l) (q + 1) (l.drop (q + 1)))⟩)
            (fun i => by
              show s_r04_names_2 (run M k) _ _ l _ _ = _
              rw [List.drop_eq_nil_of_le (by omega)]
              simp only [s_r04_names_2, Int.lt_irrefl, decide_false, cond_false, List.any_nil]
              rw [wrap_succ (by omega)]
              exact ih)
            (fun p i hp ih2 => by
              show s_r04_names_2 (run M k) _ _ l _ _ = _
              rw [any_drop _ _ p (by omega)]
              simp only [s_r04_names_2, inB_nat, rd_nat (t := .str) l q hq, rd_nat (t := .str) l p (by omega), hp, hq, show p < l.length by omega, decide_true, Int.ofNat_lt, cond_true, List.getElem_take]
              rw [wrap_succ (by omega), ih2]
              cases beqS l[p] l[q] <;> rfl) 0 (Nat.zero_le _) j (by omega)
          simp only [Bool.not_true, cond_false]
          refine Eq.trans this ?_
          rw [List.drop_zero]
          cases ((l.take q).any fun y => beqS y l[q]) <;> rfl) 0 (Nat.zero_le _) k (by omega)
def attrE (x : AttrD) : Int :=
  cond (!(decide (namesE x.2.2.2 = 0))) (namesE x.2.2.2) (cond (decide ((0 : Int) < (x.2.2.2.length : Int))) (cond (!(cond (decide (x.2.1 = (0 : Int))) (decide (x.2.2.1 = (x.2.2.2.length : Int) - 1)) false)) 6 0)
    (cond (!(cond (cond (decide ((-1000000 : Int) ≤ x.2.1)) (decide (x.2.1 ≤ x.2.2.1)) false) (decide (x.2.2.1 ≤ (1000000 : Int))) false)) 6 0))
def attrAt (l : List AttrD) (i : Nat) (x : AttrD) : Int := cond (!isName (by_ x.1)) 2 (cond ((l.take i).any fun y => beqS y.1 x.1) 5 (attrE x))
def SmallA (x : AttrD) : Prop := x.1.size ≤ 40 ∧ x.2.2.2.length ≤ 25 ∧ ∀ s ∈ x.2.2.2, ByteArray.size s ≤ 40
theorem types_attribute_ev (l : List AttrD) (i : Nat) (x : AttrD) (hx : SmallA x) (hl : l.length ≤ 1000) : ∀ k, 1500 ≤ k → run M k f_types_attribute [.val tAttr x, .val (.slice tAttr) (l.take i)] = some ⟨tI, attrAt l i x⟩ := by
  intro k hk
  obtain ⟨k, rfl⟩ : ∃ i, k = i + 1 := ⟨k - 1, by omega⟩
  have hr : 1000 ≤ reachBytes := by decide
  obtain ⟨h1, h2, h3⟩ := hx
  have hlt : (l.take i).length ≤ l.length := by rw [List.length_take]; omega
  rw [e_types_attribute, b_types_attribute, token_IsName_ev (by omega) k (by omega), res_some, bindS]
  unfold attrAt
  cases isName (by_ x.1) with
  | false => rfl
  | true =>
    simp only [Bool.not_true, cond_false]
    rw [ContainsFunc_Attr_ev (p := fun y => beqS y.1 x.1) (c := 1) (fun y _ k hk => by
      obtain ⟨k, rfl⟩ : ∃ i, k = i + 1 := ⟨k - 1, by omega⟩
      exact e_types_attribute_1 k y x) (by omega) k (by omega), res_some, bindS]
    cases ((l.take i).any fun y => beqS y.1 x.1) with
    | true => rfl
    | false =>
      simp only [cond_false]
      rw [types_names_ev x.2.2.2 h3 k (by omega), res_some, bindS, wrap_id (x := (x.2.2.2.length : Int) - 1) (by omega) (by omega)]
      unfold attrE
      by_cases hn : namesE x.2.2.2 = 0
      case neg => rw [decide_eq_false hn]; rfl
      rw [decide_eq_true hn]
      simp only [Bool.not_true, cond_false]
      cases decide ((0 : Int) < (x.2.2.2.length : Int)) with
      | true =>
        simp only [cond_true]
        cases (cond (decide (x.2.1 = (0 : Int))) (decide (x.2.2.1 = (x.2.2.2.length : Int) - 1)) false) <;> rfl
      | false =>
        simp only [cond_false]
        cases (cond (cond (decide ((-1000000 : Int) ≤ x.2.1)) (decide (x.2.1 ≤ x.2.2.1)) false) (decide (x.2.2.1 ≤ (1000000 : Int))) false) <;> rfl
theorem r04_in_ev (x lo hi : Int) : ∀ k, 1 ≤ k → run M k f_r04_in [.val tI x, .val tI lo, .val tI hi] = some ⟨.bool, cond (decide (lo ≤ x)) (decide (x ≤ hi)) false⟩ := by
  intro k hk
  obtain ⟨k, rfl⟩ : ∃ i, k = i + 1 := ⟨k - 1, by omega⟩
  exact e_r04_in k x lo hi
theorem r04_attribute_ev (x : AttrD) (hx : SmallA x) : ∀ k, 300 ≤ k → run M k f_r04_attribute [.val tAttr x] = some ⟨tI, attrE x⟩ := by
  intro k hk
  obtain ⟨k, rfl⟩ : ∃ i, k = i + 1 := ⟨k - 1, by omega⟩
  obtain ⟨h1, h2, h3⟩ := hx
  rw [e_r04_attribute, b_r04_attribute]
  unfold attrE
  by_cases h0 : (x.2.2.2.length : Int) = (0 : Int)
  · have hnil : x.2.2.2 = [] := List.eq_nil_of_length_eq_zero (by omega)
    rw [decide_eq_true h0, hnil, show namesE [] = 0 from rfl]
    simp only [cond_true]
    rw [r04_in_ev _ _ _ k (by omega), r04_in_ev _ _ _ k (by omega), res_some, bindS, res_some]
    by_cases ha : (-1000000 : Int) ≤ x.2.1
    · rw [decide_eq_true ha]
      by_cases hb : x.2.1 ≤ (1000000 : Int)
      · rw [decide_eq_true hb]
        cases decide (x.2.1 ≤ x.2.2.1) <;> cases decide (x.2.2.1 ≤ (1000000 : Int)) <;> rfl
      · rw [decide_eq_false hb]
        by_cases hc : x.2.1 ≤ x.2.2.1
        · rw [decide_eq_true hc, decide_eq_false (show ¬ x.2.2.1 ≤ (1000000 : Int) by omega)]; rfl
        · rw [decide_eq_false hc]; rfl
    · rw [decide_eq_false ha]; rfl
  · rw [decide_eq_false h0, decide_eq_true (show (0 : Int) < (x.2.2.2.length : Int) by omega)]
    simp only [cond_false, cond_true]
    rw [r04_names_ev x.2.2.2 h3 k (by omega), res_some, bindS, wrap_id (x := (x.2.2.2.length : Int) - 1) (by omega) (by omega)]
    by_cases hn : namesE x.2.2.2 = 0
    case neg => rw [decide_eq_false hn]; rfl
    rw [decide_eq_true hn]
    cases decide (x.2.1 = (0 : Int)) <;> cases decide (x.2.2.1 = (x.2.2.2.length : Int) - 1) <;> rfl
end Go.Proofs.AM

namespace Go.Proofs.AM
open Go
noncomputable abbrev rdN (xs : List NodeD) (i : Int) : NodeD := rd (E := E) (t := tNodeType) xs i
noncomputable def attrsF (ns : List NodeD) : Nat → Int → List AttrD
  | 0, _ => []
  | f + 1, a => cond (decide (a < 0)) [] (attrsF ns f (rdN ns a).2.1 ++ (rdN ns a).2.2.2)
def Par (ns : List NodeD) (a : Int) : Prop := ∀ i : Nat, (i : Int) ≤ a → (rdN ns i).2.1 < (i : Int)
theorem attrsF_neg (ns : List NodeD) (f : Nat) {a : Int} (h : a < 0) : attrsF ns f a = [] := by
  cases f with
  | zero => rfl
  | succ f => rw [attrsF, decide_eq_true h]; rfl
theorem attrsF_stable (ns : List NodeD) : ∀ (f g : Nat) (a : Int), a < f → a < g → Par ns a → attrsF ns f a = attrsF ns g a
  | 0, g, a, h1, _, _ => by rw [attrsF_neg ns g (by omega), attrsF_neg ns 0 (by omega)]
  | f + 1, 0, a, _, h2, _ => by rw [attrsF_neg ns 0 (by omega), attrsF_neg ns (f + 1) (by omega)]
  | f + 1, g + 1, a, h1, h2, hp => by
    rw [attrsF, attrsF]
    by_cases h : a < 0
    · rw [decide_eq_true h]; rfl
    · rw [decide_eq_false h]
      have hpar := hp a.toNat (by omega)
      rw [show ((a.toNat : Nat) : Int) = a by omega] at hpar
      rw [attrsF_stable ns f g _ (by omega) (by omega) fun i hi => hp i (by omega)]
def SmallN (ns : List NodeD) : Prop := ns.length ≤ 20 ∧ ∀ n ∈ ns, n.1.size ≤ 40 ∧ n.2.2.2.length ≤ 30 ∧ ∀ a ∈ n.2.2.2, SmallA a
theorem rdN_small {ns : List NodeD} (hs : SmallN ns) (a : Int) : (rdN ns a).1.size ≤ 40 ∧ (rdN ns a).2.2.2.length ≤ 30 ∧ ∀ x ∈ (rdN ns a).2.2.2, SmallA x := by
  unfold rdN rd
  rw [List.getD_eq_getElem?_getD]
  cases h : ns[a.toNat]? with
  | none => exact ⟨by decide, by decide, fun x hx => by cases hx⟩
  | some n => exact hs.2 n (List.mem_of_getElem? h)
theorem attrsF_length {ns : List NodeD} (hs : SmallN ns) : ∀ (f : Nat) (a : Int), (attrsF ns f a).length ≤ 30 * f
  | 0, _ => Nat.zero_le _
  | f + 1, a => by
    rw [attrsF]
    have := attrsF_length hs f (rdN ns a).2.1
    have := (rdN_small hs a).2.1
    cases decide (a < 0) with
    | true => exact Nat.zero_le _
    | false => simp only [cond_false, List.length_append]; omega
theorem attrsF_small {ns : List NodeD} (hs : SmallN ns) : ∀ (f : Nat) (a : Int), ∀ x ∈ attrsF ns f a, SmallA x
  | 0, _, x, hx => by cases hx
  | f + 1, a, x, hx => by
    rw [attrsF] at hx
    cases h : decide (a < 0) with
    | true => rw [h] at hx; cases hx
    | false =>
      rw [h] at hx
      simp only [cond_false, List.mem_append] at hx
      rcases hx with hx | hx
      · exact attrsF_small hs f _ x hx
      · exact (rdN_small hs a).2.2 x hx
theorem roomy_ok {n : Nat} (h : n ≤ 1000000) : roomy n 56 = true := by
  unfold roomy; exact decide_eq_true (by omega)
theorem types_attrs_ev (t : TypesD) (hs : SmallN t.1) : ∀ (a : Nat), a < t.1.length → Par t.1 a → ∀ k, a + 1 ≤ k → run M k f_types_attrs [.val tTypes t, .val tI (a : Int)] = some ⟨.slice tAttr, attrsF t.1 100 a⟩ := by
  intro a
  induction a using Nat.strongRecOn with
  | ind a ih =>
    intro ha hp k hk
    obtain ⟨k, rfl⟩ : ∃ i, k = i + 1 := ⟨k - 1, by omega⟩
    have hl := hs.1
    have hpar := hp a (Int.le_refl _)
    have hown := (rdN_small hs a).2.1
    rw [e_types_attrs, b_types_attrs, inB_nat, decide_eq_true ha, cond_true]
    have he : attrsF t.1 100 a = attrsF t.1 99 (rdN t.1 a).2.1 ++ (rdN t.1 a).2.2.2 := by
      rw [attrsF, decide_eq_false (by omega)]; rfl
    rw [he]
    by_cases h0 : (0 : Int) ≤ (rdN t.1 a).2.1
    · rw [decide_eq_true h0, cond_true]
      have hq : ((rdN t.1 a).2.1.toNat : Int) = (rdN t.1 a).2.1 := by omega
      have := ih (rdN t.1 a).2.1.toNat (by omega) (by omega) (fun i hi => hp i (by omega)) k (by omega)
      rw [hq] at this
      show Option.bind (res (.slice tAttr) (run M k f_types_attrs [.val tTypes t, .val tI (rdN t.1 a).2.1])) _ = _
      rw [this, res_some, bindS, cond_true, attrsF_stable t.1 99 100 _ (by omega) (by omega) (fun i hi => hp i (by omega))]
      have hlen := attrsF_length hs 100 (rdN t.1 a).2.1
      rw [roomy_ok (show (attrsF t.1 100 (rdN t.1 a).2.1).length + (rdN t.1 a).2.2.2.length ≤ 1000000 by omega), cond_true]
    · rw [decide_eq_false h0, cond_false, cond_true, roomy_ok (show (rdN t.1 a).2.2.2.length ≤ 1000000 by omega), cond_true, attrsF_neg t.1 99 (by omega)]
      rfl
theorem r04_attrs_ev (t : TypesD) (hs : SmallN t.1) : ∀ (a : Nat), a < t.1.length → Par t.1 a → ∀ k, a + 3 ≤ k → run M k f_r04_attrs [.val tTypes t, .val tI (a : Int)] = some ⟨.slice tAttr, attrsF t.1 100 a⟩ := by
  intro a
  induction a using Nat.strongRecOn with
  | ind a ih =>
    intro ha hp k hk
    obtain ⟨k, rfl⟩ : ∃ i, k = i + 1 := ⟨k - 1, by omega⟩
    have hl := hs.1
    have hpar := hp a (Int.le_refl _)
    have hown := (rdN_small hs a).2.1
    rw [e_r04_attrs, b_r04_attrs, inB_nat, decide_eq_true ha, decide_eq_false (show ¬ (a : Int) < 0 by omega), cond_false, cond_true]
    have he : attrsF t.1 100 a = attrsF t.1 100 (rdN t.1 a).2.1 ++ (rdN t.1 a).2.2.2 := by
      rw [attrsF, decide_eq_false (by omega), attrsF_stable t.1 99 100 _ (by omega) (by omega) (fun i hi => hp i (by omega))]; rfl
    rw [he]
    have hsub : run M k f_r04_attrs [.val tTypes t, .val tI (rdN t.1 a).2.1] = some ⟨.slice tAttr, attrsF t.1 100 (rdN t.1 a).2.1⟩ := by
      by_cases h0 : (0 : Int) ≤ (rdN t.1 a).2.1
      · have hq : ((rdN t.1 a).2.1.toNat : Int) = (rdN t.1 a).2.1 := by omega
        have := ih (rdN t.1 a).2.1.toNat (by omega) (by omega) (fun i hi => hp i (by omega)) k (by omega)
        rw [hq] at this
        exact this
      · obtain ⟨k, rfl⟩ : ∃ i, k = i + 1 := ⟨k - 1, by omega⟩
        rw [e_r04_attrs, b_r04_attrs, decide_eq_true (show (rdN t.1 a).2.1 < (0 : Int) by omega), attrsF_neg t.1 100 (by omega)]
        rfl
    show Option.bind (res (.slice tAttr) (run M k f_r04_attrs [.val tTypes t, .val tI (rdN t.1 a).2.1])) _ = _
    rw [hsub, res_some, bindS]
    have hlen := attrsF_length hs 100 (rdN t.1 a).2.1
    rw [roomy_ok (show ([] : List (D tAttr)).length + (attrsF t.1 100 (rdN t.1 a).2.1).length ≤ 1000000 by simp only [List.length_nil]; omega), cond_true, cond_true,
      roomy_ok (show (([] : List (D tAttr)) ++ attrsF t.1 100 (rdN t.1 a).2.1).length + (rdN t.1 a).2.2.2.length ≤ 1000000 by simp only [List.nil_append]; omega), cond_true]
    rfl
noncomputable def nodeE (t : TypesD) (i : Nat) : Int :=
  cond (!isName (by_ (rdN t.1 i).1)) 2 (cond ((t.1.take i).any fun y => beqS y.1 (rdN t.1 i).1) 5
    (cond (cond (decide ((rdN t.1 i).2.1 < (-1 : Int))) true (decide ((i : Int) ≤ (rdN t.1 i).2.1))) 6 (cond (decide ((4 : Int) < ((rdN t.1 i).2.2.2.length : Int))) 3
      (cond (decide ((8 : Int) < ((attrsF t.1 100 i).length : Int))) 3
        (firstE (attrAt (attrsF t.1 100 i)) ((attrsF t.1 100 i).length - (rdN t.1 i).2.2.2.length) ((attrsF t.1 100 i).drop ((attrsF t.1 100 i).length - (rdN t.1 i).2.2.2.length)))))))
theorem nodeE_zero {t : TypesD} {i : Nat} (h : nodeE t i = 0) : (-1 : Int) ≤ (rdN t.1 i).2.1 ∧ (rdN t.1 i).2.1 < (i : Int) := by
  unfold nodeE at h
  cases h1 : isName (by_ (rdN t.1 i).1) with
  | false => rw [h1] at h; cases h
  | true =>
    rw [h1] at h
    cases h2 : ((t.1.take i).any fun y => beqS y.1 (rdN t.1 i).1) with
    | true => rw [h2] at h; cases h
    | false =>
      rw [h2] at h
      cases h3 : decide ((rdN t.1 i).2.1 < (-1 : Int)) with
      | true => rw [h3] at h; cases h
      | false =>
        cases h4 : decide ((i : Int) ≤ (rdN t.1 i).2.1) with
        | true => rw [h3, h4] at h; cases h
        | false =>
          have := of_decide_eq_false h3
          have := of_decide_eq_false h4
          omega
theorem getA_nat {l : List AttrD} {m : Nat} (h : m < l.length) : List.getD l (Int.toNat (m : Int)) (dflt E tAttr) = l[m] := by
  rw [Int.toNat_natCast, List.getD_eq_getElem?_getD, List.getElem?_eq_getElem h]; rfl
theorem own_le {ns : List NodeD} {i : Nat} : (rdN ns i).2.2.2.length ≤ (attrsF ns 100 i).length := by
  rw [attrsF, decide_eq_false (by omega)]
  simp only [cond_false, List.length_append]
  omega
theorem types_node_ev (t : TypesD) (hs : SmallN t.1) (i : Nat) (hi : i < t.1.length) (hp : ∀ q, q < i → nodeE t q = 0) : ∀ k, 2000 ≤ k → run M k f_types_node [.val tTypes t, .val tI (i : Int)] = some ⟨tI, nodeE t i⟩ := by
  intro k hk
  obtain ⟨k, rfl⟩ : ∃ i, k = i + 1 := ⟨k - 1, by omega⟩
  have hr : 1000 ≤ reachBytes := by decide
  have hl := hs.1
  have hsm := rdN_small hs i
  rw [e_types_node, b_types_node, inB_nat, decide_eq_true hi, cond_true]
  show Option.bind (res .bool (run M k f_token_IsName [.val .str (rdN t.1 i).1])) _ = _
  rw [token_IsName_ev (by omega) k (by omega), res_some, bindS]
  unfold nodeE
  cases isName (by_ (rdN t.1 i).1) with
  | false => rfl
  | true =>
    simp only [Bool.not_true, cond_false]
    rw [inS_nat, decide_eq_true (by omega), cond_true, sub_take]
    rw [ContainsFunc_NodeType_ev (p := fun y => beqS y.1 (rdN t.1 i).1) (c := 1) (fun y _ k hk => by
      obtain ⟨k, rfl⟩ : ∃ i, k = i + 1 := ⟨k - 1, by omega⟩
      exact e_types_node_1 k y (rdN t.1 i)) (by rw [List.length_take]; omega) k (by rw [List.length_take]; omega), res_some, bindS]
    cases ((t.1.take i).any fun y => beqS y.1 (rdN t.1 i).1) with
    | true => rfl
    | false =>
      simp only [cond_false]
      cases h3 : (cond (decide ((rdN t.1 i).2.1 < (-1 : Int))) true (decide ((i : Int) ≤ (rdN t.1 i).2.1))) with
      | true => rfl
      | false =>
        simp only [cond_false]
        cases h4 : decide ((4 : Int) < ((rdN t.1 i).2.2.2.length : Int)) with
        | true => rfl
        | false =>
          simp only [cond_false]
          have hpar : Par t.1 i := by
            intro q hq
            rcases Nat.lt_or_ge q i with h | h
            · exact (nodeE_zero (hp q h)).2
            · have : q = i := by omega
              subst this
              cases h5 : decide ((rdN t.1 q).2.1 < (-1 : Int)) with
              | true => rw [h5] at h3; cases h3
              | false => rw [h5] at h3; have := of_decide_eq_false h3; omega
          show Option.bind (res (.slice tAttr) (run M k f_types_attrs [.val tTypes t, .val tI (i : Int)])) _ = _
          rw [types_attrs_ev t hs i hi hpar k (by omega), res_some, bindS]
          cases h8 : decide ((8 : Int) < ((attrsF t.1 100 i).length : Int)) with
          | true => rfl
          | false =>
            have h8 := of_decide_eq_false h8
            simp only [cond_false]
            have hsma := attrsF_small hs 100 i
            have hown := own_le (ns := t.1) (i := i)
            have hlen : ((attrsF t.1 100 i).length : Int) - ((rdN t.1 i).2.2.2.length : Int) = (((attrsF t.1 100 i).length - (rdN t.1 i).2.2.2.length : Nat) : Int) := by omega
            show l_types_node_1 (run M k) k (IntKind.i64.wrap (((attrsF t.1 100 i).length : Int) - ((rdN t.1 i).2.2.2.length : Int))) (attrsF t.1 100 i) = _
            rw [wrap_id (by omega) (by omega), hlen]
            generalize attrsF t.1 100 i = al at *
            exact loop_down (n := al.length) (F := fun j q => l_types_node_1 (run M k) j q al) (G := fun q => some ⟨tI, firstE (attrAt al) q (al.drop q)⟩)
              (fun j => by
                show s_types_node_1 (run M k) _ _ al = _
                rw [List.drop_eq_nil_of_le (Nat.le_refl _)]
                simp [s_types_node_1, firstE])
              (fun q j hq ih => by
                show s_types_node_1 (run M k) _ _ al = _
                rw [List.drop_eq_getElem_cons hq, firstE]
                simp only [s_types_node_1, inB_nat, hq, decide_true, Int.ofNat_lt, cond_true, inS_nat, show q ≤ al.length by omega, sub_take', getA_nat hq]
                show Option.bind (res tI (run M k f_types_attribute [.val tAttr al[q], .val (.slice tAttr) (al.take q)])) _ = _
                rw [types_attribute_ev al q al[q] (hsma _ (List.getElem_mem hq)) (by omega) k (by omega), res_some, bindS, wrap_succ (by omega), ih]
                by_cases h : attrAt al q al[q] = 0
                · rw [decide_eq_true h]; rfl
                · rw [decide_eq_false h]; rfl) _ (Nat.sub_le _ _) k (by omega)
end Go.Proofs.AM

namespace Go.Proofs.AM
open Go
theorem r04_node_ev (t : TypesD) (hs : SmallN t.1) (i : Nat) (hi : i < t.1.length) (hp : ∀ q, q < i → nodeE t q = 0) : ∀ k, 2000 ≤ k → run M k f_r04_node [.val tTypes t, .val tI (i : Int)] = some ⟨tI, nodeE t i⟩ := by
  intro k hk
  obtain ⟨k, rfl⟩ : ∃ i, k = i + 1 := ⟨k - 1, by omega⟩
  have hr : 1000 ≤ reachBytes := by decide
  have hl := hs.1
  have hsm := rdN_small hs i
  rw [e_r04_node, b_r04_node, inB_nat, decide_eq_true hi, cond_true]
  show Option.bind (res .bool (run M k f_r01_IsName [.val .str (rdN t.1 i).1])) _ = _
  rw [r01_IsName_ev (by omega) k (by omega), res_some, bindS]
  unfold nodeE
  cases isName (by_ (rdN t.1 i).1) with
  | false => rfl
  | true =>
    simp only [Bool.not_true, cond_false]
    have hrest : ∀ j, s_r04_node_0 (run M k) (l_r04_node_2 (run M k) k) (l_r04_node_0 (run M k) (l_r04_node_2 (run M k) k) j) (i : Int) (i : Int) t.1 t.2 (rdN t.1 i).1 (rdN t.1 i).2.1 (rdN t.1 i).2.2.1 (rdN t.1 i).2.2.2 =
        some ⟨tI, cond (cond (decide ((rdN t.1 i).2.1 < (-1 : Int))) true (decide ((i : Int) ≤ (rdN t.1 i).2.1))) 6 (cond (decide ((4 : Int) < ((rdN t.1 i).2.2.2.length : Int))) 3
          (cond (decide ((8 : Int) < ((attrsF t.1 100 i).length : Int))) 3
            (firstE (attrAt (attrsF t.1 100 i)) ((attrsF t.1 100 i).length - (rdN t.1 i).2.2.2.length) ((attrsF t.1 100 i).drop ((attrsF t.1 100 i).length - (rdN t.1 i).2.2.2.length)))))⟩ := by
      intro j
      simp only [s_r04_node_0, Int.lt_irrefl, decide_false, cond_false]
      rw [r04_in_ev _ _ _ k (by omega), res_some, bindS, wrap_id (x := (i : Int) - 1) (by omega) (by omega)]
      by_cases h1 : (rdN t.1 i).2.1 < (-1 : Int)
      · rw [decide_eq_true h1, decide_eq_false (show ¬ (-1 : Int) ≤ (rdN t.1 i).2.1 by omega)]; rfl
      · rw [decide_eq_false h1, decide_eq_true (show (-1 : Int) ≤ (rdN t.1 i).2.1 by omega)]
        by_cases h2 : (i : Int) ≤ (rdN t.1 i).2.1
        · rw [decide_eq_true h2, decide_eq_false (show ¬ (rdN t.1 i).2.1 ≤ (i : Int) - 1 by omega)]; rfl
        · rw [decide_eq_false h2, decide_eq_true (show (rdN t.1 i).2.1 ≤ (i : Int) - 1 by omega)]
          simp only [cond_true, cond_false, Bool.not_true]
          have hpar : Par t.1 i := by
            intro q hq
            rcases Nat.lt_or_ge q i with h | h
            · exact (nodeE_zero (hp q h)).2
            · have : q = i := by omega
              subst this; omega
          show Option.bind (res (.slice tAttr) (run M k f_r04_attrs [.val tTypes t, .val tI (i : Int)])) _ = _
          rw [r04_attrs_ev t hs i hi hpar k (by omega), res_some, bindS]
          cases h4 : decide ((4 : Int) < ((rdN t.1 i).2.2.2.length : Int)) with
          | true => rfl
          | false =>
            cases h8 : decide ((8 : Int) < ((attrsF t.1 100 i).length : Int)) with
            | true => rfl
            | false =>
              have h8 := of_decide_eq_false h8
              simp only [cond_false]
              have hsma := attrsF_small hs 100 i
              have hown := own_le (ns := t.1) (i := i)
              have hlen : ((attrsF t.1 100 i).length : Int) - ((rdN t.1 i).2.2.2.length : Int) = (((attrsF t.1 100 i).length - (rdN t.1 i).2.2.2.length : Nat) : Int) := by omega
              show l_r04_node_2 (run M k) k (IntKind.i64.wrap (((attrsF t.1 100 i).length : Int) - ((rdN t.1 i).2.2.2.length : Int))) (attrsF t.1 100 i) = _
              rw [wrap_id (by omega) (by omega), hlen]
              generalize attrsF t.1 100 i = al at *
              exact loop_down' (n := al.length) al.length (F := fun j q => l_r04_node_2 (run M k) j q al) (G := fun q => some ⟨tI, firstE (attrAt al) q (al.drop q)⟩)
                (fun j _ => by
                  show s_r04_node_2 (run M k) _ _ _ al = _
                  rw [List.drop_eq_nil_of_le (Nat.le_refl _)]
                  simp [s_r04_node_2, firstE])
                (fun q j hq hj ih => by
                  show s_r04_node_2 (run M k) _ _ _ al = _
                  have hz := hsma _ (List.getElem_mem hq)
                  have hz1 := hz.1
                  rw [List.drop_eq_getElem_cons hq, firstE]
                  simp only [s_r04_node_2, inB_nat, hq, decide_true, Int.ofNat_lt, cond_true, getA_nat hq]
                  rw [r01_IsName_ev (by omega) k (by omega), res_some, bindS, attrAt]
                  cases isName (by_ al[q].1) with
                  | false => rfl
                  | true =>
                    simp only [Bool.not_true, cond_false]
                    have hlt : (al.take q).length = q := by rw [List.length_take]; omega
                    have := loop_down (n := q) (F := fun i p => l_r04_node_4 (run M k) (l_r04_node_2 (run M k) j) i (q : Int) p al)
                      (G := fun p => some ⟨tI, cond (((al.take q).drop p).any fun y => beqS y.1 al[q].1) (5 : Int) (cond (decide (attrE al[q] = 0)) (firstE (attrAt al) (q + 1) (al.drop (q + 1))) (attrE al[q]))⟩)
                      (fun i => by
                        show s_r04_node_4 (run M k) _ _ _ _ al = _
                        rw [List.drop_eq_nil_of_le (by omega)]
                        simp only [s_r04_node_4, Int.lt_irrefl, decide_false, cond_false, List.any_nil, inB_nat, hq, decide_true, cond_true, getA_nat hq]
                        show Option.bind (res tI (run M k f_r04_attribute [.val tAttr al[q]])) _ = _
                        rw [r04_attribute_ev al[q] hz k (by omega), res_some, bindS, wrap_succ (by omega), ih]
                        by_cases h : attrE al[q] = 0
                        · rw [decide_eq_true h]; rfl
                        · rw [decide_eq_false h]; rfl)
                      (fun p i hp ih2 => by
                        show s_r04_node_4 (run M k) _ _ _ _ al = _
                        rw [any_drop _ _ p (by omega)]
                        simp only [s_r04_node_4, inB_nat, getA_nat hq, getA_nat (show p < al.length by omega), hp, hq, show p < al.length by omega, decide_true, Int.ofNat_lt, cond_true, List.getElem_take]
                        rw [wrap_succ (by omega), ih2]
                        cases beqS al[p].1 al[q].1 <;> rfl) 0 (Nat.zero_le _) j (by omega)
                    refine Eq.trans this ?_
                    rw [List.drop_zero]
                    cases ((al.take q).any fun y => beqS y.1 al[q].1) with
                    | true => rfl
                    | false => rfl) _ (Nat.sub_le _ _) k (by omega)
    have hlt : (t.1.take i).length = i := by rw [List.length_take]; omega
    have := loop_down (n := i) (F := fun j q => l_r04_node_0 (run M k) (l_r04_node_2 (run M k) k) j (i : Int) q t.1 t.2 (rdN t.1 i).1 (rdN t.1 i).2.1 (rdN t.1 i).2.2.1 (rdN t.1 i).2.2.2)
      (G := fun q => some ⟨tI, cond (((t.1.take i).drop q).any fun y => beqS y.1 (rdN t.1 i).1) 5 (cond (cond (decide ((rdN t.1 i).2.1 < (-1 : Int))) true (decide ((i : Int) ≤ (rdN t.1 i).2.1))) 6 (cond (decide ((4 : Int) < ((rdN t.1 i).2.2.2.length : Int))) 3
          (cond (decide ((8 : Int) < ((attrsF t.1 100 i).length : Int))) 3
            (firstE (attrAt (attrsF t.1 100 i)) ((attrsF t.1 100 i).length - (rdN t.1 i).2.2.2.length) ((attrsF t.1 100 i).drop ((attrsF t.1 100 i).length - (rdN t.1 i).2.2.2.length))))))⟩)
      (fun j => by
        rw [List.drop_eq_nil_of_le (by omega), List.any_nil, cond_false]
        exact hrest j)
      (fun q j hq ih => by
        show s_r04_node_0 (run M k) _ _ _ _ t.1 t.2 _ _ _ _ = _
        rw [any_drop _ _ q (by omega)]
        simp only [s_r04_node_0, inB_nat, hq, show q < t.1.length by omega, decide_true, Int.ofNat_lt, cond_true, List.getElem_take, rd_nat (t := tNodeType) t.1 q (by omega)]
        rw [wrap_succ (by omega), ih]
        cases beqS t.1[q].1 (rdN t.1 i).1 <;> rfl) 0 (Nat.zero_le _) k (by omega)
    exact this
noncomputable abbrev rdT (xs : List ETypeD) (i : Int) : ETypeD := rd (E := E) (t := tEdgeType) xs i
def insideB (n : Nat) (x : Int) : Bool := cond (decide ((0 : Int) ≤ x)) (decide (x < (n : Int))) false
def boundB (lo hi : Int) : Bool := cond (cond (decide ((0 : Int) ≤ lo)) (decide (lo ≤ (40 : Int))) false) (cond (decide (hi = (-1 : Int))) true (cond (decide (lo ≤ hi)) (decide (hi ≤ (40 : Int))) false)) false
noncomputable def etypeE (t : TypesD) (i : Nat) : Int :=
  cond (!isName (by_ (rdT t.2 i).1)) 2 (cond ((t.2.take i).any fun y => beqS y.1 (rdT t.2 i).1) 5
    (cond (insideB t.1.length (rdT t.2 i).2.1 && (insideB t.1.length (rdT t.2 i).2.2.1 && (boundB (rdT t.2 i).2.2.2.1 (rdT t.2 i).2.2.2.2.1 && boundB (rdT t.2 i).2.2.2.2.2.1 (rdT t.2 i).2.2.2.2.2.2))) 0 6))
def SmallT (t : TypesD) : Prop := SmallN t.1 ∧ t.2.length ≤ 30 ∧ ∀ e ∈ t.2, ByteArray.size e.1 ≤ 40
theorem types_edge_ev (t : TypesD) (hs : SmallT t) (i : Nat) (hi : i < t.2.length) : ∀ k, 500 ≤ k → run M k f_types_edge [.val tTypes t, .val tI (i : Int)] = some ⟨tI, etypeE t i⟩ := by
  intro k hk
  obtain ⟨k, rfl⟩ : ∃ i, k = i + 1 := ⟨k - 1, by omega⟩
  have hr : 1000 ≤ reachBytes := by decide
  have hl := hs.2.1
  have hz : (rdT t.2 i).1.size ≤ 40 := by
    unfold rdT; rw [rd_nat (t := tEdgeType) t.2 i hi]; exact hs.2.2 _ (List.getElem_mem hi)
  rw [e_types_edge, b_types_edge, inB_nat, decide_eq_true hi, cond_true]
  show Option.bind (res .bool (run M k f_token_IsName [.val .str (rdT t.2 i).1])) _ = _
  rw [token_IsName_ev (by omega) k (by omega), res_some, bindS]
  unfold etypeE
  cases isName (by_ (rdT t.2 i).1) with
  | false => rfl
  | true =>
    simp only [Bool.not_true, cond_false]
    rw [inS_nat, decide_eq_true (by omega), cond_true, sub_take]
    rw [ContainsFunc_EdgeType_ev (p := fun y => beqS y.1 (rdT t.2 i).1) (c := 1) (fun y _ k hk => by
      obtain ⟨k, rfl⟩ : ∃ i, k = i + 1 := ⟨k - 1, by omega⟩
      exact e_types_edge_2 k y (rdT t.2 i)) (by rw [List.length_take]; omega) k (by rw [List.length_take]; omega), res_some, bindS]
    cases ((t.2.take i).any fun y => beqS y.1 (rdT t.2 i).1) with
    | true => rfl
    | false =>
      simp only [cond_false]
      have h1 : ∀ x : Int, run M k f_types_edge_1 [.val tI x, .ro tTypes t] = some ⟨.bool, insideB t.1.length x⟩ := by
        intro x
        obtain ⟨k, rfl⟩ : ∃ i, k = i + 1 := ⟨k - 1, by omega⟩
        exact e_types_edge_1 k x t
      have h2 : ∀ x y : Int, run M k f_types_bounded [.val tI x, .val tI y] = some ⟨.bool, boundB x y⟩ := by
        intro x y
        obtain ⟨k, rfl⟩ : ∃ i, k = i + 1 := ⟨k - 1, by omega⟩
        exact e_types_bounded k x y
      show Option.bind (res .bool (run M k f_types_edge_1 [.val tI (rdT t.2 i).2.1, .ro tTypes t])) (fun r3 => Option.bind (cond (!(!r3)) (res .bool (run M k f_types_edge_1 [.val tI (rdT t.2 i).2.2.1, .ro tTypes t])) (some (dflt E .bool))) _) = _
      rw [h1, h1, res_some, bindS, res_some, h2, h2, res_some, res_some]
      cases insideB t.1.length (rdT t.2 i).2.1 <;> cases insideB t.1.length (rdT t.2 i).2.2.1 <;> cases boundB (rdT t.2 i).2.2.2.1 (rdT t.2 i).2.2.2.2.1 <;> cases boundB (rdT t.2 i).2.2.2.2.2.1 (rdT t.2 i).2.2.2.2.2.2 <;> rfl
end Go.Proofs.AM

namespace Go.Proofs.AM
open Go
theorem r04_bound_ev (lo hi : Int) : ∀ k, 2 ≤ k → run M k f_r04_bound [.val tI lo, .val tI hi] = some ⟨.bool, boundB lo hi⟩ := by
  intro k hk
  obtain ⟨k, rfl⟩ : ∃ i, k = i + 1 := ⟨k - 1, by omega⟩
  rw [e_r04_bound, b_r04_bound, r04_in_ev _ _ _ k (by omega), r04_in_ev _ _ _ k (by omega), res_some, bindS, res_some]
  unfold boundB
  cases decide ((0 : Int) ≤ lo) <;> cases decide (lo ≤ (40 : Int)) <;> cases decide (hi = (-1 : Int)) <;> cases decide (lo ≤ hi) <;> cases decide (hi ≤ (40 : Int)) <;> rfl
theorem r04_edge_ev (t : TypesD) (hs : SmallT t) (i : Nat) (hi : i < t.2.length) : ∀ k, 500 ≤ k → run M k f_r04_edge [.val tTypes t, .val tI (i : Int)] = some ⟨tI, etypeE t i⟩ := by
  intro k hk
  obtain ⟨k, rfl⟩ : ∃ i, k = i + 1 := ⟨k - 1, by omega⟩
  have hr : 1000 ≤ reachBytes := by decide
  have hl := hs.2.1
  have hn := hs.1.1
  have hz : (rdT t.2 i).1.size ≤ 40 := by
    unfold rdT; rw [rd_nat (t := tEdgeType) t.2 i hi]; exact hs.2.2 _ (List.getElem_mem hi)
  rw [e_r04_edge, b_r04_edge, inB_nat, decide_eq_true hi, cond_true]
  show Option.bind (res .bool (run M k f_r01_IsName [.val .str (rdT t.2 i).1])) _ = _
  rw [r01_IsName_ev (by omega) k (by omega), res_some, bindS]
  unfold etypeE
  cases isName (by_ (rdT t.2 i).1) with
  | false => rfl
  | true =>
    simp only [Bool.not_true, cond_false]
    have hlt : (t.2.take i).length = i := by rw [List.length_take]; omega
    have := loop_down (n := i) (F := fun j q => l_r04_edge_0 (run M k) j (i : Int) q t.1 t.2 (rdT t.2 i).1 (rdT t.2 i).2.1 (rdT t.2 i).2.2.1 (rdT t.2 i).2.2.2.1 (rdT t.2 i).2.2.2.2.1 (rdT t.2 i).2.2.2.2.2.1 (rdT t.2 i).2.2.2.2.2.2)
      (G := fun q => some ⟨tI, cond (((t.2.take i).drop q).any fun y => beqS y.1 (rdT t.2 i).1) (5 : Int)
        (cond (insideB t.1.length (rdT t.2 i).2.1 && (insideB t.1.length (rdT t.2 i).2.2.1 && (boundB (rdT t.2 i).2.2.2.1 (rdT t.2 i).2.2.2.2.1 && boundB (rdT t.2 i).2.2.2.2.2.1 (rdT t.2 i).2.2.2.2.2.2))) 0 6)⟩)
      (fun j => by
        show s_r04_edge_0 (run M k) _ _ _ t.1 t.2 _ _ _ _ _ _ _ = _
        rw [List.drop_eq_nil_of_le (by omega), List.any_nil, cond_false]
        simp only [s_r04_edge_0, Int.lt_irrefl, decide_false, cond_false]
        have hin : ∀ x : Int, run M k f_r04_in [.val tI x, .val tI (0 : Int), .val tI ((t.1.length : Int) - 1)] = some ⟨.bool, insideB t.1.length x⟩ := by
          intro x
          rw [r04_in_ev _ _ _ k (by omega), le_pred]; rfl
        rw [wrap_id (x := (t.1.length : Int) - 1) (by omega) (by omega), hin, hin, r04_bound_ev _ _ k (by omega), r04_bound_ev _ _ k (by omega), res_some, bindS, res_some, res_some, res_some]
        cases insideB t.1.length (rdT t.2 i).2.1 <;> cases insideB t.1.length (rdT t.2 i).2.2.1 <;> cases boundB (rdT t.2 i).2.2.2.1 (rdT t.2 i).2.2.2.2.1 <;> cases boundB (rdT t.2 i).2.2.2.2.2.1 (rdT t.2 i).2.2.2.2.2.2 <;> rfl)
      (fun q j hq ih => by
        show s_r04_edge_0 (run M k) _ _ _ t.1 t.2 _ _ _ _ _ _ _ = _
        rw [any_drop _ _ q (by omega)]
        simp only [s_r04_edge_0, inB_nat, hq, show q < t.2.length by omega, decide_true, Int.ofNat_lt, cond_true, List.getElem_take, rd_nat (t := tEdgeType) t.2 q (by omega)]
        rw [wrap_succ (by omega), ih]
        cases beqS t.2[q].1 (rdT t.2 i).1 <;> rfl) 0 (Nat.zero_le _) k (by omega)
    exact this
def firstP {α : Type} (f : Nat → Int) (nm : α → ByteArray) (z : ByteArray × Int) : Nat → List α → ByteArray × Int
  | _, [] => z
  | m, x :: r => cond (!(decide (f m = 0))) (nm x, f m) (firstP f nm z (m + 1) r)
noncomputable def typesP (t : TypesD) : ByteArray × Int :=
  cond (decide ((t.1.length : Int) = (0 : Int))) ((⟨#[]⟩ : ByteArray), 7) (cond (cond (decide ((12 : Int) < (t.1.length : Int))) true (decide ((20 : Int) < (t.2.length : Int)))) ((⟨#[]⟩ : ByteArray), 3)
    (firstP (nodeE t) (fun n : NodeD => n.1) (firstP (etypeE t) (fun e : ETypeD => e.1) ((⟨#[]⟩ : ByteArray), 0) 0 t.2) 0 t.1))
theorem types_Valid_ev (t : TypesD) (hs : SmallT t) : ∀ k, 2100 ≤ k → run M k f_types_Valid [.val tTypes t] = some ⟨.pair .str tI, typesP t⟩ := by
  intro k hk
  obtain ⟨k, rfl⟩ : ∃ i, k = i + 1 := ⟨k - 1, by omega⟩
  have hr : 1000 ≤ reachBytes := by decide
  rw [e_types_Valid, b_types_Valid]
  unfold typesP
  cases decide ((t.1.length : Int) = (0 : Int)) with
  | true => rfl
  | false =>
    cases h1 : decide ((12 : Int) < (t.1.length : Int)) with
    | true => rfl
    | false =>
      cases h2 : decide ((20 : Int) < (t.2.length : Int)) with
      | true => rfl
      | false =>
        have h1 := of_decide_eq_false h1
        have h2 := of_decide_eq_false h2
        simp only [cond_false]
        have hE := loop_down (n := t.2.length) (F := fun j i => l_types_Valid_3 (run M k) j t.2 t.2.length i t.1 t.2) (G := fun q => some ⟨.pair .str tI, firstP (etypeE t) (fun e : ETypeD => e.1) ((⟨#[]⟩ : ByteArray), 0) q (t.2.drop q)⟩)
          (fun j => by
            show s_types_Valid_3 (run M k) _ t.2 _ _ t.1 t.2 = _
            rw [List.drop_eq_nil_of_le (Nat.le_refl _)]
            simp [s_types_Valid_3, firstP])
          (fun q j hq ih => by
            show s_types_Valid_3 (run M k) _ t.2 _ _ t.1 t.2 = _
            rw [List.drop_eq_getElem_cons hq, firstP]
            simp only [s_types_Valid_3, inB_nat, hq, decide_true, Int.ofNat_lt, cond_true, rd_nat (t := tEdgeType) t.2 q hq]
            show Option.bind (res tI (run M k f_types_edge [.val tTypes t, .val tI (q : Int)])) _ = _
            rw [types_edge_ev t hs q hq k (by omega), res_some, bindS, wrap_succ (by omega), ih]
            cases (!(decide (etypeE t q = (0 : Int)))) <;> rfl) 0 (Nat.zero_le _) k (by omega)
        have := down_any (n := t.1.length) (Q := fun j q => (∀ i, i < q → nodeE t i = 0) → l_types_Valid_1 (run M k) (l_types_Valid_3 (run M k) k) j t.1 t.1.length (q : Int) t.1 t.2 =
            some ⟨.pair .str tI, firstP (nodeE t) (fun n : NodeD => n.1) (firstP (etypeE t) (fun e : ETypeD => e.1) ((⟨#[]⟩ : ByteArray), 0) 0 t.2) q (t.1.drop q)⟩)
          (fun j _ => by
            show s_types_Valid_1 (run M k) _ _ t.1 _ _ t.1 t.2 = _
            rw [List.drop_eq_nil_of_le (Nat.le_refl _)]
            simp only [s_types_Valid_1, Int.lt_irrefl, decide_false, cond_false, firstP]
            exact hE)
          (fun q j hq ih hv => by
            show s_types_Valid_1 (run M k) _ _ t.1 _ _ t.1 t.2 = _
            rw [List.drop_eq_getElem_cons hq, firstP]
            simp only [s_types_Valid_1, inB_nat, hq, decide_true, Int.ofNat_lt, cond_true, rd_nat (t := tNodeType) t.1 q hq]
            show Option.bind (res tI (run M k f_types_node [.val tTypes t, .val tI (q : Int)])) _ = _
            rw [types_node_ev t hs.1 q hq hv k (by omega), res_some, bindS, wrap_succ (by omega)]
            by_cases h : nodeE t q = 0
            · rw [decide_eq_true h]
              simp only [Bool.not_true, cond_false]
              exact ih fun i hi => by
                rcases Nat.lt_or_ge i q with h' | h'
                · exact hv i h'
                · have : i = q := by omega
                  subst this; exact h
            · rw [decide_eq_false h]; rfl) 0 (Nat.zero_le _) k (by omega)
        exact this (fun i hi => absurd hi (Nat.not_lt_zero _))
theorem r04_Valid_ev (t : TypesD) (hs : SmallT t) : ∀ k, 2100 ≤ k → run M k f_r04_Valid [.val tTypes t] = some ⟨.pair .str tI, typesP t⟩ := by
  intro k hk
  obtain ⟨k, rfl⟩ : ∃ i, k = i + 1 := ⟨k - 1, by omega⟩
  have hr : 1000 ≤ reachBytes := by decide
  rw [e_r04_Valid, b_r04_Valid]
  unfold typesP
  cases decide ((t.1.length : Int) = (0 : Int)) with
  | true => rfl
  | false =>
    cases h1 : decide ((12 : Int) < (t.1.length : Int)) with
    | true => rfl
    | false =>
      cases h2 : decide ((20 : Int) < (t.2.length : Int)) with
      | true => rfl
      | false =>
        have h1 := of_decide_eq_false h1
        have h2 := of_decide_eq_false h2
        simp only [cond_false]
        have hE := loop_down (n := t.2.length) (F := fun j i => l_r04_Valid_2 (run M k) j i t.1 t.2) (G := fun q => some ⟨.pair .str tI, firstP (etypeE t) (fun e : ETypeD => e.1) ((⟨#[]⟩ : ByteArray), 0) q (t.2.drop q)⟩)
          (fun j => by
            show s_r04_Valid_2 (run M k) _ _ t.1 t.2 = _
            rw [List.drop_eq_nil_of_le (Nat.le_refl _)]
            simp [s_r04_Valid_2, firstP])
          (fun q j hq ih => by
            show s_r04_Valid_2 (run M k) _ _ t.1 t.2 = _
            rw [List.drop_eq_getElem_cons hq, firstP]
            simp only [s_r04_Valid_2, inB_nat, hq, decide_true, Int.ofNat_lt, cond_true, rd_nat (t := tEdgeType) t.2 q hq]
            show Option.bind (res tI (run M k f_r04_edge [.val tTypes t, .val tI (q : Int)])) _ = _
            rw [r04_edge_ev t hs q hq k (by omega), res_some, bindS, wrap_succ (by omega), ih]
            cases (!(decide (etypeE t q = (0 : Int)))) <;> rfl) 0 (Nat.zero_le _) k (by omega)
        have := down_any (n := t.1.length) (Q := fun j q => (∀ i, i < q → nodeE t i = 0) → l_r04_Valid_0 (run M k) (l_r04_Valid_2 (run M k) k) j (q : Int) t.1 t.2 =
            some ⟨.pair .str tI, firstP (nodeE t) (fun n : NodeD => n.1) (firstP (etypeE t) (fun e : ETypeD => e.1) ((⟨#[]⟩ : ByteArray), 0) 0 t.2) q (t.1.drop q)⟩)
          (fun j _ => by
            show s_r04_Valid_0 (run M k) _ _ _ t.1 t.2 = _
            rw [List.drop_eq_nil_of_le (Nat.le_refl _)]
            simp only [s_r04_Valid_0, Int.lt_irrefl, decide_false, cond_false, firstP]
            exact hE)
          (fun q j hq ih hv => by
            show s_r04_Valid_0 (run M k) _ _ _ t.1 t.2 = _
            rw [List.drop_eq_getElem_cons hq, firstP]
            simp only [s_r04_Valid_0, inB_nat, hq, decide_true, Int.ofNat_lt, cond_true, rd_nat (t := tNodeType) t.1 q hq]
            show Option.bind (res tI (run M k f_r04_node [.val tTypes t, .val tI (q : Int)])) _ = _
            rw [r04_node_ev t hs.1 q hq hv k (by omega), res_some, bindS, wrap_succ (by omega)]
            by_cases h : nodeE t q = 0
            · rw [decide_eq_true h]
              simp only [Bool.not_true, cond_false]
              exact ih fun i hi => by
                rcases Nat.lt_or_ge i q with h' | h'
                · exact hv i h'
                · have : i = q := by omega
                  subst this; exact h
            · rw [decide_eq_false h]; rfl) 0 (Nat.zero_le _) k (by omega)
        exact this (fun i hi => absurd hi (Nat.not_lt_zero _))
end Go.Proofs.AM

namespace Go.Proofs.AM
open Go
end Go.Proofs.AM

namespace Go.Proofs.AM
open Go
theorem firstP_zero {α : Type} {f : Nat → Int} {nm : α → ByteArray} {z : ByteArray × Int} : ∀ {m : Nat} {l : List α}, (firstP f nm z m l).2 = 0 → z.2 = 0 ∧ ∀ i, m ≤ i → i < m + l.length → f i = 0
  | m, [], h => ⟨h, fun i h1 h2 => by simp at h2; omega⟩
  | m, x :: r, h => by
    unfold firstP at h
    by_cases h0 : f m = 0
    · rw [decide_eq_true h0] at h
      obtain ⟨a, b⟩ := firstP_zero (m := m + 1) (l := r) h
      refine ⟨a, fun i h1 h2 => ?_⟩
      rcases Nat.eq_or_lt_of_le h1 with e | e
      · subst e; exact h0
      · exact b i e (by simp only [List.length_cons] at h2; omega)
    · rw [decide_eq_false h0] at h
      exact absurd h h0
theorem typesP_zero {t : TypesD} (h : (typesP t).2 = 0) : (∀ i, i < t.1.length → nodeE t i = 0) ∧ ∀ i, i < t.2.length → etypeE t i = 0 := by
  unfold typesP at h
  cases h1 : decide ((t.1.length : Int) = (0 : Int)) with
  | true => rw [h1] at h; cases h
  | false =>
    rw [h1] at h
    cases h2 : (cond (decide ((12 : Int) < (t.1.length : Int))) true (decide ((20 : Int) < (t.2.length : Int)))) with
    | true => rw [h2] at h; cases h
    | false =>
      rw [h2] at h
      obtain ⟨a, b⟩ := firstP_zero h
      obtain ⟨c, d⟩ := firstP_zero a
      exact ⟨fun i hi => b i (Nat.zero_le _) (by omega), fun i hi => d i (Nat.zero_le _) (by omega)⟩
theorem par_of {t : TypesD} (h : ∀ i, i < t.1.length → nodeE t i = 0) {a : Int} (ha : a < t.1.length) : Par t.1 a := fun i hi => (nodeE_zero (h i (by omega))).2
theorem inside_iff {n : Nat} {x : Int} : insideB n x = true ↔ 0 ≤ x ∧ x < n := by
  unfold insideB
  cases h1 : decide ((0 : Int) ≤ x) with
  | false => have := of_decide_eq_false h1; simp; omega
  | true => have := of_decide_eq_true h1; simp; omega
theorem r04_given_ev (t : TypesD) (hs : SmallT t) (hv : (typesP t).2 = 0) (a b : Int) : ∀ k, 2200 ≤ k → run M k f_r04_given [.val tTypes t, .val tI a, .val tI b] = some ⟨tI, cond (insideB t.1.length a && insideB t.1.length b) 0 6⟩ := by
  intro k hk
  obtain ⟨k, rfl⟩ : ∃ i, k = i + 1 := ⟨k - 1, by omega⟩
  have hl := hs.1.1
  rw [e_r04_given, b_r04_given]
  show Option.bind (res (.pair .str tI) (run M k f_r04_Valid [.val tTypes t])) _ = _
  rw [r04_Valid_ev t hs k (by omega), res_some, bindS, decide_eq_true hv]
  simp only [Bool.not_true, cond_false]
  have hin : ∀ x : Int, run M k f_r04_in [.val tI x, .val tI (0 : Int), .val tI ((t.1.length : Int) - 1)] = some ⟨.bool, insideB t.1.length x⟩ := by
    intro x
    rw [r04_in_ev _ _ _ k (by omega), le_pred]; rfl
  rw [wrap_id (x := (t.1.length : Int) - 1) (by omega) (by omega), hin, hin, res_some, bindS, res_some]
  cases insideB t.1.length a <;> cases insideB t.1.length b <;> rfl
end Go.Proofs.AM

namespace Go.Proofs.AM
open Go
def strOk (s : ByteArray) : Bool := !(decide ((40 : Int) < (s.size : Int)))
def attrOk (a : AttrD) : Bool := cond (cond (decide ((40 : Int) < (a.1.size : Int))) true (decide ((25 : Int) < (a.2.2.2.length : Int)))) false (a.2.2.2.all strOk)
def fewFrom : Nat → List NodeD → Bool
  | _, [] => true
  | s, x :: r => cond (cond (decide ((30 : Int) < ((s + x.2.2.2.length : Nat) : Int))) true (decide ((40 : Int) < (x.1.size : Int)))) false (x.2.2.2.all attrOk && fewFrom (s + x.2.2.2.length) r)
def fewT (t : TypesD) : Bool := cond (cond (decide ((20 : Int) < (t.1.length : Int))) true (decide ((30 : Int) < (t.2.length : Int)))) false (fewFrom 0 t.1 && t.2.all fun e => strOk e.1)
theorem r04_Few_ev (t : TypesD) (hs : ∀ n ∈ t.1, n.2.2.2.length ≤ reachBytes) : ∀ k, 200 ≤ k → run M k f_r04_Few [.val tTypes t] = some ⟨.bool, fewT t⟩ := by
  intro k hk
  obtain ⟨k, rfl⟩ : ∃ i, k = i + 1 := ⟨k - 1, by omega⟩
  have hr := reach_lt
  have hr2 : reachBytes + 1000 < 9223372036854775807 := by decide
  rw [e_r04_Few, b_r04_Few]
  unfold fewT
  cases h1 : decide ((20 : Int) < (t.1.length : Int)) with
  | true => rfl
  | false =>
    cases h2 : decide ((30 : Int) < (t.2.length : Int)) with
    | true => rfl
    | false =>
      have h1 := of_decide_eq_false h1
      have h2 := of_decide_eq_false h2
      simp only [cond_false]
      generalize hEO : (t.2.all fun e => strOk e.1) = EO
      have hE : l_r04_Few_6 (run M k) k (0 : Int) t.1 t.2 = some ⟨.bool, EO⟩ := by
        have := loop_down (n := t.2.length) (F := fun j i => l_r04_Few_6 (run M k) j i t.1 t.2) (G := fun q => some ⟨.bool, (t.2.drop q).all fun e => strOk e.1⟩)
          (fun j => by
            show s_r04_Few_6 (run M k) _ _ t.1 t.2 = _
            rw [List.drop_eq_nil_of_le (Nat.le_refl _)]
            simp [s_r04_Few_6])
          (fun q j hq ih => by
            show s_r04_Few_6 (run M k) _ _ t.1 t.2 = _
            rw [all_drop _ _ q hq]
            simp only [s_r04_Few_6, inB_nat, hq, decide_true, Int.ofNat_lt, cond_true, rd_nat (t := tEdgeType) t.2 q hq]
            rw [wrap_succ (by omega), ih]
            show cond (decide ((40 : Int) < (t.2[q].1.size : Int))) _ _ = (some ⟨.bool, (!(decide ((40 : Int) < (t.2[q].1.size : Int))) && _)⟩ : Res E)
            cases decide ((40 : Int) < (t.2[q].1.size : Int)) <;> rfl) 0 (Nat.zero_le _) k (by omega)
        rw [← hEO]; exact this
      have := down_any (n := t.1.length) (Q := fun j q => ∀ (j' s : Nat), j' = j + 60 → s ≤ 30 → l_r04_Few_0 (run M k) (l_r04_Few_6 (run M k) k) j' (s : Int) (q : Int) t.1 t.2 = some ⟨.bool, fewFrom s (t.1.drop q) && EO⟩)
        (fun j j' s hj' hs30 => by
          obtain ⟨j'', rfl⟩ : ∃ i, j' = i + 1 := ⟨j' - 1, by omega⟩
          show s_r04_Few_0 (run M k) _ _ _ _ _ t.1 t.2 = _
          rw [List.drop_eq_nil_of_le (Nat.le_refl _)]
          simp only [s_r04_Few_0, Int.lt_irrefl, decide_false, cond_false, fewFrom, Bool.true_and]
          exact hE)
        (fun q j hq ih j' s hj' hs30 => by
          obtain ⟨j'', rfl⟩ : ∃ i, j' = i + 1 := ⟨j' - 1, by omega⟩
          show s_r04_Few_0 (run M k) _ _ _ _ _ t.1 t.2 = _
          have hlen := hs _ (List.getElem_mem hq)
          rw [List.drop_eq_getElem_cons hq, fewFrom]
          simp only [s_r04_Few_0, inB_nat, hq, decide_true, Int.ofNat_lt, cond_true, rd_nat (t := tNodeType) t.1 q hq, Bool.true_or]
          generalize hx : t.1[q] = x at hlen
          have hw : IntKind.i64.wrap ((s : Int) + ((x.2.2.2.length : Nat) : Int)) = ((s + x.2.2.2.length : Nat) : Int) := by
            rw [wrap_id (by omega) (by omega)]; omega
          show cond (cond (decide ((30 : Int) < IntKind.i64.wrap ((s : Int) + (x.2.2.2.length : Int)))) true (decide ((40 : Int) < (x.1.size : Int)))) _ (l_r04_Few_2 (run M k) _ _ (IntKind.i64.wrap ((s : Int) + (x.2.2.2.length : Int))) _ _ t.1 t.2) = _
          rw [hw]
          cases h3 : (cond (decide ((30 : Int) < ((s + x.2.2.2.length : Nat) : Int))) true (decide ((40 : Int) < (x.1.size : Int)))) with
          | true => rfl
          | false =>
            have h30 : s + x.2.2.2.length ≤ 30 := by
              cases h4 : decide ((30 : Int) < ((s + x.2.2.2.length : Nat) : Int)) with
              | true => rw [h4] at h3; cases h3
              | false => have := of_decide_eq_false h4; omega
            simp only [cond_false]
            generalize hs' : s + x.2.2.2.length = s' at *
            have hnext := ih j'' s' (by omega) h30
            have := loop_down' (n := x.2.2.2.length) 28 (F := fun i p => l_r04_Few_2 (run M k) (l_r04_Few_0 (run M k) (l_r04_Few_6 (run M k) k) j'') i (s' : Int) (q : Int) p t.1 t.2)
              (G := fun p => some ⟨.bool, (x.2.2.2.drop p).all attrOk && (fewFrom s' (t.1.drop (q + 1)) && EO)⟩)
              (fun i _ => by
                show s_r04_Few_2 (run M k) _ _ _ _ _ _ t.1 t.2 = _
                rw [List.drop_eq_nil_of_le (Nat.le_refl _)]
                simp only [s_r04_Few_2, inB_nat, hq, decide_true, cond_true, rd_nat (t := tNodeType) t.1 q hq, hx, Int.lt_irrefl, decide_false, cond_false, List.all_nil, Bool.true_and]
                rw [wrap_succ (by omega)]
                exact hnext)
              (fun p i hp hi ih2 => by
                show s_r04_Few_2 (run M k) _ _ _ _ _ _ t.1 t.2 = _
                rw [all_drop _ _ p hp]
                simp only [s_r04_Few_2, inB_nat, hq, decide_true, cond_true, rd_nat (t := tNodeType) t.1 q hq, hx, Int.ofNat_lt, hp, rd_nat (t := tAttr) x.2.2.2 p hp]
                generalize hy : x.2.2.2[p] = y
                rw [attrOk]
                cases h5 : (cond (decide ((40 : Int) < (y.1.size : Int))) true (decide ((25 : Int) < (y.2.2.2.length : Int)))) with
                | true => rfl
                | false =>
                  have h25 : y.2.2.2.length ≤ 25 := by
                    cases h6 : decide ((40 : Int) < (y.1.size : Int)) with
                    | true => rw [h6] at h5; cases h5
                    | false => rw [h6] at h5; have := of_decide_eq_false h5; omega
                  simp only [cond_false]
                  have := loop_down (n := y.2.2.2.length) (F := fun i' u => l_r04_Few_4 (run M k) (l_r04_Few_2 (run M k) (l_r04_Few_0 (run M k) (l_r04_Few_6 (run M k) k) j'') i) i' (s' : Int) (q : Int) (p : Int) u t.1 t.2 y.1 y.2.1 y.2.2.1 y.2.2.2)
                    (G := fun u => some ⟨.bool, (y.2.2.2.drop u).all strOk && ((x.2.2.2.drop (p + 1)).all attrOk && (fewFrom s' (t.1.drop (q + 1)) && EO))⟩)
                    (fun i' => by
                      show s_r04_Few_4 (run M k) _ _ _ _ _ _ t.1 t.2 y.1 y.2.1 y.2.2.1 y.2.2.2 = _
                      rw [List.drop_eq_nil_of_le (Nat.le_refl _)]
                      simp only [s_r04_Few_4, Int.lt_irrefl, decide_false, cond_false, List.all_nil, Bool.true_and]
                      rw [wrap_succ (by omega)]
                      exact ih2)
                    (fun u i' hu ih3 => by
                      show s_r04_Few_4 (run M k) _ _ _ _ _ _ t.1 t.2 y.1 y.2.1 y.2.2.1 y.2.2.2 = _
                      rw [all_drop _ _ u hu]
                      simp only [s_r04_Few_4, inB_nat, hu, decide_true, Int.ofNat_lt, cond_true, rd_nat (t := .str) y.2.2.2 u hu]
                      rw [wrap_succ (by omega), ih3, strOk]
                      cases decide ((40 : Int) < (ByteArray.size y.2.2.2[u] : Int)) <;> rfl) 0 (Nat.zero_le _) i (by omega)
                  rw [List.drop_zero] at this
                  refine Eq.trans this ?_
                  cases (y.2.2.2.all strOk) <;> rfl) 0 (Nat.zero_le _) j'' (by omega)
            rw [List.drop_zero] at this
            refine Eq.trans this ?_
            cases (x.2.2.2.all attrOk) <;> rfl) 0 (Nat.zero_le _) (k - 60) (by omega) k 0 (by omega) (by omega)
      exact this
theorem strOk_size {s : ByteArray} (h : strOk s = true) : s.size ≤ 40 := by
  unfold strOk at h
  cases h1 : decide ((40 : Int) < (s.size : Int)) with
  | true => rw [h1] at h; cases h
  | false => have := of_decide_eq_false h1; omega
theorem attrOk_small {a : AttrD} (h : attrOk a = true) : SmallA a := by
  unfold attrOk at h
  cases h1 : decide ((40 : Int) < (a.1.size : Int)) with
  | true => rw [h1] at h; cases h
  | false =>
    cases h2 : decide ((25 : Int) < (a.2.2.2.length : Int)) with
    | true => rw [h1, h2] at h; cases h
    | false =>
      rw [h1, h2] at h
      have h1 := of_decide_eq_false h1
      have h2 := of_decide_eq_false h2
      exact ⟨by omega, by omega, fun s hs => strOk_size (List.all_eq_true.1 h s hs)⟩
theorem fewFrom_small : ∀ (s : Nat) (l : List NodeD), fewFrom s l = true → ∀ n ∈ l, n.1.size ≤ 40 ∧ n.2.2.2.length ≤ 30 ∧ ∀ a ∈ n.2.2.2, SmallA a
  | _, [], _, n, hn => by cases hn
  | s, x :: r, h, n, hn => by
    unfold fewFrom at h
    cases h1 : decide ((30 : Int) < ((s + x.2.2.2.length : Nat) : Int)) with
    | true => rw [h1] at h; cases h
    | false =>
      cases h2 : decide ((40 : Int) < (x.1.size : Int)) with
      | true => rw [h1, h2] at h; cases h
      | false =>
        rw [h1, h2] at h
        have h1 := of_decide_eq_false h1
        have h2 := of_decide_eq_false h2
        simp only [cond_false, Bool.and_eq_true] at h
        rcases List.mem_cons.1 hn with e | hn
        · subst e
          exact ⟨by omega, by omega, fun a ha => attrOk_small (List.all_eq_true.1 h.1 a ha)⟩
        · exact fewFrom_small _ r h.2 n hn
theorem fewT_small {t : TypesD} (h : fewT t = true) : SmallT t := by
  unfold fewT at h
  cases h1 : decide ((20 : Int) < (t.1.length : Int)) with
  | true => rw [h1] at h; cases h
  | false =>
    cases h2 : decide ((30 : Int) < (t.2.length : Int)) with
    | true => rw [h1, h2] at h; cases h
    | false =>
      rw [h1, h2] at h
      have h1 := of_decide_eq_false h1
      have h2 := of_decide_eq_false h2
      simp only [cond_false, Bool.and_eq_true] at h
      exact ⟨⟨by omega, fewFrom_small 0 t.1 h.1⟩, by omega, fun e he => strOk_size (List.all_eq_true.1 h.2 e he)⟩
end Go.Proofs.AM

namespace Go.Proofs.AM
open Go
def few5 (g : GraphD) : Bool := cond (decide ((g.1.length : Int) ≤ (45 : Int))) (decide ((g.2.length : Int) ≤ (90 : Int))) false
def few6 (m : MorD) : Bool := decide ((IntKind.i64.wrap ((m.1.length : Int) + (m.2.length : Int))) ≤ (140 : Int))
theorem r05_Few_ev (g : GraphD) : ∀ k, 1 ≤ k → run M k f_r05_Few [.val tGraph g] = some ⟨.bool, few5 g⟩ := by
  intro k hk
  obtain ⟨k, rfl⟩ : ∃ i, k = i + 1 := ⟨k - 1, by omega⟩
  exact e_r05_Few k g
theorem r06_Few_ev (m : MorD) : ∀ k, 1 ≤ k → run M k f_r06_Few [.val tMorphism m, .val tI (140 : Int)] = some ⟨.bool, few6 m⟩ := by
  intro k hk
  obtain ⟨k, rfl⟩ : ∃ i, k = i + 1 := ⟨k - 1, by omega⟩
  exact e_r06_Few k m 140
theorem few6_small {m : MorD} (h1 : m.1.length ≤ reachBytes) (h2 : m.2.length ≤ reachBytes) (h : few6 m = true) : m.1.length ≤ 140 ∧ m.2.length ≤ 140 := by
  have hr : reachBytes + reachBytes < 9223372036854775807 := by decide
  unfold few6 at h
  rw [wrap_id (by omega) (by omega)] at h
  have := of_decide_eq_true h
  omega
theorem few5_small {g : GraphD} (h : few5 g = true) : g.1.length ≤ 45 ∧ g.2.length ≤ 90 := by
  unfold few5 at h
  cases h1 : decide ((g.1.length : Int) ≤ (45 : Int)) with
  | false => rw [h1] at h; cases h
  | true =>
    rw [h1] at h
    have := of_decide_eq_true h1
    have h : decide ((g.2.length : Int) ≤ (90 : Int)) = true := h
    have := of_decide_eq_true h
    omega
end Go.Proofs.AM

namespace Go.Proofs.AM
open Go
abbrev SlotD := Int × (Int × (Int × Int))
abbrev TestD := Int × ((Int × Int) × (Int × Int))
abbrev PatD := GraphD × (List SlotD × (Int × List TestD))
noncomputable abbrev rdS (xs : List SlotD) (i : Int) : SlotD := rd (E := E) (t := tSlot) xs i
theorem types_given1_ev (t : TypesD) (hs : SmallT t) (hv : (typesP t).2 = 0) (a : Int) : ∀ k, 2200 ≤ k → run M k f_types_given [.val tTypes t, .val (.slice tI) ([a] : List Int)] = some ⟨tI, cond (insideB t.1.length a) 0 6⟩ := by
  intro k hk
  obtain ⟨k, rfl⟩ : ∃ i, k = i + 1 := ⟨k - 1, by omega⟩
  rw [e_types_given, b_types_given]
  show Option.bind (res (.pair .str tI) (run M k f_types_Valid [.val tTypes t])) _ = _
  rw [types_Valid_ev t hs k (by omega), res_some, bindS, decide_eq_true hv]
  simp only [Bool.not_true, cond_false]
  rw [ContainsFunc_int_ev (p := fun x => cond (decide (x < (0 : Int))) true (decide ((t.1.length : Int) ≤ x))) (c := 1) (fun y _ k hk => by
    obtain ⟨k, rfl⟩ : ∃ i, k = i + 1 := ⟨k - 1, by omega⟩
    exact e_types_given_1 k y t) (by simp; decide) k (by simp; omega), res_some, bindS]
  have hx : ∀ x : Int, (cond (decide (x < (0 : Int))) true (decide ((t.1.length : Int) ≤ x))) = !insideB t.1.length x := by
    intro x
    unfold insideB
    by_cases h1 : x < 0
    · rw [decide_eq_true h1, decide_eq_false (show ¬ (0 : Int) ≤ x by omega)]; rfl
    · rw [decide_eq_false h1, decide_eq_true (show (0 : Int) ≤ x by omega)]
      by_cases h2 : x < (t.1.length : Int)
      · rw [decide_eq_true h2, decide_eq_false (show ¬ (t.1.length : Int) ≤ x by omega)]; rfl
      · rw [decide_eq_false h2, decide_eq_true (show (t.1.length : Int) ≤ x by omega)]; rfl
  simp only [hx, List.any_cons, List.any_nil]
  cases insideB t.1.length a <;> rfl
theorem Clone_string_ev (xs : List ByteArray) (hs : xs.length ≤ 1000000) : ∀ k, 1 ≤ k → run M k f_slices_Clone_string [.val (.slice .str) xs] = some ⟨.slice .str, xs⟩ := by
  intro k hk
  obtain ⟨k, rfl⟩ : ∃ i, k = i + 1 := ⟨k - 1, by omega⟩
  rw [e_slices_Clone_string, b_slices_Clone_string]
  cases xs with
  | nil => rfl
  | cons x r =>
    have h1 : roomy (([] : List (D .str)).length + (x :: r : List ByteArray).length) 16 = true := by
      unfold roomy
      refine decide_eq_true ?_
      simp only [List.length_nil, List.length_cons] at hs ⊢
      omega
    have h2 : decide (0 < (x :: r : List ByteArray).length) = true := by simp
    rw [h2, cond_true, h1, cond_true]
    rfl
theorem types_Attrs_ev (t : TypesD) (hs : SmallT t) (hv : (typesP t).2 = 0) (a : Int) (ha : insideB t.1.length a = true) : ∀ k, 4000 ≤ k → run M k f_types_Attrs [.val tTypes t, .val tI a] = some ⟨.pair (.slice tAttr) tI, (attrsF t.1 100 a, (0 : Int))⟩ := by
  intro k hk
  obtain ⟨k, rfl⟩ : ∃ i, k = i + 1 := ⟨k - 1, by omega⟩
  obtain ⟨hn, _⟩ := typesP_zero hv
  have hl := hs.1.1
  have ga := inside_iff.1 ha
  have hq : ((a.toNat : Nat) : Int) = a := by omega
  have hpar : Par t.1 a := par_of hn ga.2
  have hrun := types_attrs_ev t hs.1 a.toNat (by omega) (by rw [hq]; exact hpar) k (by omega)
  rw [hq] at hrun
  rw [e_types_Attrs, b_types_Attrs]
  show Option.bind (res tI (run M k f_types_given [.val tTypes t, .val (.slice tI) ([a] : List Int)])) _ = _
  rw [types_given1_ev t hs hv a k (by omega), res_some, bindS, ha]
  simp only [cond_true, decide_true, Bool.not_true, cond_false]
  show Option.bind (res (.slice tAttr) (run M k f_types_attrs [.val tTypes t, .val tI a])) _ = _
  rw [hrun, res_some, bindS]
  have hlen := attrsF_length hs.1 100 a
  have hsm := attrsF_small hs.1 100 a
  generalize attrsF t.1 100 a = l at hlen hsm
  exact loop_down (n := l.length) (F := fun j i => l_types_Attrs_0 (run M k) j (l.length : Int) i l) (G := fun _ => some ⟨.pair (.slice tAttr) tI, (l, (0 : Int))⟩)
    (fun j => by
      show s_types_Attrs_0 (run M k) _ _ _ l = _
      simp [s_types_Attrs_0])
    (fun q j hq2 ih => by
      show s_types_Attrs_0 (run M k) _ _ _ l = _
      simp only [s_types_Attrs_0, inB_nat, hq2, decide_true, Int.ofNat_lt, cond_true, getA_nat hq2]
      rw [Clone_string_ev _ (by have := (hsm _ (List.getElem_mem hq2)).2.1; omega) k (by omega), res_some, bindS, wrap_succ (by omega), Int.toNat_natCast]
      have : l.set q (l[q].1, (l[q].2.1, (l[q].2.2.1, l[q].2.2.2))) = l := List.set_getElem_self hq2
      rw [this, ih]) 0 (Nat.zero_le _) k (by omega)
theorem r04_Attrs_ev (t : TypesD) (hs : SmallT t) (hv : (typesP t).2 = 0) (a : Int) (ha : insideB t.1.length a = true) : ∀ k, 4000 ≤ k → run M k f_r04_Attrs [.val tTypes t, .val tI a] = some ⟨.pair (.slice tAttr) tI, (attrsF t.1 100 a, (0 : Int))⟩ := by
  intro k hk
  obtain ⟨k, rfl⟩ : ∃ i, k = i + 1 := ⟨k - 1, by omega⟩
  obtain ⟨hn, _⟩ := typesP_zero hv
  have hl := hs.1.1
  have ga := inside_iff.1 ha
  have hq : ((a.toNat : Nat) : Int) = a := by omega
  have hpar : Par t.1 a := par_of hn ga.2
  have hrun := r04_attrs_ev t hs.1 a.toNat (by omega) (by rw [hq]; exact hpar) k (by omega)
  rw [hq] at hrun
  rw [e_r04_Attrs, b_r04_Attrs]
  show Option.bind (res tI (run M k f_r04_given [.val tTypes t, .val tI a, .val tI a])) _ = _
  rw [r04_given_ev t hs hv a a k (by omega), res_some, bindS, ha]
  simp only [cond_true, decide_true, Bool.not_true, cond_false, Bool.and_self]
  show Option.bind (res (.slice tAttr) (run M k f_r04_attrs [.val tTypes t, .val tI a])) _ = _
  rw [hrun, res_some, bindS]
  have hlen := attrsF_length hs.1 100 a
  have hsm := attrsF_small hs.1 100 a
  generalize attrsF t.1 100 a = l at hlen hsm
  have := loop_down (n := l.length) (F := fun j i => l_r04_Attrs_0 (run M k) j i l (l.take i.toNat)) (G := fun _ => some ⟨.pair (.slice tAttr) tI, (l, (0 : Int))⟩)
    (fun j => by
      show s_r04_Attrs_0 (run M k) _ _ l (l.take ((l.length : Int)).toNat) = _
      rw [Int.toNat_natCast, List.take_length]
      simp [s_r04_Attrs_0])
    (fun q j hq2 ih => by
      show s_r04_Attrs_0 (run M k) _ _ l (l.take ((q : Int)).toNat) = _
      rw [Int.toNat_natCast] at ih ⊢
      have h1 := (hsm _ (List.getElem_mem hq2)).2.1
      have r1 : roomy (([] : List (D .str)).length + l[q].2.2.2.length) 16 = true := by
        unfold roomy; exact decide_eq_true (by simp only [List.length_nil]; omega)
      have r2 : roomy ((l.take q).length + 1) 56 = true := by
        unfold roomy; exact decide_eq_true (by rw [List.length_take]; omega)
      simp only [s_r04_Attrs_0, inB_nat, hq2, decide_true, Int.ofNat_lt, cond_true, getA_nat hq2, List.length_singleton, List.nil_append]
      rw [r1, cond_true, r2, cond_true, wrap_succ (by omega)]
      have : l.take q ++ [(l[q].1, (l[q].2.1, (l[q].2.2.1, l[q].2.2.2)))] = l.take (q + 1) := by
        rw [List.take_add_one, List.getElem?_eq_getElem hq2]; rfl
      rw [this]
      exact ih) 0 (Nat.zero_le _) k (by omega)
  simpa using this
def termB (n : Int) (x : Int × Int) : Bool := cond (cond (cond (decide ((-1 : Int) ≤ x.1)) (decide (x.1 < n)) false) (decide ((-1000000 : Int) ≤ x.2)) false) (decide (x.2 ≤ (1000000 : Int))) false
def testE (n : Int) (x : TestD) : Int := cond (cond (!(decide (x.1 = (1 : Int)))) (!(decide (x.1 = (2 : Int)))) false) 1 (cond (termB n x.2.1 && termB n x.2.2) 0 6)
def testsE (n : Int) (l : List TestD) : Int := cond (cond (decide (n < (0 : Int))) true (decide ((12 : Int) < n))) 6 (cond (decide ((40 : Int) < (l.length : Int))) 3 (firstE (fun _ x => testE n x) 0 l))
theorem difference_term_ev (n : Int) (x : Int × Int) : ∀ k, 1 ≤ k → run M k f_difference_term [.val tI n, .val tTerm x] = some ⟨.bool, termB n x⟩ := by
  intro k hk
  obtain ⟨k, rfl⟩ : ∃ i, k = i + 1 := ⟨k - 1, by omega⟩
  exact e_difference_term k n x
theorem difference_one_ev (n : Int) (x : TestD) : ∀ k, 2 ≤ k → run M k f_difference_one [.val tI n, .val tTest x] = some ⟨tI, testE n x⟩ := by
  intro k hk
  obtain ⟨k, rfl⟩ : ∃ i, k = i + 1 := ⟨k - 1, by omega⟩
  rw [e_difference_one, b_difference_one]
  unfold testE
  cases (cond (!(decide (x.1 = (1 : Int)))) (!(decide (x.1 = (2 : Int)))) false) with
  | true => rfl
  | false =>
    simp only [cond_false]
    show Option.bind (res .bool (run M k f_difference_term [.val tI n, .val tTerm x.2.1])) (fun r1 => Option.bind (cond (!(!r1)) (res .bool (run M k f_difference_term [.val tI n, .val tTerm x.2.2])) (some (dflt E .bool))) _) = _
    rw [difference_term_ev n _ k (by omega), difference_term_ev n _ k (by omega), res_some, bindS, res_some]
    cases termB n x.2.1 <;> cases termB n x.2.2 <;> rfl
theorem difference_Valid_ev (n : Int) (l : List TestD) : ∀ k, 60 ≤ k → run M k f_difference_Valid [.val tI n, .val (.slice tTest) l] = some ⟨tI, testsE n l⟩ := by
  intro k hk
  obtain ⟨k, rfl⟩ : ∃ i, k = i + 1 := ⟨k - 1, by omega⟩
  rw [e_difference_Valid, b_difference_Valid]
  unfold testsE
  cases (cond (decide (n < (0 : Int))) true (decide ((12 : Int) < n))) with
  | true => rfl
  | false =>
    cases h2 : decide ((40 : Int) < (l.length : Int)) with
    | true => rfl
    | false =>
      have h2 := of_decide_eq_false h2
      exact loop_down (n := l.length) (F := fun j i => l_difference_Valid_0 (run M k) j n l (l.length : Int) i) (G := fun q => some ⟨tI, firstE (fun _ x => testE n x) q (l.drop q)⟩)
        (fun j => by
          show s_difference_Valid_0 (run M k) _ n l _ _ = _
          rw [List.drop_eq_nil_of_le (Nat.le_refl _)]
          simp [s_difference_Valid_0, firstE])
        (fun q j hq ih => by
          show s_difference_Valid_0 (run M k) _ n l _ _ = _
          rw [List.drop_eq_getElem_cons hq, firstE]
          simp only [s_difference_Valid_0, inB_nat, hq, decide_true, Int.ofNat_lt, cond_true, rd_nat (t := tTest) l q hq]
          show Option.bind (res tI (run M k f_difference_one [.val tI n, .val tTest l[q]])) _ = _
          rw [difference_one_ev n _ k (by omega), res_some, bindS, wrap_succ (by omega), ih]
          cases decide (testE n l[q] = 0) <;> rfl) 0 (Nat.zero_le _) k (by omega)
theorem r03_within_ev (n : Int) (x : Int × Int) : ∀ k, 1 ≤ k → run M k f_r03_within [.val tI n, .val tTerm x] = some ⟨tI, cond (termB n x) 0 6⟩ := by
  intro k hk
  obtain ⟨k, rfl⟩ : ∃ i, k = i + 1 := ⟨k - 1, by omega⟩
  rw [e_r03_within, b_r03_within]
  unfold termB
  by_cases h1 : x.1 < -1
  · rw [decide_eq_true h1, decide_eq_false (show ¬ (-1 : Int) ≤ x.1 by omega)]; rfl
  rw [decide_eq_false h1, decide_eq_true (show (-1 : Int) ≤ x.1 by omega)]
  by_cases h2 : n ≤ x.1
  · rw [decide_eq_true h2, decide_eq_false (show ¬ x.1 < n by omega)]; rfl
  rw [decide_eq_false h2, decide_eq_true (show x.1 < n by omega)]
  by_cases h3 : x.2 < -1000000
  · rw [decide_eq_true h3, decide_eq_false (show ¬ (-1000000 : Int) ≤ x.2 by omega)]; rfl
  rw [decide_eq_false h3, decide_eq_true (show (-1000000 : Int) ≤ x.2 by omega)]
  by_cases h4 : 1000000 < x.2
  · rw [decide_eq_true h4, decide_eq_false (show ¬ x.2 ≤ (1000000 : Int) by omega)]; rfl
  rw [decide_eq_false h4, decide_eq_true (show x.2 ≤ (1000000 : Int) by omega)]; rfl
theorem r03_One_ev (n : Int) (x : TestD) : ∀ k, 2 ≤ k → run M k f_r03_One [.val tI n, .val tTest x] = some ⟨tI, testE n x⟩ := by
  intro k hk
  obtain ⟨k, rfl⟩ : ∃ i, k = i + 1 := ⟨k - 1, by omega⟩
  rw [e_r03_One, b_r03_One]
  unfold testE
  cases (cond (!(decide (x.1 = (1 : Int)))) (!(decide (x.1 = (2 : Int)))) false) with
  | true => rfl
  | false =>
    simp only [cond_false]
    show Option.bind (res tI (run M k f_r03_within [.val tI n, .val tTerm x.2.1])) (fun r1 => cond (!(decide (r1 = (0 : Int)))) _ (Option.bind (res tI (run M k f_r03_within [.val tI n, .val tTerm x.2.2])) _)) = _
    rw [r03_within_ev n _ k (by omega), r03_within_ev n _ k (by omega), res_some, bindS, res_some]
    cases termB n x.2.1 <;> cases termB n x.2.2 <;> rfl
theorem r03_Valid_ev (n : Int) (l : List TestD) : ∀ k, 60 ≤ k → run M k f_r03_Valid [.val tI n, .val (.slice tTest) l] = some ⟨tI, testsE n l⟩ := by
  intro k hk
  obtain ⟨k, rfl⟩ : ∃ i, k = i + 1 := ⟨k - 1, by omega⟩
  rw [e_r03_Valid, b_r03_Valid]
  unfold testsE
  cases (cond (decide (n < (0 : Int))) true (decide ((12 : Int) < n))) with
  | true => rfl
  | false =>
    cases h2 : decide ((40 : Int) < (l.length : Int)) with
    | true => rfl
    | false =>
      have h2 := of_decide_eq_false h2
      exact loop_down (n := l.length) (F := fun j i => l_r03_Valid_0 (run M k) j n l i) (G := fun q => some ⟨tI, firstE (fun _ x => testE n x) q (l.drop q)⟩)
        (fun j => by
          show s_r03_Valid_0 (run M k) _ n l _ = _
          rw [List.drop_eq_nil_of_le (Nat.le_refl _)]
          simp [s_r03_Valid_0, firstE])
        (fun q j hq ih => by
          show s_r03_Valid_0 (run M k) _ n l _ = _
          rw [List.drop_eq_getElem_cons hq, firstE]
          simp only [s_r03_Valid_0, inB_nat, hq, decide_true, Int.ofNat_lt, cond_true, rd_nat (t := tTest) l q hq]
          show Option.bind (res tI (run M k f_r03_One [.val tI n, .val tTest l[q]])) _ = _
          rw [r03_One_ev n _ k (by omega), res_some, bindS, wrap_succ (by omega), ih]
          cases decide (testE n l[q] = 0) <;> rfl) 0 (Nat.zero_le _) k (by omega)
end Go.Proofs.AM

namespace Go.Proofs.AM
open Go
theorem any_congr {α : Type} {p q : α → Bool} : ∀ {l : List α}, (∀ x ∈ l, p x = q x) → l.any p = l.any q
  | [], _ => rfl
  | x :: r, h => by
    rw [List.any_cons, List.any_cons, h x (by simp), any_congr (l := r) fun y hy => h y (by simp [hy])]
def typedB (t : TypesD) (g : GraphD) : Bool := g.1.all (fun x => insideB t.1.length x) && g.2.all (fun e => insideB t.2.length e.1)
noncomputable def attrB (t : TypesD) (p : PatD) (a b : Int) : Bool := insideB p.1.1.length a && insideB (attrsF t.1 100 (rdI p.1.1 a)).length b
noncomputable def slotB (t : TypesD) (p : PatD) (s : SlotD) : Bool :=
  attrB t p s.1 s.2.1 && ((decide ((-1 : Int) ≤ s.2.2.1) && decide (s.2.2.1 < p.2.2.1)) && (decide ((-1000000 : Int) ≤ s.2.2.2) && decide (s.2.2.2 ≤ (1000000 : Int))))
def occB (l : List SlotD) (v : Int) : Bool := l.any fun s => decide (s.2.2.1 = v)
def occFrom (l : List SlotD) (n m : Nat) : Bool := ((List.range n).drop m).all fun v => occB l (v : Int)
noncomputable def patE (t : TypesD) (p : PatD) : Int :=
  cond (!(decide ((typesP t).2 = 0))) (typesP t).2 (cond (!(decide (graphE p.1 = 0))) (graphE p.1) (cond (!typedB t p.1) 13
    (cond (!(cond (decide ((0 : Int) ≤ p.2.2.1)) (decide (p.2.2.1 ≤ (12 : Int))) false)) 6 (cond (cond (decide ((10 : Int) < (p.2.1.length : Int))) true (decide ((10 : Int) < (p.2.2.2.length : Int)))) 3
      (cond (p.2.1.all fun s => slotB t p s) (cond (!(decide (testsE p.2.2.1 p.2.2.2 = 0))) (testsE p.2.2.1 p.2.2.2) (cond (occFrom p.2.1 p.2.2.1.toNat 0) 0 9)) 6)))))
theorem typedB_node {t : TypesD} {g : GraphD} (h : typedB t g = true) {i : Int} (hi : insideB g.1.length i = true) : insideB t.1.length (rdI g.1 i) = true := by
  unfold typedB at h
  simp only [Bool.and_eq_true] at h
  have gi := inside_iff.1 hi
  have hlt : i.toNat < g.1.length := by omega
  have : rdI g.1 i = g.1[i.toNat] := by
    have hq : ((i.toNat : Nat) : Int) = i := by omega
    have := rd_nat (t := tI) g.1 i.toNat hlt
    rwa [hq] at this
  rw [this]
  exact List.all_eq_true.1 h.1 _ (List.getElem_mem hlt)
theorem inB_inside {n : Nat} {i : Int} (h : insideB n i = true) : inB i (n : Int) = true := by
  have := inside_iff.1 h
  simp [inB]; omega
theorem bad_inside {n : Nat} {i : Int} : (cond (decide (i < (0 : Int))) true (decide ((n : Int) ≤ i))) = !insideB n i := by
  unfold insideB
  by_cases h1 : i < 0
  · rw [decide_eq_true h1, decide_eq_false (show ¬ (0 : Int) ≤ i by omega)]; rfl
  · rw [decide_eq_false h1, decide_eq_true (show (0 : Int) ≤ i by omega)]
    by_cases h2 : i < (n : Int)
    · rw [decide_eq_true h2, decide_eq_false (show ¬ (n : Int) ≤ i by omega)]; rfl
    · rw [decide_eq_false h2, decide_eq_true (show (n : Int) ≤ i by omega)]; rfl
theorem within_inside {n : Nat} {i : Int} (hn : n ≤ 1000000) : (cond (decide ((0 : Int) ≤ i)) (decide (i ≤ IntKind.i64.wrap ((n : Int) - 1))) false) = insideB n i := by
  rw [wrap_id (by omega) (by omega), le_pred]; rfl
abbrev tAttrB : Ty := .pair .str (.pair tI (.pair tI (.pair (.slice .str) .bool)))
theorem attribute_within_ev (x a b : Int) : ∀ k, 1 ≤ k → run M k f_attribute_within [.val tI x, .val tI a, .val tI b] = some ⟨.bool, cond (decide (a ≤ x)) (decide (x ≤ b)) false⟩ := by
  intro k hk
  obtain ⟨k, rfl⟩ : ∃ i, k = i + 1 := ⟨k - 1, by omega⟩
  exact e_attribute_within k x a b
theorem attribute_attr_ev (t : TypesD) (hs : SmallT t) (hv : (typesP t).2 = 0) (p : PatD) (hp : typedB t p.1 = true) (hl : p.1.1.length ≤ 1000) (s : SlotD) : ∀ k, 4100 ≤ k → ∃ v, run M k f_attribute_attr [.val tTypes t, .val tPattern p, .val tSlot s] = some ⟨tAttrB, v⟩ ∧ v.2.2.2.2 = attrB t p s.1 s.2.1 := by
  intro k hk
  obtain ⟨k, rfl⟩ : ∃ i, k = i + 1 := ⟨k - 1, by omega⟩
  rw [e_attribute_attr, b_attribute_attr, attribute_within_ev _ _ _ k (by omega), res_some, bindS, within_inside (by omega)]
  unfold attrB
  cases h1 : insideB p.1.1.length s.1 with
  | false => exact ⟨_, rfl, rfl⟩
  | true =>
    have ht := typedB_node hp h1
    rw [inB_inside h1]
    simp only [Bool.not_true, cond_false, cond_true, Bool.true_and]
    show ∃ v, Option.bind (res (.pair (.slice tAttr) tI) (run M k f_types_Attrs [.val tTypes t, .val tI (rdI p.1.1 s.1)])) _ = _ ∧ _
    rw [types_Attrs_ev t hs hv _ ht k (by omega), res_some, bindS]
    have hlen := attrsF_length hs.1 100 (rdI p.1.1 s.1)
    generalize attrsF t.1 100 (rdI p.1.1 s.1) = l at hlen
    simp only
    rw [attribute_within_ev _ _ _ k (by omega), res_some, bindS, within_inside (by omega)]
    cases h2 : insideB l.length s.2.1 with
    | false => exact ⟨_, rfl, rfl⟩
    | true =>
      rw [inB_inside h2]
      exact ⟨_, rfl, rfl⟩
theorem r21_attr_ev (t : TypesD) (hs : SmallT t) (hv : (typesP t).2 = 0) (p : PatD) (hp : typedB t p.1 = true) (a b : Int) : ∀ k, 4100 ≤ k → ∃ v, run M k f_r21_attr [.val tTypes t, .val tPattern p, .val tI a, .val tI b] = some ⟨tAttrB, v⟩ ∧ v.2.2.2.2 = attrB t p a b := by
  intro k hk
  obtain ⟨k, rfl⟩ : ∃ i, k = i + 1 := ⟨k - 1, by omega⟩
  rw [e_r21_attr, b_r21_attr, bad_inside]
  unfold attrB
  cases h1 : insideB p.1.1.length a with
  | false => exact ⟨_, rfl, rfl⟩
  | true =>
    have ht := typedB_node hp h1
    rw [inB_inside h1]
    simp only [Bool.not_true, cond_false, cond_true, Bool.true_and]
    show ∃ v, Option.bind (res (.pair (.slice tAttr) tI) (run M k f_r04_Attrs [.val tTypes t, .val tI (rdI p.1.1 a)])) _ = _ ∧ _
    rw [r04_Attrs_ev t hs hv _ ht k (by omega), res_some, bindS]
    generalize attrsF t.1 100 (rdI p.1.1 a) = l
    simp only [decide_true, Bool.not_true, cond_false]
    rw [bad_inside]
    cases h2 : insideB l.length b with
    | false => exact ⟨_, rfl, rfl⟩
    | true =>
      rw [inB_inside h2]
      exact ⟨_, rfl, rfl⟩
theorem r17_Typed_ev (t : TypesD) (g : GraphD) (h1 : g.1.length ≤ 1000) (h2 : g.2.length ≤ 1000) : ∀ k, 1010 ≤ k → run M k f_r17_Typed [.val tTypes t, .val tGraph g] = some ⟨.bool, typedB t g⟩ := by
  intro k hk
  obtain ⟨k, rfl⟩ : ∃ i, k = i + 1 := ⟨k - 1, by omega⟩
  rw [e_r17_Typed, b_r17_Typed]
  unfold typedB
  have hE := loop_down (n := g.2.length) (F := fun j i => l_r17_Typed_2 (run M k) j i t.1 t.2 g.1 g.2) (G := fun q => some ⟨.bool, (g.2.drop q).all fun e => insideB t.2.length e.1⟩)
    (fun j => by
      show s_r17_Typed_2 (run M k) _ _ t.1 t.2 g.1 g.2 = _
      rw [List.drop_eq_nil_of_le (Nat.le_refl _)]
      simp [s_r17_Typed_2])
    (fun q j hq ih => by
      show s_r17_Typed_2 (run M k) _ _ t.1 t.2 g.1 g.2 = _
      rw [all_drop _ _ q hq]
      simp only [s_r17_Typed_2, inB_nat, hq, decide_true, Int.ofNat_lt, cond_true, Bool.true_or, rd_nat (t := tEdge) g.2 q hq]
      rw [bad_inside, wrap_succ (by omega), ih]
      cases insideB t.2.length g.2[q].1 <;> rfl) 0 (Nat.zero_le _) k (by omega)
  exact loop_down (n := g.1.length) (F := fun j i => l_r17_Typed_0 (run M k) (l_r17_Typed_2 (run M k) k) j i t.1 t.2 g.1 g.2) (G := fun q => some ⟨.bool, ((g.1.drop q).all fun x => insideB t.1.length x) && g.2.all fun e => insideB t.2.length e.1⟩)
    (fun j => by
      show s_r17_Typed_0 (run M k) _ _ _ t.1 t.2 g.1 g.2 = _
      rw [List.drop_eq_nil_of_le (Nat.le_refl _)]
      simp only [s_r17_Typed_0, Int.lt_irrefl, decide_false, cond_false, List.all_nil, Bool.true_and]
      exact hE)
    (fun q j hq ih => by
      show s_r17_Typed_0 (run M k) _ _ _ t.1 t.2 g.1 g.2 = _
      rw [all_drop _ _ q hq]
      simp only [s_r17_Typed_0, inB_nat, hq, decide_true, Int.ofNat_lt, cond_true, Bool.true_or, rd_nat (t := tI) g.1 q hq]
      rw [bad_inside, wrap_succ (by omega), ih]
      cases insideB t.1.length g.1[q] <;> rfl) 0 (Nat.zero_le _) k (by omega)
theorem over_typed {t : TypesD} {g : GraphD} (h : graphE g = 0) : (cond (g.1.any fun x => decide ((t.1.length : Int) ≤ x)) true (g.2.any fun e => decide ((t.2.length : Int) ≤ e.1))) = !typedB t g := by
  obtain ⟨_, _, h3, h4⟩ := graphE_zero h
  have k0 : ∀ x, kindB x = true → (0 : Int) ≤ x := by
    intro x hx
    unfold kindB at hx
    cases h : decide ((0 : Int) ≤ x) with
    | true => exact of_decide_eq_true h
    | false => rw [h] at hx; cases hx
  have e1 : (g.1.any fun x => decide ((t.1.length : Int) ≤ x)) = !(g.1.all fun x => insideB t.1.length x) := by
    rw [List.not_all_eq_any_not]
    refine any_congr ?_
    intro x hx
    have := k0 x (h3 x hx)
    rw [← bad_inside, decide_eq_false (show ¬ x < 0 by omega)]; rfl
  have e2 : (g.2.any fun e => decide ((t.2.length : Int) ≤ e.1)) = !(g.2.all fun e => insideB t.2.length e.1) := by
    rw [List.not_all_eq_any_not]
    refine any_congr ?_
    intro x hx
    have := k0 x.1 (edgeB_ends (h4 x hx)).1
    rw [← bad_inside, decide_eq_false (show ¬ x.1 < 0 by omega)]; rfl
  rw [e1, e2]
  unfold typedB
  cases (g.1.all fun x => insideB t.1.length x) <;> rfl
theorem r21_occurs_ev (p : PatD) (v : Int) (hl : p.2.1.length ≤ 1000) : ∀ k, 1010 ≤ k → run M k f_r21_occurs [.val tPattern p, .val tI v] = some ⟨.bool, occB p.2.1 v⟩ := by
  intro k hk
  obtain ⟨k, rfl⟩ : ∃ i, k = i + 1 := ⟨k - 1, by omega⟩
  rw [e_r21_occurs, b_r21_occurs]
  unfold occB
  exact loop_down (n := p.2.1.length) (F := fun j i => l_r21_occurs_0 (run M k) j v i p.1.1 p.1.2 p.2.1 p.2.2.1 p.2.2.2) (G := fun q => some ⟨.bool, (p.2.1.drop q).any fun s => decide (s.2.2.1 = v)⟩)
    (fun j => by
      show s_r21_occurs_0 (run M k) _ v _ p.1.1 p.1.2 p.2.1 p.2.2.1 p.2.2.2 = _
      rw [List.drop_eq_nil_of_le (Nat.le_refl _)]
      simp [s_r21_occurs_0])
    (fun q j hq ih => by
      show s_r21_occurs_0 (run M k) _ v _ p.1.1 p.1.2 p.2.1 p.2.2.1 p.2.2.2 = _
      rw [any_drop _ _ q hq]
      simp only [s_r21_occurs_0, inB_nat, hq, decide_true, Int.ofNat_lt, cond_true, rd_nat (t := tSlot) p.2.1 q hq]
      rw [wrap_succ (by omega), ih]
      cases decide (p.2.1[q].2.2.1 = v) <;> rfl) 0 (Nat.zero_le _) k (by omega)
theorem r22_occurs_ev (p : PatD) (v : Int) (hl : p.2.1.length ≤ 1000) : ∀ k, 1010 ≤ k → run M k f_r22_occurs [.val tPattern p, .val tI v] = some ⟨.bool, occB p.2.1 v⟩ := by
  intro k hk
  obtain ⟨k, rfl⟩ : ∃ i, k = i + 1 := ⟨k - 1, by omega⟩
  rw [e_r22_occurs, b_r22_occurs]
  unfold occB
  exact loop_down (n := p.2.1.length) (F := fun j i => l_r22_occurs_0 (run M k) j v i p.1.1 p.1.2 p.2.1 p.2.2.1 p.2.2.2) (G := fun q => some ⟨.bool, (p.2.1.drop q).any fun s => decide (s.2.2.1 = v)⟩)
    (fun j => by
      show s_r22_occurs_0 (run M k) _ v _ p.1.1 p.1.2 p.2.1 p.2.2.1 p.2.2.2 = _
      rw [List.drop_eq_nil_of_le (Nat.le_refl _)]
      simp [s_r22_occurs_0])
    (fun q j hq ih => by
      show s_r22_occurs_0 (run M k) _ v _ p.1.1 p.1.2 p.2.1 p.2.2.1 p.2.2.2 = _
      rw [any_drop _ _ q hq]
      simp only [s_r22_occurs_0, inB_nat, hq, decide_true, Int.ofNat_lt, cond_true, rd_nat (t := tSlot) p.2.1 q hq]
      rw [wrap_succ (by omega), ih]
      cases decide (p.2.1[q].2.2.1 = v) <;> rfl) 0 (Nat.zero_le _) k (by omega)
theorem occFrom_step (l : List SlotD) (n m : Nat) (h : m < n) : occFrom l n m = (occB l (m : Int) && occFrom l n (m + 1)) := by
  unfold occFrom
  have hm : m < (List.range n).length := by simpa using h
  rw [all_drop _ _ m hm, List.getElem_range]
theorem occFrom_end (l : List SlotD) (n : Nat) : occFrom l n n = true := by
  unfold occFrom
  rw [List.drop_eq_nil_of_le (by simp)]; rfl
def usedL (n : Nat) (l : List SlotD) : List Bool := (List.range n).map fun (v : Nat) => occB l (v : Int)
theorem usedL_length (n : Nat) (l : List SlotD) : (usedL n l).length = n := by simp [usedL]
theorem usedL_nil (n : Nat) : usedL n [] = List.replicate n false := by
  apply List.ext_getElem
  · simp [usedL]
  · intro i h1 h2; simp [usedL, occB]
theorem usedL_skip (n : Nat) (l : List SlotD) (s : SlotD) (h : s.2.2.1 < 0) : usedL n (l ++ [s]) = usedL n l := by
  unfold usedL
  refine List.map_congr_left fun v _ => ?_
  unfold occB
  rw [List.any_append, List.any_cons, List.any_nil, decide_eq_false (show ¬ s.2.2.1 = (v : Int) by omega)]
  simp
theorem usedL_set (n : Nat) (l : List SlotD) (s : SlotD) (h : 0 ≤ s.2.2.1) : usedL n (l ++ [s]) = (usedL n l).set s.2.2.1.toNat true := by
  apply List.ext_getElem
  · simp [usedL]
  · intro i h1 h2
    rw [List.getElem_set]
    simp only [usedL, List.getElem_map, List.getElem_range, occB, List.any_append, List.any_cons, List.any_nil, Bool.or_false]
    by_cases he : s.2.2.1.toNat = i
    · rw [if_pos he, decide_eq_true (show s.2.2.1 = (i : Int) by omega)]; simp
    · rw [if_neg he, decide_eq_false (show ¬ s.2.2.1 = (i : Int) by omega)]; simp
theorem usedL_all (n : Nat) (l : List SlotD) : ((usedL n l).any fun y => false == y) = !occFrom l n 0 := by
  unfold usedL occFrom
  rw [List.any_map, List.drop_zero, List.not_all_eq_any_not]
  refine any_congr fun v _ => ?_
  simp
theorem attribute_Valid_ev (t : TypesD) (hs : SmallT t) (p : PatD) : ∀ k, 5000 ≤ k → run M k f_attribute_Valid [.val tTypes t, .val tPattern p] = some ⟨tI, patE t p⟩ := by
  intro k hk
  obtain ⟨k, rfl⟩ : ∃ i, k = i + 1 := ⟨k - 1, by omega⟩
  have hr : 1000 ≤ reachBytes := by decide
  rw [e_attribute_Valid, b_attribute_Valid]
  show Option.bind (res (.pair .str tI) (run M k f_types_Valid [.val tTypes t])) _ = _
  rw [types_Valid_ev t hs k (by omega), res_some, bindS]
  unfold patE
  by_cases hv : (typesP t).2 = 0
  case neg => rw [decide_eq_false hv]; rfl
  rw [decide_eq_true hv]
  simp only [Bool.not_true, cond_false]
  show Option.bind (res tI (run M k f_graph_Valid [.val tGraph p.1])) _ = _
  rw [graph_Valid_ev p.1 k (by omega), res_some, bindS]
  by_cases hg : graphE p.1 = 0
  case neg => rw [decide_eq_false hg]; rfl
  rw [decide_eq_true hg]
  simp only [Bool.not_true, cond_false]
  obtain ⟨g1, g2, _, _⟩ := graphE_zero hg
  show Option.bind (res .bool (run M k f_slices_ContainsFunc_int [.val (.slice tI) p.1.1, .fn f_attribute_Valid_1 [⟨tTypes, t⟩]])) _ = _
  rw [ContainsFunc_int_ev (p := fun x => decide ((t.1.length : Int) ≤ x)) (c := 1) (fun y _ k hk => by
    obtain ⟨k, rfl⟩ : ∃ i, k = i + 1 := ⟨k - 1, by omega⟩
    exact e_attribute_Valid_1 k y t) (by omega) k (by omega), res_some, bindS]
  have hE : run M k f_slices_ContainsFunc_Edge [.val (.slice tEdge) p.1.2, .fn f_attribute_Valid_2 [⟨tTypes, (t.1, t.2)⟩]] = some ⟨.bool, p.1.2.any fun e => decide ((t.2.length : Int) ≤ e.1)⟩ :=
    ContainsFunc_Edge_ev (p := fun e => decide ((t.2.length : Int) ≤ e.1)) (c := 1) (fun y _ k hk => by
      obtain ⟨k, rfl⟩ : ∃ i, k = i + 1 := ⟨k - 1, by omega⟩
      exact e_attribute_Valid_2 k y t) (by omega) k (by omega)
  rw [hE, res_some]
  have hov := over_typed (t := t) hg
  have hb : ∀ (a b : Bool), Option.bind (cond (!a) (some b) (some (dflt E .bool))) (fun r4 => (some (cond a true r4))) = some (cond a true b) := by intro a b; cases a <;> rfl
  generalize hA : (p.1.1.any fun x => decide ((t.1.length : Int) ≤ x)) = A at hov
  generalize hB : (p.1.2.any fun e => decide ((t.2.length : Int) ≤ e.1)) = B at hov
  have hAB : ∀ (f : Bool → Res E), Option.bind (cond (!A) (some B) (some (dflt E .bool))) (fun r4 => f (cond A true r4)) = f (cond A true B) := by intro f; cases A <;> rfl
  rw [hAB (fun b => cond b _ _), hov]
  cases ht : typedB t p.1 with
  | false => rfl
  | true =>
    simp only [Bool.not_true, cond_false]
    rw [attribute_within_ev _ _ _ k (by omega), res_some, bindS]
    cases hvars : (cond (decide ((0 : Int) ≤ p.2.2.1)) (decide (p.2.2.1 ≤ (12 : Int))) false) with
    | false => rfl
    | true =>
      simp only [Bool.not_true, cond_false]
      have hv0 : 0 ≤ p.2.2.1 ∧ p.2.2.1 ≤ 12 := by
        cases h0 : decide ((0 : Int) ≤ p.2.2.1) with
        | false => rw [h0] at hvars; cases hvars
        | true => rw [h0] at hvars; exact ⟨of_decide_eq_true h0, of_decide_eq_true (p := p.2.2.1 ≤ 12) hvars⟩
      cases hsz : (cond (decide ((10 : Int) < (p.2.1.length : Int))) true (decide ((10 : Int) < (p.2.2.2.length : Int)))) with
      | true => rfl
      | false =>
        have hsl : p.2.1.length ≤ 10 := by
          cases h0 : decide ((10 : Int) < (p.2.1.length : Int)) with
          | true => rw [h0] at hsz; cases hsz
          | false => have := of_decide_eq_false h0; omega
        simp only [cond_false]
        obtain ⟨n, hn⟩ : ∃ n : Nat, p.2.2.1 = (n : Int) := ⟨p.2.2.1.toNat, by omega⟩
        have hin : ((inS (0 : Int) p.2.2.1 p.2.2.1) && (roomy (Int.toNat p.2.2.1) 1)) = true := by
          simp only [Bool.and_eq_true]
          refine ⟨by simp [inS]; omega, ?_⟩
          unfold roomy; exact decide_eq_true (by omega)
        rw [hin, cond_true]
        have hloop := loop_down (n := p.2.1.length) (F := fun j i => l_attribute_Valid_0 (run M k) j p.2.1 (p.2.1.length : Int) i t.1 t.2 p.1.1 p.1.2 p.2.1 p.2.2.1 p.2.2.2 (usedL n (p.2.1.take i.toNat)))
          (G := fun q => some ⟨tI, cond ((p.2.1.drop q).all fun s => slotB t p s) (cond (!(decide (testsE p.2.2.1 p.2.2.2 = 0))) (testsE p.2.2.1 p.2.2.2) (cond (occFrom p.2.1 p.2.2.1.toNat 0) 0 9)) 6⟩)
          (fun j => by
            show s_attribute_Valid_0 (run M k) _ p.2.1 _ _ t.1 t.2 p.1.1 p.1.2 p.2.1 p.2.2.1 p.2.2.2 (usedL n (p.2.1.take ((p.2.1.length : Int)).toNat)) = _
            rw [List.drop_eq_nil_of_le (Nat.le_refl _), Int.toNat_natCast, List.take_length]
            simp only [s_attribute_Valid_0, Int.lt_irrefl, decide_false, cond_false, List.all_nil, cond_true]
            rw [difference_Valid_ev _ _ k (by omega), res_some, bindS]
            by_cases hte : testsE p.2.2.1 p.2.2.2 = 0
            case neg => rw [decide_eq_false hte]; rfl
            rw [decide_eq_true hte]
            simp only [Bool.not_true, cond_false]
            rw [Contains_bool_ev false (by rw [usedL_length]; omega) k (by rw [usedL_length]; omega), res_some, bindS, usedL_all, hn, Int.toNat_natCast]
            cases occFrom p.2.1 n 0 <;> rfl)
          (fun q j hq ih => by
            show s_attribute_Valid_0 (run M k) _ p.2.1 _ _ t.1 t.2 p.1.1 p.1.2 p.2.1 p.2.2.1 p.2.2.2 (usedL n (p.2.1.take ((q : Int)).toNat)) = _
            rw [Int.toNat_natCast] at ih ⊢
            rw [all_drop _ _ q hq]
            simp only [s_attribute_Valid_0, inB_nat, hq, decide_true, Int.ofNat_lt, cond_true, rd_nat (t := tSlot) p.2.1 q hq]
            obtain ⟨v, hrun, hval⟩ := attribute_attr_ev t hs hv p ht (by omega) p.2.1[q] k (by omega)
            show Option.bind (res tAttrB (run M k f_attribute_attr [.val tTypes t, .val tPattern p, .val tSlot p.2.1[q]])) _ = _
            rw [hrun, res_some, bindS, hval]
            have htk : p.2.1.take (q + 1) = p.2.1.take q ++ [p.2.1[q]] := by rw [List.take_add_one, List.getElem?_eq_getElem hq]; rfl
            rw [attribute_within_ev _ _ _ k (by omega), attribute_within_ev _ _ _ k (by omega), res_some, res_some, wrap_id (x := p.2.2.1 - 1) (by omega) (by omega), le_pred]
            unfold slotB
            cases attrB t p p.2.1[q].1 p.2.1[q].2.1 with
            | false => rfl
            | true =>
              by_cases hv1 : (-1 : Int) ≤ p.2.1[q].2.2.1
              case neg => rw [decide_eq_false hv1]; rfl
              by_cases hv2 : p.2.1[q].2.2.1 < p.2.2.1
              case neg => rw [decide_eq_true hv1, decide_eq_false hv2]; rfl
              rw [decide_eq_true hv1, decide_eq_true hv2]
              simp only [Bool.not_true, cond_false, Bool.not_false, cond_true, bindS, Bool.true_and]
              cases hb1 : decide ((-1000000 : Int) ≤ p.2.1[q].2.2.2) with
              | false => rfl
              | true =>
                cases hb2 : decide (p.2.1[q].2.2.2 ≤ (1000000 : Int)) with
                | false => rfl
                | true =>
                  simp only [Bool.not_true, cond_false, cond_true, Bool.and_self, Bool.true_and]
                  rw [wrap_succ (by omega)]
                  by_cases hv3 : (0 : Int) ≤ p.2.1[q].2.2.1
                  · have hin2 : inB p.2.1[q].2.2.1 ((usedL n (p.2.1.take q)).length : Int) = true := by rw [usedL_length]; simp [inB]; omega
                    rw [decide_eq_true hv3, hin2, cond_true, cond_true, ← usedL_set _ _ _ hv3, ← htk]
                    exact ih
                  · rw [decide_eq_false hv3, cond_false, ← usedL_skip n (p.2.1.take q) p.2.1[q] (by omega), ← htk]
                    exact ih) 0 (Nat.zero_le _) k (by omega)
        have h0 : usedL n (p.2.1.take (((0 : Nat) : Int)).toNat) = List.replicate n (dflt E .bool) := by rw [Int.toNat_natCast, List.take_zero, usedL_nil]; rfl
        rw [h0, List.drop_zero] at hloop
        rw [hn, Int.toNat_natCast] at hloop ⊢
        exact hloop
end Go.Proofs.AM

namespace Go.Proofs.AM
open Go
theorem r21_bounded_ev (x : Int) : ∀ k, 1 ≤ k → run M k f_r21_bounded [.val tI x] = some ⟨.bool, cond (decide ((-1000000 : Int) ≤ x)) (decide (x ≤ (1000000 : Int))) false⟩ := by
  intro k hk
  obtain ⟨k, rfl⟩ : ∃ i, k = i + 1 := ⟨k - 1, by omega⟩
  exact e_r21_bounded k x
theorem r21_Valid_ev (t : TypesD) (hs : SmallT t) (p : PatD) : ∀ k, 5000 ≤ k → run M k f_r21_Valid [.val tTypes t, .val tPattern p] = some ⟨tI, patE t p⟩ := by
  intro k hk
  obtain ⟨k, rfl⟩ : ∃ i, k = i + 1 := ⟨k - 1, by omega⟩
  have hr : 1000 ≤ reachBytes := by decide
  rw [e_r21_Valid, b_r21_Valid]
  show Option.bind (res (.pair .str tI) (run M k f_r04_Valid [.val tTypes t])) _ = _
  rw [r04_Valid_ev t hs k (by omega), res_some, bindS]
  unfold patE
  by_cases hv : (typesP t).2 = 0
  case neg => rw [decide_eq_false hv]; rfl
  rw [decide_eq_true hv]
  simp only [Bool.not_true, cond_false]
  show Option.bind (res tI (run M k f_r05_Valid [.val tGraph p.1])) _ = _
  rw [r05_Valid_ev p.1 k (by omega), res_some, bindS]
  by_cases hg : graphE p.1 = 0
  case neg => rw [decide_eq_false hg]; rfl
  rw [decide_eq_true hg]
  simp only [Bool.not_true, cond_false]
  obtain ⟨g1, g2, _, _⟩ := graphE_zero hg
  show Option.bind (res .bool (run M k f_r17_Typed [.val tTypes t, .val tGraph p.1])) _ = _
  rw [r17_Typed_ev t p.1 (by omega) (by omega) k (by omega), res_some, bindS]
  cases ht : typedB t p.1 with
  | false => rfl
  | true =>
    simp only [Bool.not_true, cond_false]
    by_cases hv0 : p.2.2.1 < 0
    · rw [decide_eq_true hv0, decide_eq_false (show ¬ (0 : Int) ≤ p.2.2.1 by omega)]; rfl
    rw [decide_eq_false hv0, decide_eq_true (show (0 : Int) ≤ p.2.2.1 by omega)]
    by_cases hv1 : 12 < p.2.2.1
    · rw [decide_eq_true hv1, decide_eq_false (show ¬ p.2.2.1 ≤ (12 : Int) by omega)]; rfl
    rw [decide_eq_false hv1, decide_eq_true (show p.2.2.1 ≤ (12 : Int) by omega)]
    simp only [cond_false, cond_true, Bool.not_true]
    cases hsz : (cond (decide ((10 : Int) < (p.2.1.length : Int))) true (decide ((10 : Int) < (p.2.2.2.length : Int)))) with
    | true => rfl
    | false =>
      have hsl : p.2.1.length ≤ 10 := by
        cases h0 : decide ((10 : Int) < (p.2.1.length : Int)) with
        | true => rw [h0] at hsz; cases hsz
        | false => have := of_decide_eq_false h0; omega
      simp only [cond_false]
      obtain ⟨n, hn⟩ : ∃ n : Nat, p.2.2.1 = (n : Int) := ⟨p.2.2.1.toNat, by omega⟩
      have hV := loop_down (n := n) (F := fun j i => l_r21_Valid_2 (run M k) j i p.1.1 p.1.2 p.2.1 p.2.2.1 p.2.2.2) (G := fun q => some ⟨tI, cond (occFrom p.2.1 n q) 0 9⟩)
        (fun j => by
          show s_r21_Valid_2 (run M k) _ _ p.1.1 p.1.2 p.2.1 p.2.2.1 p.2.2.2 = _
          rw [occFrom_end]
          simp only [s_r21_Valid_2, hn, Int.lt_irrefl, decide_false, cond_false, cond_true])
        (fun q j hq ih => by
          show s_r21_Valid_2 (run M k) _ _ p.1.1 p.1.2 p.2.1 p.2.2.1 p.2.2.2 = _
          rw [occFrom_step _ _ _ hq]
          simp only [s_r21_Valid_2]
          rw [decide_eq_true (show ((q : Nat) : Int) < p.2.2.1 by omega), cond_true]
          show Option.bind (res .bool (run M k f_r21_occurs [.val tPattern p, .val tI (q : Int)])) _ = _
          rw [r21_occurs_ev p _ (by omega) k (by omega), res_some, bindS, wrap_succ (by omega), ih]
          cases occB p.2.1 (q : Int) <;> rfl) 0 (Nat.zero_le _) k (by omega)
      have hloop := loop_down (n := p.2.1.length) (F := fun j i => l_r21_Valid_0 (run M k) (l_r21_Valid_2 (run M k) k) j i t.1 t.2 p.1.1 p.1.2 p.2.1 p.2.2.1 p.2.2.2)
        (G := fun q => some ⟨tI, cond ((p.2.1.drop q).all fun s => slotB t p s) (cond (!(decide (testsE p.2.2.1 p.2.2.2 = 0))) (testsE p.2.2.1 p.2.2.2) (cond (occFrom p.2.1 n 0) 0 9)) 6⟩)
        (fun j => by
          show s_r21_Valid_0 (run M k) _ _ _ t.1 t.2 p.1.1 p.1.2 p.2.1 p.2.2.1 p.2.2.2 = _
          rw [List.drop_eq_nil_of_le (Nat.le_refl _)]
          simp only [s_r21_Valid_0, Int.lt_irrefl, decide_false, cond_false, List.all_nil, cond_true]
          rw [r03_Valid_ev _ _ k (by omega), res_some, bindS]
          by_cases hte : testsE p.2.2.1 p.2.2.2 = 0
          case neg => rw [decide_eq_false hte]; rfl
          rw [decide_eq_true hte]
          simp only [Bool.not_true, cond_false]
          exact hV)
        (fun q j hq ih => by
          show s_r21_Valid_0 (run M k) _ _ _ t.1 t.2 p.1.1 p.1.2 p.2.1 p.2.2.1 p.2.2.2 = _
          rw [all_drop _ _ q hq]
          simp only [s_r21_Valid_0, inB_nat, hq, decide_true, Int.ofNat_lt, cond_true, rd_nat (t := tSlot) p.2.1 q hq]
          obtain ⟨v, hrun, hval⟩ := r21_attr_ev t hs hv p ht p.2.1[q].1 p.2.1[q].2.1 k (by omega)
          show Option.bind (res tAttrB (run M k f_r21_attr [.val tTypes t, .val tPattern p, .val tI p.2.1[q].1, .val tI p.2.1[q].2.1])) _ = _
          rw [hrun, res_some, bindS, hval, r21_bounded_ev _ k (by omega), res_some]
          unfold slotB
          cases attrB t p p.2.1[q].1 p.2.1[q].2.1 with
          | false => rfl
          | true =>
            by_cases hv1 : p.2.1[q].2.2.1 < -1
            · rw [decide_eq_true hv1, decide_eq_false (show ¬ (-1 : Int) ≤ p.2.1[q].2.2.1 by omega)]; rfl
            rw [decide_eq_false hv1, decide_eq_true (show (-1 : Int) ≤ p.2.1[q].2.2.1 by omega)]
            by_cases hv2 : p.2.2.1 ≤ p.2.1[q].2.2.1
            · rw [decide_eq_true hv2, decide_eq_false (show ¬ p.2.1[q].2.2.1 < p.2.2.1 by omega)]; rfl
            rw [decide_eq_false hv2, decide_eq_true (show p.2.1[q].2.2.1 < p.2.2.1 by omega)]
            rw [wrap_succ (by omega), ih]
            cases hb1 : decide ((-1000000 : Int) ≤ p.2.1[q].2.2.2) with
            | false => rfl
            | true =>
              cases hb2 : decide (p.2.1[q].2.2.2 ≤ (1000000 : Int)) with
              | false => rfl
              | true => rfl) 0 (Nat.zero_le _) k (by omega)
      have hnn : p.2.2.1.toNat = n := by omega
      rw [hnn]
      exact hloop
noncomputable def innerE (t : TypesD) (n : Int) (p : PatD) : Int := cond (decide (p.2.2.1 < n)) 20 (cond (decide (patE t p = 9)) (cond (occFrom p.2.1 p.2.2.1.toNat n.toNat) 0 9) (patE t p))
def Cod (x : Int) : Prop := x ∈ ([0, 1, 2, 3, 5, 6, 7, 11, 13, 20] : List Int)
theorem Cod.cond {c : Bool} {a b : Int} (ha : Cod a) (hb : Cod b) : Cod (cond c a b) := by cases c <;> assumption
theorem Cod.firstE {α : Type} {f : Nat → α → Int} (h : ∀ i x, Cod (f i x)) : ∀ (m : Nat) (l : List α), Cod (firstE f m l)
  | _, [] => (by unfold Cod; decide : Cod 0)
  | m, x :: r => by unfold AM.firstE; exact Cod.cond (Cod.firstE h (m + 1) r) (h m x)
theorem Cod.firstP {α : Type} {f : Nat → Int} {nm : α → ByteArray} {z : ByteArray × Int} (h : ∀ i, Cod (f i)) (hz : Cod z.2) : ∀ (m : Nat) (l : List α), Cod (firstP f nm z m l).2
  | _, [] => hz
  | m, x :: r => by
    unfold AM.firstP
    cases (!(decide (f m = 0))) with
    | true => exact h m
    | false => exact Cod.firstP h hz (m + 1) r
theorem Cod.lit {x : Int} (h : x ∈ ([0, 1, 2, 3, 5, 6, 7, 11, 13, 20] : List Int) := by decide) : Cod x := h
theorem cod_graph (g : GraphD) : Cod (graphE g) := .cond .lit (.cond .lit (.cond .lit .lit))
theorem cod_names (l : List ByteArray) : Cod (namesE l) := .cond .lit (.firstE (fun _ _ => .cond .lit (.cond .lit .lit)) _ _)
theorem cod_attr (x : AttrD) : Cod (attrE x) := .cond (cod_names _) (.cond (.cond .lit .lit) (.cond .lit .lit))
theorem cod_node (t : TypesD) (i : Nat) : Cod (nodeE t i) := .cond .lit (.cond .lit (.cond .lit (.cond .lit (.cond .lit (.firstE (fun _ _ => .cond .lit (.cond .lit (cod_attr _))) _ _)))))
theorem cod_etype (t : TypesD) (i : Nat) : Cod (etypeE t i) := .cond .lit (.cond .lit (.cond .lit .lit))
theorem cod_types (t : TypesD) : Cod (typesP t).2 := by
  unfold typesP
  cases decide ((t.1.length : Int) = (0 : Int)) with
  | true => exact (Cod.lit : Cod 7)
  | false =>
    cases (cond (decide ((12 : Int) < (t.1.length : Int))) true (decide ((20 : Int) < (t.2.length : Int)))) with
    | true => exact (Cod.lit : Cod 3)
    | false => exact .firstP (cod_node t) (.firstP (cod_etype t) .lit _ _) _ _
theorem cod_tests (n : Int) (l : List TestD) : Cod (testsE n l) := .cond .lit (.cond .lit (.firstE (fun _ _ => .cond .lit (.cond .lit .lit)) _ _))
theorem Cod.not9 {x : Int} (h : Cod x) : x ≠ 9 := by intro e; subst e; revert h; unfold Cod; decide
structure PatOk (t : TypesD) (p : PatD) : Prop where
  types : (typesP t).2 = 0
  graph : graphE p.1 = 0
  typed : typedB t p.1 = true
  vars0 : 0 ≤ p.2.2.1
  vars1 : p.2.2.1 ≤ 12
  slots : p.2.1.length ≤ 10
  tests : p.2.2.2.length ≤ 10
  slot : ∀ s ∈ p.2.1, slotB t p s = true
  test : testsE p.2.2.1 p.2.2.2 = 0
theorem patE_ok {t : TypesD} {p : PatD} (h : patE t p = 9 ∨ patE t p = 0) : PatOk t p := by
  unfold patE at h
  by_cases hv : (typesP t).2 = 0
  case neg =>
    rw [decide_eq_false hv] at h
    rcases h with h | h
    · exact absurd h (cod_types t).not9
    · exact absurd h hv
  rw [decide_eq_true hv] at h
  by_cases hg : graphE p.1 = 0
  case neg =>
    rw [decide_eq_false hg] at h
    rcases h with h | h
    · exact absurd h (cod_graph _).not9
    · exact absurd h hg
  rw [decide_eq_true hg] at h
  cases ht : typedB t p.1 with
  | false => rw [ht] at h; rcases h with h | h <;> cases h
  | true =>
    rw [ht] at h
    by_cases h0 : 0 ≤ p.2.2.1
    case neg => rw [decide_eq_false h0] at h; rcases h with h | h <;> cases h
    by_cases h1 : p.2.2.1 ≤ 12
    case neg => rw [decide_eq_true h0, decide_eq_false h1] at h; rcases h with h | h <;> cases h
    rw [decide_eq_true h0, decide_eq_true h1] at h
    by_cases h2 : (10 : Int) < (p.2.1.length : Int)
    · rw [decide_eq_true h2] at h; rcases h with h | h <;> cases h
    by_cases h3 : (10 : Int) < (p.2.2.2.length : Int)
    · rw [decide_eq_false h2, decide_eq_true h3] at h; rcases h with h | h <;> cases h
    rw [decide_eq_false h2, decide_eq_false h3] at h
    simp only [Bool.not_true, cond_false, cond_true] at h
    cases hs : (p.2.1.all fun s => slotB t p s) with
    | false => rw [hs] at h; rcases h with h | h <;> cases h
    | true =>
      rw [hs] at h
      by_cases hte : testsE p.2.2.1 p.2.2.2 = 0
      case neg =>
        rw [decide_eq_false hte] at h
        rcases h with h | h
        · exact absurd h (cod_tests _ _).not9
        · exact absurd h hte
      exact ⟨hv, hg, ht, h0, h1, by omega, by omega, fun s hm => List.all_eq_true.1 hs s hm, hte⟩
theorem condition_pattern_ev (t : TypesD) (hs : SmallT t) (p : PatD) (n : Int) (hn : 0 ≤ n) (hnp : n ≤ p.2.2.1) : ∀ k, 5100 ≤ k → run M k f_condition_pattern [.val tTypes t, .val tPattern p, .val tI n] = some ⟨tI, innerE t n p⟩ := by
  intro k hk
  obtain ⟨k, rfl⟩ : ∃ i, k = i + 1 := ⟨k - 1, by omega⟩
  have hr : 1000 ≤ reachBytes := by decide
  rw [e_condition_pattern, b_condition_pattern]
  show Option.bind (res tI (run M k f_attribute_Valid [.val tTypes t, .val tPattern p])) _ = _
  rw [attribute_Valid_ev t hs p k (by omega), res_some, bindS]
  unfold innerE
  rw [decide_eq_false (show ¬ p.2.2.1 < n by omega), cond_false]
  by_cases h9 : patE t p = 9
  case neg => rw [decide_eq_false h9]; rfl
  have ok := patE_ok (.inl h9)
  have hv0 := ok.vars0
  have hv1 := ok.vars1
  have hsl := ok.slots
  rw [decide_eq_true h9]
  simp only [Bool.not_true, cond_false, cond_true]
  obtain ⟨v, hv⟩ : ∃ v : Nat, p.2.2.1 = (v : Int) := ⟨p.2.2.1.toNat, by omega⟩
  obtain ⟨m, rfl⟩ : ∃ m : Nat, n = (m : Int) := ⟨n.toNat, by omega⟩
  have hloop := loop_down (n := v) (F := fun j i => l_condition_pattern_0 (run M k) j (patE t p) p.1.1 p.1.2 p.2.1 p.2.2.1 p.2.2.2 i) (G := fun q => some ⟨tI, cond (occFrom p.2.1 v q) 0 9⟩)
    (fun j => by
      show s_condition_pattern_0 (run M k) _ _ p.1.1 p.1.2 p.2.1 p.2.2.1 p.2.2.2 _ = _
      rw [occFrom_end]
      simp only [s_condition_pattern_0, hv, Int.lt_irrefl, decide_false, cond_false, cond_true])
    (fun q j hq ih => by
      show s_condition_pattern_0 (run M k) _ _ p.1.1 p.1.2 p.2.1 p.2.2.1 p.2.2.2 _ = _
      rw [occFrom_step _ _ _ hq]
      simp only [s_condition_pattern_0]
      rw [decide_eq_true (show ((q : Nat) : Int) < p.2.2.1 by omega), cond_true]
      rw [ContainsFunc_Slot_ev (p := fun s => decide (s.2.2.1 = (q : Int))) (c := 1) (fun y _ k hk => by
        obtain ⟨k, rfl⟩ : ∃ i, k = i + 1 := ⟨k - 1, by omega⟩
        exact e_condition_pattern_1 k y (q : Int)) (by omega) k (by omega), res_some, bindS, wrap_succ (by omega), ih]
      unfold occB
      cases (p.2.1.any fun s => decide (s.2.2.1 = (q : Int))) with
      | true => rfl
      | false => rw [h9]; rfl) m (by omega) k (by omega)
  have e1 : p.2.2.1.toNat = v := by omega
  rw [e1, Int.toNat_natCast]
  exact hloop
theorem r22_inner_ev (t : TypesD) (hs : SmallT t) (p : PatD) (n : Int) (hn : 0 ≤ n) : ∀ k, 5100 ≤ k → run M k f_r22_inner [.val tTypes t, .val tI n, .val tPattern p] = some ⟨tI, innerE t n p⟩ := by
  intro k hk
  obtain ⟨k, rfl⟩ : ∃ i, k = i + 1 := ⟨k - 1, by omega⟩
  have hr : 1000 ≤ reachBytes := by decide
  rw [e_r22_inner, b_r22_inner]
  unfold innerE
  by_cases hlt : p.2.2.1 < n
  · rw [decide_eq_true hlt]; rfl
  rw [decide_eq_false hlt, cond_false, cond_false]
  show Option.bind (res tI (run M k f_r21_Valid [.val tTypes t, .val tPattern p])) _ = _
  rw [r21_Valid_ev t hs p k (by omega), res_some, bindS]
  by_cases h9 : patE t p = 9
  case neg => rw [decide_eq_false h9]; rfl
  have ok := patE_ok (.inl h9)
  have hv0 := ok.vars0
  have hv1 := ok.vars1
  have hsl := ok.slots
  rw [decide_eq_true h9]
  simp only [Bool.not_true, cond_false, cond_true]
  obtain ⟨v, hv⟩ : ∃ v : Nat, p.2.2.1 = (v : Int) := ⟨p.2.2.1.toNat, by omega⟩
  obtain ⟨m, rfl⟩ : ∃ m : Nat, n = (m : Int) := ⟨n.toNat, by omega⟩
  have hloop := loop_down (n := v) (F := fun j i => l_r22_inner_0 (run M k) j (patE t p) i p.1.1 p.1.2 p.2.1 p.2.2.1 p.2.2.2) (G := fun q => some ⟨tI, cond (occFrom p.2.1 v q) 0 9⟩)
    (fun j => by
      show s_r22_inner_0 (run M k) _ _ _ p.1.1 p.1.2 p.2.1 p.2.2.1 p.2.2.2 = _
      rw [occFrom_end]
      simp only [s_r22_inner_0, hv, Int.lt_irrefl, decide_false, cond_false, cond_true])
    (fun q j hq ih => by
      show s_r22_inner_0 (run M k) _ _ _ p.1.1 p.1.2 p.2.1 p.2.2.1 p.2.2.2 = _
      rw [occFrom_step _ _ _ hq]
      simp only [s_r22_inner_0]
      rw [decide_eq_true (show ((q : Nat) : Int) < p.2.2.1 by omega), cond_true]
      show Option.bind (res .bool (run M k f_r22_occurs [.val tPattern p, .val tI (q : Int)])) _ = _
      rw [r22_occurs_ev p _ (by omega) k (by omega), res_some, bindS, wrap_succ (by omega), ih]
      cases occB p.2.1 (q : Int) with
      | true => rfl
      | false => rw [h9]; rfl) m (by omega) k (by omega)
  have e1 : p.2.2.1.toNat = v := by omega
  rw [e1, Int.toNat_natCast]
  exact hloop
theorem innerE_ok {t : TypesD} {n : Int} {p : PatD} (h : innerE t n p = 0) : PatOk t p ∧ n ≤ p.2.2.1 := by
  unfold innerE at h
  by_cases hlt : p.2.2.1 < n
  · rw [decide_eq_true hlt] at h; cases h
  rw [decide_eq_false hlt, cond_false] at h
  by_cases h9 : patE t p = 9
  · exact ⟨patE_ok (.inl h9), by omega⟩
  · rw [decide_eq_false h9] at h; exact ⟨patE_ok (.inr h), by omega⟩
end Go.Proofs.AM

namespace Go.Proofs.AM
open Go
theorem Cond.ind {P : Cond → Prop} (h : ∀ kind kids m q, (∀ x ∈ kids, P x) → P (.mk kind kids m q)) : ∀ c, P c :=
  fun c => Cond.rec (motive_1 := P) (motive_2 := fun l => ∀ x ∈ l, P x) (fun kind kids m q ih => h kind kids m q ih) (fun x hx => by simp at hx)
    (fun c l h1 h2 x hx => by
      rcases List.mem_cons.1 hx with e | e
      · exact e ▸ h1
      · exact h2 x e) c
def mkC (kind : Int) (kids : List CD) (m : MorD) (q : PatD) : CD := Cond.mk kind kids m q
theorem CD.ind {P : CD → Prop} (h : ∀ kind (kids : List CD) m q, (∀ x ∈ kids, P x) → P (mkC kind kids m q)) : ∀ c, P c := Cond.ind h
theorem CD.cases (c : CD) : ∃ kind kids m q, c = mkC kind kids m q := by
  cases (c : Cond) with
  | mk kind kids m q => exact ⟨kind, kids, m, q, rfl⟩
mutual
def csize0 : Cond → Nat
  | .mk _ kids _ _ => 1 + csizes0 kids
def csizes0 : List Cond → Nat
  | [] => 0
  | c :: r => csize0 c + csizes0 r
end
def csize : CD → Nat := csize0
def csizes : List CD → Nat := csizes0
theorem csize_mk (kind : Int) (kids : List CD) (m : MorD) (q : PatD) : csize (mkC kind kids m q) = 1 + csizes kids := rfl
theorem csizes_nil : csizes [] = 0 := rfl
theorem csizes_cons (c : CD) (r : List CD) : csizes (c :: r) = csize c + csizes r := rfl
theorem csize_mem : ∀ {l : List CD} {x : CD}, x ∈ l → csize x ≤ csizes l
  | c :: r, x, h => by
    rw [csizes_cons]
    rcases List.mem_cons.1 h with e | e
    · subst e; omega
    · have := csize_mem e; omega
theorem csize_pos (c : CD) : 0 < csize c := by
  obtain ⟨kind, kids, m, q, rfl⟩ := c.cases
  rw [csize_mk]; omega
theorem csizes_length : ∀ l : List CD, l.length ≤ csizes l
  | [] => Nat.le_refl _
  | c :: r => by have := csize_pos c; have := csizes_length r; rw [csizes_cons, List.length_cons]; omega
def smallQ (m : MorD) (q : PatD) : Prop := m.1.length ≤ 140 ∧ m.2.length ≤ 140 ∧ q.1.1.length ≤ 45 ∧ q.1.2.length ≤ 90 ∧ q.2.1.length ≤ 15 ∧ q.2.2.2.length ≤ 15
mutual
def small0 : Cond → Prop
  | .mk _ kids m q => smallQ m q ∧ smalls0 kids
def smalls0 : List Cond → Prop
  | [] => True
  | c :: r => small0 c ∧ smalls0 r
end
def SmallC : CD → Prop := small0
def SmallCs : List CD → Prop := smalls0
theorem small_mk {kind : Int} {kids : List CD} {m : MorD} {q : PatD} : SmallC (mkC kind kids m q) ↔ smallQ m q ∧ SmallCs kids := Iff.rfl
theorem smalls_cons {c : CD} {r : List CD} : SmallCs (c :: r) ↔ SmallC c ∧ SmallCs r := Iff.rfl
theorem small_mem : ∀ {l : List CD}, SmallCs l → ∀ x ∈ l, SmallC x
  | c :: r, h, x, hx => by
    rcases List.mem_cons.1 hx with e | e
    · exact e ▸ (smalls_cons.1 h).1
    · exact small_mem (smalls_cons.1 h).2 x e
mutual
def big0 : Cond → Prop
  | .mk _ kids m _ => (m.1.length ≤ reachBytes ∧ m.2.length ≤ reachBytes) ∧ bigs0 kids
def bigs0 : List Cond → Prop
  | [] => True
  | c :: r => big0 c ∧ bigs0 r
end
def BigOk : CD → Prop := big0
def BigOks : List CD → Prop := bigs0
theorem big_mk {kind : Int} {kids : List CD} {m : MorD} {q : PatD} : BigOk (mkC kind kids m q) ↔ (m.1.length ≤ reachBytes ∧ m.2.length ≤ reachBytes) ∧ BigOks kids := Iff.rfl
theorem bigs_cons {c : CD} {r : List CD} : BigOks (c :: r) ↔ BigOk c ∧ BigOks r := Iff.rfl
def few21 (q : PatD) : Bool := cond (cond (few5 q.1) (decide ((q.2.1.length : Int) ≤ (15 : Int))) false) (decide ((q.2.2.2.length : Int) ≤ (15 : Int))) false
theorem r21_Few_ev (q : PatD) : ∀ k, 2 ≤ k → run M k f_r21_Few [.val tPattern q] = some ⟨.bool, few21 q⟩ := by
  intro k hk
  obtain ⟨k, rfl⟩ : ∃ i, k = i + 1 := ⟨k - 1, by omega⟩
  rw [e_r21_Few, b_r21_Few]
  show Option.bind (res .bool (run M k f_r05_Few [.val tGraph q.1])) _ = _
  rw [r05_Few_ev q.1 k (by omega), res_some, bindS]
  rfl
theorem few21_small {q : PatD} (h : few21 q = true) : q.1.1.length ≤ 45 ∧ q.1.2.length ≤ 90 ∧ q.2.1.length ≤ 15 ∧ q.2.2.2.length ≤ 15 := by
  unfold few21 at h
  cases h1 : few5 q.1 with
  | false => rw [h1] at h; cases h
  | true =>
    by_cases h2 : (q.2.1.length : Int) ≤ 15
    case neg => rw [h1, decide_eq_false h2] at h; cases h
    by_cases h3 : (q.2.2.2.length : Int) ≤ 15
    case neg => rw [h1, decide_eq_true h2, decide_eq_false h3] at h; cases h
    have := few5_small h1
    omega
mutual
def left0 : Cond → Int → Int
  | .mk _ kids m q, n => cond (cond (!few21 q) true (!few6 m)) (-1) (lefts0 kids (n - 1))
def lefts0 : List Cond → Int → Int
  | [], n => n
  | c :: r, n => cond (decide (0 ≤ n)) (lefts0 r (left0 c n)) n
end
def leftI : CD → Int → Int := left0
def leftL : List CD → Int → Int := lefts0
theorem leftI_mk (kind : Int) (kids : List CD) (m : MorD) (q : PatD) (n : Int) : leftI (mkC kind kids m q) n = cond (cond (!few21 q) true (!few6 m)) (-1) (leftL kids (n - 1)) := rfl
theorem leftL_nil (n : Int) : leftL [] n = n := rfl
theorem leftL_cons (c : CD) (r : List CD) (n : Int) : leftL (c :: r) n = cond (decide (0 ≤ n)) (leftL r (leftI c n)) n := rfl
theorem leftL_neg (l : List CD) {n : Int} (h : n < 0) : leftL l n = n := by
  cases l with
  | nil => rfl
  | cons c r => rw [leftL_cons, decide_eq_false (by omega)]; rfl
theorem leftL_lt {l : List CD} (h : ∀ x ∈ l, ∀ n, 0 ≤ n → leftI x n < n ∧ -1 ≤ leftI x n) : ∀ n : Int, leftL l n ≤ n ∧ (-1 ≤ n → -1 ≤ leftL l n) := by
  induction l with
  | nil => intro n; exact ⟨Int.le_refl _, id⟩
  | cons c r ih =>
    intro n
    rw [leftL_cons]
    by_cases h0 : 0 ≤ n
    · rw [decide_eq_true h0, cond_true]
      obtain ⟨a, b⟩ := h c (by simp) n h0
      obtain ⟨c1, c2⟩ := ih (fun x hx => h x (by simp [hx])) (leftI c n)
      exact ⟨by omega, fun _ => c2 b⟩
    · rw [decide_eq_false h0, cond_false]; exact ⟨Int.le_refl _, id⟩
theorem leftI_lt : ∀ c : CD, ∀ n, 0 ≤ n → leftI c n < n ∧ -1 ≤ leftI c n :=
  CD.ind fun kind kids m q ih n hn => by
    rw [leftI_mk]
    obtain ⟨a, b⟩ := leftL_lt ih (n - 1)
    cases (cond (!few21 q) true (!few6 m)) with
    | true => simp only [cond_true]; omega
    | false => simp only [cond_false]; exact ⟨by omega, b (by omega)⟩
theorem leftL_size {l : List CD} (h : ∀ x ∈ l, BigOk x → ∀ n, 0 ≤ n → 0 ≤ leftI x n → SmallC x ∧ (csize x : Int) = n - leftI x n) : BigOks l → ∀ n, 0 ≤ leftL l n → SmallCs l ∧ (csizes l : Int) = n - leftL l n := by
  induction l with
  | nil => intro _ n _; exact ⟨trivial, by rw [csizes_nil, leftL_nil]; simp⟩
  | cons c r ih =>
    intro hb n hn
    rw [bigs_cons] at hb
    rw [leftL_cons] at hn ⊢
    by_cases h0 : 0 ≤ n
    · rw [decide_eq_true h0, cond_true] at hn ⊢
      have h1 : 0 ≤ leftI c n := by
        rcases Int.lt_or_le (leftI c n) 0 with h | h
        · rw [leftL_neg r h] at hn; omega
        · exact h
      obtain ⟨a, b⟩ := h c (by simp) hb.1 n h0 h1
      obtain ⟨c1, c2⟩ := ih (fun x hx => h x (by simp [hx])) hb.2 _ hn
      refine ⟨smalls_cons.2 ⟨a, c1⟩, ?_⟩
      rw [csizes_cons]; omega
    · rw [decide_eq_false h0, cond_false] at hn; omega
theorem leftI_size : ∀ c : CD, BigOk c → ∀ n, 0 ≤ n → 0 ≤ leftI c n → SmallC c ∧ (csize c : Int) = n - leftI c n :=
  CD.ind fun kind kids m q ih hb n hn h => by
    rw [leftI_mk] at h ⊢
    rw [big_mk] at hb
    cases hf : few21 q with
    | false => rw [hf] at h; simp at h
    | true =>
      cases hm : few6 m with
      | false => rw [hf, hm] at h; simp at h
      | true =>
        rw [hf, hm] at h
        simp only [Bool.not_true, cond_false] at h ⊢
        obtain ⟨a, b⟩ := leftL_size ih hb.2 _ h
        obtain ⟨q1, q2, q3, q4⟩ := few21_small hf
        obtain ⟨m1, m2⟩ := few6_small hb.1.1 hb.1.2 hm
        exact ⟨small_mk.2 ⟨⟨m1, m2, q1, q2, q3, q4⟩, a⟩, by rw [csize_mk]; omega⟩
theorem left_loop {k N : Nat} (IH : ∀ (c : CD) (n : Int), 0 ≤ n → n < N → run M k f_r22_left [.val (.nom 0) c, .val tI n] = some ⟨tI, leftI c n⟩) (kind : Int) (kids : List CD) (m : MorD) (q : PatD) :
    ∀ (j i : Nat) (n : Int), -1 ≤ n → n < N → n + 2 < j → (i : Int) + n ≤ 1000000 → l_r22_left_0 (run M k) j n (i : Int) kind kids m.1 m.2 q.1.1 q.1.2 q.2.1 q.2.2.1 q.2.2.2 = some ⟨tI, leftL (kids.drop i) n⟩
  | 0, _, _, _, _, h, _ => by omega
  | j + 1, i, n, h0, h1, h2, h3 => by
    show s_r22_left_0 (run M k) _ n _ kind kids m.1 m.2 q.1.1 q.1.2 q.2.1 q.2.2.1 q.2.2.2 = _
    by_cases hi : i < kids.length
    case neg =>
      rw [List.drop_eq_nil_of_le (by omega)]
      simp only [s_r22_left_0, Int.ofNat_lt, hi, decide_false, cond_false]
      rw [leftL_nil]
    rw [List.drop_eq_getElem_cons hi, leftL_cons]
    simp only [s_r22_left_0, Int.ofNat_lt, hi, decide_true, cond_true, inB_nat]
    by_cases hn : 0 ≤ n
    case neg => rw [decide_eq_false hn]; rfl
    rw [decide_eq_true hn]
    simp only [cond_true, rd_nat (t := .nom 0) kids i hi]
    obtain ⟨a, b⟩ := leftI_lt kids[i] n hn
    rw [repack kids[i], IH kids[i] n hn h1, res_some, bindS, wrap_succ (by omega)]
    exact left_loop IH kind kids m q j (i + 1) (leftI kids[i] n) b (by omega) (by omega) (by omega)
theorem r22_left_ev : ∀ (N : Nat), N ≤ 1000 → ∀ (c : CD) (n : Int), 0 ≤ n → n < N → ∀ k, 2 * N + 10 ≤ k → run M k f_r22_left [.val (.nom 0) c, .val tI n] = some ⟨tI, leftI c n⟩
  | 0, _, _, n, h0, h1, _, _ => by omega
  | N + 1, hN, c, n, h0, h1, k, hk => by
    obtain ⟨kind, kids, m, q, rfl⟩ := c.cases
    obtain ⟨k, rfl⟩ : ∃ i, k = i + 1 := ⟨k - 1, by omega⟩
    rw [e_r22_left, b_r22_left]
    show Option.bind (res .bool (run M k f_r21_Few [.val tPattern q])) (fun r1 => Option.bind (cond (!(!r1)) (res .bool (run M k f_r06_Few [.val tMorphism m, .val tI (140 : Int)])) (some (dflt E .bool)))
      (fun r2 => cond (cond (!r1) true (!r2)) (some ⟨tI, (-1 : Int)⟩) (l_r22_left_0 (run M k) k (IntKind.i64.wrap (n - 1)) (0 : Int) kind kids m.1 m.2 q.1.1 q.1.2 q.2.1 q.2.2.1 q.2.2.2))) = _
    rw [r21_Few_ev q k (by omega), res_some, bindS, r06_Few_ev m k (by omega), res_some, leftI_mk, wrap_id (x := n - 1) (by omega) (by omega)]
    cases few21 q with
    | false => rfl
    | true =>
      cases few6 m with
      | false => rfl
      | true =>
        exact left_loop (fun c n h0 h1 => r22_left_ev N (by omega) c n h0 h1 k (by omega)) kind kids m q k 0 (n - 1) (by omega) (by omega) (by omega) (by omega)
theorem r22_Few_ev (c : CD) : ∀ k, 200 ≤ k → run M k f_r22_Few [.val (.nom 0) c] = some ⟨.bool, decide ((0 : Int) ≤ leftI c 40)⟩ := by
  intro k hk
  obtain ⟨k, rfl⟩ : ∃ i, k = i + 1 := ⟨k - 1, by omega⟩
  rw [e_r22_Few, b_r22_Few, repack c, r22_left_ev 41 (by omega) c 40 (by omega) (by omega) k (by omega), res_some, bindS]
def bareB (m : MorD) (q : PatD) : Bool := decide (m.1.length = 0 ∧ m.2.length = 0 ∧ q.1.1.length = 0 ∧ q.1.2.length = 0 ∧ q.2.1.length = 0 ∧ q.2.2.2.length = 0 ∧ q.2.2.1 = 0)
theorem condition_bare_ev (kind : Int) (kids : List CD) (m : MorD) (q : PatD) (h : smallQ m q) : ∀ k, 1 ≤ k → run M k f_condition_bare [.val (.nom 0) (mkC kind kids m q)] = some ⟨.bool, bareB m q⟩ := by
  intro k hk
  obtain ⟨k, rfl⟩ : ∃ i, k = i + 1 := ⟨k - 1, by omega⟩
  obtain ⟨h1, h2, h3, h4, h5, h6⟩ := h
  rw [e_condition_bare, b_condition_bare]
  show some (⟨.bool, cond (decide (IntKind.i64.wrap (IntKind.i64.wrap (IntKind.i64.wrap (IntKind.i64.wrap (IntKind.i64.wrap ((m.1.length : Int) + (m.2.length : Int)) + (q.1.1.length : Int)) + (q.1.2.length : Int)) + (q.2.1.length : Int)) + (q.2.2.2.length : Int)) = 0)) (decide (q.2.2.1 = (0 : Int))) false⟩ : Dt E) = _
  rw [wrap_id (x := (m.1.length : Int) + (m.2.length : Int)) (by omega) (by omega), wrap_id (x := (m.1.length : Int) + (m.2.length : Int) + (q.1.1.length : Int)) (by omega) (by omega), wrap_id (x := (m.1.length : Int) + (m.2.length : Int) + (q.1.1.length : Int) + (q.1.2.length : Int)) (by omega) (by omega),
    wrap_id (x := (m.1.length : Int) + (m.2.length : Int) + (q.1.1.length : Int) + (q.1.2.length : Int) + (q.2.1.length : Int)) (by omega) (by omega), wrap_id (x := (m.1.length : Int) + (m.2.length : Int) + (q.1.1.length : Int) + (q.1.2.length : Int) + (q.2.1.length : Int) + (q.2.2.2.length : Int)) (by omega) (by omega)]
  unfold bareB
  by_cases ha : (m.1.length : Int) + (m.2.length : Int) + (q.1.1.length : Int) + (q.1.2.length : Int) + (q.2.1.length : Int) + (q.2.2.2.length : Int) = 0
  · rw [decide_eq_true ha, cond_true]
    congr 2
    by_cases hv : q.2.2.1 = 0
    · rw [decide_eq_true hv, decide_eq_true (by omega)]
    · rw [decide_eq_false hv, decide_eq_false (by omega)]
  · rw [decide_eq_false ha, cond_false, decide_eq_false (by omega)]
theorem r22_unused_ev (kind : Int) (kids : List CD) (m : MorD) (q : PatD) (h : smallQ m q) : ∀ k, 1 ≤ k → run M k f_r22_unused [.val (.nom 0) (mkC kind kids m q)] = some ⟨.bool, bareB m q⟩ := by
  intro k hk
  obtain ⟨k, rfl⟩ : ∃ i, k = i + 1 := ⟨k - 1, by omega⟩
  obtain ⟨h1, h2, h3, h4, h5, h6⟩ := h
  rw [e_r22_unused, b_r22_unused]
  show some (⟨.bool, cond (cond (decide (IntKind.i64.wrap (IntKind.i64.wrap (IntKind.i64.wrap ((m.1.length : Int) + (m.2.length : Int)) + (q.1.1.length : Int)) + (q.1.2.length : Int)) = 0)) (decide (IntKind.i64.wrap ((q.2.1.length : Int) + (q.2.2.2.length : Int)) = 0)) false) (decide (q.2.2.1 = (0 : Int))) false⟩ : Dt E) = _
  rw [wrap_id (x := (m.1.length : Int) + (m.2.length : Int)) (by omega) (by omega), wrap_id (x := (m.1.length : Int) + (m.2.length : Int) + (q.1.1.length : Int)) (by omega) (by omega), wrap_id (x := (m.1.length : Int) + (m.2.length : Int) + (q.1.1.length : Int) + (q.1.2.length : Int)) (by omega) (by omega),
    wrap_id (x := (q.2.1.length : Int) + (q.2.2.2.length : Int)) (by omega) (by omega)]
  unfold bareB
  by_cases ha : (m.1.length : Int) + (m.2.length : Int) + (q.1.1.length : Int) + (q.1.2.length : Int) = 0
  · by_cases hb : (q.2.1.length : Int) + (q.2.2.2.length : Int) = 0
    · rw [decide_eq_true ha, decide_eq_true hb, cond_true, cond_true]
      congr 2
      by_cases hv : q.2.2.1 = 0
      · rw [decide_eq_true hv, decide_eq_true (by omega)]
      · rw [decide_eq_false hv, decide_eq_false (by omega)]
    · rw [decide_eq_true ha, decide_eq_false hb, cond_true, cond_false, decide_eq_false (by omega)]
  · rw [decide_eq_false ha, cond_false, cond_false, decide_eq_false (by omega)]
def rightB (kind : Int) (n : Nat) (b : Bool) : Bool :=
  cond (decide (kind = 1)) (decide (n = 0) && b) (cond (decide (kind = 2)) (decide (n = 1) && b) (cond (decide (kind = 3)) (decide (0 < n) && b) (cond (decide (kind = 4)) (decide (0 < n) && b) (cond (decide (kind = 5)) (decide (n = 1)) false))))
mutual
def wf0 : Cond → Bool
  | .mk kind kids m q => rightB kind kids.length (bareB m q) && wfs0 kids
def wfs0 : List Cond → Bool
  | [] => true
  | c :: r => wf0 c && wfs0 r
end
def wfB : CD → Bool := wf0
def wfAll : List CD → Bool := wfs0
theorem wfB_mk (kind : Int) (kids : List CD) (m : MorD) (q : PatD) : wfB (mkC kind kids m q) = (rightB kind kids.length (bareB m q) && wfAll kids) := rfl
theorem wfAll_cons (c : CD) (r : List CD) : wfAll (c :: r) = (wfB c && wfAll r) := rfl
theorem wfAll_any : ∀ l : List CD, (l.any fun x => !wfB x) = !wfAll l
  | [] => rfl
  | c :: r => by
    rw [List.any_cons, wfAll_any r, wfAll_cons]
    cases wfB c <;> rfl
theorem dI (n : Nat) (a : Nat) : decide ((n : Int) = (a : Int)) = decide (n = a) := by
  by_cases h : n = a
  · rw [decide_eq_true h, decide_eq_true (by omega)]
  · rw [decide_eq_false h, decide_eq_false (by omega)]
theorem d0 (n : Nat) : decide ((n : Int) = 0) = decide (n = 0) := dI n 0
theorem d1 (n : Nat) : decide ((n : Int) = 1) = decide (n = 1) := dI n 1
theorem d0lt (n : Nat) : decide ((0 : Int) < (n : Int)) = decide (0 < n) := by
  by_cases h : 0 < n
  · rw [decide_eq_true h, decide_eq_true (by omega)]
  · rw [decide_eq_false h, decide_eq_false (by omega)]
theorem d1le (n : Nat) : decide ((1 : Int) ≤ (n : Int)) = decide (0 < n) := by
  by_cases h : 0 < n
  · rw [decide_eq_true h, decide_eq_true (by omega)]
  · rw [decide_eq_false h, decide_eq_false (by omega)]
theorem condition_wellFormed_ev : ∀ c : CD, SmallC c → csize c ≤ 1000 → ∀ k, 10 + 2000 * csize c ≤ k → run M k f_condition_wellFormed [.val (.nom 0) c] = some ⟨.bool, wfB c⟩ :=
  CD.ind fun kind kids m q ih hs hc k hk => by
    have hr : 1000 ≤ reachBytes := by decide
    rw [csize_mk] at hc hk
    rw [small_mk] at hs
    have hkl := csizes_length kids
    obtain ⟨k, rfl⟩ : ∃ i, k = i + 1 := ⟨k - 1, by omega⟩
    have hbare : run M k f_condition_bare [.val (.nom 0) (mkC kind kids m q)] = some ⟨.bool, bareB m q⟩ := condition_bare_ev kind kids m q hs.1 k (by omega)
    have hkids : run M k f_slices_ContainsFunc_Condition [.val (.slice (.nom 0)) (kids : List CD), .fn f_condition_wellFormed_1 []] = some ⟨.bool, !wfAll kids⟩ := by
      rw [ContainsFunc_Condition_ev (xs := (kids : List CD)) (p := fun x => !wfB x) (c := 20 + 2000 * csizes kids) (fun y hy k hk => by
        obtain ⟨k, rfl⟩ : ∃ i, k = i + 1 := ⟨k - 1, by omega⟩
        have hle := csize_mem hy
        show run M (k + 1) f_condition_wellFormed_1 [.val (.nom 0) y] = _
        rw [e_condition_wellFormed_1, b_condition_wellFormed_1, repack y, ih y hy (small_mem hs.2 y hy) (by omega) k (by omega), res_some, bindS]) (by omega) k (by omega)]
      rw [← wfAll_any]
    rw [e_condition_wellFormed, b_condition_wellFormed]
    rw [wfB_mk]
    generalize hK : run M k f_slices_ContainsFunc_Condition [.val (.slice (.nom 0)) (kids : List CD), .fn f_condition_wellFormed_1 []] = K at hkids
    generalize hB : run M k f_condition_bare [.val (.nom 0) (mkC kind kids m q)] = B at hbare
    show cond (decide (kind = (1 : Int))) (Option.bind (cond (decide ((kids.length : Int) = (0 : Int))) (res .bool (run M k f_condition_bare [.val (.nom 0) (mkC kind kids m q)])) (some (dflt E .bool))) (fun r1 => Option.bind (cond (cond (decide ((kids.length : Int) = (0 : Int))) r1 false) (res .bool (run M k f_slices_ContainsFunc_Condition [.val (.slice (.nom 0)) (kids : List CD), .fn f_condition_wellFormed_1 []])) (some (dflt E .bool))) (fun r2 => some (⟨.bool, cond (cond (decide ((kids.length : Int) = (0 : Int))) r1 false) (!r2) false⟩ : Dt E))))
      (cond (decide (kind = (2 : Int))) (Option.bind (cond (decide ((kids.length : Int) = (1 : Int))) (res .bool (run M k f_condition_bare [.val (.nom 0) (mkC kind kids m q)])) (some (dflt E .bool))) (fun r1 => Option.bind (cond (cond (decide ((kids.length : Int) = (1 : Int))) r1 false) (res .bool (run M k f_slices_ContainsFunc_Condition [.val (.slice (.nom 0)) (kids : List CD), .fn f_condition_wellFormed_1 []])) (some (dflt E .bool))) (fun r2 => some (⟨.bool, cond (cond (decide ((kids.length : Int) = (1 : Int))) r1 false) (!r2) false⟩ : Dt E))))
      (cond (decide (kind = (3 : Int))) (cond (decide (kind = (3 : Int))) (Option.bind (cond (decide ((1 : Int) ≤ (kids.length : Int))) (res .bool (run M k f_condition_bare [.val (.nom 0) (mkC kind kids m q)])) (some (dflt E .bool))) (fun r1 => Option.bind (cond (cond (decide ((1 : Int) ≤ (kids.length : Int))) r1 false) (res .bool (run M k f_slices_ContainsFunc_Condition [.val (.slice (.nom 0)) (kids : List CD), .fn f_condition_wellFormed_1 []])) (some (dflt E .bool))) (fun r2 => some (⟨.bool, cond (cond (decide ((1 : Int) ≤ (kids.length : Int))) r1 false) (!r2) false⟩ : Dt E)))) _)
      (cond (decide (kind = (4 : Int))) (Option.bind (cond (decide ((1 : Int) ≤ (kids.length : Int))) (res .bool (run M k f_condition_bare [.val (.nom 0) (mkC kind kids m q)])) (some (dflt E .bool))) (fun r1 => Option.bind (cond (cond (decide ((1 : Int) ≤ (kids.length : Int))) r1 false) (res .bool (run M k f_slices_ContainsFunc_Condition [.val (.slice (.nom 0)) (kids : List CD), .fn f_condition_wellFormed_1 []])) (some (dflt E .bool))) (fun r2 => some (⟨.bool, cond (cond (decide ((1 : Int) ≤ (kids.length : Int))) r1 false) (!r2) false⟩ : Dt E))))
      (cond (decide (kind = (5 : Int))) (Option.bind (cond (decide ((kids.length : Int) = (1 : Int))) (res .bool (run M k f_slices_ContainsFunc_Condition [.val (.slice (.nom 0)) (kids : List CD), .fn f_condition_wellFormed_1 []])) (some (dflt E .bool))) (fun r7 => some (⟨.bool, cond (decide ((kids.length : Int) = (1 : Int))) (!r7) false⟩ : Dt E)))
        (Option.bind (cond false (res .bool (run M k f_slices_ContainsFunc_Condition [.val (.slice (.nom 0)) (kids : List CD), .fn f_condition_wellFormed_1 []])) (some (dflt E .bool))) (fun r8 => some (⟨.bool, cond false (!r8) false⟩ : Dt E))))))) = _
    rw [hB, hK, hbare, hkids, res_some, res_some, d0, d1, d1le]
    unfold rightB
    by_cases k1 : kind = 1
    · rw [decide_eq_true k1]
      cases decide (kids.length = 0) <;> cases bareB m q <;> cases wfAll kids <;> rfl
    rw [decide_eq_false k1]
    by_cases k2 : kind = 2
    · rw [decide_eq_true k2]
      cases decide (kids.length = 1) <;> cases bareB m q <;> cases wfAll kids <;> rfl
    rw [decide_eq_false k2]
    by_cases k3 : kind = 3
    · rw [decide_eq_true k3]
      cases decide (0 < kids.length) <;> cases bareB m q <;> cases wfAll kids <;> rfl
    rw [decide_eq_false k3]
    by_cases k4 : kind = 4
    · rw [decide_eq_true k4]
      cases decide (0 < kids.length) <;> cases bareB m q <;> cases wfAll kids <;> rfl
    rw [decide_eq_false k4]
    by_cases k5 : kind = 5
    · rw [decide_eq_true k5]
      cases decide (kids.length = 1) <;> cases wfAll kids <;> rfl
    rw [decide_eq_false k5]
    rfl
end Go.Proofs.AM

namespace Go.Proofs.AM
open Go
theorem r22_right_ev (kind : Int) (kids : List CD) (m : MorD) (q : PatD) (h : smallQ m q) : ∀ k, 2 ≤ k → run M k f_r22_right [.val (.nom 0) (mkC kind kids m q)] = some ⟨.bool, rightB kind kids.length (bareB m q)⟩ := by
  intro k hk
  obtain ⟨k, rfl⟩ : ∃ i, k = i + 1 := ⟨k - 1, by omega⟩
  have hbare : run M k f_r22_unused [.val (.nom 0) (mkC kind kids m q)] = some ⟨.bool, bareB m q⟩ := r22_unused_ev kind kids m q h k (by omega)
  rw [e_r22_right, b_r22_right]
  generalize hB : run M k f_r22_unused [.val (.nom 0) (mkC kind kids m q)] = B at hbare
  show cond (decide (kind = (1 : Int))) (Option.bind (cond (decide ((kids.length : Int) = (0 : Int))) (res .bool (run M k f_r22_unused [.val (.nom 0) (mkC kind kids m q)])) (some (dflt E .bool))) (fun r1 => some (⟨.bool, cond (decide ((kids.length : Int) = (0 : Int))) r1 false⟩ : Dt E)))
    (cond (decide (kind = (2 : Int))) (Option.bind (cond (decide ((kids.length : Int) = (1 : Int))) (res .bool (run M k f_r22_unused [.val (.nom 0) (mkC kind kids m q)])) (some (dflt E .bool))) (fun r1 => some (⟨.bool, cond (decide ((kids.length : Int) = (1 : Int))) r1 false⟩ : Dt E)))
    (cond (decide (kind = (3 : Int))) (cond (decide (kind = (3 : Int))) (Option.bind (cond (decide ((0 : Int) < (kids.length : Int))) (res .bool (run M k f_r22_unused [.val (.nom 0) (mkC kind kids m q)])) (some (dflt E .bool))) (fun r1 => some (⟨.bool, cond (decide ((0 : Int) < (kids.length : Int))) r1 false⟩ : Dt E))) _)
    (cond (decide (kind = (4 : Int))) (Option.bind (cond (decide ((0 : Int) < (kids.length : Int))) (res .bool (run M k f_r22_unused [.val (.nom 0) (mkC kind kids m q)])) (some (dflt E .bool))) (fun r1 => some (⟨.bool, cond (decide ((0 : Int) < (kids.length : Int))) r1 false⟩ : Dt E)))
    (cond (decide (kind = (5 : Int))) (some (⟨.bool, decide ((kids.length : Int) = (1 : Int))⟩ : Dt E)) (some (⟨.bool, false⟩ : Dt E)))))) = _
  rw [hB, hbare, res_some, d0, d1, d0lt]
  unfold rightB
  by_cases k1 : kind = 1
  · rw [decide_eq_true k1]
    cases decide (kids.length = 0) <;> cases bareB m q <;> rfl
  rw [decide_eq_false k1]
  by_cases k2 : kind = 2
  · rw [decide_eq_true k2]
    cases decide (kids.length = 1) <;> cases bareB m q <;> rfl
  rw [decide_eq_false k2]
  by_cases k3 : kind = 3
  · rw [decide_eq_true k3]
    cases decide (0 < kids.length) <;> cases bareB m q <;> rfl
  rw [decide_eq_false k3]
  by_cases k4 : kind = 4
  · rw [decide_eq_true k4]
    cases decide (0 < kids.length) <;> cases bareB m q <;> rfl
  rw [decide_eq_false k4]
  cases decide (kind = 5) <;> rfl
theorem r22_allRight_ev : ∀ c : CD, SmallC c → csize c ≤ 1000 → ∀ k, 10 + 2000 * csize c ≤ k → run M k f_r22_allRight [.val (.nom 0) c] = some ⟨.bool, wfB c⟩ :=
  CD.ind fun kind kids m q ih hs hc k hk => by
    rw [csize_mk] at hc hk
    rw [small_mk] at hs
    have hkl := csizes_length kids
    obtain ⟨k, rfl⟩ : ∃ i, k = i + 1 := ⟨k - 1, by omega⟩
    rw [e_r22_allRight, b_r22_allRight]
    show Option.bind (res .bool (run M k f_r22_right [.val (.nom 0) (mkC kind kids m q)])) (fun r1 => cond (!r1) (some (⟨.bool, false⟩ : Dt E)) (l_r22_allRight_0 (run M k) k (0 : Int) kind kids m.1 m.2 q.1.1 q.1.2 q.2.1 q.2.2.1 q.2.2.2)) = _
    rw [r22_right_ev kind kids m q hs.1 k (by omega), res_some, bindS, wfB_mk]
    cases rightB kind kids.length (bareB m q) with
    | false => rfl
    | true =>
      simp only [Bool.not_true, cond_false, Bool.true_and]
      exact loop_down (n := kids.length) (F := fun j i => l_r22_allRight_0 (run M k) j i kind kids m.1 m.2 q.1.1 q.1.2 q.2.1 q.2.2.1 q.2.2.2) (G := fun i => some ⟨.bool, wfAll (kids.drop i)⟩)
        (fun j => by
          show s_r22_allRight_0 (run M k) _ _ kind kids m.1 m.2 q.1.1 q.1.2 q.2.1 q.2.2.1 q.2.2.2 = _
          rw [List.drop_eq_nil_of_le (Nat.le_refl _)]
          simp only [s_r22_allRight_0, Int.lt_irrefl, decide_false, cond_false]
          rfl)
        (fun i j hi ihl => by
          show s_r22_allRight_0 (run M k) _ _ kind kids m.1 m.2 q.1.1 q.1.2 q.2.1 q.2.2.1 q.2.2.2 = _
          have hmem := List.getElem_mem hi
          have hle := csize_mem hmem
          rw [List.drop_eq_getElem_cons hi, wfAll_cons]
          simp only [s_r22_allRight_0, inB_nat, hi, decide_true, Int.ofNat_lt, cond_true, rd_nat (t := .nom 0) kids i hi]
          rw [repack kids[i], ih kids[i] hmem (small_mem hs.2 _ hmem) (by omega) k (by omega), res_some, bindS, wrap_succ (by omega), ihl]
          cases wfB kids[i] <;> rfl) 0 (Nat.zero_le _) k (by omega)
mutual
def depth0 : Cond → Nat
  | .mk kind kids _ _ => (cond (decide (kind = 5)) 1 0) + depths0 0 kids
def depths0 : Nat → List Cond → Nat
  | n, [] => n
  | n, c :: r => depths0 (max n (depth0 c)) r
end
def depthC : CD → Nat := depth0
def depthL : Nat → List CD → Nat := depths0
theorem depthC_mk (kind : Int) (kids : List CD) (m : MorD) (q : PatD) : depthC (mkC kind kids m q) = (cond (decide (kind = 5)) 1 0) + depthL 0 kids := by unfold depthC depthL mkC; simp only [depth0]
theorem depthL_nil (n : Nat) : depthL n [] = n := by unfold depthL; simp only [depths0]
theorem depthL_cons (n : Nat) (c : CD) (r : List CD) : depthL n (c :: r) = depthL (max n (depthC c)) r := by unfold depthL depthC; simp only [depths0]
theorem depthL_le {l : List CD} (h : ∀ x ∈ l, depthC x ≤ csize x) : ∀ n, depthL n l ≤ max n (csizes l) := by
  induction l with
  | nil => intro n; rw [depthL_nil, csizes_nil]; omega
  | cons c r ih =>
    intro n
    rw [depthL_cons, csizes_cons]
    have := ih (fun x hx => h x (by simp [hx])) (max n (depthC c))
    have := h c (by simp)
    omega
theorem depthC_le : ∀ c : CD, depthC c ≤ csize c := CD.ind fun kind kids m q ih => by
  rw [depthC_mk, csize_mk]
  have := depthL_le ih 0
  cases decide (kind = 5) <;> simp only [cond_true, cond_false] <;> omega
theorem max_cond (a b : Nat) : cond (decide ((a : Int) < (b : Int))) (b : Int) (a : Int) = ((max a b : Nat) : Int) := by
  by_cases h : (a : Int) < (b : Int)
  · rw [decide_eq_true h]; simp only [cond_true]; omega
  · rw [decide_eq_false h]; simp only [cond_false]; omega
theorem condition_measure_ev : ∀ c : CD, csize c ≤ 1000 → ∀ k, 10 + 2000 * csize c ≤ k → run M k f_condition_measure [.val (.nom 0) c] = some ⟨tTerm, ((csize c : Int), (depthC c : Int))⟩ :=
  CD.ind fun kind kids m q ih hc k hk => by
    rw [csize_mk] at hc hk
    have hkl := csizes_length kids
    obtain ⟨k, rfl⟩ : ∃ i, k = i + 1 := ⟨k - 1, by omega⟩
    rw [e_condition_measure, b_condition_measure]
    show l_condition_measure_0 (run M k) k (1 : Int) (0 : Int) kids (kids.length : Int) (0 : Int) kind kids m.1 m.2 q.1.1 q.1.2 q.2.1 q.2.2.1 q.2.2.2 = _
    have hloop := down_any (n := kids.length) (Q := fun j i => ∀ (a d : Nat), a + csizes (kids.drop i) ≤ 1000 → d ≤ 1000 → l_condition_measure_0 (run M k) j (a : Int) (d : Int) kids (kids.length : Int) (i : Int) kind kids m.1 m.2 q.1.1 q.1.2 q.2.1 q.2.2.1 q.2.2.2 =
        some ⟨tTerm, (((a + csizes (kids.drop i) : Nat) : Int), (((cond (decide (kind = 5)) 1 0) + depthL d (kids.drop i) : Nat) : Int))⟩)
      (fun j a d ha hd => by
        show s_condition_measure_0 (run M k) _ _ _ kids _ _ kind kids m.1 m.2 q.1.1 q.1.2 q.2.1 q.2.2.1 q.2.2.2 = _
        rw [List.drop_eq_nil_of_le (Nat.le_refl _), csizes_nil, depthL_nil]
        simp only [s_condition_measure_0, Int.lt_irrefl, decide_false, cond_false, Nat.add_zero]
        by_cases h5 : kind = 5
        · rw [decide_eq_true h5, cond_true, wrap_succ (by omega), cond_true, Nat.add_comm 1 d]
        · rw [decide_eq_false h5, cond_false, cond_false, Nat.zero_add])
      (fun i j hi ihl a d ha hd => by
        show s_condition_measure_0 (run M k) _ _ _ kids _ _ kind kids m.1 m.2 q.1.1 q.1.2 q.2.1 q.2.2.1 q.2.2.2 = _
        have hmem := List.getElem_mem hi
        have hle := csize_mem hmem
        have hdl := depthC_le kids[i]
        rw [List.drop_eq_getElem_cons hi, csizes_cons] at ha ⊢
        simp only [s_condition_measure_0, inB_nat, hi, decide_true, Int.ofNat_lt, cond_true, rd_nat (t := .nom 0) kids i hi]
        rw [repack kids[i], ih kids[i] hmem (by omega) k (by omega), res_some, bindS, wrap_succ (by omega), depthL_cons]
        simp only
        rw [max_cond, wrap_id (x := (a : Int) + (csize kids[i] : Int)) (by omega) (by omega), ← Int.natCast_add, ihl (a + csize kids[i]) (max d (depthC kids[i])) (by omega) (by omega), Nat.add_assoc]) 0 (Nat.zero_le _) k (by omega) 1 0 (by rw [List.drop_zero]; omega) (by omega)
    rw [csize_mk, depthC_mk]
    exact hloop
theorem r22_Measure_ev : ∀ c : CD, csize c ≤ 1000 → ∀ k, 10 + 2000 * csize c ≤ k → run M k f_r22_Measure [.val (.nom 0) c] = some ⟨tTerm, ((csize c : Int), (depthC c : Int))⟩ :=
  CD.ind fun kind kids m q ih hc k hk => by
    rw [csize_mk] at hc hk
    have hkl := csizes_length kids
    obtain ⟨k, rfl⟩ : ∃ i, k = i + 1 := ⟨k - 1, by omega⟩
    rw [e_r22_Measure, b_r22_Measure]
    show l_r22_Measure_0 (run M k) k (1 : Int) (0 : Int) (0 : Int) kind kids m.1 m.2 q.1.1 q.1.2 q.2.1 q.2.2.1 q.2.2.2 = _
    have hloop := down_any (n := kids.length) (Q := fun j i => ∀ (a d : Nat), a + csizes (kids.drop i) ≤ 1000 → d ≤ 1000 → l_r22_Measure_0 (run M k) j (a : Int) (d : Int) (i : Int) kind kids m.1 m.2 q.1.1 q.1.2 q.2.1 q.2.2.1 q.2.2.2 =
        some ⟨tTerm, (((a + csizes (kids.drop i) : Nat) : Int), (((cond (decide (kind = 5)) 1 0) + depthL d (kids.drop i) : Nat) : Int))⟩)
      (fun j a d ha hd => by
        show s_r22_Measure_0 (run M k) _ _ _ _ kind kids m.1 m.2 q.1.1 q.1.2 q.2.1 q.2.2.1 q.2.2.2 = _
        rw [List.drop_eq_nil_of_le (Nat.le_refl _), csizes_nil, depthL_nil]
        simp only [s_r22_Measure_0, Int.lt_irrefl, decide_false, cond_false, Nat.add_zero]
        by_cases h5 : kind = 5
        · rw [decide_eq_true h5, cond_true, wrap_succ (by omega), cond_true, Nat.add_comm 1 d]
        · rw [decide_eq_false h5, cond_false, cond_false, Nat.zero_add])
      (fun i j hi ihl a d ha hd => by
        show s_r22_Measure_0 (run M k) _ _ _ _ kind kids m.1 m.2 q.1.1 q.1.2 q.2.1 q.2.2.1 q.2.2.2 = _
        have hmem := List.getElem_mem hi
        have hle := csize_mem hmem
        have hdl := depthC_le kids[i]
        rw [List.drop_eq_getElem_cons hi, csizes_cons] at ha ⊢
        simp only [s_r22_Measure_0, inB_nat, hi, decide_true, Int.ofNat_lt, cond_true, rd_nat (t := .nom 0) kids i hi]
        rw [repack kids[i], ih kids[i] hmem (by omega) k (by omega), res_some, bindS, wrap_succ (by omega), depthL_cons]
        simp only
        rw [max_cond, wrap_id (x := (a : Int) + (csize kids[i] : Int)) (by omega) (by omega), ← Int.natCast_add, ihl (a + csize kids[i]) (max d (depthC kids[i])) (by omega) (by omega), Nat.add_assoc]) 0 (Nat.zero_le _) k (by omega) 1 0 (by rw [List.drop_zero]; omega) (by omega)
    rw [csize_mk, depthC_mk]
    exact hloop
def shapeCE (c : CD) : Int := cond (!wfB c) 1 (cond (cond (decide ((12 : Int) < (csize c : Int))) true (decide ((3 : Int) < (depthC c : Int)))) 3 0)
theorem condition_shape_ev (c : CD) (hs : SmallC c) (hc : csize c ≤ 1000) : ∀ k, 20 + 2000 * csize c ≤ k → run M k f_condition_shape [.val (.nom 0) c] = some ⟨tI, shapeCE c⟩ := by
  intro k hk
  obtain ⟨k, rfl⟩ : ∃ i, k = i + 1 := ⟨k - 1, by omega⟩
  rw [e_condition_shape, b_condition_shape, repack c, condition_wellFormed_ev c hs hc k (by omega), res_some, bindS]
  unfold shapeCE
  cases wfB c with
  | false => rfl
  | true =>
    simp only [Bool.not_true, cond_false]
    rw [condition_measure_ev c hc k (by omega), res_some, bindS]
    simp only
    cases (cond (decide ((12 : Int) < (csize c : Int))) true (decide ((3 : Int) < (depthC c : Int)))) <;> rfl
theorem r22_Shape_ev (c : CD) (hs : SmallC c) (hc : csize c ≤ 1000) : ∀ k, 20 + 2000 * csize c ≤ k → run M k f_r22_Shape [.val (.nom 0) c] = some ⟨tI, shapeCE c⟩ := by
  intro k hk
  obtain ⟨k, rfl⟩ : ∃ i, k = i + 1 := ⟨k - 1, by omega⟩
  rw [e_r22_Shape, b_r22_Shape, repack c, r22_allRight_ev c hs hc k (by omega), res_some, bindS]
  unfold shapeCE
  cases wfB c with
  | false => rfl
  | true =>
    simp only [Bool.not_true, cond_false]
    rw [r22_Measure_ev c hc k (by omega), res_some, bindS]
    simp only
    cases (cond (decide ((12 : Int) < (csize c : Int))) true (decide ((3 : Int) < (depthC c : Int)))) <;> rfl
mutual
noncomputable def over0 (t : TypesD) : Cond → PatD → Int
  | .mk kind kids m q, p => cond (decide (kind = 5)) (cond (!(decide (innerE t p.2.2.1 q = 0))) (innerE t p.2.2.1 q) (cond (!(decide (morE p.1 q.1 m = 0))) (morE p.1 q.1 m) (cond (!injB p.1 q.1 m) 1 (overs0 t kids q)))) (overs0 t kids p)
noncomputable def overs0 (t : TypesD) : List Cond → PatD → Int
  | [], _ => 0
  | c :: r, p => cond (!(decide (over0 t c p = 0))) (over0 t c p) (overs0 t r p)
end
noncomputable def overE (t : TypesD) : CD → PatD → Int := over0 t
noncomputable def overL (t : TypesD) : List CD → PatD → Int := overs0 t
theorem overE_mk (t : TypesD) (kind : Int) (kids : List CD) (m : MorD) (q p : PatD) : overE t (mkC kind kids m q) p =
    cond (decide (kind = 5)) (cond (!(decide (innerE t p.2.2.1 q = 0))) (innerE t p.2.2.1 q) (cond (!(decide (morE p.1 q.1 m = 0))) (morE p.1 q.1 m) (cond (!injB p.1 q.1 m) 1 (overL t kids q)))) (overL t kids p) := by unfold overE overL mkC; simp only [over0]
theorem overL_nil (t : TypesD) (p : PatD) : overL t [] p = 0 := by unfold overL; simp only [overs0]
theorem overL_cons (t : TypesD) (c : CD) (r : List CD) (p : PatD) : overL t (c :: r) p = cond (!(decide (overE t c p = 0))) (overE t c p) (overL t r p) := by unfold overL overE; simp only [overs0]
theorem condition_inside_ev (t : TypesD) (ht : SmallT t) : ∀ c : CD, csize c ≤ 1000 → ∀ p : PatD, 0 ≤ p.2.2.1 → ∀ k, 6000 + 2000 * csize c ≤ k → run M k f_condition_inside [.val tTypes t, .val tPattern p, .val (.nom 0) c] = some ⟨tI, overE t c p⟩ :=
  CD.ind fun kind kids m q ih hc p hp k hk => by
    rw [csize_mk] at hc hk
    have hkl := csizes_length kids
    obtain ⟨k, rfl⟩ : ∃ i, k = i + 1 := ⟨k - 1, by omega⟩
    have hloop : ∀ p : PatD, 0 ≤ p.2.2.1 → l_condition_inside_0 (run M k) k kids (kids.length : Int) (0 : Int) t.1 t.2 p.1.1 p.1.2 p.2.1 p.2.2.1 p.2.2.2 = some ⟨tI, overL t kids p⟩ := fun p hp =>
      loop_down (n := kids.length) (F := fun j i => l_condition_inside_0 (run M k) j kids (kids.length : Int) i t.1 t.2 p.1.1 p.1.2 p.2.1 p.2.2.1 p.2.2.2) (G := fun i => some ⟨tI, overL t (kids.drop i) p⟩)
        (fun j => by
          show s_condition_inside_0 (run M k) _ kids _ _ t.1 t.2 p.1.1 p.1.2 p.2.1 p.2.2.1 p.2.2.2 = _
          rw [List.drop_eq_nil_of_le (Nat.le_refl _), overL_nil]
          simp only [s_condition_inside_0, Int.lt_irrefl, decide_false, cond_false])
        (fun i j hi ihl => by
          show s_condition_inside_0 (run M k) _ kids _ _ t.1 t.2 p.1.1 p.1.2 p.2.1 p.2.2.1 p.2.2.2 = _
          have hmem := List.getElem_mem hi
          have hle := csize_mem hmem
          rw [List.drop_eq_getElem_cons hi, overL_cons]
          simp only [s_condition_inside_0, inB_nat, hi, decide_true, Int.ofNat_lt, cond_true, rd_nat (t := .nom 0) kids i hi]
          rw [repack kids[i]]
          show Option.bind (res tI (run M k f_condition_inside [.val tTypes t, .val tPattern p, .val (.nom 0) kids[i]])) _ = _
          rw [ih kids[i] hmem (by omega) p hp k (by omega), res_some, bindS, wrap_succ (by omega), ihl]
          cases decide (overE t kids[i] p = 0) <;> rfl) 0 (Nat.zero_le _) k (by omega)
    rw [e_condition_inside, b_condition_inside]
    show cond (decide (kind = (5 : Int))) (cond (decide (q.2.2.1 < p.2.2.1)) (some (⟨tI, (20 : Int)⟩ : Dt E)) (Option.bind (res tI (run M k f_condition_pattern [.val tTypes t, .val tPattern q, .val tI p.2.2.1])) (fun r1 => cond (!(decide (r1 = (0 : Int)))) (some (⟨tI, r1⟩ : Dt E)) (Option.bind (res tI (run M k f_morphism_Valid [.val tGraph p.1, .val tGraph q.1, .val tMorphism m])) (fun r2 => cond (!(decide (r2 = (0 : Int)))) (some (⟨tI, r2⟩ : Dt E)) (Option.bind (res .bool (run M k f_morphism_Injective [.val tGraph p.1, .val tGraph q.1, .val tMorphism m])) (fun r3 => cond (!r3) (some (⟨tI, (1 : Int)⟩ : Dt E)) (l_condition_inside_0 (run M k) k kids (kids.length : Int) (0 : Int) t.1 t.2 q.1.1 q.1.2 q.2.1 q.2.2.1 q.2.2.2)))))))) (l_condition_inside_0 (run M k) k kids (kids.length : Int) (0 : Int) t.1 t.2 p.1.1 p.1.2 p.2.1 p.2.2.1 p.2.2.2) = _
    rw [overE_mk]
    by_cases h5 : kind = 5
    case neg => rw [decide_eq_false h5, cond_false, cond_false]; exact hloop p hp
    rw [decide_eq_true h5, cond_true, cond_true]
    by_cases hlt : q.2.2.1 < p.2.2.1
    · rw [decide_eq_true hlt, cond_true]
      unfold innerE
      rw [decide_eq_true hlt]; rfl
    rw [decide_eq_false hlt, cond_false, condition_pattern_ev t ht q _ hp (by omega) k (by omega), res_some, bindS]
    by_cases hi : innerE t p.2.2.1 q = 0
    case neg => rw [decide_eq_false hi]; rfl
    have hq0 := (innerE_ok hi).1.vars0
    rw [decide_eq_true hi]
    simp only [Bool.not_true, cond_false]
    rw [morphism_Valid_ev _ _ _ k (by omega), res_some, bindS]
    by_cases hm : morE p.1 q.1 m = 0
    case neg => rw [decide_eq_false hm]; rfl
    rw [decide_eq_true hm]
    simp only [Bool.not_true, cond_false]
    rw [morphism_Injective_ev _ _ _ k (by omega), res_some, bindS, hloop q hq0]
    cases injB p.1 q.1 m <;> rfl
theorem r22_over_ev (t : TypesD) (ht : SmallT t) : ∀ c : CD, csize c ≤ 1000 → ∀ p : PatD, 0 ≤ p.2.2.1 → ∀ k, 6000 + 2000 * csize c ≤ k → run M k f_r22_over [.val tTypes t, .val tPattern p, .val (.nom 0) c] = some ⟨tI, overE t c p⟩ :=
  CD.ind fun kind kids m q ih hc p hp k hk => by
    rw [csize_mk] at hc hk
    have hkl := csizes_length kids
    obtain ⟨k, rfl⟩ : ∃ i, k = i + 1 := ⟨k - 1, by omega⟩
    have hloop : ∀ p : PatD, 0 ≤ p.2.2.1 → l_r22_over_0 (run M k) k (0 : Int) t.1 t.2 kind kids m.1 m.2 q.1.1 q.1.2 q.2.1 q.2.2.1 q.2.2.2 p.1.1 p.1.2 p.2.1 p.2.2.1 p.2.2.2 = some ⟨tI, overL t kids p⟩ := fun p hp =>
      loop_down (n := kids.length) (F := fun j i => l_r22_over_0 (run M k) j i t.1 t.2 kind kids m.1 m.2 q.1.1 q.1.2 q.2.1 q.2.2.1 q.2.2.2 p.1.1 p.1.2 p.2.1 p.2.2.1 p.2.2.2) (G := fun i => some ⟨tI, overL t (kids.drop i) p⟩)
        (fun j => by
          show s_r22_over_0 (run M k) _ _ t.1 t.2 kind kids m.1 m.2 q.1.1 q.1.2 q.2.1 q.2.2.1 q.2.2.2 p.1.1 p.1.2 p.2.1 p.2.2.1 p.2.2.2 = _
          rw [List.drop_eq_nil_of_le (Nat.le_refl _), overL_nil]
          simp only [s_r22_over_0, Int.lt_irrefl, decide_false, cond_false])
        (fun i j hi ihl => by
          show s_r22_over_0 (run M k) _ _ t.1 t.2 kind kids m.1 m.2 q.1.1 q.1.2 q.2.1 q.2.2.1 q.2.2.2 p.1.1 p.1.2 p.2.1 p.2.2.1 p.2.2.2 = _
          have hmem := List.getElem_mem hi
          have hle := csize_mem hmem
          rw [List.drop_eq_getElem_cons hi, overL_cons]
          simp only [s_r22_over_0, inB_nat, hi, decide_true, Int.ofNat_lt, cond_true, rd_nat (t := .nom 0) kids i hi]
          rw [repack kids[i]]
          show Option.bind (res tI (run M k f_r22_over [.val tTypes t, .val tPattern p, .val (.nom 0) kids[i]])) _ = _
          rw [ih kids[i] hmem (by omega) p hp k (by omega), res_some, bindS, wrap_succ (by omega), ihl]
          cases decide (overE t kids[i] p = 0) <;> rfl) 0 (Nat.zero_le _) k (by omega)
    rw [e_r22_over, b_r22_over]
    show cond (decide (kind = (5 : Int))) (Option.bind (res tI (run M k f_r22_inner [.val tTypes t, .val tI p.2.2.1, .val tPattern q])) (fun r1 => cond (!(decide (r1 = (0 : Int)))) (some (⟨tI, r1⟩ : Dt E)) (Option.bind (res tI (run M k f_r06_Valid [.val tGraph p.1, .val tGraph q.1, .val tMorphism m])) (fun r2 => cond (!(decide (r2 = (0 : Int)))) (some (⟨tI, r2⟩ : Dt E)) (Option.bind (res .bool (run M k f_r06_Injective [.val tGraph p.1, .val tGraph q.1, .val tMorphism m])) (fun r3 => cond (!r3) (some (⟨tI, (1 : Int)⟩ : Dt E)) (l_r22_over_0 (run M k) k (0 : Int) t.1 t.2 kind kids m.1 m.2 q.1.1 q.1.2 q.2.1 q.2.2.1 q.2.2.2 q.1.1 q.1.2 q.2.1 q.2.2.1 q.2.2.2))))))) (l_r22_over_0 (run M k) k (0 : Int) t.1 t.2 kind kids m.1 m.2 q.1.1 q.1.2 q.2.1 q.2.2.1 q.2.2.2 p.1.1 p.1.2 p.2.1 p.2.2.1 p.2.2.2) = _
    rw [overE_mk]
    by_cases h5 : kind = 5
    case neg => rw [decide_eq_false h5, cond_false, cond_false]; exact hloop p hp
    rw [decide_eq_true h5, cond_true, cond_true, r22_inner_ev t ht q _ hp k (by omega), res_some, bindS]
    by_cases hi : innerE t p.2.2.1 q = 0
    case neg => rw [decide_eq_false hi]; rfl
    have hq0 := (innerE_ok hi).1.vars0
    rw [decide_eq_true hi]
    simp only [Bool.not_true, cond_false]
    rw [r06_Valid_ev _ _ _ k (by omega), res_some, bindS]
    by_cases hm : morE p.1 q.1 m = 0
    case neg => rw [decide_eq_false hm]; rfl
    rw [decide_eq_true hm]
    simp only [Bool.not_true, cond_false]
    rw [r06_Injective_ev _ _ _ k (by omega), res_some, bindS, hloop q hq0]
    cases injB p.1 q.1 m <;> rfl
noncomputable def condE (t : TypesD) (p : PatD) (c : CD) : Int := cond (!(decide (patE t p = 0))) (patE t p) (cond (!(decide (shapeCE c = 0))) (shapeCE c) (overE t c p))
theorem condition_Valid_ev (t : TypesD) (ht : SmallT t) (p : PatD) (c : CD) (hs : SmallC c) (hc : csize c ≤ 1000) : ∀ k, 6010 + 2000 * csize c ≤ k → run M k f_condition_Valid [.val tTypes t, .val tPattern p, .val (.nom 0) c] = some ⟨tI, condE t p c⟩ := by
  intro k hk
  obtain ⟨k, rfl⟩ : ∃ i, k = i + 1 := ⟨k - 1, by omega⟩
  rw [e_condition_Valid, b_condition_Valid, repack c]
  show Option.bind (res tI (run M k f_attribute_Valid [.val tTypes t, .val tPattern p])) (fun r1 => cond (!(decide (r1 = (0 : Int)))) (some (⟨tI, r1⟩ : Dt E)) (Option.bind (res tI (run M k f_condition_shape [.val (.nom 0) c])) (fun r2 => cond (!(decide (r2 = (0 : Int)))) (some (⟨tI, r2⟩ : Dt E)) (Option.bind (res tI (run M k f_condition_inside [.val tTypes t, .val tPattern p, .val (.nom 0) c])) (fun r3 => some (⟨tI, r3⟩ : Dt E)))))) = _
  rw [attribute_Valid_ev t ht p k (by omega), res_some, bindS]
  unfold condE
  by_cases hp : patE t p = 0
  case neg => rw [decide_eq_false hp]; rfl
  rw [decide_eq_true hp]
  simp only [Bool.not_true, cond_false]
  rw [condition_shape_ev c hs hc k (by omega), res_some, bindS]
  by_cases hsh : shapeCE c = 0
  case neg => rw [decide_eq_false hsh]; rfl
  rw [decide_eq_true hsh]
  simp only [Bool.not_true, cond_false]
  rw [condition_inside_ev t ht c hc p (patE_ok (.inr hp)).vars0 k (by omega), res_some, bindS]
theorem r22_Valid_ev (t : TypesD) (ht : SmallT t) (p : PatD) (c : CD) (hs : SmallC c) (hc : csize c ≤ 1000) : ∀ k, 6010 + 2000 * csize c ≤ k → run M k f_r22_Valid [.val tTypes t, .val tPattern p, .val (.nom 0) c] = some ⟨tI, condE t p c⟩ := by
  intro k hk
  obtain ⟨k, rfl⟩ : ∃ i, k = i + 1 := ⟨k - 1, by omega⟩
  rw [e_r22_Valid, b_r22_Valid, repack c]
  show Option.bind (res tI (run M k f_r21_Valid [.val tTypes t, .val tPattern p])) (fun r1 => cond (!(decide (r1 = (0 : Int)))) (some (⟨tI, r1⟩ : Dt E)) (Option.bind (res tI (run M k f_r22_Shape [.val (.nom 0) c])) (fun r2 => cond (!(decide (r2 = (0 : Int)))) (some (⟨tI, r2⟩ : Dt E)) (Option.bind (res tI (run M k f_r22_over [.val tTypes t, .val tPattern p, .val (.nom 0) c])) (fun r3 => some (⟨tI, r3⟩ : Dt E)))))) = _
  rw [r21_Valid_ev t ht p k (by omega), res_some, bindS]
  unfold condE
  by_cases hp : patE t p = 0
  case neg => rw [decide_eq_false hp]; rfl
  rw [decide_eq_true hp]
  simp only [Bool.not_true, cond_false]
  rw [r22_Shape_ev c hs hc k (by omega), res_some, bindS]
  by_cases hsh : shapeCE c = 0
  case neg => rw [decide_eq_false hsh]; rfl
  rw [decide_eq_true hsh]
  simp only [Bool.not_true, cond_false]
  rw [r22_over_ev t ht c hc p (patE_ok (.inr hp)).vars0 k (by omega), res_some, bindS]
end Go.Proofs.AM

namespace Go.Proofs.AM
open Go
theorem good_big : ∀ c : CD, Good E (.nom 0) c → BigOk c :=
  CD.ind fun kind kids m q ih h => by
    have h : Good E (.nom 0) (mkC kind kids m q) := h
    cases h with
    | nom h1 =>
      have h1 : Good E (.pair tI (.pair (.slice (.nom 0)) (.pair tMorphism tPattern))) (kind, kids, m, q) := h1
      cases h1 with
      | pair _ h2 =>
        cases h2 with
        | pair hk h3 =>
          cases h3 with
          | pair hm _ =>
            refine big_mk.2 ⟨?_, ?_⟩
            · obtain ⟨ma, mb⟩ := m
              cases hm with
              | pair ha hb =>
                cases ha with
                | slice la _ =>
                  cases hb with
                  | slice lb _ => exact ⟨la, lb⟩
            · cases hk with
              | slice _ hk =>
                clear h
                have key : ∀ l : List CD, (∀ x ∈ l, BigOk x) → BigOks l := by
                  intro l
                  induction l with
                  | nil => intro _; exact trivial
                  | cons c r ih => intro hl; exact bigs_cons.2 ⟨hl c (by simp), ih fun x hx => hl x (by simp [hx])⟩
                refine key kids fun x hx => ?_
                obtain ⟨i, hi, rfl⟩ := List.getElem_of_mem hx
                exact ih _ hx (hk i hi)
theorem good_types {t : TypesD} (h : Good E tTypes t) : ∀ n ∈ t.1, n.2.2.2.length ≤ reachBytes := by
  have h : Good E (.pair (.slice tNodeType) (.slice tEdgeType)) t := h
  cases h with
  | pair g1 g2 =>
    rename_i ns es
    cases g1 with
    | slice hl hn =>
      intro n hn'
      obtain ⟨i, hi, rfl⟩ := List.getElem_of_mem hn'
      have := hn i hi
      generalize ns[i] = z at this
      cases this with
      | pair _ q1 =>
        cases q1 with
        | pair _ q2 =>
          cases q2 with
          | pair _ q3 =>
            cases q3 with
            | slice hl2 _ => exact hl2
theorem valid22_data (t : TypesD) (p : PatD) (c : CD) (hs : ∀ n ∈ t.1, n.2.2.2.length ≤ reachBytes) (hb : BigOk c) : run M 100001 f_w22_ConditionValid [.val tTypes t, .val tOver (p, c)] = some ⟨.bool, true⟩ := by
  rw [e_w22_ConditionValid, b_w22_ConditionValid, awake22 (by omega), res_some, bindS]
  simp only [Bool.not_true, Bool.not_false, cond_true, cond_false]
  show Option.bind (res .bool (run M 100000 f_r04_Few [.val tTypes t])) _ = _
  rw [r04_Few_ev t hs 100000 (by omega), res_some, bindS]
  cases hT : fewT t with
  | false => rfl
  | true =>
    simp only [Bool.not_true, Bool.not_false, cond_true, cond_false]
    rw [repack c, r22_Few_ev c 100000 (by omega), res_some, bindS]
    by_cases hC : (0 : Int) ≤ leftI c 40
    case neg => rw [decide_eq_false hC]; rfl
    rw [decide_eq_true hC]
    simp only [Bool.not_true, Bool.not_false, cond_true, cond_false]
    show Option.bind (res .bool (run M 100000 f_r21_Few [.val tPattern p])) _ = _
    rw [r21_Few_ev p 100000 (by omega), res_some, bindS]
    cases few21 p with
    | false => rfl
    | true =>
      have hst := fewT_small hT
      obtain ⟨h1, h2⟩ := leftI_size c hb 40 (by omega) hC
      have h3 : csize c ≤ 40 := by omega
      simp only [Bool.not_true, cond_false]
      show Option.bind (res tI (run M 100000 f_condition_Valid [.val tTypes t, .val tPattern p, .val (.nom 0) c])) _ = _
      rw [condition_Valid_ev t hst p c h1 (by omega) 100000 (by omega), res_some, bindS]
      show Option.bind (res tI (run M 100000 f_r22_Valid [.val tTypes t, .val tPattern p, .val (.nom 0) c])) _ = _
      rw [r22_Valid_ev t hst p c h1 (by omega) 100000 (by omega), res_some, bindS]
      simp only [decide_true]
end Go.Proofs.AM
