/- Helpers of this claim: an abstract machine over the model, proved sound; what it computes. Part 10. -/
import Derived.Test.YtblkffncllmpnaaGreatDoorAm6
import Derived.Test.YtblkffncllmpnaaGreatDoorAm3
import Derived.IntWalk
import Derived.Test.YtblkffncllmpnaaGreatDoorAm7
import Derived.Test.YtblkffncllmpnaaGreatDoorAm8
namespace Go.Proofs.AM
open Go
theorem res_some (t : Ty) (x : D t) : res (E := E) t (some ⟨t, x⟩) = some x := by simp [res, castD]
theorem dflt_bool : dflt E .bool = false := rfl
theorem bindS {α β : Type} (x : α) (f : α → Option β) : Option.bind (some x) f = f x := rfl
theorem loop_down {ρ : Type} {n : Nat} {F : Nat → Int → ρ} {G : Nat → ρ} (hend : ∀ j, F (j + 1) n = G n) (hstep : ∀ m j, m < n → F j ((m + 1 : Nat) : Int) = G (m + 1) → F (j + 1) (m : Int) = G m) :
    ∀ m, m ≤ n → ∀ j, n - m < j → F j (m : Int) = G m := by
  intro m hm
  induction h : n - m generalizing m with
  | zero =>
    intro j hj
    have : m = n := by omega
    subst this
    obtain ⟨i, rfl⟩ : ∃ i, j = i + 1 := ⟨j - 1, by omega⟩
    exact hend i
  | succ d ih =>
    intro j hj
    obtain ⟨i, rfl⟩ : ∃ i, j = i + 1 := ⟨j - 1, by omega⟩
    exact hstep m i (by omega) (ih (m + 1) (by omega) (by omega) i (by omega))
theorem loop_down' {ρ : Type} {n : Nat} (c : Nat) {F : Nat → Int → ρ} {G : Nat → ρ} (hend : ∀ j, c ≤ j → F (j + 1) n = G n) (hstep : ∀ m j, m < n → c ≤ j → F j ((m + 1 : Nat) : Int) = G (m + 1) → F (j + 1) (m : Int) = G m) :
    ∀ m, m ≤ n → ∀ j, c + (n - m) < j → F j (m : Int) = G m := by
  intro m hm
  induction h : n - m generalizing m with
  | zero =>
    intro j hj
    have : m = n := by omega
    subst this
    obtain ⟨i, rfl⟩ : ∃ i, j = i + 1 := ⟨j - 1, by omega⟩
    exact hend i (by omega)
  | succ d ih =>
    intro j hj
    obtain ⟨i, rfl⟩ : ∃ i, j = i + 1 := ⟨j - 1, by omega⟩
    exact hstep m i (by omega) (by omega) (ih (m + 1) (by omega) (by omega) i (by omega))
theorem wrap_id {x : Int} (h0 : -9223372036854775808 ≤ x) (h1 : x ≤ 9223372036854775807) : IntKind.i64.wrap x = x := by
  rw [IntKind.wrap_i64]; omega
theorem wrap_succ {m : Nat} (h : m < 9223372036854775807) : IntKind.i64.wrap ((m : Int) + 1) = ((m + 1 : Nat) : Int) := by
  rw [wrap_id (by omega) (by omega)]; simp
theorem inB_nat (m n : Nat) : inB (m : Int) (n : Int) = decide (m < n) := by
  simp [inB]
theorem rd_nat {t : Ty} (xs : List (D t)) (m : Nat) (h : m < xs.length) : rd (E := E) (t := t) xs (m : Int) = xs[m] := by
  simp [rd, h]
def by_ (s : ByteArray) : List Int := s.data.toList.map fun u => (u.toNat : Int)
theorem by_length (s : ByteArray) : (by_ s).length = s.size := by unfold by_; rw [List.length_map, Array.length_toList]; rfl
theorem bt_nat (s : ByteArray) (m : Nat) (h : m < (by_ s).length) : bt s (m : Int) = (by_ s)[m] := by
  have h' : m < s.data.toList.length := by unfold by_ at h; rw [List.length_map] at h; exact h
  unfold bt
  rw [Int.toNat_natCast, List.getD_eq_getElem?_getD, List.getElem?_eq_getElem h']
  simp only [by_, List.getElem_map, Option.getD_some]
theorem by_range {s : ByteArray} {x : Int} (h : x ∈ by_ s) : 0 ≤ x ∧ x ≤ 255 := by
  simp only [by_, List.mem_map] at h
  obtain ⟨u, _, rfl⟩ := h
  have := u.toNat_lt
  omega
theorem beqS_iff (a b : ByteArray) : beqS a b = decide (by_ a = by_ b) := by
  have hinj : ∀ l m : List UInt8, l.map (fun u => (u.toNat : Int)) = m.map (fun u => (u.toNat : Int)) → l = m := by
    intro l
    induction l with
    | nil => intro m h; cases m with
      | nil => rfl
      | cons _ _ => simp at h
    | cons x l ih => intro m h; cases m with
      | nil => simp at h
      | cons y m =>
        simp only [List.map_cons, List.cons.injEq] at h
        have : x = y := UInt8.toNat_inj.1 (by have := h.1; omega)
        rw [this, ih m h.2]
  unfold beqS by_
  by_cases h : a.data.toList = b.data.toList
  · simp [h]
  · rw [beq_eq_false_iff_ne.2 h, decide_eq_false (fun e => h (hinj _ _ e))]
def lead {α : Type} (p : α → Bool) : List α → Nat
  | [] => 0
  | x :: r => cond (p x) (lead p r + 1) 0
theorem lead_le {α : Type} (p : α → Bool) : ∀ l, lead p l ≤ l.length
  | [] => Nat.le_refl _
  | x :: r => by
    unfold lead
    have := lead_le p r
    cases p x <;> simp <;> omega
def idx {α : Type} (p : α → Bool) : Nat → List α → Int
  | _, [] => -1
  | m, x :: r => cond (p x) (m : Int) (idx p (m + 1) r)
theorem idx_nonneg {α : Type} (p : α → Bool) : ∀ (m : Nat) (l : List α), decide (0 ≤ idx p m l) = l.any p
  | _, [] => rfl
  | m, x :: r => by
    unfold idx
    rw [List.any_cons]
    cases p x with
    | true => simp
    | false => simpa using idx_nonneg p (m + 1) r
theorem reach_lt : reachBytes < 9223372036854775807 := by decide
theorem down_any {n : Nat} {Q : Nat → Nat → Prop} (hend : ∀ j, Q (j + 1) n) (hstep : ∀ m j, m < n → Q j (m + 1) → Q (j + 1) m) : ∀ m, m ≤ n → ∀ j, n - m < j → Q j m := by
  intro m hm
  induction h : n - m generalizing m with
  | zero =>
    intro j hj
    have : m = n := by omega
    subst this
    obtain ⟨i, rfl⟩ : ∃ i, j = i + 1 := ⟨j - 1, by omega⟩
    exact hend i
  | succ d ih =>
    intro j hj
    obtain ⟨i, rfl⟩ : ∃ i, j = i + 1 := ⟨j - 1, by omega⟩
    exact hstep m i (by omega) (ih (m + 1) (by omega) (by omega) i (by omega))
end Go.Proofs.AM

namespace Go.Proofs.AM
open Go
theorem IndexFunc_Edge_ev {xs : List (D tEdge)} {f : FuncId} {caps : List (Dt E)} {p : D tEdge → Bool} {c : Nat} (hf : ∀ x ∈ xs, ∀ k, c ≤ k → run M k f ([.val tEdge x] ++ capArgs caps) = some ⟨.bool, p x⟩) (hs : xs.length ≤ reachBytes) :
    ∀ k, c + xs.length + 2 ≤ k → run M k f_slices_IndexFunc_Edge [.val (.slice tEdge) xs, .fn f caps] = some ⟨tI, idx p 0 xs⟩ := by
  intro k hk
  obtain ⟨k, rfl⟩ : ∃ i, k = i + 1 := ⟨k - 1, by omega⟩
  rw [e_slices_IndexFunc_Edge, b_slices_IndexFunc_Edge]
  have hr := reach_lt
  exact loop_down (n := xs.length) (F := fun j i => l_slices_IndexFunc_Edge_0 (run M k) j xs f caps xs.length i) (G := fun m => some ⟨tI, idx p m (xs.drop m)⟩)
    (fun j => by
      show s_slices_IndexFunc_Edge_0 (run M k) _ xs f caps _ _ = _
      rw [List.drop_eq_nil_of_le (Nat.le_refl _)]
      simp [s_slices_IndexFunc_Edge_0, idx])
    (fun m j hm ih => by
      show s_slices_IndexFunc_Edge_0 (run M k) _ xs f caps _ _ = _
      have hx := hf _ (List.getElem_mem hm) k (by omega)
      rw [List.drop_eq_getElem_cons hm]
      simp only [s_slices_IndexFunc_Edge_0, inB_nat, rd_nat xs m hm, hm, decide_true, Int.ofNat_lt, cond_true]
      rw [hx, res_some, bindS]
      simp only [idx]
      cases p xs[m] with
      | true => rfl
      | false =>
        simp only [cond_false]
        rw [wrap_succ (by omega)]
        exact ih) 0 (Nat.zero_le _) k (by omega)
theorem ContainsFunc_Edge_ev {xs : List (D tEdge)} {f : FuncId} {caps : List (Dt E)} {p : D tEdge → Bool} {c : Nat} (hf : ∀ x ∈ xs, ∀ k, c ≤ k → run M k f ([.val tEdge x] ++ capArgs caps) = some ⟨.bool, p x⟩) (hs : xs.length ≤ reachBytes) :
    ∀ k, c + xs.length + 3 ≤ k → run M k f_slices_ContainsFunc_Edge [.val (.slice tEdge) xs, .fn f caps] = some ⟨.bool, xs.any p⟩ := by
  intro k hk
  obtain ⟨k, rfl⟩ : ∃ i, k = i + 1 := ⟨k - 1, by omega⟩
  rw [e_slices_ContainsFunc_Edge, b_slices_ContainsFunc_Edge, IndexFunc_Edge_ev hf hs k (by omega), res_some, bindS, idx_nonneg]
theorem IndexFunc_Extension_ev {xs : List (D tExtension)} {f : FuncId} {caps : List (Dt E)} {p : D tExtension → Bool} {c : Nat} (hf : ∀ x ∈ xs, ∀ k, c ≤ k → run M k f ([.val tExtension x] ++ capArgs caps) = some ⟨.bool, p x⟩) (hs : xs.length ≤ reachBytes) :
    ∀ k, c + xs.length + 2 ≤ k → run M k f_slices_IndexFunc_Extension [.val (.slice tExtension) xs, .fn f caps] = some ⟨tI, idx p 0 xs⟩ := by
  intro k hk
  obtain ⟨k, rfl⟩ : ∃ i, k = i + 1 := ⟨k - 1, by omega⟩
  rw [e_slices_IndexFunc_Extension, b_slices_IndexFunc_Extension]
  have hr := reach_lt
  exact loop_down (n := xs.length) (F := fun j i => l_slices_IndexFunc_Extension_0 (run M k) j xs f caps xs.length i) (G := fun m => some ⟨tI, idx p m (xs.drop m)⟩)
    (fun j => by
      show s_slices_IndexFunc_Extension_0 (run M k) _ xs f caps _ _ = _
      rw [List.drop_eq_nil_of_le (Nat.le_refl _)]
      simp [s_slices_IndexFunc_Extension_0, idx])
    (fun m j hm ih => by
      show s_slices_IndexFunc_Extension_0 (run M k) _ xs f caps _ _ = _
      have hx := hf _ (List.getElem_mem hm) k (by omega)
      rw [List.drop_eq_getElem_cons hm]
      simp only [s_slices_IndexFunc_Extension_0, inB_nat, rd_nat xs m hm, hm, decide_true, Int.ofNat_lt, cond_true]
      rw [hx, res_some, bindS]
      simp only [idx]
      cases p xs[m] with
      | true => rfl
      | false =>
        simp only [cond_false]
        rw [wrap_succ (by omega)]
        exact ih) 0 (Nat.zero_le _) k (by omega)
theorem ContainsFunc_Extension_ev {xs : List (D tExtension)} {f : FuncId} {caps : List (Dt E)} {p : D tExtension → Bool} {c : Nat} (hf : ∀ x ∈ xs, ∀ k, c ≤ k → run M k f ([.val tExtension x] ++ capArgs caps) = some ⟨.bool, p x⟩) (hs : xs.length ≤ reachBytes) :
    ∀ k, c + xs.length + 3 ≤ k → run M k f_slices_ContainsFunc_Extension [.val (.slice tExtension) xs, .fn f caps] = some ⟨.bool, xs.any p⟩ := by
  intro k hk
  obtain ⟨k, rfl⟩ : ∃ i, k = i + 1 := ⟨k - 1, by omega⟩
  rw [e_slices_ContainsFunc_Extension, b_slices_ContainsFunc_Extension, IndexFunc_Extension_ev hf hs k (by omega), res_some, bindS, idx_nonneg]
theorem IndexFunc_int_ev {xs : List (D tI)} {f : FuncId} {caps : List (Dt E)} {p : D tI → Bool} {c : Nat} (hf : ∀ x ∈ xs, ∀ k, c ≤ k → run M k f ([.val tI x] ++ capArgs caps) = some ⟨.bool, p x⟩) (hs : xs.length ≤ reachBytes) :
    ∀ k, c + xs.length + 2 ≤ k → run M k f_slices_IndexFunc_int [.val (.slice tI) xs, .fn f caps] = some ⟨tI, idx p 0 xs⟩ := by
  intro k hk
  obtain ⟨k, rfl⟩ : ∃ i, k = i + 1 := ⟨k - 1, by omega⟩
  rw [e_slices_IndexFunc_int, b_slices_IndexFunc_int]
  have hr := reach_lt
  exact loop_down (n := xs.length) (F := fun j i => l_slices_IndexFunc_int_0 (run M k) j xs f caps xs.length i) (G := fun m => some ⟨tI, idx p m (xs.drop m)⟩)
    (fun j => by
      show s_slices_IndexFunc_int_0 (run M k) _ xs f caps _ _ = _
      rw [List.drop_eq_nil_of_le (Nat.le_refl _)]
      simp [s_slices_IndexFunc_int_0, idx])
    (fun m j hm ih => by
      show s_slices_IndexFunc_int_0 (run M k) _ xs f caps _ _ = _
      have hx := hf _ (List.getElem_mem hm) k (by omega)
      rw [List.drop_eq_getElem_cons hm]
      simp only [s_slices_IndexFunc_int_0, inB_nat, rd_nat xs m hm, hm, decide_true, Int.ofNat_lt, cond_true]
      rw [hx, res_some, bindS]
      simp only [idx]
      cases p xs[m] with
      | true => rfl
      | false =>
        simp only [cond_false]
        rw [wrap_succ (by omega)]
        exact ih) 0 (Nat.zero_le _) k (by omega)
theorem ContainsFunc_int_ev {xs : List (D tI)} {f : FuncId} {caps : List (Dt E)} {p : D tI → Bool} {c : Nat} (hf : ∀ x ∈ xs, ∀ k, c ≤ k → run M k f ([.val tI x] ++ capArgs caps) = some ⟨.bool, p x⟩) (hs : xs.length ≤ reachBytes) :
    ∀ k, c + xs.length + 3 ≤ k → run M k f_slices_ContainsFunc_int [.val (.slice tI) xs, .fn f caps] = some ⟨.bool, xs.any p⟩ := by
  intro k hk
  obtain ⟨k, rfl⟩ : ∃ i, k = i + 1 := ⟨k - 1, by omega⟩
  rw [e_slices_ContainsFunc_int, b_slices_ContainsFunc_int, IndexFunc_int_ev hf hs k (by omega), res_some, bindS, idx_nonneg]
theorem IndexFunc_NodeType_ev {xs : List (D tNodeType)} {f : FuncId} {caps : List (Dt E)} {p : D tNodeType → Bool} {c : Nat} (hf : ∀ x ∈ xs, ∀ k, c ≤ k → run M k f ([.val tNodeType x] ++ capArgs caps) = some ⟨.bool, p x⟩) (hs : xs.length ≤ reachBytes) :
    ∀ k, c + xs.length + 2 ≤ k → run M k f_slices_IndexFunc_NodeType [.val (.slice tNodeType) xs, .fn f caps] = some ⟨tI, idx p 0 xs⟩ := by
  intro k hk
  obtain ⟨k, rfl⟩ : ∃ i, k = i + 1 := ⟨k - 1, by omega⟩
  rw [e_slices_IndexFunc_NodeType, b_slices_IndexFunc_NodeType]
  have hr := reach_lt
  exact loop_down (n := xs.length) (F := fun j i => l_slices_IndexFunc_NodeType_0 (run M k) j xs f caps xs.length i) (G := fun m => some ⟨tI, idx p m (xs.drop m)⟩)
    (fun j => by
      show s_slices_IndexFunc_NodeType_0 (run M k) _ xs f caps _ _ = _
      rw [List.drop_eq_nil_of_le (Nat.le_refl _)]
      simp [s_slices_IndexFunc_NodeType_0, idx])
    (fun m j hm ih => by
      show s_slices_IndexFunc_NodeType_0 (run M k) _ xs f caps _ _ = _
      have hx := hf _ (List.getElem_mem hm) k (by omega)
      rw [List.drop_eq_getElem_cons hm]
      simp only [s_slices_IndexFunc_NodeType_0, inB_nat, rd_nat xs m hm, hm, decide_true, Int.ofNat_lt, cond_true]
      rw [hx, res_some, bindS]
      simp only [idx]
      cases p xs[m] with
      | true => rfl
      | false =>
        simp only [cond_false]
        rw [wrap_succ (by omega)]
        exact ih) 0 (Nat.zero_le _) k (by omega)
theorem ContainsFunc_NodeType_ev {xs : List (D tNodeType)} {f : FuncId} {caps : List (Dt E)} {p : D tNodeType → Bool} {c : Nat} (hf : ∀ x ∈ xs, ∀ k, c ≤ k → run M k f ([.val tNodeType x] ++ capArgs caps) = some ⟨.bool, p x⟩) (hs : xs.length ≤ reachBytes) :
    ∀ k, c + xs.length + 3 ≤ k → run M k f_slices_ContainsFunc_NodeType [.val (.slice tNodeType) xs, .fn f caps] = some ⟨.bool, xs.any p⟩ := by
  intro k hk
  obtain ⟨k, rfl⟩ : ∃ i, k = i + 1 := ⟨k - 1, by omega⟩
  rw [e_slices_ContainsFunc_NodeType, b_slices_ContainsFunc_NodeType, IndexFunc_NodeType_ev hf hs k (by omega), res_some, bindS, idx_nonneg]
theorem IndexFunc_EdgeType_ev {xs : List (D tEdgeType)} {f : FuncId} {caps : List (Dt E)} {p : D tEdgeType → Bool} {c : Nat} (hf : ∀ x ∈ xs, ∀ k, c ≤ k → run M k f ([.val tEdgeType x] ++ capArgs caps) = some ⟨.bool, p x⟩) (hs : xs.length ≤ reachBytes) :
    ∀ k, c + xs.length + 2 ≤ k → run M k f_slices_IndexFunc_EdgeType [.val (.slice tEdgeType) xs, .fn f caps] = some ⟨tI, idx p 0 xs⟩ := by
  intro k hk
  obtain ⟨k, rfl⟩ : ∃ i, k = i + 1 := ⟨k - 1, by omega⟩
  rw [e_slices_IndexFunc_EdgeType, b_slices_IndexFunc_EdgeType]
  have hr := reach_lt
  exact loop_down (n := xs.length) (F := fun j i => l_slices_IndexFunc_EdgeType_0 (run M k) j xs f caps xs.length i) (G := fun m => some ⟨tI, idx p m (xs.drop m)⟩)
    (fun j => by
      show s_slices_IndexFunc_EdgeType_0 (run M k) _ xs f caps _ _ = _
      rw [List.drop_eq_nil_of_le (Nat.le_refl _)]
      simp [s_slices_IndexFunc_EdgeType_0, idx])
    (fun m j hm ih => by
      show s_slices_IndexFunc_EdgeType_0 (run M k) _ xs f caps _ _ = _
      have hx := hf _ (List.getElem_mem hm) k (by omega)
      rw [List.drop_eq_getElem_cons hm]
      simp only [s_slices_IndexFunc_EdgeType_0, inB_nat, rd_nat xs m hm, hm, decide_true, Int.ofNat_lt, cond_true]
      rw [hx, res_some, bindS]
      simp only [idx]
      cases p xs[m] with
      | true => rfl
      | false =>
        simp only [cond_false]
        rw [wrap_succ (by omega)]
        exact ih) 0 (Nat.zero_le _) k (by omega)
theorem ContainsFunc_EdgeType_ev {xs : List (D tEdgeType)} {f : FuncId} {caps : List (Dt E)} {p : D tEdgeType → Bool} {c : Nat} (hf : ∀ x ∈ xs, ∀ k, c ≤ k → run M k f ([.val tEdgeType x] ++ capArgs caps) = some ⟨.bool, p x⟩) (hs : xs.length ≤ reachBytes) :
    ∀ k, c + xs.length + 3 ≤ k → run M k f_slices_ContainsFunc_EdgeType [.val (.slice tEdgeType) xs, .fn f caps] = some ⟨.bool, xs.any p⟩ := by
  intro k hk
  obtain ⟨k, rfl⟩ : ∃ i, k = i + 1 := ⟨k - 1, by omega⟩
  rw [e_slices_ContainsFunc_EdgeType, b_slices_ContainsFunc_EdgeType, IndexFunc_EdgeType_ev hf hs k (by omega), res_some, bindS, idx_nonneg]
theorem IndexFunc_Attr_ev {xs : List (D tAttr)} {f : FuncId} {caps : List (Dt E)} {p : D tAttr → Bool} {c : Nat} (hf : ∀ x ∈ xs, ∀ k, c ≤ k → run M k f ([.val tAttr x] ++ capArgs caps) = some ⟨.bool, p x⟩) (hs : xs.length ≤ reachBytes) :
    ∀ k, c + xs.length + 2 ≤ k → run M k f_slices_IndexFunc_Attr [.val (.slice tAttr) xs, .fn f caps] = some ⟨tI, idx p 0 xs⟩ := by
  intro k hk
  obtain ⟨k, rfl⟩ : ∃ i, k = i + 1 := ⟨k - 1, by omega⟩
  rw [e_slices_IndexFunc_Attr, b_slices_IndexFunc_Attr]
  have hr := reach_lt
  exact loop_down (n := xs.length) (F := fun j i => l_slices_IndexFunc_Attr_0 (run M k) j xs f caps xs.length i) (G := fun m => some ⟨tI, idx p m (xs.drop m)⟩)
    (fun j => by
      show s_slices_IndexFunc_Attr_0 (run M k) _ xs f caps _ _ = _
      rw [List.drop_eq_nil_of_le (Nat.le_refl _)]
      simp [s_slices_IndexFunc_Attr_0, idx])
    (fun m j hm ih => by
      show s_slices_IndexFunc_Attr_0 (run M k) _ xs f caps _ _ = _
      have hx := hf _ (List.getElem_mem hm) k (by omega)
      rw [List.drop_eq_getElem_cons hm]
      simp only [s_slices_IndexFunc_Attr_0, inB_nat, rd_nat xs m hm, hm, decide_true, Int.ofNat_lt, cond_true]
      rw [hx, res_some, bindS]
      simp only [idx]
      cases p xs[m] with
      | true => rfl
      | false =>
        simp only [cond_false]
        rw [wrap_succ (by omega)]
        exact ih) 0 (Nat.zero_le _) k (by omega)
theorem ContainsFunc_Attr_ev {xs : List (D tAttr)} {f : FuncId} {caps : List (Dt E)} {p : D tAttr → Bool} {c : Nat} (hf : ∀ x ∈ xs, ∀ k, c ≤ k → run M k f ([.val tAttr x] ++ capArgs caps) = some ⟨.bool, p x⟩) (hs : xs.length ≤ reachBytes) :
    ∀ k, c + xs.length + 3 ≤ k → run M k f_slices_ContainsFunc_Attr [.val (.slice tAttr) xs, .fn f caps] = some ⟨.bool, xs.any p⟩ := by
  intro k hk
  obtain ⟨k, rfl⟩ : ∃ i, k = i + 1 := ⟨k - 1, by omega⟩
  rw [e_slices_ContainsFunc_Attr, b_slices_ContainsFunc_Attr, IndexFunc_Attr_ev hf hs k (by omega), res_some, bindS, idx_nonneg]
theorem Index_int_ev {xs : List (D tI)} (x : D tI) (hs : xs.length ≤ reachBytes) :
    ∀ k, xs.length + 2 ≤ k → run M k f_slices_Index_int [.val (.slice tI) xs, .val tI x] = some ⟨tI, idx (fun y => decide (x = y)) 0 xs⟩ := by
  intro k hk
  obtain ⟨k, rfl⟩ : ∃ i, k = i + 1 := ⟨k - 1, by omega⟩
  rw [e_slices_Index_int, b_slices_Index_int]
  have hr := reach_lt
  exact loop_down (n := xs.length) (F := fun j i => l_slices_Index_int_0 (run M k) j xs x xs.length i) (G := fun m => some ⟨tI, idx (fun y => decide (x = y)) m (xs.drop m)⟩)
    (fun j => by
      show s_slices_Index_int_0 (run M k) _ xs x _ _ = _
      rw [List.drop_eq_nil_of_le (Nat.le_refl _)]
      simp [s_slices_Index_int_0, idx])
    (fun m j hm ih => by
      show s_slices_Index_int_0 (run M k) _ xs x _ _ = _
      rw [List.drop_eq_getElem_cons hm]
      simp only [s_slices_Index_int_0, inB_nat, rd_nat xs m hm, hm, decide_true, Int.ofNat_lt, cond_true, idx]
      rw [wrap_succ (by omega), ih]
      rcases Bool.eq_false_or_eq_true (decide (x = xs[m])) with h | h <;> rw [h] <;> rfl) 0 (Nat.zero_le _) k (by omega)
theorem Contains_int_ev {xs : List (D tI)} (x : D tI) (hs : xs.length ≤ reachBytes) :
    ∀ k, xs.length + 3 ≤ k → run M k f_slices_Contains_int [.val (.slice tI) xs, .val tI x] = some ⟨.bool, xs.any (fun y => decide (x = y))⟩ := by
  intro k hk
  obtain ⟨k, rfl⟩ : ∃ i, k = i + 1 := ⟨k - 1, by omega⟩
  rw [e_slices_Contains_int, b_slices_Contains_int, Index_int_ev x hs k (by omega), res_some, bindS, idx_nonneg]
theorem Index_string_ev {xs : List (D .str)} (x : D .str) (hs : xs.length ≤ reachBytes) :
    ∀ k, xs.length + 2 ≤ k → run M k f_slices_Index_string [.val (.slice .str) xs, .val .str x] = some ⟨tI, idx (fun y => beqS x y) 0 xs⟩ := by
  intro k hk
  obtain ⟨k, rfl⟩ : ∃ i, k = i + 1 := ⟨k - 1, by omega⟩
  rw [e_slices_Index_string, b_slices_Index_string]
  have hr := reach_lt
  exact loop_down (n := xs.length) (F := fun j i => l_slices_Index_string_0 (run M k) j xs x xs.length i) (G := fun m => some ⟨tI, idx (fun y => beqS x y) m (xs.drop m)⟩)
    (fun j => by
      show s_slices_Index_string_0 (run M k) _ xs x _ _ = _
      rw [List.drop_eq_nil_of_le (Nat.le_refl _)]
      simp [s_slices_Index_string_0, idx])
    (fun m j hm ih => by
      show s_slices_Index_string_0 (run M k) _ xs x _ _ = _
      rw [List.drop_eq_getElem_cons hm]
      simp only [s_slices_Index_string_0, inB_nat, rd_nat xs m hm, hm, decide_true, Int.ofNat_lt, cond_true, idx]
      rw [wrap_succ (by omega), ih]
      rcases Bool.eq_false_or_eq_true (beqS x xs[m]) with h | h <;> rw [h] <;> rfl) 0 (Nat.zero_le _) k (by omega)
theorem Contains_string_ev {xs : List (D .str)} (x : D .str) (hs : xs.length ≤ reachBytes) :
    ∀ k, xs.length + 3 ≤ k → run M k f_slices_Contains_string [.val (.slice .str) xs, .val .str x] = some ⟨.bool, xs.any (fun y => beqS x y)⟩ := by
  intro k hk
  obtain ⟨k, rfl⟩ : ∃ i, k = i + 1 := ⟨k - 1, by omega⟩
  rw [e_slices_Contains_string, b_slices_Contains_string, Index_string_ev x hs k (by omega), res_some, bindS, idx_nonneg]
end Go.Proofs.AM

namespace Go.Proofs.AM
open Go
def isLetter (x : Int) : Bool := cond (cond (decide ((97 : Int) ≤ x)) (decide (x ≤ (122 : Int))) false) true (cond (decide ((65 : Int) ≤ x)) (decide (x ≤ (90 : Int))) false)
def isDigit (x : Int) : Bool := cond (decide ((48 : Int) ≤ x)) (decide (x ≤ (57 : Int))) false
def isPart (x : Int) : Bool := cond (cond (isLetter x) true (isDigit x)) true (decide (x = (95 : Int)))
def inQuotes (x : Int) : Bool := cond (cond (decide ((32 : Int) ≤ x)) (decide (x ≤ (126 : Int))) false) (!(decide (x = (34 : Int)))) false
theorem token_letter_ev (x : Int) : ∀ k, 1 ≤ k → run M k f_token_letter [.val tU8 x] = some ⟨.bool, isLetter x⟩ := by
  intro k hk
  obtain ⟨k, rfl⟩ : ∃ i, k = i + 1 := ⟨k - 1, by omega⟩
  exact e_token_letter k x
theorem token_digit_ev (x : Int) : ∀ k, 1 ≤ k → run M k f_token_digit [.val tU8 x] = some ⟨.bool, isDigit x⟩ := by
  intro k hk
  obtain ⟨k, rfl⟩ : ∃ i, k = i + 1 := ⟨k - 1, by omega⟩
  exact e_token_digit k x
theorem token_quoted_1_ev (x : Int) : ∀ k, 1 ≤ k → run M k f_token_quoted_1 [.val tU8 x] = some ⟨.bool, inQuotes x⟩ := by
  intro k hk
  obtain ⟨k, rfl⟩ : ∃ i, k = i + 1 := ⟨k - 1, by omega⟩
  exact e_token_quoted_1 k x
theorem r01_letter_ev (x : Int) : ∀ k, 1 ≤ k → run M k f_r01_letter [.val tU8 x] = some ⟨.bool, isLetter x⟩ := by
  intro k hk
  obtain ⟨k, rfl⟩ : ∃ i, k = i + 1 := ⟨k - 1, by omega⟩
  exact e_r01_letter k x
theorem r01_digit_ev (x : Int) : ∀ k, 1 ≤ k → run M k f_r01_digit [.val tU8 x] = some ⟨.bool, isDigit x⟩ := by
  intro k hk
  obtain ⟨k, rfl⟩ : ∃ i, k = i + 1 := ⟨k - 1, by omega⟩
  exact e_r01_digit k x
theorem token_part_ev (x : Int) : ∀ k, 2 ≤ k → run M k f_token_part [.val tU8 x] = some ⟨.bool, isPart x⟩ := by
  intro k hk
  obtain ⟨k, rfl⟩ : ∃ i, k = i + 1 := ⟨k - 1, by omega⟩
  rw [e_token_part, b_token_part, token_letter_ev x k (by omega), token_digit_ev x k (by omega), res_some, bindS]
  unfold isPart
  cases isLetter x <;> simp [res_some, dflt_bool]
theorem token_run_ev {s : ByteArray} {f : FuncId} {p : Int → Bool} {c : Nat} (hf : ∀ x ∈ by_ s, ∀ k, c ≤ k → run M k f [.val tU8 x] = some ⟨.bool, p x⟩) (hs : s.size ≤ reachBytes) :
    ∀ k, c + s.size + 2 ≤ k → run M k f_token_run [.val .str s, .fn f []] = some ⟨tI, ((lead p (by_ s) : Nat) : Int)⟩ := by
  intro k hk
  obtain ⟨k, rfl⟩ : ∃ i, k = i + 1 := ⟨k - 1, by omega⟩
  rw [e_token_run, b_token_run]
  have hr := reach_lt
  have := loop_down (n := s.size) (F := fun j i => l_token_run_0 (run M k) j s f [] i) (G := fun m => some ⟨tI, ((m + lead p ((by_ s).drop m) : Nat) : Int)⟩)
    (fun j => by
      show s_token_run_0 (run M k) _ s f [] _ = _
      rw [List.drop_eq_nil_of_le (by rw [by_length]; exact Nat.le_refl _)]
      simp [s_token_run_0, inB_nat, lead, dflt_bool])
    (fun m j hm ih => by
      show s_token_run_0 (run M k) _ s f [] _ = _
      have hm' : m < (by_ s).length := by rw [by_length]; exact hm
      have hx := hf _ (List.getElem_mem hm') k (by omega)
      rw [List.drop_eq_getElem_cons hm']
      simp only [s_token_run_0, inB_nat, bt_nat s m hm', capArgs, List.map_nil, List.append_nil]
      simp only [hm, decide_true, Int.ofNat_lt, cond_true, Bool.true_or]
      rw [hx, res_some, bindS]
      simp only [lead]
      cases p (by_ s)[m] with
      | false => simp
      | true =>
        simp only [cond_true]
        rw [wrap_succ (by omega)]
        rw [ih]
        rw [show m + (lead p ((by_ s).drop (m + 1)) + 1) = m + 1 + lead p ((by_ s).drop (m + 1)) by omega]) 0 (Nat.zero_le _) k (by omega)
  simpa using this
theorem by_sub (s : ByteArray) (l h : Nat) (hh : h ≤ s.size) : by_ (subS s (l : Int) (h : Int)) = ((by_ s).take h).drop l := by
  unfold subS by_
  rw [Int.toNat_natCast, Int.toNat_natCast]
  simp only [ByteArray.data_extract, Array.toList_extract, List.extract_eq_take_drop, List.map_take, List.map_drop]
  rw [List.drop_take]
theorem size_sub (s : ByteArray) (l h : Nat) (hh : h ≤ s.size) : (subS s (l : Int) (h : Int)).size = h - l := by
  rw [← by_length, by_sub s l h hh, List.length_drop, List.length_take, by_length, Nat.min_eq_left hh]
theorem token_quoted_ev {s : ByteArray} (h0 : 0 < s.size) (hs : s.size ≤ reachBytes) : ∀ k, s.size + 6 ≤ k → ∃ r, run M k f_token_quoted [.val .str s] = some ⟨tTerm, r⟩ := by
  intro k hk
  obtain ⟨k, rfl⟩ : ∃ i, k = i + 1 := ⟨k - 1, by omega⟩
  have hr := reach_lt
  have hz : (subS s (1 : Int) (s.size : Int)).size = s.size - 1 := size_sub s 1 s.size (Nat.le_refl _)
  have hl := lead_le inQuotes (by_ (subS s (1 : Int) (s.size : Int)))
  rw [by_length, hz] at hl
  rw [e_token_quoted, b_token_quoted, token_run_ev (p := inQuotes) (c := 1) (fun x _ k hk => token_quoted_1_ev x k hk) (by rw [hz]; omega) k (by rw [hz]; omega)]
  generalize lead inQuotes (by_ (subS s (1 : Int) (s.size : Int))) = n at hl
  rw [res_some, bindS, wrap_id (x := (1 : Int) + (n : Int)) (by omega) (by omega)]
  have h1 : inS (1 : Int) (s.size : Int) (s.size : Int) = true := by simp [inS]; omega
  rw [h1, cond_true]
  by_cases he : (1 : Int) + (n : Int) = (s.size : Int)
  · rw [decide_eq_true he]
    simp
  · have h2 : inB ((1 : Int) + (n : Int)) (s.size : Int) = true := by simp [inB]; omega
    rw [h2, decide_eq_false he]
    simp only [Bool.true_or, cond_true, cond_false]
    cases (!(decide ((bt s ((1 : Int) + (n : Int))) = (34 : Int)))) with
    | true => exact ⟨_, rfl⟩
    | false =>
      simp only [cond_false]
      cases (decide ((60 : Int) < (n : Int))) with
      | true => exact ⟨_, rfl⟩
      | false => exact ⟨_, rfl⟩
theorem token_pair_ev (s : ByteArray) : ∀ k, 9 ≤ k → ∃ b, run M k f_token_pair [.val .str s] = some ⟨.bool, b⟩ := by
  intro k hk
  obtain ⟨k, rfl⟩ : ∃ i, k = i + 1 := ⟨k - 1, by omega⟩
  rw [e_token_pair, b_token_pair]
  by_cases h : (2 : Int) ≤ (s.size : Int)
  · have h1 : inS (0 : Int) (2 : Int) (s.size : Int) = true := by simp [inS]; omega
    rw [h1, decide_eq_true h]
    simp only [Bool.true_or, cond_true]
    rw [Contains_string_ev _ (by decide) k (by simp; omega), res_some, bindS]
    exact ⟨_, rfl⟩
  · rw [decide_eq_false h]
    simp [dflt_bool]
theorem IndexByte_ev (s : ByteArray) (x : Int) : ∀ k, 1 ≤ k → run M k f_strings_IndexByte [.val .str s, .val tU8 x] = some ⟨tI, Lib.indexByte s.data.toList x.toNat.toUInt8⟩ := by
  intro k hk
  obtain ⟨k, rfl⟩ : ∃ i, k = i + 1 := ⟨k - 1, by omega⟩
  rfl
def isName (l : List Int) : Bool :=
  match l with
  | [] => false
  | x :: r => isLetter x && (decide (lead isPart (x :: r) ≤ 20) && decide (lead isPart (x :: r) = (x :: r).length))
theorem isName_cons (x : Int) (r : List Int) : isName (x :: r) = (isLetter x && (decide (lead isPart (x :: r) ≤ 20) && decide (lead isPart (x :: r) = (x :: r).length))) := rfl
theorem token_next_letter {s : ByteArray} {x : Int} {r : List Int} (hb : by_ s = x :: r) (hs : s.size ≤ reachBytes) (hx : isLetter x = true) : ∀ k, s.size + 8 ≤ k →
    run M k f_token_next [.val .str s] = some ⟨tEdge, cond (decide (20 < lead isPart (by_ s))) ((0 : Int), ((0 : Int), (3 : Int))) ((1 : Int), (((lead isPart (by_ s) : Nat) : Int), (0 : Int)))⟩ := by
  intro k hk
  obtain ⟨k, rfl⟩ : ∃ i, k = i + 1 := ⟨k - 1, by omega⟩
  have hsz : s.size = r.length + 1 := by rw [← by_length, hb]; rfl
  have h0 : bt s (0 : Int) = x := by
    have := bt_nat s 0 (by rw [by_length]; omega)
    simp only [hb] at this
    exact this
  have hin : inB (0 : Int) (s.size : Int) = true := by simp [inB]; omega
  rw [e_token_next, b_token_next, hin, cond_true, h0, token_letter_ev x k (by omega), res_some, bindS, hx, cond_true,
    token_run_ev (p := isPart) (c := 2) (fun x _ k hk => token_part_ev x k hk) hs k (by omega), res_some, bindS]
  have : decide ((20 : Int) < ((lead isPart (by_ s) : Nat) : Int)) = decide (20 < lead isPart (by_ s)) := by
    by_cases h : 20 < lead isPart (by_ s)
    · rw [decide_eq_true h, decide_eq_true (by omega)]
    · rw [decide_eq_false h, decide_eq_false (by omega)]
  rw [this]
  cases decide (20 < lead isPart (by_ s)) <;> rfl
theorem token_next_other {s : ByteArray} {x : Int} {r : List Int} (hb : by_ s = x :: r) (hs : s.size ≤ reachBytes) (hx : isLetter x = false) : ∀ k, s.size + 12 ≤ k →
    ∃ y : Int × (Int × Int), run M k f_token_next [.val .str s] = some ⟨tEdge, y⟩ ∧ y.1 ≠ 1 := by
  intro k hk
  obtain ⟨k, rfl⟩ : ∃ i, k = i + 1 := ⟨k - 1, by omega⟩
  have hsz : s.size = r.length + 1 := by rw [← by_length, hb]; rfl
  have h0 : bt s (0 : Int) = x := by
    have := bt_nat s 0 (by rw [by_length]; omega)
    simp only [hb] at this
    exact this
  have hin : inB (0 : Int) (s.size : Int) = true := by simp [inB]; omega
  rw [e_token_next, b_token_next, hin, cond_true, h0, token_letter_ev x k (by omega), res_some, bindS, hx, cond_false,
    token_digit_ev x k (by omega), res_some, bindS]
  cases isDigit x with
  | true =>
    rw [cond_true, token_run_ev (p := isDigit) (c := 1) (fun x _ k hk => token_digit_ev x k hk) hs k (by omega), res_some, bindS]
    cases decide ((9 : Int) < ((lead isDigit (by_ s) : Nat) : Int)) with
    | true => exact ⟨_, rfl, by decide⟩
    | false => exact ⟨_, rfl, show (2 : Int) ≠ 1 by decide⟩
  | false =>
    rw [cond_false]
    cases decide (x = (34 : Int)) with
    | true =>
      obtain ⟨y, hy⟩ := token_quoted_ev (s := s) (by omega) hs k (by omega)
      rw [cond_true, hy, res_some, bindS]
      exact ⟨_, rfl, show (3 : Int) ≠ 1 by decide⟩
    | false =>
      obtain ⟨b, hy⟩ := token_pair_ev s k (by omega)
      rw [cond_false, hy, res_some, bindS]
      cases b with
      | true => exact ⟨_, rfl, show (4 : Int) ≠ 1 by decide⟩
      | false =>
        rw [cond_false, IndexByte_ev _ _ k (by omega), res_some, bindS]
        cases decide ((0 : Int) ≤ Lib.indexByte (⟨#[123, 125, 40, 41, 91, 93, 44, 59, 58, 61, 43, 45, 42, 60, 62, 33, 38, 124, 46, 63]⟩ : ByteArray).data.toList x.toNat.toUInt8) with
        | true => exact ⟨_, rfl, show (4 : Int) ≠ 1 by decide⟩
        | false => exact ⟨_, rfl, show (0 : Int) ≠ 1 by decide⟩
theorem by_nil {s : ByteArray} : by_ s = [] ↔ s = (⟨#[]⟩ : ByteArray) := by
  constructor
  · intro h
    unfold by_ at h
    have : s.data.toList = [] := by simpa using h
    cases s with
    | mk d => cases d with
      | mk l => cases l with
        | nil => rfl
        | cons _ _ => cases this
  · intro h; subst h; rfl
theorem token_whole_ev {s : ByteArray} (hs : s.size ≤ reachBytes) : ∀ k, s.size + 14 ≤ k → ∃ z, run M k f_token_whole [.val tToken ((1 : Int), (s, (0 : Int)))] = some ⟨(.pair .str .bool), (z, isName (by_ s))⟩ := by
  intro k hk
  obtain ⟨k, rfl⟩ : ∃ i, k = i + 1 := ⟨k - 1, by omega⟩
  rw [e_token_whole, b_token_whole]
  simp only [show decide ((1 : Int) = (3 : Int)) = false from rfl, cond_false]
  rw [beqS_iff]
  cases hb : by_ s with
  | nil =>
    rw [show by_ (⟨#[]⟩ : ByteArray) = [] from rfl, decide_eq_true rfl, cond_true]
    exact ⟨_, rfl⟩
  | cons x r =>
    rw [show by_ (⟨#[]⟩ : ByteArray) = [] from rfl, decide_eq_false (by simp), cond_false]
    have hsz : s.size = (x :: r).length := by rw [← by_length, hb]
    cases hx : isLetter x with
    | true =>
      rw [token_next_letter hb hs hx k (by omega), res_some, bindS, hb]
      refine ⟨s, ?_⟩
      rw [isName_cons, hx]
      by_cases h : 20 < lead isPart (x :: r)
      · rw [decide_eq_true h, decide_eq_false (show ¬ lead isPart (x :: r) ≤ 20 by omega)]; rfl
      · rw [decide_eq_false h, decide_eq_true (show lead isPart (x :: r) ≤ 20 by omega)]
        simp only [cond_false]
        have : decide (((lead isPart (x :: r) : Nat) : Int) = (s.size : Int)) = decide (lead isPart (x :: r) = (x :: r).length) := by
          rw [hsz]
          by_cases h : lead isPart (x :: r) = (x :: r).length
          · rw [decide_eq_true h, decide_eq_true (by omega)]
          · rw [decide_eq_false h, decide_eq_false (by omega)]
        rw [this]
        rfl
    | false =>
      obtain ⟨y, h1, h2⟩ := token_next_other hb hs hx k (by omega)
      rw [h1, res_some, bindS]
      refine ⟨s, ?_⟩
      rw [isName_cons, hx, decide_eq_false h2]
      cases decide (y.2.2 = (0 : Int)) <;> rfl
theorem token_IsName_ev {s : ByteArray} (hs : s.size ≤ reachBytes) : ∀ k, s.size + 15 ≤ k → run M k f_token_IsName [.val .str s] = some ⟨.bool, isName (by_ s)⟩ := by
  intro k hk
  obtain ⟨k, rfl⟩ : ∃ i, k = i + 1 := ⟨k - 1, by omega⟩
  obtain ⟨z, hz⟩ := token_whole_ev hs k (by omega)
  rw [e_token_IsName, b_token_IsName, hz, res_some, bindS]
end Go.Proofs.AM

namespace Go.Proofs.AM
open Go
theorem zero_add_wrap {m : Nat} (h : m ≤ 9223372036854775807) : IntKind.i64.wrap ((0 : Int) + (m : Int)) = (m : Int) := by
  rw [wrap_id (by omega) (by omega)]; omega
def runP (d : Bool) (x : Int) : Bool := cond (isDigit x) true (cond (!d) (cond (isLetter x) true (decide (x = (95 : Int)))) false)
theorem r01_run_ev {s : ByteArray} (d : Bool) (hs : s.size ≤ reachBytes) :
    ∀ k, s.size + 4 ≤ k → run M k f_r01_run [.val .str s, .val tI (0 : Int), .val .bool d] = some ⟨tI, ((lead (runP d) (by_ s) : Nat) : Int)⟩ := by
  intro k hk
  obtain ⟨k, rfl⟩ : ∃ i, k = i + 1 := ⟨k - 1, by omega⟩
  rw [e_r01_run, b_r01_run]
  have hr := reach_lt
  have := loop_down (n := s.size) (F := fun j i => l_r01_run_0 (run M k) j s (0 : Int) d i) (G := fun m => some ⟨tI, ((m + lead (runP d) ((by_ s).drop m) : Nat) : Int)⟩)
    (fun j => by
      show s_r01_run_0 (run M k) _ s (0 : Int) d _ = _
      rw [List.drop_eq_nil_of_le (by rw [by_length]; exact Nat.le_refl _)]
      simp only [s_r01_run_0, zero_add_wrap (show s.size ≤ 9223372036854775807 by omega)]
      simp [inB_nat, lead, dflt_bool])
    (fun m j hm ih => by
      show s_r01_run_0 (run M k) _ s (0 : Int) d _ = _
      have hm' : m < (by_ s).length := by rw [by_length]; exact hm
      rw [List.drop_eq_getElem_cons hm']
      simp only [s_r01_run_0, zero_add_wrap (show m ≤ 9223372036854775807 by omega), inB_nat, bt_nat s m hm']
      simp only [hm, decide_true, Int.ofNat_lt, cond_true, Bool.true_or, Bool.true_and]
      rw [r01_digit_ev _ k (by omega), res_some, bindS, r01_letter_ev _ k (by omega), res_some]
      rw [wrap_succ (by omega), ih, lead]
      generalize lead (runP d) ((by_ s).drop (m + 1)) = L
      unfold runP
      generalize (by_ s)[m] = x
      generalize isDigit x = q
      generalize isLetter x = l
      generalize decide (x = (95 : Int)) = e
      rw [show m + 1 + L = m + (L + 1) by omega]
      cases q <;> cases d <;> cases l <;> cases e <;> rfl) 0 (Nat.zero_le _) k (by omega)
  simpa using this
theorem runP_false : runP false = isPart := by
  funext x
  unfold runP isPart
  cases isDigit x <;> cases isLetter x <;> rfl
def closes : Nat → List Int → Int
  | _, [] => 0
  | m, x :: r => cond (decide (x = (34 : Int))) ((m + 1 : Nat) : Int) (cond (cond (decide (x < (32 : Int))) true (decide ((126 : Int) < x))) 0 (closes (m + 1) r))
theorem closes_bound : ∀ (m : Nat) (l : List Int), closes m l = 0 ∨ ((m + 1 : Nat) : Int) ≤ closes m l ∧ closes m l ≤ ((m + l.length : Nat) : Int)
  | _, [] => .inl rfl
  | m, x :: r => by
    have ih := closes_bound (m + 1) r
    unfold closes
    cases decide (x = (34 : Int)) with
    | true => right; simp only [cond_true, List.length_cons]; omega
    | false =>
      cases (cond (decide (x < (32 : Int))) true (decide ((126 : Int) < x))) with
      | true => exact .inl rfl
      | false =>
        simp only [cond_false, List.length_cons] at ih ⊢
        rcases ih with h | h
        · exact .inl h
        · right; omega
theorem r01_quoted_ev {s : ByteArray} (h1 : 1 ≤ s.size) (hs : s.size ≤ reachBytes) :
    ∀ k, s.size + 2 ≤ k → run M k f_r01_quoted [.val .str s, .val tI (0 : Int)] = some ⟨tI, closes 1 ((by_ s).drop 1)⟩ := by
  intro k hk
  obtain ⟨k, rfl⟩ : ∃ i, k = i + 1 := ⟨k - 1, by omega⟩
  rw [e_r01_quoted, b_r01_quoted]
  have hr := reach_lt
  exact loop_down (n := s.size) (F := fun j i => l_r01_quoted_0 (run M k) j s (0 : Int) i) (G := fun m => some ⟨tI, closes m ((by_ s).drop m)⟩)
    (fun j => by
      show s_r01_quoted_0 (run M k) _ s (0 : Int) _ = _
      rw [List.drop_eq_nil_of_le (by rw [by_length]; exact Nat.le_refl _)]
      simp only [s_r01_quoted_0, zero_add_wrap (show s.size ≤ 9223372036854775807 by omega)]
      simp [closes])
    (fun m j hm ih => by
      show s_r01_quoted_0 (run M k) _ s (0 : Int) _ = _
      have hm' : m < (by_ s).length := by rw [by_length]; exact hm
      rw [List.drop_eq_getElem_cons hm']
      simp only [s_r01_quoted_0, zero_add_wrap (show m ≤ 9223372036854775807 by omega), inB_nat, bt_nat s m hm']
      simp only [hm, decide_true, Int.ofNat_lt, cond_true]
      rw [wrap_succ (by omega), ih, closes]
      generalize (by_ s)[m] = x
      generalize closes (m + 1) ((by_ s).drop (m + 1)) = L
      cases decide (x = (34 : Int)) <;> cases decide (x < (32 : Int)) <;> cases decide ((126 : Int) < x) <;> rfl) 1 h1 k (by omega)
def signOf (s : ByteArray) : List ByteArray → Int × (ByteArray × (Int × (Int × Int)))
  | [] => ((0 : Int), ((⟨#[]⟩ : ByteArray), ((0 : Int), ((0 : Int), (2 : Int)))))
  | y :: r => cond (decide (y.size ≤ s.size)) (cond (beqS (subS s (0 : Int) (y.size : Int)) y) ((4 : Int), (y, ((0 : Int), ((y.size : Int), (0 : Int))))) (signOf s r)) (signOf s r)
theorem signOf_kind (s : ByteArray) : ∀ l, (signOf s l).1 ≠ 1
  | [] => by show (0 : Int) ≠ 1; decide
  | y :: r => by
    unfold signOf
    have ih := signOf_kind s r
    cases decide (y.size ≤ s.size) with
    | false => exact ih
    | true =>
      cases beqS (subS s (0 : Int) (y.size : Int)) y with
      | true => show (4 : Int) ≠ 1; decide
      | false => exact ih
theorem getD_nat {t : List (D .str)} {m : Nat} (h : m < t.length) : List.getD t (Int.toNat (m : Int)) (dflt E .str) = t[m] := by
  rw [Int.toNat_natCast, List.getD_eq_getElem?_getD, List.getElem?_eq_getElem h]; rfl
theorem r01_signs_loop {s : ByteArray} (hs : s.size ≤ reachBytes) (t : List (D .str)) (ht : t.length ≤ 1000) (hts : ∀ y ∈ t, ByteArray.size y ≤ 1000) (a : D tI) (b : D .str) (c : D tI) (k j : Nat) (hj : t.length < j) :
    l_r01_one_0 (run M k) j s (0 : Int) (0 : Int) a b c t = some ⟨(.pair tI (.pair .str tEdge)), signOf s t⟩ := by
  have hr := reach_lt
  exact loop_down (n := t.length) (F := fun j i => l_r01_one_0 (run M k) j s (0 : Int) i a b c t) (G := fun m => some ⟨(.pair tI (.pair .str tEdge)), signOf s (t.drop m)⟩)
    (fun j => by
      show s_r01_one_0 (run M k) _ s (0 : Int) _ a b c t = _
      rw [List.drop_eq_nil_of_le (Nat.le_refl _)]
      simp [s_r01_one_0, signOf])
    (fun m j hm ih => by
      show s_r01_one_0 (run M k) _ s (0 : Int) _ a b c t = _
      have hsz := hts _ (List.getElem_mem hm)
      rw [List.drop_eq_getElem_cons hm]
      simp only [s_r01_one_0, inB_nat, hm, decide_true, Int.ofNat_lt, cond_true, getD_nat hm, Bool.true_or]
      generalize ht' : t[m] = y at hsz ⊢
      rw [zero_add_wrap (show ByteArray.size y ≤ 9223372036854775807 by omega), wrap_succ (by omega), ih, signOf]
      have hi : inS (0 : Int) (ByteArray.size y : Int) (s.size : Int) = decide (ByteArray.size y ≤ s.size) := by
        simp [inS]
      rw [hi]
      have hd : decide ((ByteArray.size y : Int) ≤ (s.size : Int)) = decide (ByteArray.size y ≤ s.size) := by simp
      rw [hd]
      cases decide (ByteArray.size y ≤ s.size) <;> cases beqS (subS s (0 : Int) (ByteArray.size y : Int)) y <;> rfl) 0 (Nat.zero_le _) j (by omega)
theorem r01_one_letter {s : ByteArray} {x : Int} {r : List Int} (hb : by_ s = x :: r) (hs : s.size ≤ reachBytes) (hx : isLetter x = true) : ∀ k, s.size + 40 ≤ k →
    ∃ z : Int × (ByteArray × (Int × (Int × Int))), run M k f_r01_one [.val .str s, .val tI (0 : Int)] = some ⟨(.pair tI (.pair .str tEdge)), z⟩ ∧
      (cond (cond (decide (z.2.2.2.2 = (0 : Int))) (decide (z.2.2.2.1 = (s.size : Int))) false) (decide (z.1 = (1 : Int))) false) = isName (by_ s) := by
  intro k hk
  obtain ⟨k, rfl⟩ : ∃ i, k = i + 1 := ⟨k - 1, by omega⟩
  have hr := reach_lt
  have hsz : s.size = r.length + 1 := by rw [← by_length, hb]; rfl
  have h0 : bt s (0 : Int) = x := by
    have := bt_nat s 0 (by rw [by_length]; omega)
    simp only [hb] at this
    exact this
  have hin : inB (0 : Int) (s.size : Int) = true := by simp [inB]; omega
  have hnd : isDigit x = false := by
    unfold isLetter at hx
    unfold isDigit
    cases h1 : decide ((48 : Int) ≤ x) with
    | false => rfl
    | true =>
      cases h2 : decide (x ≤ (57 : Int)) with
      | false => rfl
      | true =>
        have := of_decide_eq_true h2
        rw [decide_eq_false (show ¬ (97 : Int) ≤ x by omega), decide_eq_false (show ¬ (65 : Int) ≤ x by omega)] at hx
        cases hx
  rw [e_r01_one, b_r01_one, hin, cond_true, h0, r01_letter_ev x k (by omega), r01_digit_ev x k (by omega), res_some, bindS, hx, res_some]
  simp only [Bool.not_true, cond_false, bindS, dflt_bool, cond_true, hnd]
  rw [r01_run_ev false hs k (by omega), res_some, bindS, runP_false, hb, isName_cons, hx]
  have hle := lead_le isPart (by_ s)
  rw [hb] at hle
  have hsz2 : s.size = (x :: r).length := hsz
  generalize lead isPart (x :: r) = n at hle ⊢
  by_cases h : 20 < n
  · rw [decide_eq_true (show (20 : Int) < (n : Int) by omega), decide_eq_false (show ¬ n ≤ 20 by omega)]
    exact ⟨_, rfl, rfl⟩
  · rw [decide_eq_false (show ¬ (20 : Int) < (n : Int) by omega), decide_eq_true (show n ≤ 20 by omega), zero_add_wrap (by omega)]
    have : inS (0 : Int) (n : Int) (s.size : Int) = true := by simp [inS]; omega
    rw [this]
    refine ⟨_, rfl, ?_⟩
    have : decide ((n : Int) = (s.size : Int)) = decide (n = (x :: r).length) := by
      rw [hsz2]
      by_cases h : n = (x :: r).length
      · rw [decide_eq_true h, decide_eq_true (by omega)]
      · rw [decide_eq_false h, decide_eq_false (by omega)]
    show (cond (cond (decide ((0 : Int) = 0)) (decide ((n : Int) = (s.size : Int))) false) (decide ((1 : Int) = 1)) false) = _
    rw [this]
    cases decide (n = (x :: r).length) <;> rfl
theorem r01_one_other {s : ByteArray} {x : Int} {r : List Int} (hb : by_ s = x :: r) (hs : s.size ≤ reachBytes) (hx : isLetter x = false) : ∀ k, s.size + 40 ≤ k →
    ∃ z : Int × (ByteArray × (Int × (Int × Int))), run M k f_r01_one [.val .str s, .val tI (0 : Int)] = some ⟨(.pair tI (.pair .str tEdge)), z⟩ ∧ z.1 ≠ 1 := by
  intro k hk
  obtain ⟨k, rfl⟩ : ∃ i, k = i + 1 := ⟨k - 1, by omega⟩
  have hr := reach_lt
  have hsz : s.size = r.length + 1 := by rw [← by_length, hb]; rfl
  have h0 : bt s (0 : Int) = x := by
    have := bt_nat s 0 (by rw [by_length]; omega)
    simp only [hb] at this
    exact this
  have hin : inB (0 : Int) (s.size : Int) = true := by simp [inB]; omega
  rw [e_r01_one, b_r01_one, hin, cond_true, h0, r01_letter_ev x k (by omega), r01_digit_ev x k (by omega), res_some, bindS, hx, res_some]
  simp only [Bool.not_false, cond_true, bindS, cond_false]
  cases hd : isDigit x with
  | true =>
    simp only [cond_true, bindS]
    rw [r01_run_ev true hs k (by omega), res_some, bindS]
    have hle := lead_le (runP true) (by_ s)
    rw [by_length] at hle
    generalize lead (runP true) (by_ s) = n at hle ⊢
    cases h9 : decide ((9 : Int) < (n : Int)) with
    | true => exact ⟨_, rfl, show (0 : Int) ≠ 1 by decide⟩
    | false =>
      rw [zero_add_wrap (by omega)]
      have : inS (0 : Int) (n : Int) (s.size : Int) = true := by simp [inS]; omega
      rw [this]
      exact ⟨_, rfl, show (2 : Int) ≠ 1 by decide⟩
  | false =>
    simp only [cond_false]
    cases hq : decide (x = (34 : Int)) with
    | true =>
      rw [cond_true, r01_quoted_ev (by omega) hs k (by omega), res_some, bindS]
      have hcb := closes_bound 1 ((by_ s).drop 1)
      rw [List.length_drop, by_length] at hcb
      generalize closes 1 ((by_ s).drop 1) = c at hcb ⊢
      by_cases hc : c = 0
      · rw [decide_eq_true hc]; exact ⟨_, rfl, show (0 : Int) ≠ 1 by decide⟩
      · have hcb := hcb.resolve_left hc
        rw [decide_eq_false hc, cond_false]
        cases decide ((60 : Int) < IntKind.i64.wrap (c - (2 : Int))) with
        | true => exact ⟨_, rfl, show (0 : Int) ≠ 1 by decide⟩
        | false =>
          rw [wrap_id (x := (0 : Int) + (1 : Int)) (by omega) (by omega), wrap_id (x := (0 : Int) + c) (by omega) (by omega), wrap_id (x := (0 : Int) + c - 1) (by omega) (by omega)]
          have : inS ((0 : Int) + (1 : Int)) ((0 : Int) + c - 1) (s.size : Int) = true := by simp [inS]; omega
          rw [this]
          exact ⟨_, rfl, show (3 : Int) ≠ 1 by decide⟩
    | false =>
      obtain ⟨k, rfl⟩ : ∃ i, k = i + 1 := ⟨k - 1, by omega⟩
      rw [cond_false, e_r01_signs, b_r01_signs, res_some, bindS]
      rw [r01_signs_loop hs _ (by decide) (by decide) _ _ _ _ _ (by simp; omega)]
      exact ⟨_, rfl, signOf_kind _ _⟩
theorem r01_Right_ev {s : ByteArray} (hs : s.size ≤ reachBytes) : ∀ k, s.size + 42 ≤ k → run M k f_r01_Right [.val tToken ((1 : Int), (s, (0 : Int)))] = some ⟨.bool, isName (by_ s)⟩ := by
  intro k hk
  obtain ⟨k, rfl⟩ : ∃ i, k = i + 1 := ⟨k - 1, by omega⟩
  have ht : run M k f_r01_text [.val tToken ((1 : Int), (s, (0 : Int)))] = some ⟨.str, s⟩ := by
    obtain ⟨k, rfl⟩ : ∃ i, k = i + 1 := ⟨k - 1, by omega⟩
    rw [e_r01_text, b_r01_text]; rfl
  rw [e_r01_Right, b_r01_Right, ht, res_some, bindS, beqS_iff]
  cases hb : by_ s with
  | nil => rw [show by_ (⟨#[]⟩ : ByteArray) = [] from rfl, decide_eq_true rfl, cond_true]; rfl
  | cons x r =>
    rw [show by_ (⟨#[]⟩ : ByteArray) = [] from rfl, decide_eq_false (by simp), cond_false]
    cases hx : isLetter x with
    | true =>
      obtain ⟨z, h1, h2⟩ := r01_one_letter hb hs hx k (by omega)
      rw [h1, res_some, bindS, ← hb, ← h2]
    | false =>
      obtain ⟨z, h1, h2⟩ := r01_one_other hb hs hx k (by omega)
      rw [h1, res_some, bindS, isName_cons, hx, decide_eq_false h2]
      cases (cond (decide (z.2.2.2.2 = (0 : Int))) (decide (z.2.2.2.1 = (s.size : Int))) false) <;> rfl
theorem r01_IsName_ev {s : ByteArray} (hs : s.size ≤ reachBytes) : ∀ k, s.size + 43 ≤ k → run M k f_r01_IsName [.val .str s] = some ⟨.bool, isName (by_ s)⟩ := by
  intro k hk
  obtain ⟨k, rfl⟩ : ∃ i, k = i + 1 := ⟨k - 1, by omega⟩
  rw [e_r01_IsName, b_r01_IsName, r01_Right_ev hs k (by omega), res_some, bindS]
end Go.Proofs.AM

namespace Go.Proofs.AM
open Go
def kindB (x : Int) : Bool := cond (decide ((0 : Int) ≤ x)) (decide (x ≤ (99 : Int))) false
def edgeB (n : Int) (e : Int × (Int × Int)) : Bool := cond (cond (cond (cond (kindB e.1) (decide ((0 : Int) ≤ e.2.1)) false) (decide (e.2.1 < n)) false) (decide ((0 : Int) ≤ e.2.2)) false) (decide (e.2.2 < n)) false
def graphE (g : List Int × List (Int × (Int × Int))) : Int :=
  cond (cond (decide ((40 : Int) < (g.1.length : Int))) true (decide ((80 : Int) < (g.2.length : Int)))) 3 (cond (g.1.any fun x => !kindB x) 6 (cond (g.2.any fun e => !edgeB g.1.length e) 6 0))
theorem graph_within_ev (x y : Int) : ∀ k, 1 ≤ k → run M k f_graph_within [.val tI x, .val tI y] = some ⟨.bool, cond (decide ((0 : Int) ≤ x)) (decide (x ≤ y)) false⟩ := by
  intro k hk
  obtain ⟨k, rfl⟩ : ∃ i, k = i + 1 := ⟨k - 1, by omega⟩
  exact e_graph_within k x y
theorem r05_kind_ev (x : Int) : ∀ k, 1 ≤ k → run M k f_r05_kind [.val tI x] = some ⟨.bool, kindB x⟩ := by
  intro k hk
  obtain ⟨k, rfl⟩ : ∃ i, k = i + 1 := ⟨k - 1, by omega⟩
  exact e_r05_kind k x
theorem le_pred {x n : Int} : decide (x ≤ n - 1) = decide (x < n) := by
  by_cases h : x < n
  · rw [decide_eq_true h, decide_eq_true (by omega)]
  · rw [decide_eq_false h, decide_eq_false (by omega)]
theorem graph_fits_ev (e : Int × (Int × Int)) (n : Nat) (hn : n ≤ reachBytes) : ∀ k, 2 ≤ k → run M k f_graph_fits [.val tEdge e, .val tI (n : Int)] = some ⟨.bool, edgeB n e⟩ := by
  intro k hk
  obtain ⟨k, rfl⟩ : ∃ i, k = i + 1 := ⟨k - 1, by omega⟩
  have hr := reach_lt
  rw [e_graph_fits, b_graph_fits, wrap_id (x := (n : Int) - 1) (by omega) (by omega), graph_within_ev _ _ k (by omega), graph_within_ev _ _ k (by omega), graph_within_ev _ _ k (by omega), res_some, bindS, res_some, res_some, le_pred, le_pred]
  unfold edgeB kindB
  cases decide ((0 : Int) ≤ e.1) <;> cases decide (e.1 ≤ (99 : Int)) <;> cases decide ((0 : Int) ≤ e.2.1) <;> cases decide (e.2.1 < (n : Int)) <;> cases decide ((0 : Int) ≤ e.2.2) <;> cases decide (e.2.2 < (n : Int)) <;> rfl
theorem r05_right_ev (e : Int × (Int × Int)) (n : Int) : ∀ k, 2 ≤ k → run M k f_r05_right [.val tEdge e, .val tI n] = some ⟨.bool, edgeB n e⟩ := by
  intro k hk
  obtain ⟨k, rfl⟩ : ∃ i, k = i + 1 := ⟨k - 1, by omega⟩
  rw [e_r05_right, b_r05_right, r05_kind_ev _ k (by omega), res_some, bindS]
  rfl
theorem graph_Valid_ev (g : List Int × List (Int × (Int × Int))) : ∀ k, 200 ≤ k → run M k f_graph_Valid [.val tGraph g] = some ⟨tI, graphE g⟩ := by
  intro k hk
  obtain ⟨k, rfl⟩ : ∃ i, k = i + 1 := ⟨k - 1, by omega⟩
  have hr : 100 ≤ reachBytes := by decide
  rw [e_graph_Valid, b_graph_Valid]
  unfold graphE
  cases h1 : decide ((40 : Int) < (g.1.length : Int)) with
  | true => rfl
  | false =>
    cases h2 : decide ((80 : Int) < (g.2.length : Int)) with
    | true => rfl
    | false =>
      have h1 := of_decide_eq_false h1
      have h2 := of_decide_eq_false h2
      simp only [cond_false]
      rw [ContainsFunc_int_ev (p := fun x => !kindB x) (c := 2) (fun x _ k hk => by
          obtain ⟨k, rfl⟩ : ∃ i, k = i + 1 := ⟨k - 1, by omega⟩
          show run M (k + 1) f_graph_Valid_1 [.val tI x] = _
          rw [e_graph_Valid_1, b_graph_Valid_1, graph_within_ev _ _ k (by omega), res_some, bindS]; rfl) (by omega) k (by omega), res_some, bindS]
      rw [ContainsFunc_Edge_ev (p := fun e => !edgeB g.1.length e) (c := 3) (fun x _ k hk => by
          obtain ⟨k, rfl⟩ : ∃ i, k = i + 1 := ⟨k - 1, by omega⟩
          show run M (k + 1) f_graph_Valid_2 [.val tEdge x, .ro tGraph (g.1, g.2)] = _
          rw [e_graph_Valid_2, b_graph_Valid_2]
          show Option.bind (res .bool (run M k f_graph_fits [.val tEdge x, .val tI (g.1.length : Int)])) _ = _
          rw [graph_fits_ev x g.1.length (by omega) k (by omega), res_some, bindS]) (by omega) k (by omega), res_some, bindS]
      cases (g.1.any fun x => !kindB x) with
      | true => rfl
      | false => cases (g.2.any fun e => !edgeB g.1.length e) <;> rfl
theorem all_drop {α : Type} (p : α → Bool) (xs : List α) (m : Nat) (h : m < xs.length) : (xs.drop m).all p = (p xs[m] && (xs.drop (m + 1)).all p) := by
  rw [List.drop_eq_getElem_cons h, List.all_cons]
theorem any_drop {α : Type} (p : α → Bool) (xs : List α) (m : Nat) (h : m < xs.length) : (xs.drop m).any p = (p xs[m] || (xs.drop (m + 1)).any p) := by
  rw [List.drop_eq_getElem_cons h, List.any_cons]
theorem r05_Valid_ev (g : List Int × List (Int × (Int × Int))) : ∀ k, 200 ≤ k → run M k f_r05_Valid [.val tGraph g] = some ⟨tI, graphE g⟩ := by
  intro k hk
  obtain ⟨k, rfl⟩ : ∃ i, k = i + 1 := ⟨k - 1, by omega⟩
  have hr : 100 ≤ reachBytes := by decide
  rw [e_r05_Valid, b_r05_Valid]
  unfold graphE
  cases h1 : decide ((40 : Int) < (g.1.length : Int)) with
  | true => rfl
  | false =>
    cases h2 : decide ((80 : Int) < (g.2.length : Int)) with
    | true => rfl
    | false =>
      have h1 := of_decide_eq_false h1
      have h2 := of_decide_eq_false h2
      simp only [cond_false]
      have hE := loop_down (n := g.2.length) (F := fun j i => l_r05_Valid_2 (run M k) j i g.1 g.2) (G := fun m => some ⟨tI, cond ((g.2.drop m).any fun e => !edgeB g.1.length e) (6 : Int) 0⟩)
        (fun j => by
          show s_r05_Valid_2 (run M k) _ _ g.1 g.2 = _
          rw [List.drop_eq_nil_of_le (Nat.le_refl _)]
          simp [s_r05_Valid_2])
        (fun m j hm ih => by
          show s_r05_Valid_2 (run M k) _ _ g.1 g.2 = _
          rw [any_drop _ _ m hm]
          simp only [s_r05_Valid_2, inB_nat, rd_nat (t := tEdge) g.2 m hm, hm, decide_true, Int.ofNat_lt, cond_true]
          show Option.bind (res .bool (run M k f_r05_right [.val tEdge g.2[m], .val tI (g.1.length : Int)])) _ = _
          rw [r05_right_ev _ _ k (by omega), res_some, bindS, wrap_succ (by omega), ih]
          cases edgeB g.1.length g.2[m] <;> rfl) 0 (Nat.zero_le _) k (by omega)
      exact loop_down (n := g.1.length) (F := fun j i => l_r05_Valid_0 (run M k) (l_r05_Valid_2 (run M k) k) j i g.1 g.2) (G := fun m => some ⟨tI, cond ((g.1.drop m).any fun x => !kindB x) (6 : Int) (cond (g.2.any fun e => !edgeB g.1.length e) (6 : Int) 0)⟩)
        (fun j => by
          show s_r05_Valid_0 (run M k) _ _ _ g.1 g.2 = _
          rw [List.drop_eq_nil_of_le (Nat.le_refl _)]
          simp only [s_r05_Valid_0, Int.lt_irrefl, decide_false, cond_false, List.any_nil]
          exact hE)
        (fun m j hm ih => by
          show s_r05_Valid_0 (run M k) _ _ _ g.1 g.2 = _
          rw [any_drop _ _ m hm]
          simp only [s_r05_Valid_0, inB_nat, rd_nat (t := tI) g.1 m hm, hm, decide_true, Int.ofNat_lt, cond_true]
          rw [r05_kind_ev _ k (by omega), res_some, bindS, wrap_succ (by omega), ih]
          cases kindB g.1[m] <;> rfl) 0 (Nat.zero_le _) k (by omega)
end Go.Proofs.AM

namespace Go.Proofs.AM
open Go
abbrev GraphD := List Int × List (Int × (Int × Int))
abbrev MorD := List Int × List Int
noncomputable abbrev rdI (xs : List Int) (i : Int) : Int := rd (E := E) (t := tI) xs i
noncomputable abbrev rdE (xs : List (Int × (Int × Int))) (i : Int) : Int × (Int × Int) := rd (E := E) (t := tEdge) xs i
def firstE {α : Type} (f : Nat → α → Int) : Nat → List α → Int
  | _, [] => 0
  | m, x :: r => cond (decide (f m x = 0)) (firstE f (m + 1) r) (f m x)
noncomputable def nodeErr (an bn : List Int) (i : Nat) (k : Int) : Int :=
  cond (cond (decide (k < (0 : Int))) true (decide ((bn.length : Int) ≤ k))) 6 (cond (!(decide (rdI bn k = rdI an i))) 13 0)
noncomputable def edgeErr (ae be : List (Int × (Int × Int))) (mn : List Int) (i : Nat) (k : Int) : Int :=
  cond (cond (decide (k < (0 : Int))) true (decide ((be.length : Int) ≤ k))) 6 (cond (!(decide ((rdE ae i).1 = (rdE be k).1))) 13
    (cond (cond (!(decide (rdI mn (rdE ae i).2.1 = (rdE be k).2.1))) true (!(decide (rdI mn (rdE ae i).2.2 = (rdE be k).2.2)))) 11 0))
noncomputable def edgesE (a b : GraphD) (m : MorD) : Int := firstE (edgeErr a.2 b.2 m.1) 0 m.2
noncomputable def mapE (a b : GraphD) (m : MorD) : Int := cond (decide (firstE (nodeErr a.1 b.1) 0 m.1 = 0)) (edgesE a b m) (firstE (nodeErr a.1 b.1) 0 m.1)
noncomputable def morE (a b : GraphD) (m : MorD) : Int :=
  cond (!(decide (graphE a = 0))) (graphE a) (cond (!(decide (graphE b = 0))) (graphE b) (cond (cond (!(decide ((m.1.length : Int) = (a.1.length : Int)))) true (!(decide ((m.2.length : Int) = (a.2.length : Int))))) 20 (mapE a b m)))
theorem inB_of {i n : Int} (h : (cond (decide (i < (0 : Int))) true (decide (n ≤ i))) = false) : inB i n = true := by
  cases h1 : decide (i < (0 : Int)) with
  | true => rw [h1] at h; cases h
  | false =>
    rw [h1] at h
    have h1 := of_decide_eq_false h1
    have h := of_decide_eq_false (p := n ≤ i) h
    simp [inB]; omega
theorem graphE_zero {g : GraphD} (h : graphE g = 0) : g.1.length ≤ 40 ∧ g.2.length ≤ 80 ∧ (∀ x ∈ g.1, kindB x = true) ∧ ∀ e ∈ g.2, edgeB g.1.length e = true := by
  unfold graphE at h
  cases h1 : decide ((40 : Int) < (g.1.length : Int)) with
  | true => rw [h1] at h; cases h
  | false =>
    cases h2 : decide ((80 : Int) < (g.2.length : Int)) with
    | true => rw [h1, h2] at h; cases h
    | false =>
      rw [h1, h2] at h
      have h1 := of_decide_eq_false h1
      have h2 := of_decide_eq_false h2
      simp only [cond_false] at h
      cases h3 : (g.1.any fun x => !kindB x) with
      | true => rw [h3] at h; cases h
      | false =>
        cases h4 : (g.2.any fun e => !edgeB g.1.length e) with
        | true => rw [h3, h4] at h; cases h
        | false =>
          refine ⟨by omega, by omega, fun x hx => ?_, fun e he => ?_⟩
          · have := List.any_eq_false.1 h3 x hx; simpa using this
          · have := List.any_eq_false.1 h4 e he; simpa using this
theorem edgeB_ends {n : Nat} {e : Int × (Int × Int)} (h : edgeB n e = true) : kindB e.1 = true ∧ inB e.2.1 (n : Int) = true ∧ inB e.2.2 (n : Int) = true := by
  unfold edgeB at h
  cases h1 : kindB e.1 with
  | false => rw [h1] at h; cases h
  | true =>
    cases h2 : decide ((0 : Int) ≤ e.2.1) with
    | false => rw [h1, h2] at h; cases h
    | true =>
      cases h3 : decide (e.2.1 < (n : Int)) with
      | false => rw [h1, h2, h3] at h; cases h
      | true =>
        cases h4 : decide ((0 : Int) ≤ e.2.2) with
        | false => rw [h1, h2, h3, h4] at h; cases h
        | true =>
          cases h5 : decide (e.2.2 < (n : Int)) with
          | false => rw [h1, h2, h3, h4, h5] at h; cases h
          | true => exact ⟨rfl, by unfold inB; rw [h2, h3]; rfl, by unfold inB; rw [h4, h5]; rfl⟩
theorem rdE_mem {xs : List (Int × (Int × Int))} {m : Nat} (h : m < xs.length) : rdE xs m ∈ xs := by
  unfold rdE; rw [rd_nat (t := tEdge) xs m h]; exact List.getElem_mem h
theorem morphism_Valid_ev (a b : GraphD) (m : MorD) : ∀ k, 300 ≤ k → run M k f_morphism_Valid [.val tGraph a, .val tGraph b, .val tMorphism m] = some ⟨tI, morE a b m⟩ := by
  intro k hk
  obtain ⟨k, rfl⟩ : ∃ i, k = i + 1 := ⟨k - 1, by omega⟩
  rw [e_morphism_Valid, b_morphism_Valid]
  show Option.bind (res tI (run M k f_graph_Valid [.val tGraph a])) _ = _
  rw [graph_Valid_ev a k (by omega), res_some, bindS]
  show cond _ _ (Option.bind (res tI (run M k f_graph_Valid [.val tGraph b])) _) = _
  rw [graph_Valid_ev b k (by omega), res_some, bindS]
  unfold morE
  by_cases h1 : graphE a = 0
  case neg => rw [decide_eq_false h1]; rfl
  by_cases h2 : graphE b = 0
  case neg => rw [decide_eq_false h2, decide_eq_true h1]; rfl
  rw [decide_eq_true h1, decide_eq_true h2]
  simp only [Bool.not_true, cond_false]
  obtain ⟨ga, gb, gc, gd⟩ := graphE_zero h1
  by_cases l1 : (m.1.length : Int) = (a.1.length : Int)
  case neg => rw [decide_eq_false l1]; rfl
  by_cases l2 : (m.2.length : Int) = (a.2.length : Int)
  case neg => rw [decide_eq_false l2, decide_eq_true l1]; rfl
  rw [decide_eq_true l1, decide_eq_true l2]
  simp only [Bool.not_true, cond_false]
  have hE := loop_down (n := m.2.length) (F := fun j i => l_morphism_Valid_2 (run M k) j m.2 m.2.length i a.1 a.2 b.1 b.2 m.1 m.2) (G := fun q => some ⟨tI, firstE (edgeErr a.2 b.2 m.1) q (m.2.drop q)⟩)
    (fun j => by
      show s_morphism_Valid_2 (run M k) _ m.2 _ _ a.1 a.2 b.1 b.2 m.1 m.2 = _
      rw [List.drop_eq_nil_of_le (Nat.le_refl _)]
      simp [s_morphism_Valid_2, firstE])
    (fun q j hq ih => by
      show s_morphism_Valid_2 (run M k) _ m.2 _ _ a.1 a.2 b.1 b.2 m.1 m.2 = _
      rw [List.drop_eq_getElem_cons hq, firstE, edgeErr]
      have hqa : q < a.2.length := by omega
      obtain ⟨_, e1, e2⟩ := edgeB_ends (gd _ (rdE_mem hqa))
      rw [← l1] at e1 e2
      simp only [s_morphism_Valid_2, inB_nat, rd_nat (t := tI) m.2 q hq, hq, hqa, decide_true, Int.ofNat_lt, cond_true, e1, e2, Bool.true_or]
      rw [wrap_succ (by omega), ih]
      generalize m.2[q] = x
      cases hx : (cond (decide (x < (0 : Int))) true (decide ((b.2.length : Int) ≤ x))) with
      | true => rfl
      | false =>
        rw [inB_of hx]
        simp only [cond_true, cond_false]
        cases decide ((rdE a.2 q).1 = (rdE b.2 x).1) <;> cases decide (rdI m.1 (rdE a.2 q).2.1 = (rdE b.2 x).2.1) <;> cases decide (rdI m.1 (rdE a.2 q).2.2 = (rdE b.2 x).2.2) <;> rfl) 0 (Nat.zero_le _) k (by omega)
  exact loop_down (n := m.1.length) (F := fun j i => l_morphism_Valid_0 (run M k) (l_morphism_Valid_2 (run M k) k) j m.1 m.1.length i a.1 a.2 b.1 b.2 m.1 m.2) (G := fun q => some ⟨tI, cond (decide (firstE (nodeErr a.1 b.1) q (m.1.drop q) = 0)) (edgesE a b m) (firstE (nodeErr a.1 b.1) q (m.1.drop q))⟩)
    (fun j => by
      show s_morphism_Valid_0 (run M k) _ _ m.1 _ _ a.1 a.2 b.1 b.2 m.1 m.2 = _
      rw [List.drop_eq_nil_of_le (Nat.le_refl _)]
      simp only [s_morphism_Valid_0, Int.lt_irrefl, decide_false, cond_false, firstE]
      exact hE)
    (fun q j hq ih => by
      show s_morphism_Valid_0 (run M k) _ _ m.1 _ _ a.1 a.2 b.1 b.2 m.1 m.2 = _
      rw [List.drop_eq_getElem_cons hq, firstE, nodeErr]
      have hqa : q < a.1.length := by omega
      simp only [s_morphism_Valid_0, inB_nat, rd_nat (t := tI) m.1 q hq, hq, hqa, decide_true, Int.ofNat_lt, cond_true]
      rw [wrap_succ (by omega), ih]
      generalize m.1[q] = x
      cases hx : (cond (decide (x < (0 : Int))) true (decide ((b.1.length : Int) ≤ x))) with
      | true => rfl
      | false =>
        rw [inB_of hx]
        simp only [cond_true, cond_false]
        cases decide (rdI b.1 x = rdI a.1 q) <;> rfl) 0 (Nat.zero_le _) k (by omega)
theorem r06_Valid_ev (a b : GraphD) (m : MorD) : ∀ k, 300 ≤ k → run M k f_r06_Valid [.val tGraph a, .val tGraph b, .val tMorphism m] = some ⟨tI, morE a b m⟩ := by
  intro k hk
  obtain ⟨k, rfl⟩ : ∃ i, k = i + 1 := ⟨k - 1, by omega⟩
  rw [e_r06_Valid, b_r06_Valid]
  show Option.bind (res tI (run M k f_r05_Valid [.val tGraph a])) _ = _
  rw [r05_Valid_ev a k (by omega), res_some, bindS]
  show cond _ _ (Option.bind (res tI (run M k f_r05_Valid [.val tGraph b])) _) = _
  rw [r05_Valid_ev b k (by omega), res_some, bindS]
  unfold morE
  by_cases h1 : graphE a = 0
  case neg => rw [decide_eq_false h1]; rfl
  by_cases h2 : graphE b = 0
  case neg => rw [decide_eq_false h2, decide_eq_true h1]; rfl
  rw [decide_eq_true h1, decide_eq_true h2]
  simp only [Bool.not_true, cond_false]
  obtain ⟨ga, gb, gc, gd⟩ := graphE_zero h1
  by_cases l1 : (m.1.length : Int) = (a.1.length : Int)
  case neg => rw [decide_eq_false l1]; rfl
  by_cases l2 : (m.2.length : Int) = (a.2.length : Int)
  case neg => rw [decide_eq_false l2, decide_eq_true l1]; rfl
  rw [decide_eq_true l1, decide_eq_true l2]
  simp only [Bool.not_true, cond_false]
  have l1' : m.1.length = a.1.length := by omega
  have l2' : m.2.length = a.2.length := by omega
  have hE := loop_down (n := m.2.length) (F := fun j i => l_r06_Valid_2 (run M k) j i a.1 a.2 b.1 b.2 m.1 m.2) (G := fun q => some ⟨tI, firstE (edgeErr a.2 b.2 m.1) q (m.2.drop q)⟩)
    (fun j => by
      show s_r06_Valid_2 (run M k) _ _ a.1 a.2 b.1 b.2 m.1 m.2 = _
      rw [List.drop_eq_nil_of_le (Nat.le_refl _)]
      simp [s_r06_Valid_2, firstE, l2'])
    (fun q j hq ih => by
      show s_r06_Valid_2 (run M k) _ _ a.1 a.2 b.1 b.2 m.1 m.2 = _
      rw [List.drop_eq_getElem_cons hq, firstE, edgeErr]
      have hqa : q < a.2.length := by omega
      obtain ⟨_, e1, e2⟩ := edgeB_ends (gd _ (rdE_mem hqa))
      rw [← l1] at e1 e2
      simp only [s_r06_Valid_2, inB_nat, rd_nat (t := tI) m.2 q hq, hq, hqa, decide_true, Int.ofNat_lt, cond_true, e1, e2, Bool.true_or]
      rw [wrap_succ (by omega), ih]
      generalize m.2[q] = x
      cases hx : (cond (decide (x < (0 : Int))) true (decide ((b.2.length : Int) ≤ x))) with
      | true => rfl
      | false =>
        rw [inB_of hx]
        simp only [cond_true, cond_false]
        cases decide ((rdE a.2 q).1 = (rdE b.2 x).1) <;> cases decide (rdI m.1 (rdE a.2 q).2.1 = (rdE b.2 x).2.1) <;> cases decide (rdI m.1 (rdE a.2 q).2.2 = (rdE b.2 x).2.2) <;> rfl) 0 (Nat.zero_le _) k (by omega)
  exact loop_down (n := m.1.length) (F := fun j i => l_r06_Valid_0 (run M k) (l_r06_Valid_2 (run M k) k) j i a.1 a.2 b.1 b.2 m.1 m.2) (G := fun q => some ⟨tI, cond (decide (firstE (nodeErr a.1 b.1) q (m.1.drop q) = 0)) (edgesE a b m) (firstE (nodeErr a.1 b.1) q (m.1.drop q))⟩)
    (fun j => by
      show s_r06_Valid_0 (run M k) _ _ _ a.1 a.2 b.1 b.2 m.1 m.2 = _
      rw [List.drop_eq_nil_of_le (Nat.le_refl _)]
      simp only [s_r06_Valid_0, l1', Int.lt_irrefl, decide_false, cond_false, firstE]
      exact hE)
    (fun q j hq ih => by
      show s_r06_Valid_0 (run M k) _ _ _ a.1 a.2 b.1 b.2 m.1 m.2 = _
      rw [List.drop_eq_getElem_cons hq, firstE, nodeErr]
      have hqa : q < a.1.length := by omega
      simp only [s_r06_Valid_0, inB_nat, rd_nat (t := tI) m.1 q hq, hq, hqa, decide_true, Int.ofNat_lt, cond_true, Bool.true_or]
      rw [wrap_succ (by omega), ih]
      generalize m.1[q] = x
      cases hx : (cond (decide (x < (0 : Int))) true (decide ((b.1.length : Int) ≤ x))) with
      | true => rfl
      | false =>
        rw [inB_of hx]
        simp only [cond_true, cond_false]
        cases decide (rdI b.1 x = rdI a.1 q) <;> rfl) 0 (Nat.zero_le _) k (by omega)
def freshFrom (xs : List Int) : Nat → List Int → Bool
  | _, [] => true
  | m, x :: r => cond ((xs.take m).any fun y => decide (x = y)) false (freshFrom xs (m + 1) r)
def distinctB (xs : List Int) : Bool := freshFrom xs 0 xs
theorem freshFrom_iff (xs : List Int) : ∀ (n m : Nat), n + m = xs.length → (xs.take m).Nodup → (freshFrom xs m (xs.drop m) = true ↔ xs.Nodup)
  | 0, m, h, hn => by
    rw [List.drop_eq_nil_of_le (by omega)]
    rw [List.take_of_length_le (by omega)] at hn
    exact ⟨fun _ => hn, fun _ => rfl⟩
  | n + 1, m, h, hn => by
    have hm : m < xs.length := by omega
    rw [List.drop_eq_getElem_cons hm, freshFrom]
    have ht : xs.take (m + 1) = xs.take m ++ [xs[m]] := by rw [List.take_add_one, List.getElem?_eq_getElem hm]; rfl
    cases ha : ((xs.take m).any fun y => decide (xs[m] = y)) with
    | true =>
      simp only [cond_true, Bool.false_eq_true, false_iff]
      intro hx
      obtain ⟨y, hy, he⟩ := List.any_eq_true.1 ha
      have he := of_decide_eq_true he
      subst he
      have := hx.sublist (List.take_sublist (m + 1) xs)
      rw [ht, List.nodup_append] at this
      exact this.2.2 _ hy _ (by simp) rfl
    | false =>
      simp only [cond_false]
      refine freshFrom_iff xs n (m + 1) (by omega) ?_
      rw [ht, List.nodup_append]
      refine ⟨hn, by simp, fun y hy z hz => ?_⟩
      simp only [List.mem_singleton] at hz
      subst hz
      intro e
      have := List.any_eq_false.1 ha y hy
      simp [e] at this
theorem distinctB_iff (xs : List Int) : distinctB xs = true ↔ xs.Nodup := freshFrom_iff xs xs.length 0 rfl (by simp)
theorem r06_Distinct_ev (xs : List Int) (hs : xs.length ≤ reachBytes) : ∀ k, 2 * xs.length + 5 ≤ k → run M k f_r06_Distinct [.val (.slice tI) xs] = some ⟨.bool, distinctB xs⟩ := by
  intro k hk
  obtain ⟨k, rfl⟩ : ∃ i, k = i + 1 := ⟨k - 1, by omega⟩
  rw [e_r06_Distinct, b_r06_Distinct]
  have hr := reach_lt
  exact loop_down' (n := xs.length) xs.length (F := fun j i => l_r06_Distinct_0 (run M k) j xs i) (G := fun m => some ⟨.bool, freshFrom xs m (xs.drop m)⟩)
    (fun j _ => by
      show s_r06_Distinct_0 (run M k) _ _ xs _ = _
      rw [List.drop_eq_nil_of_le (Nat.le_refl _)]
      simp [s_r06_Distinct_0, freshFrom])
    (fun m j hm hj ih => by
      show s_r06_Distinct_0 (run M k) _ _ xs _ = _
      rw [List.drop_eq_getElem_cons hm, freshFrom]
      simp only [s_r06_Distinct_0, hm, decide_true, Int.ofNat_lt, cond_true]
      have hlt : (xs.take m).length = m := by rw [List.length_take]; omega
      have := loop_down (n := m) (F := fun i q => l_r06_Distinct_2 (run M k) (l_r06_Distinct_0 (run M k) j) i xs (m : Int) q)
        (G := fun q => some ⟨.bool, cond (((xs.take m).drop q).any fun y => decide (xs[m] = y)) false (freshFrom xs (m + 1) (xs.drop (m + 1)))⟩)
        (fun i => by
          show s_r06_Distinct_2 (run M k) _ _ xs _ _ = _
          rw [List.drop_eq_nil_of_le (by omega)]
          simp only [s_r06_Distinct_2, Int.lt_irrefl, decide_false, cond_false, List.any_nil]
          rw [wrap_succ (by omega)]
          exact ih)
        (fun q i hq ih2 => by
          show s_r06_Distinct_2 (run M k) _ _ xs _ _ = _
          rw [any_drop _ _ q (by omega)]
          simp only [s_r06_Distinct_2, inB_nat, rd_nat (t := tI) xs m hm, rd_nat (t := tI) xs q (by omega), hq, hm, show q < xs.length by omega, decide_true, Int.ofNat_lt, cond_true, List.getElem_take]
          rw [wrap_succ (by omega), ih2]
          cases decide (xs[m] = xs[q]) <;> rfl) 0 (Nat.zero_le _) j (by omega)
      simpa using this) 0 (Nat.zero_le _) k (by omega)
theorem Clone_int_ev (xs : List Int) (hs : xs.length ≤ 1000000) : ∀ k, 1 ≤ k → run M k f_slices_Clone_int [.val (.slice tI) xs] = some ⟨.slice tI, xs⟩ := by
  intro k hk
  obtain ⟨k, rfl⟩ : ∃ i, k = i + 1 := ⟨k - 1, by omega⟩
  rw [e_slices_Clone_int, b_slices_Clone_int]
  cases xs with
  | nil => rfl
  | cons x r =>
    have h1 : roomy (([] : List (D tI)).length + (x :: r : List Int).length) 8 = true := by
      unfold roomy
      refine decide_eq_true ?_
      simp only [List.length_nil, List.length_cons] at hs ⊢
      omega
    have h2 : decide (0 < (x :: r : List Int).length) = true := by simp
    rw [h2, cond_true, h1, cond_true]
    rfl
theorem Sort_int_ev (xs : List Int) (hs : xs.length ≤ 1000000) : ∀ k, 1 ≤ k → run M k f_slices_Sort_int [.own tI xs] = some ⟨.slice tI, isortI xs⟩ := by
  intro k hk
  obtain ⟨k, rfl⟩ : ∃ i, k = i + 1 := ⟨k - 1, by omega⟩
  show extSort [.own tI xs] = _
  unfold extSort
  have : Nat.blt (List.length xs) 4611686018427387904 = true := by rw [Nat.blt_eq]; omega
  show cond (Nat.blt (List.length xs) 4611686018427387904) _ _ = _
  rw [this]; rfl
theorem Compact_int_ev (xs : List Int) (hs : xs.length ≤ 1000000) : ∀ k, 1 ≤ k → run M k f_slices_Compact_int [.take tI xs] = some ⟨.slice tI, Lib.compact xs⟩ := by
  intro k hk
  obtain ⟨k, rfl⟩ : ∃ i, k = i + 1 := ⟨k - 1, by omega⟩
  show extCompact [.take tI xs] = _
  have : Nat.blt (List.length xs) 9223372036854775808 = true := by rw [Nat.blt_eq]; omega
  show cond (Nat.blt (List.length xs) 9223372036854775808) _ _ = _
  rw [this]; rfl
theorem images_ev (xs : List Int) (hs : xs.length ≤ 1000000) : ∀ k, 2 ≤ k → run M k f_morphism_images [.val (.slice tI) xs] = some ⟨tI, ((Lib.compact (isortI xs)).length : Int)⟩ := by
  intro k hk
  obtain ⟨k, rfl⟩ : ∃ i, k = i + 1 := ⟨k - 1, by omega⟩
  have hl := (isortI_perm xs).length_eq
  rw [e_morphism_images, b_morphism_images, Clone_int_ev xs hs k (by omega), res_some, bindS, Sort_int_ev xs hs k (by omega), res_some, bindS, decide_eq_true hl, cond_true,
    Compact_int_ev _ (by omega) k (by omega), res_some, bindS]
theorem compact_all_iff (l : List Int) : (Lib.compact l).length = l.length ↔ ∀ j (h : j < l.length), j = 0 ∨ l[j] ≠ l[j - 1] := by
  unfold Lib.compact Lib.compactUpTo
  rw [List.length_map]
  have key : ∀ j (h : j < l.length), (Lib.keeps l.toArray j = true ↔ j = 0 ∨ l[j] ≠ l[j - 1]) := by
    intro j h
    unfold Lib.keeps
    rw [decide_eq_true_iff]
    have h1 : l.toArray[j]! = l[j] := by simp [h]
    have h2 : l.toArray[j - 1]! = l[j - 1] := by
      have : j - 1 < l.length := by omega
      simp [this]
    rw [h1, h2]
  have hc : ((List.range l.length).filter (Lib.keeps l.toArray)).length = (List.range l.length).length ↔ ∀ j ∈ List.range l.length, Lib.keeps l.toArray j = true := List.length_filter_eq_length_iff
  rw [List.length_range] at hc
  rw [hc]
  exact ⟨fun h j hj => (key j hj).1 (h j (List.mem_range.2 hj)), fun h j hj => (key j (List.mem_range.1 hj)).2 (h j (List.mem_range.1 hj))⟩
theorem images_iff (xs : List Int) : decide (((Lib.compact (isortI xs)).length : Int) = (xs.length : Int)) = distinctB xs := by
  have hp := isortI_perm xs
  have hs := isortI_sorted xs
  have key : (Lib.compact (isortI xs)).length = (isortI xs).length ↔ (isortI xs).Nodup := by
    rw [compact_all_iff]
    constructor
    · intro h
      rw [List.pairwise_iff_getElem] at hs
      unfold List.Nodup
      rw [List.pairwise_iff_getElem]
      intro i j hi hj hij
      have h1 := (h j hj).resolve_left (by omega)
      have h2 : (isortI xs)[j - 1] ≤ (isortI xs)[j] := hs (j - 1) j (by omega) hj (by omega)
      have h3 : (isortI xs)[i] ≤ (isortI xs)[j - 1] := by
        rcases Nat.lt_or_ge i (j - 1) with h | h
        · exact hs i (j - 1) hi (by omega) h
        · have : i = j - 1 := by omega
          subst this; exact Int.le_refl _
      omega
    · intro h j hj
      unfold List.Nodup at h
      rw [List.pairwise_iff_getElem] at h
      rcases Nat.eq_zero_or_pos j with h0 | h0
      · exact .inl h0
      · exact .inr fun e => h (j - 1) j (by omega) hj (by omega) e.symm
  have hn : (isortI xs).Nodup ↔ xs.Nodup := hp.nodup_iff
  rw [hp.length_eq] at key
  cases hd : distinctB xs with
  | true =>
    have := key.2 (hn.2 ((distinctB_iff xs).1 hd))
    exact decide_eq_true (by omega)
  | false =>
    refine decide_eq_false fun e => ?_
    have := (distinctB_iff xs).2 (hn.1 (key.1 (by omega)))
    rw [this] at hd; cases hd
noncomputable def injB (a b : GraphD) (m : MorD) : Bool := cond (cond (decide (morE a b m = 0)) (distinctB m.1) false) (distinctB m.2) false
theorem morE_zero {a b : GraphD} {m : MorD} (h : morE a b m = 0) : graphE a = 0 ∧ graphE b = 0 ∧ m.1.length = a.1.length ∧ m.2.length = a.2.length := by
  unfold morE at h
  by_cases h1 : graphE a = 0
  case neg => rw [decide_eq_false h1] at h; exact absurd h h1
  by_cases h2 : graphE b = 0
  case neg => rw [decide_eq_false h2, decide_eq_true h1] at h; exact absurd h h2
  rw [decide_eq_true h1, decide_eq_true h2] at h
  simp only [Bool.not_true, cond_false] at h
  by_cases l1 : (m.1.length : Int) = (a.1.length : Int)
  case neg => rw [decide_eq_false l1] at h; cases h
  by_cases l2 : (m.2.length : Int) = (a.2.length : Int)
  case neg => rw [decide_eq_false l2, decide_eq_true l1] at h; cases h
  exact ⟨h1, h2, by omega, by omega⟩
theorem morphism_Injective_ev (a b : GraphD) (m : MorD) : ∀ k, 400 ≤ k → run M k f_morphism_Injective [.val tGraph a, .val tGraph b, .val tMorphism m] = some ⟨.bool, injB a b m⟩ := by
  intro k hk
  obtain ⟨k, rfl⟩ : ∃ i, k = i + 1 := ⟨k - 1, by omega⟩
  rw [e_morphism_Injective, b_morphism_Injective]
  show Option.bind (res tI (run M k f_morphism_Valid [.val tGraph a, .val tGraph b, .val tMorphism m])) _ = _
  rw [morphism_Valid_ev a b m k (by omega), res_some, bindS]
  unfold injB
  by_cases h : morE a b m = 0
  case neg => rw [decide_eq_false h]; rfl
  obtain ⟨h1, h2, l1, l2⟩ := morE_zero h
  obtain ⟨g1, g2, _, _⟩ := graphE_zero h1
  rw [decide_eq_true h]
  simp only [cond_true]
  rw [images_ev m.1 (by omega) k (by omega), res_some, bindS, images_iff]
  cases distinctB m.1 with
  | false => rfl
  | true =>
    simp only [cond_true]
    rw [images_ev m.2 (by omega) k (by omega), res_some, bindS, images_iff]
theorem r06_Injective_ev (a b : GraphD) (m : MorD) : ∀ k, 400 ≤ k → run M k f_r06_Injective [.val tGraph a, .val tGraph b, .val tMorphism m] = some ⟨.bool, injB a b m⟩ := by
  intro k hk
  obtain ⟨k, rfl⟩ : ∃ i, k = i + 1 := ⟨k - 1, by omega⟩
  have hr : 1000 ≤ reachBytes := by decide
  rw [e_r06_Injective, b_r06_Injective]
  show Option.bind (res tI (run M k f_r06_Valid [.val tGraph a, .val tGraph b, .val tMorphism m])) _ = _
  rw [r06_Valid_ev a b m k (by omega), res_some, bindS]
  unfold injB
  by_cases h : morE a b m = 0
  case neg => rw [decide_eq_false h]; rfl
  obtain ⟨h1, h2, l1, l2⟩ := morE_zero h
  obtain ⟨g1, g2, _, _⟩ := graphE_zero h1
  rw [decide_eq_true h]
  simp only [cond_true]
  rw [r06_Distinct_ev m.1 (by omega) k (by omega), res_some, bindS]
  cases distinctB m.1 with
  | false => rfl
  | true =>
    simp only [cond_true]
    rw [r06_Distinct_ev m.2 (by omega) k (by omega), res_some, bindS]
end Go.Proofs.AM

namespace Go.Proofs.AM
open Go
abbrev ExtD := MorD × GraphD
abbrev ConD := ByteArray × (Int × (GraphD × List ExtD))
def largeB (g : GraphD) : Bool := cond (decide ((6 : Int) < (g.1.length : Int))) true (decide ((8 : Int) < (g.2.length : Int)))
noncomputable def extE (g : GraphD) (x : ExtD) : Int := cond (!(decide (morE g x.2 x.1 = 0))) (morE g x.2 x.1) (cond (largeB x.2) 3 (cond (!injB g x.2 x.1) 1 0))
noncomputable def shapeE (c : ConD) : Int :=
  cond (!isName (by_ c.1)) 2 (cond (cond (cond (!(decide (c.2.1 = (1 : Int)))) (!(decide (c.2.1 = (2 : Int)))) false) true (cond (decide (c.2.1 = (1 : Int))) (decide ((0 : Int) < (c.2.2.2.length : Int))) false)) 1
    (cond (cond (decide (c.2.1 = (2 : Int))) (decide ((c.2.2.2.length : Int) = (0 : Int))) false) 7 (cond (decide ((6 : Int) < (c.2.2.2.length : Int))) 3
      (cond (!(decide (graphE c.2.2.1 = 0))) (graphE c.2.2.1) (cond (largeB c.2.2.1) 3 (firstE (fun _ x => extE c.2.2.1 x) 0 c.2.2.2))))))
theorem constraint_large_ev (g : GraphD) : ∀ k, 1 ≤ k → run M k f_constraint_large [.val tGraph g] = some ⟨.bool, largeB g⟩ := by
  intro k hk
  obtain ⟨k, rfl⟩ : ∃ i, k = i + 1 := ⟨k - 1, by omega⟩
  exact e_constraint_large k g
theorem r42_large_ev (g : GraphD) : ∀ k, 1 ≤ k → run M k f_r42_large [.val tGraph g] = some ⟨.bool, largeB g⟩ := by
  intro k hk
  obtain ⟨k, rfl⟩ : ∃ i, k = i + 1 := ⟨k - 1, by omega⟩
  exact e_r42_large k g
theorem constraint_shape_ev (c : ConD) (hn : c.1.size ≤ 60) : ∀ k, 500 ≤ k → run M k f_constraint_shape [.val tConstraint c] = some ⟨tI, shapeE c⟩ := by
  intro k hk
  obtain ⟨k, rfl⟩ : ∃ i, k = i + 1 := ⟨k - 1, by omega⟩
  have hr : 1000 ≤ reachBytes := by decide
  obtain ⟨name, kind, g, xs⟩ := c
  rw [e_constraint_shape, b_constraint_shape]
  unfold shapeE
  simp only at hn ⊢
  rw [token_IsName_ev (by omega) k (by omega), res_some, bindS]
  cases isName (by_ name) with
  | false => rfl
  | true =>
    simp only [Bool.not_true, cond_false]
    cases (cond (cond (!(decide (kind = (1 : Int)))) (!(decide (kind = (2 : Int)))) false) true (cond (decide (kind = (1 : Int))) (decide ((0 : Int) < (xs.length : Int))) false)) with
    | true => rfl
    | false =>
      cases (cond (decide (kind = (2 : Int))) (decide ((xs.length : Int) = (0 : Int))) false) with
      | true => rfl
      | false =>
        cases h6 : decide ((6 : Int) < (xs.length : Int)) with
        | true => rfl
        | false =>
          have h6 := of_decide_eq_false h6
          simp only [cond_false]
          show Option.bind (res tI (run M k f_graph_Valid [.val tGraph g])) _ = _
          rw [graph_Valid_ev g k (by omega), res_some, bindS]
          by_cases hg : graphE g = 0
          case neg => rw [decide_eq_false hg]; rfl
          rw [decide_eq_true hg]
          simp only [Bool.not_true, cond_false]
          show Option.bind (res .bool (run M k f_constraint_large [.val tGraph g])) _ = _
          rw [constraint_large_ev g k (by omega), res_some, bindS]
          cases largeB g with
          | true => rfl
          | false =>
            simp only [cond_false]
            exact loop_down (n := xs.length) (F := fun j i => l_constraint_shape_1 (run M k) j xs xs.length i name kind g.1 g.2 xs) (G := fun q => some ⟨tI, firstE (fun _ x => extE g x) q (xs.drop q)⟩)
              (fun j => by
                show s_constraint_shape_1 (run M k) _ xs _ _ name kind g.1 g.2 xs = _
                rw [List.drop_eq_nil_of_le (Nat.le_refl _)]
                simp [s_constraint_shape_1, firstE])
              (fun q j hq ih => by
                show s_constraint_shape_1 (run M k) _ xs _ _ name kind g.1 g.2 xs = _
                rw [List.drop_eq_getElem_cons hq, firstE, extE]
                simp only [s_constraint_shape_1, inB_nat, rd_nat (t := tExtension) xs q hq, hq, decide_true, Int.ofNat_lt, cond_true]
                rw [wrap_succ (by omega), ih]
                generalize xs[q] = x
                show Option.bind (res tI (run M k f_morphism_Valid [.val tGraph g, .val tGraph x.2, .val tMorphism x.1])) _ = _
                rw [morphism_Valid_ev g x.2 x.1 k (by omega), res_some, bindS]
                by_cases hm : morE g x.2 x.1 = 0
                case neg =>
                  rw [decide_eq_false hm]
                  simp only [Bool.not_false, cond_true]
                  rw [decide_eq_false hm]; rfl
                rw [decide_eq_true hm]
                simp only [Bool.not_true, cond_false]
                show Option.bind (res .bool (run M k f_constraint_large [.val tGraph x.2])) _ = _
                rw [constraint_large_ev x.2 k (by omega), res_some, bindS]
                cases largeB x.2 with
                | true => rfl
                | false =>
                  simp only [cond_false]
                  show Option.bind (res .bool (run M k f_morphism_Injective [.val tGraph g, .val tGraph x.2, .val tMorphism x.1])) _ = _
                  rw [morphism_Injective_ev g x.2 x.1 k (by omega), res_some, bindS]
                  cases injB g x.2 x.1 <;> rfl) 0 (Nat.zero_le _) k (by omega)
theorem r42_Shape_ev (c : ConD) (hn : c.1.size ≤ 60) : ∀ k, 500 ≤ k → run M k f_r42_Shape [.val tConstraint c] = some ⟨tI, shapeE c⟩ := by
  intro k hk
  obtain ⟨k, rfl⟩ : ∃ i, k = i + 1 := ⟨k - 1, by omega⟩
  have hr : 1000 ≤ reachBytes := by decide
  obtain ⟨name, kind, g, xs⟩ := c
  rw [e_r42_Shape, b_r42_Shape]
  unfold shapeE
  simp only at hn ⊢
  rw [r01_IsName_ev (by omega) k (by omega), res_some, bindS]
  cases isName (by_ name) with
  | false => rfl
  | true =>
    simp only [Bool.not_true, cond_false]
    cases (cond (cond (!(decide (kind = (1 : Int)))) (!(decide (kind = (2 : Int)))) false) true (cond (decide (kind = (1 : Int))) (decide ((0 : Int) < (xs.length : Int))) false)) with
    | true => rfl
    | false =>
      cases (cond (decide (kind = (2 : Int))) (decide ((xs.length : Int) = (0 : Int))) false) with
      | true => rfl
      | false =>
        cases h6 : decide ((6 : Int) < (xs.length : Int)) with
        | true => rfl
        | false =>
          have h6 := of_decide_eq_false h6
          simp only [cond_false]
          show Option.bind (res tI (run M k f_r05_Valid [.val tGraph g])) _ = _
          rw [r05_Valid_ev g k (by omega), res_some, bindS]
          by_cases hg : graphE g = 0
          case neg => rw [decide_eq_false hg]; rfl
          rw [decide_eq_true hg]
          simp only [Bool.not_true, cond_false]
          show Option.bind (res .bool (run M k f_r42_large [.val tGraph g])) _ = _
          rw [r42_large_ev g k (by omega), res_some, bindS]
          cases largeB g with
          | true => rfl
          | false =>
            simp only [cond_false]
            exact loop_down (n := xs.length) (F := fun j i => l_r42_Shape_0 (run M k) j i name kind g.1 g.2 xs) (G := fun q => some ⟨tI, firstE (fun _ x => extE g x) q (xs.drop q)⟩)
              (fun j => by
                show s_r42_Shape_0 (run M k) _ _ name kind g.1 g.2 xs = _
                rw [List.drop_eq_nil_of_le (Nat.le_refl _)]
                simp [s_r42_Shape_0, firstE])
              (fun q j hq ih => by
                show s_r42_Shape_0 (run M k) _ _ name kind g.1 g.2 xs = _
                rw [List.drop_eq_getElem_cons hq, firstE, extE]
                simp only [s_r42_Shape_0, inB_nat, rd_nat (t := tExtension) xs q hq, hq, decide_true, Int.ofNat_lt, cond_true]
                rw [wrap_succ (by omega), ih]
                generalize xs[q] = x
                show Option.bind (res tI (run M k f_r06_Valid [.val tGraph g, .val tGraph x.2, .val tMorphism x.1])) _ = _
                rw [r06_Valid_ev g x.2 x.1 k (by omega), res_some, bindS]
                by_cases hm : morE g x.2 x.1 = 0
                case neg =>
                  rw [decide_eq_false hm]
                  simp only [Bool.not_false, cond_true]
                  rw [decide_eq_false hm]; rfl
                rw [decide_eq_true hm]
                simp only [Bool.not_true, cond_false]
                show Option.bind (res .bool (run M k f_r42_large [.val tGraph x.2])) _ = _
                rw [r42_large_ev x.2 k (by omega), res_some, bindS]
                cases largeB x.2 with
                | true => rfl
                | false =>
                  simp only [cond_false]
                  show Option.bind (res .bool (run M k f_r06_Injective [.val tGraph g, .val tGraph x.2, .val tMorphism x.1])) _ = _
                  rw [r06_Injective_ev g x.2 x.1 k (by omega), res_some, bindS]
                  cases injB g x.2 x.1 <;> rfl) 0 (Nat.zero_le _) k (by omega)
theorem inS_nat (m n : Nat) : inS (0 : Int) (m : Int) (n : Int) = decide (m ≤ n) := by simp [inS]
end Go.Proofs.AM

namespace Go.Proofs.AM
open Go
theorem r02_SameInts_refl (xs : List Int) (hs : xs.length ≤ 1000000) : ∀ k, xs.length + 2 ≤ k → run M k f_r02_SameInts [.val (.slice tI) xs, .val (.slice tI) xs] = some ⟨.bool, true⟩ := by
  intro k hk
  obtain ⟨k, rfl⟩ : ∃ i, k = i + 1 := ⟨k - 1, by omega⟩
  rw [e_r02_SameInts, b_r02_SameInts, decide_eq_true rfl]
  exact loop_down (n := xs.length) (F := fun j i => l_r02_SameInts_0 (run M k) j xs xs i) (G := fun _ => some ⟨.bool, true⟩)
    (fun j => by
      show s_r02_SameInts_0 (run M k) _ xs xs _ = _
      simp [s_r02_SameInts_0])
    (fun q j hq ih => by
      show s_r02_SameInts_0 (run M k) _ xs xs _ = _
      simp only [s_r02_SameInts_0, inB_nat, hq, decide_true, Int.ofNat_lt, cond_true, Bool.not_true, cond_false]
      rw [wrap_succ (by omega), ih]) 0 (Nat.zero_le _) k (by omega)
theorem r06_Same_refl (m : MorD) (h1 : m.1.length ≤ 1000) (h2 : m.2.length ≤ 1000) : ∀ k, 1010 ≤ k → run M k f_r06_Same [.val tMorphism m, .val tMorphism m] = some ⟨.bool, true⟩ := by
  intro k hk
  obtain ⟨k, rfl⟩ : ∃ i, k = i + 1 := ⟨k - 1, by omega⟩
  rw [e_r06_Same, b_r06_Same, r02_SameInts_refl _ (by omega) k (by omega), res_some, bindS, cond_true, r02_SameInts_refl _ (by omega) k (by omega), res_some, bindS]
  rfl
end Go.Proofs.AM

namespace Go.Proofs.AM
open Go
def few5 (g : GraphD) : Bool := cond (decide ((g.1.length : Int) ≤ (45 : Int))) (decide ((g.2.length : Int) ≤ (90 : Int))) false
def few6 (m : MorD) : Bool := decide ((IntKind.i64.wrap ((m.1.length : Int) + (m.2.length : Int))) ≤ (140 : Int))
def fewC (c : ConD) : Bool := cond (cond (cond (decide ((60 : Int) < (c.1.size : Int))) true (decide ((10 : Int) < (c.2.2.2.length : Int)))) true (!few5 c.2.2.1)) false (c.2.2.2.all fun x => few5 x.2 && few6 x.1)
theorem r05_Few_ev (g : GraphD) : ∀ k, 1 ≤ k → run M k f_r05_Few [.val tGraph g] = some ⟨.bool, few5 g⟩ := by
  intro k hk
  obtain ⟨k, rfl⟩ : ∃ i, k = i + 1 := ⟨k - 1, by omega⟩
  exact e_r05_Few k g
theorem r06_Few_ev (m : MorD) : ∀ k, 1 ≤ k → run M k f_r06_Few [.val tMorphism m, .val tI (140 : Int)] = some ⟨.bool, few6 m⟩ := by
  intro k hk
  obtain ⟨k, rfl⟩ : ∃ i, k = i + 1 := ⟨k - 1, by omega⟩
  exact e_r06_Few k m 140
theorem r42_Few_ev (c : ConD) : ∀ k, 50 ≤ k → run M k f_r42_Few [.val tConstraint c] = some ⟨.bool, fewC c⟩ := by
  intro k hk
  obtain ⟨k, rfl⟩ : ∃ i, k = i + 1 := ⟨k - 1, by omega⟩
  obtain ⟨name, kind, g, xs⟩ := c
  rw [e_r42_Few, b_r42_Few]
  unfold fewC
  simp only
  cases h1 : decide ((60 : Int) < (name.size : Int)) with
  | true => rfl
  | false =>
    cases h2 : decide ((10 : Int) < (xs.length : Int)) with
    | true => rfl
    | false =>
      have h2 := of_decide_eq_false h2
      simp only [cond_false, Bool.not_false, cond_true]
      show Option.bind (res .bool (run M k f_r05_Few [.val tGraph g])) _ = _
      rw [r05_Few_ev g k (by omega), res_some, bindS]
      cases few5 g with
      | false => rfl
      | true =>
        simp only [Bool.not_true, cond_false]
        exact loop_down (n := xs.length) (F := fun j i => l_r42_Few_0 (run M k) j i name kind g.1 g.2 xs) (G := fun q => some ⟨.bool, (xs.drop q).all fun x => few5 x.2 && few6 x.1⟩)
          (fun j => by
            show s_r42_Few_0 (run M k) _ _ name kind g.1 g.2 xs = _
            rw [List.drop_eq_nil_of_le (Nat.le_refl _)]
            simp [s_r42_Few_0])
          (fun q j hq ih => by
            show s_r42_Few_0 (run M k) _ _ name kind g.1 g.2 xs = _
            rw [all_drop _ _ q hq]
            simp only [s_r42_Few_0, inB_nat, hq, decide_true, Int.ofNat_lt, cond_true, rd_nat (t := tExtension) xs q hq, Bool.true_or]
            rw [wrap_succ (by omega), ih]
            generalize xs[q] = x
            show Option.bind (res .bool (run M k f_r05_Few [.val tGraph x.2])) (fun r1 => Option.bind (cond (!(!r1)) (res .bool (run M k f_r06_Few [.val tMorphism x.1, .val tI (140 : Int)])) (some (dflt E .bool))) _) = _
            rw [r05_Few_ev _ k (by omega), res_some, bindS, r06_Few_ev _ k (by omega), res_some]
            cases few5 x.2 <;> cases few6 x.1 <;> rfl) 0 (Nat.zero_le _) k (by omega)
theorem fewC_name {c : ConD} (h : fewC c = true) : c.1.size ≤ 60 := by
  unfold fewC at h
  cases h1 : decide ((60 : Int) < (c.1.size : Int)) with
  | true => rw [h1] at h; cases h
  | false => have := of_decide_eq_false h1; omega
end Go.Proofs.AM

namespace Go.Proofs.AM
open Go
def usedB (l : List Int) (n : Int) : Bool := l.any fun y => decide (y = n)
theorem r33_used_ev (l : List Int) (n : Int) (hs : l.length ≤ 1000) : ∀ k, l.length + 2 ≤ k → run M k f_r33_used [.val (.slice tI) l, .val tI n] = some ⟨.bool, usedB l n⟩ := by
  intro k hk
  obtain ⟨k, rfl⟩ : ∃ i, k = i + 1 := ⟨k - 1, by omega⟩
  rw [e_r33_used, b_r33_used]
  exact loop_down (n := l.length) (F := fun j i => l_r33_used_0 (run M k) j l n i) (G := fun q => some ⟨.bool, (l.drop q).any fun y => decide (y = n)⟩)
    (fun j => by
      show s_r33_used_0 (run M k) _ l n _ = _
      rw [List.drop_eq_nil_of_le (Nat.le_refl _)]
      simp [s_r33_used_0])
    (fun q j hq ih => by
      show s_r33_used_0 (run M k) _ l n _ = _
      rw [any_drop _ _ q hq]
      simp only [s_r33_used_0, inB_nat, rd_nat (t := tI) l q hq, hq, decide_true, Int.ofNat_lt, cond_true]
      rw [wrap_succ (by omega), ih]
      cases decide (l[q] = n) <;> rfl) 0 (Nat.zero_le _) k (by omega)
theorem r33_index_nil (n : Int) : ∀ k, 3 ≤ k → run M k f_r33_index [.val (.slice tI) ([] : List Int), .val tI n] = some ⟨tI, (-1 : Int)⟩ := by
  intro k hk
  obtain ⟨k, rfl⟩ : ∃ i, k = i + 1 := ⟨k - 1, by omega⟩
  obtain ⟨k, rfl⟩ : ∃ i, k = i + 1 := ⟨k - 1, by omega⟩
  rw [e_r33_index, b_r33_index]
  rfl
section
variable (a b : GraphD)
noncomputable def edgeFit (ns : List Int) (i m : Nat) : Bool :=
  decide ((rdE b.2 m).1 = (rdE a.2 i).1) && (decide ((rdE b.2 m).2.1 = rdI ns (rdE a.2 i).2.1) && decide ((rdE b.2 m).2.2 = rdI ns (rdE a.2 i).2.2))
noncomputable def edgesF (ns : List Int) : Nat → List Int → List (List Int)
  | 0, l => [l]
  | f + 1, l => (List.range b.2.length).flatMap fun (m : Nat) => cond (!usedB l (m : Int) && edgeFit a b ns l.length m) (edgesF ns f (l ++ [(m : Int)])) []
noncomputable def nodesF : Nat → List Int → List MorD
  | 0, l => (edgesF a b l a.2.length []).map fun es => (l, es)
  | f + 1, l => (List.range b.1.length).flatMap fun (m : Nat) => cond (!usedB l (m : Int) && decide (rdI b.1 (m : Int) = rdI a.1 (l.length : Int))) (nodesF f (l ++ [(m : Int)])) []
end
theorem roomy8 {n : Nat} (h : n ≤ 1000000) : roomy n 8 = true := by
  unfold roomy; exact decide_eq_true (by omega)
theorem roomy48 {n : Nat} (h : n ≤ 1000000000) : roomy n 48 = true := by
  unfold roomy; exact decide_eq_true (by omega)
theorem drop_range {n m : Nat} (h : m < n) : (List.range n).drop m = m :: (List.range n).drop (m + 1) := by
  rw [List.drop_eq_getElem_cons (by simpa using h)]; simp
end Go.Proofs.AM

namespace Go.Proofs.AM
open Go
abbrev cs9 : List (Ty × Bool) := [((.slice tI), false), ((.slice tEdge), false), ((.slice tI), false), ((.slice tEdge), false), ((.slice tI), false), ((.slice tI), false), ((.slice tI), false), ((.slice tI), false), ((.slice tMorphism), true)]
abbrev T9 : Ty := (.pair (.slice tI) (.pair (.slice tEdge) (.pair (.slice tI) (.pair (.slice tEdge) (.pair (.slice tI) (.pair (.slice tI) (.pair (.slice tI) (.pair (.slice tI) (.slice tMorphism)))))))))
def st9 (a b : GraphD) (out : List MorD) : D T9 := (a.1, (a.2, (b.1, (b.2, (([] : List Int), (([] : List Int), (([] : List Int), (([] : List Int), out))))))))
theorem r33_edges_ev (a b : GraphD) (hb : b.2.length ≤ 1000) (ha : ∀ e ∈ a.2, edgeB a.1.length e = true) (hal : a.2.length ≤ 100) (ns : List Int) (hns : ns.length = a.1.length) : ∀ (f : Nat) (l : List Int) (out : List MorD) (k : Nat), l.length + f = a.2.length → out.length + (edgesF a b ns f l).length ≤ 1000000000 → f + 1200 ≤ k →
    run M k f_r33_finder_edges [.rw cs9 (st9 a b out), .val (.slice tI) ns, .val (.slice tI) l] = some ⟨T9, st9 a b (out ++ (edgesF a b ns f l).map fun es => (ns, es))⟩ := by
  intro f
  induction f with
  | zero =>
    intro l out k hl ho hk
    obtain ⟨k, rfl⟩ : ∃ i, k = i + 1 := ⟨k - 1, by omega⟩
    rw [e_r33_finder_edges, b_r33_finder_edges]
    show cond (decide ((l.length : Int) = (a.2.length : Int))) (cond (roomy (out.length + 1) 48) (some ⟨T9, st9 a b (out ++ [(ns, l)])⟩ : Res E) none) _ = _
    rw [decide_eq_true (by omega), cond_true, roomy48 (by simp only [edgesF, List.length_singleton] at ho; exact ho), cond_true]
    rfl
  | succ f ih =>
    intro l out k hl ho hk
    obtain ⟨k, rfl⟩ : ∃ i, k = i + 1 := ⟨k - 1, by omega⟩
    rw [e_r33_finder_edges, b_r33_finder_edges]
    have hlt : l.length < a.2.length := by omega
    obtain ⟨_, i1, i2⟩ := edgeB_ends (ha _ (rdE_mem hlt))
    rw [← hns] at i1 i2
    show cond (decide ((l.length : Int) = (a.2.length : Int))) _ (cond (inB (l.length : Int) (a.2.length : Int)) (Option.bind (res tI (run M k f_r33_index [.val (.slice tI) ([] : List Int), .val tI (l.length : Int)]))
      (fun r1 => l_r33_finder_edges_0 (run M k) k ns l r1 (0 : Int) a.1 a.2 b.1 b.2 ([] : List Int) ([] : List Int) ([] : List Int) ([] : List Int) (rdE a.2 l.length).1 (rdE a.2 l.length).2.1 (rdE a.2 l.length).2.2 out)) none) = _
    rw [decide_eq_false (by omega), cond_false, inB_nat, decide_eq_true hlt, cond_true, r33_index_nil _ k (by omega), res_some, bindS]
    have := down_any (n := b.2.length) (Q := fun j m => ∀ out : List MorD, out.length + (((List.range b.2.length).drop m).flatMap fun (m : Nat) => cond (!usedB l (m : Int) && edgeFit a b ns l.length m) (edgesF a b ns f (l ++ [(m : Int)])) []).length ≤ 1000000000 →
        l_r33_finder_edges_0 (run M k) j ns l (-1 : Int) (m : Int) a.1 a.2 b.1 b.2 ([] : List Int) ([] : List Int) ([] : List Int) ([] : List Int) (rdE a.2 l.length).1 (rdE a.2 l.length).2.1 (rdE a.2 l.length).2.2 out =
        some ⟨T9, st9 a b (out ++ (((List.range b.2.length).drop m).flatMap fun (m : Nat) => cond (!usedB l (m : Int) && edgeFit a b ns l.length m) (edgesF a b ns f (l ++ [(m : Int)])) []).map fun es => (ns, es))⟩)
      (fun j out _ => by
        show s_r33_finder_edges_0 (run M k) _ ns l _ _ a.1 a.2 b.1 b.2 _ _ _ _ _ _ _ out = _
        rw [List.drop_eq_nil_of_le (by simp), List.flatMap_nil, List.map_nil, List.append_nil]
        simp only [s_r33_finder_edges_0, Int.lt_irrefl, decide_false, cond_false]
        rfl)
      (fun m j hm ih2 out ho => by
        show s_r33_finder_edges_0 (run M k) _ ns l _ _ a.1 a.2 b.1 b.2 _ _ _ _ _ _ _ out = _
        rw [drop_range hm, List.flatMap_cons] at ho ⊢
        rw [List.length_append] at ho
        rw [List.map_append]
        simp only [s_r33_finder_edges_0, inB_nat, hm, decide_true, Int.ofNat_lt, cond_true, Bool.true_or, i1, i2, show decide ((-1 : Int) < 0) = true from rfl, Bool.not_true, Bool.and_false, Bool.not_false, Bool.or_true]
        rw [r33_used_ev l m (by omega) k (by omega), res_some, bindS, wrap_succ (by omega)]
        have hfit : (decide ((rd (E := E) (t := tEdge) b.2 (m : Int)).1 = (rdE a.2 l.length).1) && (decide ((rd (E := E) (t := tEdge) b.2 (m : Int)).2.1 = rd (E := E) (t := tI) ns (rdE a.2 l.length).2.1) && decide ((rd (E := E) (t := tEdge) b.2 (m : Int)).2.2 = rd (E := E) (t := tI) ns (rdE a.2 l.length).2.2))) = edgeFit a b ns l.length m := rfl
        rw [hfit]
        cases hu : usedB l (m : Int) with
        | true =>
          rw [hu] at ho
          simp only [Bool.not_true, Bool.false_and, cond_false, List.map_nil, List.nil_append, List.length_nil] at ho ⊢
          exact ih2 out (by omega)
        | false =>
          cases hf : edgeFit a b ns l.length m with
          | false =>
            rw [hu, hf] at ho
            simp only [Bool.not_false, Bool.and_false, cond_true, cond_false, List.map_nil, List.nil_append, List.length_nil] at ho ⊢
            exact ih2 out (by omega)
          | true =>
            rw [hu, hf] at ho
            simp only [Bool.not_false, Bool.and_true, cond_true] at ho ⊢
            rw [roomy8 (by simp only [List.length_nil]; omega), roomy8 (by simp only [List.nil_append, List.length_singleton]; omega)]
            simp only [cond_true, List.nil_append]
            show Option.bind (res T9 (run M k f_r33_finder_edges [.rw cs9 (st9 a b out), .val (.slice tI) ns, .val (.slice tI) (l ++ [(m : Int)])])) _ = _
            rw [ih (l ++ [(m : Int)]) out k (by rw [List.length_append, List.length_singleton]; omega) (by omega) (by omega), res_some, bindS]
            have := ih2 (out ++ (edgesF a b ns f (l ++ [(m : Int)])).map fun es => (ns, es)) (by rw [List.length_append, List.length_map]; omega)
            rw [List.append_assoc] at this
            exact this) 0 (Nat.zero_le _) k (by omega) out (by simpa [edgesF] using ho)
    rw [List.drop_zero] at this
    exact this
end Go.Proofs.AM

namespace Go.Proofs.AM
open Go
theorem r33_nodes_ev (a b : GraphD) (hb1 : b.1.length ≤ 1000) (hb : b.2.length ≤ 1000) (ha : ∀ e ∈ a.2, edgeB a.1.length e = true) (hal : a.2.length ≤ 100) (hal1 : a.1.length ≤ 100) : ∀ (f : Nat) (l : List Int) (out : List MorD) (k : Nat), l.length + f = a.1.length → out.length + (nodesF a b f l).length ≤ 1000000000 → f + 1500 ≤ k →
    run M k f_r33_finder_nodes [.rw cs9 (st9 a b out), .val (.slice tI) l] = some ⟨T9, st9 a b (out ++ nodesF a b f l)⟩ := by
  intro f
  induction f with
  | zero =>
    intro l out k hl ho hk
    obtain ⟨k, rfl⟩ : ∃ i, k = i + 1 := ⟨k - 1, by omega⟩
    rw [e_r33_finder_nodes, b_r33_finder_nodes]
    show cond (decide ((l.length : Int) = (a.1.length : Int))) (Option.bind (res T9 (run M k f_r33_finder_edges [.rw cs9 (st9 a b out), .val (.slice tI) l, .val (.slice tI) ([] : List Int)])) _) _ = _
    rw [nodesF, List.length_map] at ho
    rw [decide_eq_true (by omega), cond_true, r33_edges_ev a b hb ha hal l (by omega) a.2.length [] out k (by simp) ho (by omega), res_some, bindS]
    rfl
  | succ f ih =>
    intro l out k hl ho hk
    obtain ⟨k, rfl⟩ : ∃ i, k = i + 1 := ⟨k - 1, by omega⟩
    rw [e_r33_finder_nodes, b_r33_finder_nodes]
    have hlt : l.length < a.1.length := by omega
    show cond (decide ((l.length : Int) = (a.1.length : Int))) _ (Option.bind (res tI (run M k f_r33_index [.val (.slice tI) ([] : List Int), .val tI (l.length : Int)]))
      (fun r1 => l_r33_finder_nodes_0 (run M k) k l (l.length : Int) r1 (0 : Int) a.1 a.2 b.1 b.2 ([] : List Int) ([] : List Int) ([] : List Int) ([] : List Int) out)) = _
    rw [decide_eq_false (by omega), cond_false, r33_index_nil _ k (by omega), res_some, bindS]
    have := down_any (n := b.1.length) (Q := fun j m => ∀ out : List MorD, out.length + (((List.range b.1.length).drop m).flatMap fun (m : Nat) => cond (!usedB l (m : Int) && decide (rdI b.1 (m : Int) = rdI a.1 (l.length : Int))) (nodesF a b f (l ++ [(m : Int)])) []).length ≤ 1000000000 →
        l_r33_finder_nodes_0 (run M k) j l (l.length : Int) (-1 : Int) (m : Int) a.1 a.2 b.1 b.2 ([] : List Int) ([] : List Int) ([] : List Int) ([] : List Int) out =
        some ⟨T9, st9 a b (out ++ ((List.range b.1.length).drop m).flatMap fun (m : Nat) => cond (!usedB l (m : Int) && decide (rdI b.1 (m : Int) = rdI a.1 (l.length : Int))) (nodesF a b f (l ++ [(m : Int)])) [])⟩)
      (fun j out _ => by
        show s_r33_finder_nodes_0 (run M k) _ l _ _ _ a.1 a.2 b.1 b.2 _ _ _ _ out = _
        rw [List.drop_eq_nil_of_le (by simp), List.flatMap_nil, List.append_nil]
        simp only [s_r33_finder_nodes_0, Int.lt_irrefl, decide_false, cond_false]
        rfl)
      (fun m j hm ih2 out ho => by
        show s_r33_finder_nodes_0 (run M k) _ l _ _ _ a.1 a.2 b.1 b.2 _ _ _ _ out = _
        rw [drop_range hm, List.flatMap_cons] at ho ⊢
        rw [List.length_append] at ho
        simp only [s_r33_finder_nodes_0, inB_nat, hm, hlt, decide_true, Int.ofNat_lt, cond_true, Bool.true_or, show decide ((-1 : Int) < 0) = true from rfl, Bool.not_true, Bool.and_false, Bool.not_false, Bool.or_true]
        rw [r33_used_ev l m (by omega) k (by omega), res_some, bindS, wrap_succ (by omega)]
        cases hu : usedB l (m : Int) with
        | true =>
          rw [hu] at ho
          simp only [Bool.not_true, Bool.false_and, cond_false, List.nil_append, List.length_nil] at ho ⊢
          exact ih2 out (by omega)
        | false =>
          cases hf : decide (rdI b.1 (m : Int) = rdI a.1 (l.length : Int)) with
          | false =>
            rw [hu, hf] at ho
            simp only [Bool.not_false, Bool.and_false, cond_true, cond_false, List.nil_append, List.length_nil] at ho ⊢
            exact ih2 out (by omega)
          | true =>
            rw [hu, hf] at ho
            simp only [Bool.not_false, Bool.and_true, cond_true] at ho ⊢
            rw [roomy8 (by simp only [List.length_nil]; omega), roomy8 (by simp only [List.nil_append, List.length_singleton]; omega)]
            simp only [cond_true, List.nil_append]
            show Option.bind (res T9 (run M k f_r33_finder_nodes [.rw cs9 (st9 a b out), .val (.slice tI) (l ++ [(m : Int)])])) _ = _
            rw [ih (l ++ [(m : Int)]) out k (by rw [List.length_append, List.length_singleton]; omega) (by omega) (by omega), res_some, bindS]
            have := ih2 (out ++ nodesF a b f (l ++ [(m : Int)])) (by rw [List.length_append]; omega)
            rw [List.append_assoc] at this
            exact this) 0 (Nat.zero_le _) k (by omega) out (by simpa [nodesF] using ho)
    rw [List.drop_zero] at this
    exact this
theorem r33_Extensions_ev (a b : GraphD) (hb1 : b.1.length ≤ 1000) (hb : b.2.length ≤ 1000) (ha : ∀ e ∈ a.2, edgeB a.1.length e = true) (hal : a.2.length ≤ 100) (hal1 : a.1.length ≤ 100) (hc : (nodesF a b a.1.length []).length ≤ 1000000000) : ∀ k, 2000 ≤ k →
    run M k f_r33_Extensions [.val tGraph a, .val tGraph b, .val tMorphism (([] : List Int), ([] : List Int)), .val tMorphism (([] : List Int), ([] : List Int))] = some ⟨.slice tMorphism, nodesF a b a.1.length []⟩ := by
  intro k hk
  obtain ⟨k, rfl⟩ : ∃ i, k = i + 1 := ⟨k - 1, by omega⟩
  rw [e_r33_Extensions, b_r33_Extensions]
  show Option.bind (res T9 (run M k f_r33_finder_nodes [.rw cs9 (st9 a b []), .val (.slice tI) ([] : List Int)])) _ = _
  rw [r33_nodes_ev a b hb1 hb ha hal hal1 a.1.length [] [] k (by simp) (by simpa using hc) (by omega), res_some, bindS]
  rfl
theorem flatMap_length_le {α β : Type} (l : List α) (f : α → List β) (c : Nat) (h : ∀ x ∈ l, (f x).length ≤ c) : (l.flatMap f).length ≤ l.length * c := by
  induction l with
  | nil => simp
  | cons x r ih =>
    rw [List.flatMap_cons, List.length_append, List.length_cons, Nat.succ_mul]
    have := h x (by simp)
    have := ih fun y hy => h y (by simp [hy])
    omega
theorem edgesF_count (a b : GraphD) (ns : List Int) : ∀ (f : Nat) (l : List Int), (edgesF a b ns f l).length ≤ b.2.length ^ f
  | 0, l => by simp [edgesF]
  | f + 1, l => by
    rw [edgesF, Nat.pow_succ, Nat.mul_comm]
    have := flatMap_length_le (List.range b.2.length) (fun (m : Nat) => cond (!usedB l (m : Int) && edgeFit a b ns l.length m) (edgesF a b ns f (l ++ [(m : Int)])) []) (b.2.length ^ f) (fun m _ => by
      cases (!usedB l (m : Int) && edgeFit a b ns l.length m) with
      | true => exact edgesF_count a b ns f _
      | false => exact Nat.zero_le _)
    rw [List.length_range] at this
    exact this
theorem nodesF_count (a b : GraphD) : ∀ (f : Nat) (l : List Int), (nodesF a b f l).length ≤ b.1.length ^ f * b.2.length ^ a.2.length
  | 0, l => by
    rw [nodesF, List.length_map, Nat.pow_zero, Nat.one_mul]
    exact edgesF_count a b l _ _
  | f + 1, l => by
    rw [nodesF, Nat.pow_succ, Nat.mul_comm (b.1.length ^ f), Nat.mul_assoc]
    have := flatMap_length_le (List.range b.1.length) (fun (m : Nat) => cond (!usedB l (m : Int) && decide (rdI b.1 (m : Int) = rdI a.1 (l.length : Int))) (nodesF a b f (l ++ [(m : Int)])) []) (b.1.length ^ f * b.2.length ^ a.2.length) (fun m _ => by
      cases (!usedB l (m : Int) && decide (rdI b.1 (m : Int) = rdI a.1 (l.length : Int))) with
      | true => exact nodesF_count a b f _
      | false => exact Nat.zero_le _)
    rw [List.length_range] at this
    exact this
theorem nodesF_small {a b : GraphD} (h1 : a.1.length ≤ 4) (h2 : a.2.length ≤ 5) (h3 : b.1.length ≤ 6) (h4 : b.2.length ≤ 8) : (nodesF a b a.1.length []).length ≤ 1000000000 := by
  have h := nodesF_count a b a.1.length []
  have p1 : b.1.length ^ a.1.length ≤ 6 ^ 4 := Nat.le_trans (Nat.pow_le_pow_left h3 _) (Nat.pow_le_pow_right (by omega) h1)
  have p2 : b.2.length ^ a.2.length ≤ 8 ^ 5 := Nat.le_trans (Nat.pow_le_pow_left h4 _) (Nat.pow_le_pow_right (by omega) h2)
  have p3 := Nat.mul_le_mul p1 p2
  exact Nat.le_trans h (Nat.le_trans p3 (by decide))
end Go.Proofs.AM

namespace Go.Proofs.AM
open Go
abbrev cs6 : List (Ty × Bool) := [((.slice tI), false), ((.slice tEdge), false), ((.slice tI), false), ((.slice tEdge), false), ((.slice tI), true), ((.slice tI), true)]
abbrev T6 : Ty := (.pair .bool (.pair (.slice tI) (.pair (.slice tEdge) (.pair (.slice tI) (.pair (.slice tEdge) tMorphism)))))
abbrev S6 : Type := List Int × (List (Int × (Int × Int)) × (List Int × (List (Int × (Int × Int)) × (List Int × List Int))))
def st6 (a b : GraphD) (ns l : List Int) : S6 := (a.1, (a.2, (b.1, (b.2, (ns, l)))))
def firstL (a b : GraphD) (ns l : List Int) : List (List Int) → Bool × S6
  | [] => (false, st6 a b ns l)
  | r :: _ => (true, st6 a b ns r)
def firstN (a b : GraphD) (l : List Int) : List MorD → Bool × S6
  | [] => (false, st6 a b l [])
  | r :: _ => (true, st6 a b r.1 r.2)
theorem used_comm (l : List Int) (n : Int) : (l.any fun y => decide (n = y)) = usedB l n := by
  unfold usedB
  congr 1; funext y
  by_cases h : n = y
  · rw [decide_eq_true h, decide_eq_true h.symm]
  · rw [decide_eq_false h, decide_eq_false fun e => h e.symm]
theorem take_back (l : List Int) (x : Int) : (List.drop (Int.toNat (0 : Int)) (l ++ [x])).take (Int.toNat ((l.length : Int) - (0 : Int))) = l := by simp
theorem links_ev (a b : GraphD) (hb : b.2.length ≤ 1000) (ha : ∀ e ∈ a.2, edgeB a.1.length e = true) (hal : a.2.length ≤ 100) (ns : List Int) (hns : ns.length = a.1.length) : ∀ (f : Nat) (l : List Int) (k : Nat), l.length + f = a.2.length → f + 1200 ≤ k →
    run M k f_constraint_embedding_links [.rw cs6 (st6 a b ns l)] = some ⟨T6, firstL a b ns l (edgesF a b ns f l)⟩ := by
  intro f
  induction f with
  | zero =>
    intro l k hl hk
    obtain ⟨k, rfl⟩ : ∃ i, k = i + 1 := ⟨k - 1, by omega⟩
    rw [e_constraint_embedding_links, b_constraint_embedding_links]
    show cond (decide ((l.length : Int) = (a.2.length : Int))) _ _ = _
    rw [decide_eq_true (by omega), cond_true]
    rfl
  | succ f ih =>
    intro l k hl hk
    obtain ⟨k, rfl⟩ : ∃ i, k = i + 1 := ⟨k - 1, by omega⟩
    have hr : 1000 ≤ reachBytes := by decide
    rw [e_constraint_embedding_links, b_constraint_embedding_links]
    have hlt : l.length < a.2.length := by omega
    obtain ⟨_, i1, i2⟩ := edgeB_ends (ha _ (rdE_mem hlt))
    rw [← hns] at i1 i2
    show cond (decide ((l.length : Int) = (a.2.length : Int))) _ (cond (inB (l.length : Int) (a.2.length : Int))
      (l_constraint_embedding_links_0 (run M k) k (l.length : Int) b.2 (b.2.length : Int) (0 : Int) a.1 a.2 b.1 b.2 (rdE a.2 l.length).1 (rdE a.2 l.length).2.1 (rdE a.2 l.length).2.2 ns l) none) = _
    rw [decide_eq_false (by omega), cond_false, inB_nat, decide_eq_true hlt, cond_true]
    have g1 := inB_iff.1 i1
    have g2 := inB_iff.1 i2
    have hg1 : List.getD ns (Int.toNat (rdE a.2 l.length).2.1) (dflt E tI) = rdI ns (rdE a.2 l.length).2.1 := rfl
    have hg2 : List.getD ns (Int.toNat (rdE a.2 l.length).2.2) (dflt E tI) = rdI ns (rdE a.2 l.length).2.2 := rfl
    have := down_any (n := b.2.length) (Q := fun j m =>
        l_constraint_embedding_links_0 (run M k) j (l.length : Int) b.2 (b.2.length : Int) (m : Int) a.1 a.2 b.1 b.2 (rdE a.2 l.length).1 (rdE a.2 l.length).2.1 (rdE a.2 l.length).2.2 ns l =
        some ⟨T6, firstL a b ns l (((List.range b.2.length).drop m).flatMap fun (m : Nat) => cond (!usedB l (m : Int) && edgeFit a b ns l.length m) (edgesF a b ns f (l ++ [(m : Int)])) [])⟩)
      (fun j => by
        show s_constraint_embedding_links_0 (run M k) _ _ _ _ _ a.1 a.2 b.1 b.2 _ _ _ ns l = _
        rw [List.drop_eq_nil_of_le (by simp), List.flatMap_nil]
        simp only [s_constraint_embedding_links_0, Int.lt_irrefl, decide_false, cond_false]
        rfl)
      (fun m j hm ih2 => by
        show s_constraint_embedding_links_0 (run M k) _ _ _ _ _ a.1 a.2 b.1 b.2 _ _ _ ns l = _
        rw [drop_range hm, List.flatMap_cons]
        simp only [s_constraint_embedding_links_0, inB_nat, hm, decide_true, Int.ofNat_lt, cond_true, Bool.true_or, i1, i2, hg1, hg2]
        rw [Contains_int_ev (m : Int) (by omega) k (by omega), res_some, used_comm, wrap_succ (by omega), ih2]
        have hfit : edgeFit a b ns l.length m = (decide ((rdE b.2 m).1 = (rdE a.2 l.length).1) && (decide ((rdE b.2 m).2.1 = rdI ns (rdE a.2 l.length).2.1) && decide ((rdE b.2 m).2.2 = rdI ns (rdE a.2 l.length).2.2))) := rfl
        rw [hfit]
        show Option.bind (cond (!(cond (cond (!(decide ((rdE b.2 m).1 = (rdE a.2 l.length).1))) true (!(decide ((rdE b.2 m).2.1 = rdI ns (rdE a.2 l.length).2.1)))) true (!(decide ((rdE b.2 m).2.2 = rdI ns (rdE a.2 l.length).2.2))))) (some (usedB l (m : Int))) (some (dflt E .bool))) _ = _
        cases decide ((rdE b.2 m).1 = (rdE a.2 l.length).1) with
        | false => cases usedB l (m : Int) <;> rfl
        | true =>
          cases decide ((rdE b.2 m).2.1 = rdI ns (rdE a.2 l.length).2.1) with
          | false => cases usedB l (m : Int) <;> rfl
          | true =>
            cases decide ((rdE b.2 m).2.2 = rdI ns (rdE a.2 l.length).2.2) with
            | false => cases usedB l (m : Int) <;> rfl
            | true =>
              cases usedB l (m : Int) with
              | true => rfl
              | false =>
                simp only [Bool.not_true, cond_false, Bool.not_false, cond_true, bindS, Bool.and_self]
                rw [roomy8 (by simp only [List.length_singleton]; omega), cond_true]
                show Option.bind (res T6 (run M k f_constraint_embedding_links [.rw cs6 (st6 a b ns (l ++ [(m : Int)]))])) _ = _
                rw [ih (l ++ [(m : Int)]) k (by rw [List.length_append, List.length_singleton]; omega) (by omega), res_some, bindS]
                cases hR : edgesF a b ns f (l ++ [(m : Int)]) with
                | cons r rs => rfl
                | nil =>
                  show cond (inS (0 : Int) (l.length : Int) ((l ++ [(m : Int)]).length : Int)) (l_constraint_embedding_links_0 (run M k) j (l.length : Int) b.2 (b.2.length : Int) ((m + 1 : Nat) : Int) a.1 a.2 b.1 b.2 (rdE a.2 l.length).1 (rdE a.2 l.length).2.1 (rdE a.2 l.length).2.2 ns
                    ((List.drop (Int.toNat (0 : Int)) (l ++ [(m : Int)])).take (Int.toNat ((l.length : Int) - (0 : Int))))) none = _
                  rw [inS_nat, decide_eq_true (by rw [List.length_append]; omega), cond_true, take_back, ih2]
                  rfl) 0 (Nat.zero_le _) k (by omega)
    rw [List.drop_zero] at this
    exact this
end Go.Proofs.AM

namespace Go.Proofs.AM
open Go
theorem places_ev (a b : GraphD) (hb1 : b.1.length ≤ 1000) (hb : b.2.length ≤ 1000) (ha : ∀ e ∈ a.2, edgeB a.1.length e = true) (hal : a.2.length ≤ 100) (hal1 : a.1.length ≤ 100) : ∀ (f : Nat) (l : List Int) (k : Nat), l.length + f = a.1.length → f + 1500 ≤ k →
    run M k f_constraint_embedding_places [.rw cs6 (st6 a b l [])] = some ⟨T6, firstN a b l (nodesF a b f l)⟩ := by
  intro f
  induction f with
  | zero =>
    intro l k hl hk
    obtain ⟨k, rfl⟩ : ∃ i, k = i + 1 := ⟨k - 1, by omega⟩
    rw [e_constraint_embedding_places, b_constraint_embedding_places]
    show cond (decide ((l.length : Int) = (a.1.length : Int))) (Option.bind (res T6 (run M k f_constraint_embedding_links [.rw cs6 (st6 a b l [])])) _) _ = _
    rw [decide_eq_true (by omega), cond_true, links_ev a b hb ha hal l (by omega) a.2.length [] k (by simp) (by omega), res_some, bindS, nodesF]
    cases edgesF a b l a.2.length [] <;> rfl
  | succ f ih =>
    intro l k hl hk
    obtain ⟨k, rfl⟩ : ∃ i, k = i + 1 := ⟨k - 1, by omega⟩
    have hr : 1000 ≤ reachBytes := by decide
    rw [e_constraint_embedding_places, b_constraint_embedding_places]
    have hlt : l.length < a.1.length := by omega
    show cond (decide ((l.length : Int) = (a.1.length : Int))) _
      (l_constraint_embedding_places_0 (run M k) k (l.length : Int) b.1 (b.1.length : Int) (0 : Int) a.1 a.2 b.1 b.2 l ([] : List Int)) = _
    rw [decide_eq_false (by omega), cond_false]
    have := down_any (n := b.1.length) (Q := fun j m =>
        l_constraint_embedding_places_0 (run M k) j (l.length : Int) b.1 (b.1.length : Int) (m : Int) a.1 a.2 b.1 b.2 l ([] : List Int) =
        some ⟨T6, firstN a b l (((List.range b.1.length).drop m).flatMap fun (m : Nat) => cond (!usedB l (m : Int) && decide (rdI b.1 (m : Int) = rdI a.1 (l.length : Int))) (nodesF a b f (l ++ [(m : Int)])) [])⟩)
      (fun j => by
        show s_constraint_embedding_places_0 (run M k) _ _ _ _ _ a.1 a.2 b.1 b.2 l _ = _
        rw [List.drop_eq_nil_of_le (by simp), List.flatMap_nil]
        simp only [s_constraint_embedding_places_0, Int.lt_irrefl, decide_false, cond_false]
        rfl)
      (fun m j hm ih2 => by
        show s_constraint_embedding_places_0 (run M k) _ _ _ _ _ a.1 a.2 b.1 b.2 l _ = _
        rw [drop_range hm, List.flatMap_cons]
        simp only [s_constraint_embedding_places_0, inB_nat, hm, hlt, decide_true, Int.ofNat_lt, cond_true]
        rw [Contains_int_ev (m : Int) (by omega) k (by omega), res_some, used_comm, wrap_succ (by omega), ih2]
        show Option.bind (cond (!(!(decide (rdI b.1 (m : Int) = rdI a.1 (l.length : Int))))) (some (usedB l (m : Int))) (some (dflt E .bool))) (fun r1 => cond (cond (!(decide (rdI b.1 (m : Int) = rdI a.1 (l.length : Int)))) true r1) _ _) = _
        cases decide (rdI b.1 (m : Int) = rdI a.1 (l.length : Int)) with
        | false => cases usedB l (m : Int) <;> rfl
        | true =>
          cases usedB l (m : Int) with
          | true => rfl
          | false =>
            simp only [Bool.not_true, cond_false, Bool.not_false, cond_true, bindS, Bool.and_self]
            rw [roomy8 (by simp only [List.length_singleton]; omega), cond_true]
            show Option.bind (res T6 (run M k f_constraint_embedding_places [.rw cs6 (st6 a b (l ++ [(m : Int)]) [])])) _ = _
            rw [ih (l ++ [(m : Int)]) k (by rw [List.length_append, List.length_singleton]; omega) (by omega), res_some, bindS]
            cases hR : nodesF a b f (l ++ [(m : Int)]) with
            | cons r rs => rfl
            | nil =>
              show cond (inS (0 : Int) (l.length : Int) ((l ++ [(m : Int)]).length : Int)) (l_constraint_embedding_places_0 (run M k) j (l.length : Int) b.1 (b.1.length : Int) ((m + 1 : Nat) : Int) a.1 a.2 b.1 b.2
                ((List.drop (Int.toNat (0 : Int)) (l ++ [(m : Int)])).take (Int.toNat ((l.length : Int) - (0 : Int)))) ([] : List Int)) none = _
              rw [inS_nat, decide_eq_true (by rw [List.length_append]; omega), cond_true, take_back, ih2]
              rfl) 0 (Nat.zero_le _) k (by omega)
    rw [List.drop_zero] at this
    exact this
end Go.Proofs.AM

namespace Go.Proofs.AM
open Go
theorem shapeE_core {c : ConD} (h : shapeE c = 0) : graphE c.2.2.1 = 0 ∧ largeB c.2.2.1 = false := by
  unfold shapeE at h
  cases h1 : isName (by_ c.1) with
  | false => rw [h1] at h; cases h
  | true =>
    rw [h1] at h
    cases h2 : (cond (cond (!(decide (c.2.1 = (1 : Int)))) (!(decide (c.2.1 = (2 : Int)))) false) true (cond (decide (c.2.1 = (1 : Int))) (decide ((0 : Int) < (c.2.2.2.length : Int))) false)) with
    | true => rw [h2] at h; cases h
    | false =>
      cases h3 : (cond (decide (c.2.1 = (2 : Int))) (decide ((c.2.2.2.length : Int) = (0 : Int))) false) with
      | true => rw [h2, h3] at h; cases h
      | false =>
        cases h4 : decide ((6 : Int) < (c.2.2.2.length : Int)) with
        | true => rw [h2, h3, h4] at h; cases h
        | false =>
          by_cases g0 : graphE c.2.2.1 = 0
          case neg =>
            rw [h2, h3, h4, decide_eq_false g0] at h
            exact absurd h g0
          refine ⟨g0, ?_⟩
          rw [h2, h3, h4, decide_eq_true g0] at h
          cases h6 : largeB c.2.2.1 with
          | true => rw [h6] at h; cases h
          | false => rfl
theorem largeB_false {g : GraphD} (h : largeB g = false) : g.1.length ≤ 6 ∧ g.2.length ≤ 8 := by
  unfold largeB at h
  cases h1 : decide ((6 : Int) < (g.1.length : Int)) with
  | true => rw [h1] at h; cases h
  | false =>
    rw [h1] at h
    have h1 := of_decide_eq_false h1
    have h2 := of_decide_eq_false (show decide ((8 : Int) < (g.2.length : Int)) = false from h)
    omega
theorem edgesF_len (a b : GraphD) (ns : List Int) : ∀ (f : Nat) (l : List Int), ∀ r ∈ edgesF a b ns f l, r.length = l.length + f
  | 0, l, r, hr => by
    rw [edgesF, List.mem_singleton] at hr
    rw [hr]; rfl
  | f + 1, l, r, hr => by
    rw [edgesF, List.mem_flatMap] at hr
    obtain ⟨m, _, hr⟩ := hr
    cases hc : (!usedB l (m : Int) && edgeFit a b ns l.length m) with
    | false => rw [hc] at hr; cases hr
    | true =>
      rw [hc] at hr
      have := edgesF_len a b ns f _ r hr
      rw [List.length_append, List.length_singleton] at this
      omega
theorem nodesF_len (a b : GraphD) : ∀ (f : Nat) (l : List Int), ∀ r ∈ nodesF a b f l, r.1.length = l.length + f ∧ r.2.length = a.2.length
  | 0, l, r, hr => by
    rw [nodesF, List.mem_map] at hr
    obtain ⟨es, he, rfl⟩ := hr
    have := edgesF_len a b l _ _ es he
    exact ⟨rfl, by simpa using this⟩
  | f + 1, l, r, hr => by
    rw [nodesF, List.mem_flatMap] at hr
    obtain ⟨m, _, hr⟩ := hr
    cases hc : (!usedB l (m : Int) && decide (rdI b.1 (m : Int) = rdI a.1 (l.length : Int))) with
    | false => rw [hc] at hr; cases hr
    | true =>
      rw [hc] at hr
      have := nodesF_len a b f _ r hr
      rw [List.length_append, List.length_singleton] at this
      exact ⟨by omega, this.2⟩
abbrev SubD := Bool × (List Int × (List Int × Int))
abbrev tSub : Ty := (.pair .bool (.pair (.slice tI) (.pair (.slice tI) tI)))
def subOf : List MorD → SubD
  | [] => (false, ([], ([], 10)))
  | r :: _ => (true, (r.1, (r.2, 0)))
noncomputable def subP (a b : ConD) : SubD :=
  cond (!(decide (shapeE a = 0))) (false, ([], ([], shapeE a))) (cond (!(decide (shapeE b = 0))) (false, ([], ([], shapeE b)))
    (cond (cond (!(decide (a.2.1 = (1 : Int)))) true (!(decide (b.2.1 = (1 : Int))))) (false, ([], ([], 8))) (subOf (nodesF a.2.2.1 b.2.2.1 a.2.2.1.1.length []))))
theorem constraint_Subsumes_ev (a b : ConD) (ha : a.1.size ≤ 60) (hb : b.1.size ≤ 60) : ∀ k, 3000 ≤ k →
    run M k f_constraint_Subsumes [.val tConstraint a, .val tConstraint b] = some ⟨tSub, subP a b⟩ := by
  intro k hk
  obtain ⟨k, rfl⟩ : ∃ i, k = i + 1 := ⟨k - 1, by omega⟩
  rw [e_constraint_Subsumes, b_constraint_Subsumes]
  show Option.bind (res tI (run M k f_constraint_shape [.val tConstraint a])) _ = _
  rw [constraint_shape_ev a ha k (by omega), res_some, bindS]
  unfold subP
  by_cases h1 : shapeE a = 0
  case neg => rw [decide_eq_false h1]; rfl
  rw [decide_eq_true h1]
  simp only [Bool.not_true, cond_false]
  show Option.bind (res tI (run M k f_constraint_shape [.val tConstraint b])) _ = _
  rw [constraint_shape_ev b hb k (by omega), res_some, bindS]
  by_cases h2 : shapeE b = 0
  case neg => rw [decide_eq_false h2]; rfl
  rw [decide_eq_true h2]
  simp only [Bool.not_true, cond_false]
  cases (cond (!(decide (a.2.1 = (1 : Int)))) true (!(decide (b.2.1 = (1 : Int))))) with
  | true => rfl
  | false =>
    obtain ⟨ga, la⟩ := shapeE_core h1
    obtain ⟨gb, lb⟩ := shapeE_core h2
    obtain ⟨a1, a2⟩ := largeB_false la
    obtain ⟨b1, b2⟩ := largeB_false lb
    obtain ⟨_, _, _, ae⟩ := graphE_zero ga
    simp only [cond_false]
    show Option.bind (res T6 (run M k f_constraint_embedding_places [.rw cs6 (st6 a.2.2.1 b.2.2.1 [] [])])) _ = _
    rw [places_ev a.2.2.1 b.2.2.1 (by omega) (by omega) ae (by omega) (by omega) a.2.2.1.1.length [] k (by simp) (by omega), res_some, bindS]
    cases nodesF a.2.2.1 b.2.2.1 a.2.2.1.1.length [] <;> rfl
theorem r42_Subsumes_ev (a b : ConD) (ha : a.1.size ≤ 60) (hb : b.1.size ≤ 60) (hs : shapeE a = 0 → a.2.2.1.1.length ≤ 4 ∧ a.2.2.1.2.length ≤ 5) : ∀ k, 3000 ≤ k →
    run M k f_r42_Subsumes [.val tConstraint a, .val tConstraint b] = some ⟨tSub, subP a b⟩ := by
  intro k hk
  obtain ⟨k, rfl⟩ : ∃ i, k = i + 1 := ⟨k - 1, by omega⟩
  rw [e_r42_Subsumes, b_r42_Subsumes]
  show Option.bind (res tI (run M k f_r42_Shape [.val tConstraint a])) _ = _
  rw [r42_Shape_ev a ha k (by omega), res_some, bindS]
  unfold subP
  by_cases h1 : shapeE a = 0
  case neg => rw [decide_eq_false h1]; rfl
  rw [decide_eq_true h1]
  simp only [Bool.not_true, cond_false]
  show Option.bind (res tI (run M k f_r42_Shape [.val tConstraint b])) _ = _
  rw [r42_Shape_ev b hb k (by omega), res_some, bindS]
  by_cases h2 : shapeE b = 0
  case neg => rw [decide_eq_false h2]; rfl
  rw [decide_eq_true h2]
  simp only [Bool.not_true, cond_false]
  cases (cond (!(decide (a.2.1 = (1 : Int)))) true (!(decide (b.2.1 = (1 : Int))))) with
  | true => rfl
  | false =>
    obtain ⟨ga, la⟩ := shapeE_core h1
    obtain ⟨gb, lb⟩ := shapeE_core h2
    obtain ⟨a1, a2⟩ := largeB_false la
    obtain ⟨b1, b2⟩ := largeB_false lb
    obtain ⟨_, _, _, ae⟩ := graphE_zero ga
    obtain ⟨s1, s2⟩ := hs h1
    simp only [cond_false]
    show Option.bind (res (.slice tMorphism) (run M k f_r33_Extensions [.val tGraph a.2.2.1, .val tGraph b.2.2.1, .val tMorphism (([] : List Int), ([] : List Int)), .val tMorphism (([] : List Int), ([] : List Int))])) _ = _
    rw [r33_Extensions_ev a.2.2.1 b.2.2.1 (by omega) (by omega) ae (by omega) (by omega) (nodesF_small s1 s2 b1 b2) k (by omega), res_some, bindS]
    cases nodesF a.2.2.1 b.2.2.1 a.2.2.1.1.length [] with
    | nil => rfl
    | cons r rs =>
      rw [decide_eq_false (by simp only [List.length_cons]; omega), cond_false, show inB (0 : Int) ((r :: rs).length : Int) = true from inB_iff.2 ⟨by omega, by simp only [List.length_cons]; omega⟩, cond_true]
      rfl
theorem subP_len {a b : ConD} (hs : shapeE a = 0 → a.2.2.1.1.length ≤ 1000 ∧ a.2.2.1.2.length ≤ 1000) : (subP a b).2.1.length ≤ 1000 ∧ (subP a b).2.2.1.length ≤ 1000 := by
  unfold subP
  by_cases h1 : shapeE a = 0
  case neg => rw [decide_eq_false h1]; exact ⟨Nat.zero_le _, Nat.zero_le _⟩
  obtain ⟨s1, s2⟩ := hs h1
  rw [decide_eq_true h1]
  by_cases h2 : shapeE b = 0
  case neg => rw [decide_eq_false h2]; exact ⟨Nat.zero_le _, Nat.zero_le _⟩
  rw [decide_eq_true h2]
  simp only [Bool.not_true, cond_false]
  cases (cond (!(decide (a.2.1 = (1 : Int)))) true (!(decide (b.2.1 = (1 : Int))))) with
  | true => exact ⟨Nat.zero_le _, Nat.zero_le _⟩
  | false =>
    rw [cond_false]
    cases hN : nodesF a.2.2.1 b.2.2.1 a.2.2.1.1.length [] with
    | nil => exact ⟨Nat.zero_le _, Nat.zero_le _⟩
    | cons r rs =>
      obtain ⟨l1, l2⟩ := nodesF_len a.2.2.1 b.2.2.1 _ _ r (by rw [hN]; exact List.mem_cons_self ..)
      rw [List.length_nil] at l1
      show r.1.length ≤ 1000 ∧ r.2.length ≤ 1000
      omega
def fewS (c : ConD) : Bool := cond (decide ((c.2.2.1.1.length : Int) ≤ 4)) (decide ((c.2.2.1.2.length : Int) ≤ 5)) false
noncomputable def fewW (c : ConD) : Bool := fewC c && (fewS c || !(decide (shapeE c = 0)))
theorem w42_few_ev (c : ConD) : ∀ k, 1000 ≤ k → run M k f_w42_few [.val tConstraint c] = some ⟨.bool, fewW c⟩ := by
  intro k hk
  obtain ⟨k, rfl⟩ : ∃ i, k = i + 1 := ⟨k - 1, by omega⟩
  rw [e_w42_few, b_w42_few]
  show Option.bind (res .bool (run M k f_r42_Few [.val tConstraint c])) (fun r1 => Option.bind (cond (r1 && !fewS c) (res tI (run M k f_r42_Shape [.val tConstraint c])) (some (dflt E tI))) (fun (r2 : Int) => (some ⟨.bool, cond r1 (cond (fewS c) true (!(decide (r2 = (0 : Int))))) false⟩ : Res E))) = _
  rw [r42_Few_ev c k (by omega), res_some, bindS]
  unfold fewW
  cases hC : fewC c with
  | false => rfl
  | true =>
    cases fewS c with
    | true => rfl
    | false =>
      rw [r42_Shape_ev c (fewC_name hC) k (by omega), res_some]
      rfl
theorem fewW_small {c : ConD} (h : fewW c = true) : c.1.size ≤ 60 ∧ (shapeE c = 0 → c.2.2.1.1.length ≤ 4 ∧ c.2.2.1.2.length ≤ 5) := by
  unfold fewW at h
  cases hC : fewC c with
  | false => rw [hC] at h; cases h
  | true =>
    refine ⟨fewC_name hC, fun h0 => ?_⟩
    rw [hC, decide_eq_true h0, Bool.not_true, Bool.or_false, Bool.true_and] at h
    unfold fewS at h
    cases h1 : decide ((c.2.2.1.1.length : Int) ≤ 4) with
    | false => rw [h1] at h; cases h
    | true =>
      rw [h1] at h
      have h1 := of_decide_eq_true h1
      have h2 := of_decide_eq_true (show decide ((c.2.2.1.2.length : Int) ≤ 5) = true from h)
      omega
end Go.Proofs.AM

namespace Go.Proofs.AM
open Go
theorem subsumes_data (a b : ConD) : run M 30001 f_w42_ConstraintSubsumes [.val tConstraint a, .val tConstraint b] = some ⟨.bool, true⟩ := by
  rw [e_w42_ConstraintSubsumes, b_w42_ConstraintSubsumes, awake (by omega), res_some, bindS]
  simp only [Bool.not_true, Bool.not_false, cond_true, cond_false]
  show Option.bind (res .bool (run M 30000 f_w42_few [.val tConstraint a])) _ = _
  rw [w42_few_ev a 30000 (by omega), res_some, bindS]
  cases hA : fewW a with
  | false => rfl
  | true =>
    simp only [Bool.not_true, Bool.not_false, cond_true, cond_false]
    show Option.bind (res .bool (run M 30000 f_r42_Few [.val tConstraint b])) _ = _
    rw [r42_Few_ev b 30000 (by omega), res_some, bindS]
    cases hB : fewC b with
    | false => rfl
    | true =>
      obtain ⟨na, sa⟩ := fewW_small hA
      have nb := fewC_name hB
      simp only [Bool.not_true, cond_false]
      show Option.bind (res tSub (run M 30000 f_constraint_Subsumes [.val tConstraint a, .val tConstraint b])) _ = _
      rw [constraint_Subsumes_ev a b na nb 30000 (by omega), res_some, bindS]
      show Option.bind (res tSub (run M 30000 f_r42_Subsumes [.val tConstraint a, .val tConstraint b])) _ = _
      rw [r42_Subsumes_ev a b na nb sa 30000 (by omega), res_some, bindS]
      obtain ⟨l1, l2⟩ := subP_len (a := a) (b := b) (fun h => by have := sa h; omega)
      generalize subP a b = p at l1 l2
      obtain ⟨p1, p2, p3, p4⟩ := p
      simp only [decide_true, beq_self_eq_true, cond_true]
      rw [r06_Same_refl (p2, p3) l1 l2 30000 (by omega), res_some, bindS]
end Go.Proofs.AM
