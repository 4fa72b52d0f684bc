/- Helpers of this claim: an abstract machine over the model, proved sound; what it computes. Part 10. -/
import Derived.Test.YtblkffncllmpnaaGreatDoorAm6
import Derived.Test.YtblkffncllmpnaaGreatDoorAm3
import Derived.IntWalk
import Derived.Test.YtblkffncllmpnaaGreatDoorAm7
namespace Go.Proofs.AM
open Go
theorem res_some (t : Ty) (x : D t) : res (E := E) t (some ⟨t, x⟩) = some x := by simp [res, castD]
theorem dflt_bool : dflt E .bool = false := rfl
theorem bindS {α β : Type} (x : α) (f : α → Option β) : Option.bind (some x) f = f x := rfl
theorem loop_down {ρ : Type} {n : Nat} {F : Nat → Int → ρ} {G : Nat → ρ} (hend : ∀ j, F (j + 1) n = G n) (hstep : ∀ m j, m < n → F j ((m + 1 : Nat) : Int) = G (m + 1) → F (j + 1) (m : Int) = G m) :
    ∀ m, m ≤ n → ∀ j, n - m < j → F j (m : Int) = G m := by
  intro m hm
  induction h : n - m generalizing m with
  | zero =>
    intro j hj
    have : m = n := by omega
    subst this
    obtain ⟨i, rfl⟩ : ∃ i, j = i + 1 := ⟨j - 1, by omega⟩
    exact hend i
  | succ d ih =>
    intro j hj
    obtain ⟨i, rfl⟩ : ∃ i, j = i + 1 := ⟨j - 1, by omega⟩
    exact hstep m i (by omega) (ih (m + 1) (by omega) (by omega) i (by omega))
theorem loop_down' {ρ : Type} {n : Nat} (c : Nat) {F : Nat → Int → ρ} {G : Nat → ρ} (hend : ∀ j, c ≤ j → F (j + 1) n = G n) (hstep : ∀ m j, m < n → c ≤ j → F j ((m + 1 : Nat) : Int) = G (m + 1) → F (j + 1) (m : Int) = G m) :
    ∀ m, m ≤ n → ∀ j, c + (n - m) < j → F j (m : Int) = G m := by
  intro m hm
  induction h : n - m generalizing m with
  | zero =>
    intro j hj
    have : m = n := by omega
    subst this
    obtain ⟨i, rfl⟩ : ∃ i, j = i + 1 := ⟨j - 1, by omega⟩
    exact hend i (by omega)
  | succ d ih =>
    intro j hj
    obtain ⟨i, rfl⟩ : ∃ i, j = i + 1 := ⟨j - 1, by omega⟩
    exact hstep m i (by omega) (by omega) (ih (m + 1) (by omega) (by omega) i (by omega))
theorem wrap_id {x : Int} (h0 : -9223372036854775808 ≤ x) (h1 : x ≤ 9223372036854775807) : IntKind.i64.wrap x = x := by
  rw [IntKind.wrap_i64]; omega
theorem wrap_succ {m : Nat} (h : m < 9223372036854775807) : IntKind.i64.wrap ((m : Int) + 1) = ((m + 1 : Nat) : Int) := by
  rw [wrap_id (by omega) (by omega)]; simp
theorem inB_nat (m n : Nat) : inB (m : Int) (n : Int) = decide (m < n) := by
  simp [inB]
theorem rd_nat {t : Ty} (xs : List (D t)) (m : Nat) (h : m < xs.length) : rd (E := E) (t := t) xs (m : Int) = xs[m] := by
  simp [rd, h]
def by_ (s : ByteArray) : List Int := s.data.toList.map fun u => (u.toNat : Int)
theorem by_length (s : ByteArray) : (by_ s).length = s.size := by unfold by_; rw [List.length_map, Array.length_toList]; rfl
theorem bt_nat (s : ByteArray) (m : Nat) (h : m < (by_ s).length) : bt s (m : Int) = (by_ s)[m] := by
  have h' : m < s.data.toList.length := by unfold by_ at h; rw [List.length_map] at h; exact h
  unfold bt
  rw [Int.toNat_natCast, List.getD_eq_getElem?_getD, List.getElem?_eq_getElem h']
  simp only [by_, List.getElem_map, Option.getD_some]
theorem by_range {s : ByteArray} {x : Int} (h : x ∈ by_ s) : 0 ≤ x ∧ x ≤ 255 := by
  simp only [by_, List.mem_map] at h
  obtain ⟨u, _, rfl⟩ := h
  have := u.toNat_lt
  omega
theorem beqS_iff (a b : ByteArray) : beqS a b = decide (by_ a = by_ b) := by
  have hinj : ∀ l m : List UInt8, l.map (fun u => (u.toNat : Int)) = m.map (fun u => (u.toNat : Int)) → l = m := by
    intro l
    induction l with
    | nil => intro m h; cases m with
      | nil => rfl
      | cons _ _ => simp at h
    | cons x l ih => intro m h; cases m with
      | nil => simp at h
      | cons y m =>
        simp only [List.map_cons, List.cons.injEq] at h
        have : x = y := UInt8.toNat_inj.1 (by have := h.1; omega)
        rw [this, ih m h.2]
  unfold beqS by_
  by_cases h : a.data.toList = b.data.toList
  · simp [h]
  · rw [beq_eq_false_iff_ne.2 h, decide_eq_false (fun e => h (hinj _ _ e))]
def lead {α : Type} (p : α → Bool) : List α → Nat
  | [] => 0
  | x :: r => cond (p x) (lead p r + 1) 0
theorem lead_le {α : Type} (p : α → Bool) : ∀ l, lead p l ≤ l.length
  | [] => Nat.le_refl _
  | x :: r => by
    unfold lead
    have := lead_le p r
    cases p x <;> simp <;> omega
def idx {α : Type} (p : α → Bool) : Nat → List α → Int
  | _, [] => -1
  | m, x :: r => cond (p x) (m : Int) (idx p (m + 1) r)
theorem idx_nonneg {α : Type} (p : α → Bool) : ∀ (m : Nat) (l : List α), decide (0 ≤ idx p m l) = l.any p
  | _, [] => rfl
  | m, x :: r => by
    unfold idx
    rw [List.any_cons]
    cases p x with
    | true => simp
    | false => simpa using idx_nonneg p (m + 1) r
theorem reach_lt : reachBytes < 9223372036854775807 := by decide
end Go.Proofs.AM

namespace Go.Proofs.AM
open Go
theorem IndexFunc_Edge_ev {xs : List (D tEdge)} {f : FuncId} {caps : List (Dt E)} {p : D tEdge → Bool} {c : Nat} (hf : ∀ x ∈ xs, ∀ k, c ≤ k → run M k f ([.val tEdge x] ++ capArgs caps) = some ⟨.bool, p x⟩) (hs : xs.length ≤ reachBytes) :
    ∀ k, c + xs.length + 2 ≤ k → run M k f_slices_IndexFunc_Edge [.val (.slice tEdge) xs, .fn f caps] = some ⟨tI, idx p 0 xs⟩ := by
  intro k hk
  obtain ⟨k, rfl⟩ : ∃ i, k = i + 1 := ⟨k - 1, by omega⟩
  rw [e_slices_IndexFunc_Edge, b_slices_IndexFunc_Edge]
  have hr := reach_lt
  exact loop_down (n := xs.length) (F := fun j i => l_slices_IndexFunc_Edge_0 (run M k) j xs f caps xs.length i) (G := fun m => some ⟨tI, idx p m (xs.drop m)⟩)
    (fun j => by
      show s_slices_IndexFunc_Edge_0 (run M k) _ xs f caps _ _ = _
      rw [List.drop_eq_nil_of_le (Nat.le_refl _)]
      simp [s_slices_IndexFunc_Edge_0, idx])
    (fun m j hm ih => by
      show s_slices_IndexFunc_Edge_0 (run M k) _ xs f caps _ _ = _
      have hx := hf _ (List.getElem_mem hm) k (by omega)
      rw [List.drop_eq_getElem_cons hm]
      simp only [s_slices_IndexFunc_Edge_0, inB_nat, rd_nat xs m hm, hm, decide_true, Int.ofNat_lt, cond_true]
      rw [hx, res_some, bindS]
      simp only [idx]
      cases p xs[m] with
      | true => rfl
      | false =>
        simp only [cond_false]
        rw [wrap_succ (by omega)]
        exact ih) 0 (Nat.zero_le _) k (by omega)
theorem ContainsFunc_Edge_ev {xs : List (D tEdge)} {f : FuncId} {caps : List (Dt E)} {p : D tEdge → Bool} {c : Nat} (hf : ∀ x ∈ xs, ∀ k, c ≤ k → run M k f ([.val tEdge x] ++ capArgs caps) = some ⟨.bool, p x⟩) (hs : xs.length ≤ reachBytes) :
    ∀ k, c + xs.length + 3 ≤ k → run M k f_slices_ContainsFunc_Edge [.val (.slice tEdge) xs, .fn f caps] = some ⟨.bool, xs.any p⟩ := by
  intro k hk
  obtain ⟨k, rfl⟩ : ∃ i, k = i + 1 := ⟨k - 1, by omega⟩
  rw [e_slices_ContainsFunc_Edge, b_slices_ContainsFunc_Edge, IndexFunc_Edge_ev hf hs k (by omega), res_some, bindS, idx_nonneg]
theorem IndexFunc_Extension_ev {xs : List (D tExtension)} {f : FuncId} {caps : List (Dt E)} {p : D tExtension → Bool} {c : Nat} (hf : ∀ x ∈ xs, ∀ k, c ≤ k → run M k f ([.val tExtension x] ++ capArgs caps) = some ⟨.bool, p x⟩) (hs : xs.length ≤ reachBytes) :
    ∀ k, c + xs.length + 2 ≤ k → run M k f_slices_IndexFunc_Extension [.val (.slice tExtension) xs, .fn f caps] = some ⟨tI, idx p 0 xs⟩ := by
  intro k hk
  obtain ⟨k, rfl⟩ : ∃ i, k = i + 1 := ⟨k - 1, by omega⟩
  rw [e_slices_IndexFunc_Extension, b_slices_IndexFunc_Extension]
  have hr := reach_lt
  exact loop_down (n := xs.length) (F := fun j i => l_slices_IndexFunc_Extension_0 (run M k) j xs f caps xs.length i) (G := fun m => some ⟨tI, idx p m (xs.drop m)⟩)
    (fun j => by
      show s_slices_IndexFunc_Extension_0 (run M k) _ xs f caps _ _ = _
      rw [List.drop_eq_nil_of_le (Nat.le_refl _)]
      simp [s_slices_IndexFunc_Extension_0, idx])
    (fun m j hm ih => by
      show s_slices_IndexFunc_Extension_0 (run M k) _ xs f caps _ _ = _
      have hx := hf _ (List.getElem_mem hm) k (by omega)
      rw [List.drop_eq_getElem_cons hm]
      simp only [s_slices_IndexFunc_Extension_0, inB_nat, rd_nat xs m hm, hm, decide_true, Int.ofNat_lt, cond_true]
      rw [hx, res_some, bindS]
      simp only [idx]
      cases p xs[m] with
      | true => rfl
      | false =>
        simp only [cond_false]
        rw [wrap_succ (by omega)]
        exact ih) 0 (Nat.zero_le _) k (by omega)
theorem ContainsFunc_Extension_ev {xs : List (D tExtension)} {f : FuncId} {caps : List (Dt E)} {p : D tExtension → Bool} {c : Nat} (hf : ∀ x ∈ xs, ∀ k, c ≤ k → run M k f ([.val tExtension x] ++ capArgs caps) = some ⟨.bool, p x⟩) (hs : xs.length ≤ reachBytes) :
    ∀ k, c + xs.length + 3 ≤ k → run M k f_slices_ContainsFunc_Extension [.val (.slice tExtension) xs, .fn f caps] = some ⟨.bool, xs.any p⟩ := by
  intro k hk
  obtain ⟨k, rfl⟩ : ∃ i, k = i + 1 := ⟨k - 1, by omega⟩
  rw [e_slices_ContainsFunc_Extension, b_slices_ContainsFunc_Extension, IndexFunc_Extension_ev hf hs k (by omega), res_some, bindS, idx_nonneg]
theorem IndexFunc_int_ev {xs : List (D tI)} {f : FuncId} {caps : List (Dt E)} {p : D tI → Bool} {c : Nat} (hf : ∀ x ∈ xs, ∀ k, c ≤ k → run M k f ([.val tI x] ++ capArgs caps) = some ⟨.bool, p x⟩) (hs : xs.length ≤ reachBytes) :
    ∀ k, c + xs.length + 2 ≤ k → run M k f_slices_IndexFunc_int [.val (.slice tI) xs, .fn f caps] = some ⟨tI, idx p 0 xs⟩ := by
  intro k hk
  obtain ⟨k, rfl⟩ : ∃ i, k = i + 1 := ⟨k - 1, by omega⟩
  rw [e_slices_IndexFunc_int, b_slices_IndexFunc_int]
  have hr := reach_lt
  exact loop_down (n := xs.length) (F := fun j i => l_slices_IndexFunc_int_0 (run M k) j xs f caps xs.length i) (G := fun m => some ⟨tI, idx p m (xs.drop m)⟩)
    (fun j => by
      show s_slices_IndexFunc_int_0 (run M k) _ xs f caps _ _ = _
      rw [List.drop_eq_nil_of_le (Nat.le_refl _)]
      simp [s_slices_IndexFunc_int_0, idx])
    (fun m j hm ih => by
      show s_slices_IndexFunc_int_0 (run M k) _ xs f caps _ _ = _
      have hx := hf _ (List.getElem_mem hm) k (by omega)
      rw [List.drop_eq_getElem_cons hm]
      simp only [s_slices_IndexFunc_int_0, inB_nat, rd_nat xs m hm, hm, decide_true, Int.ofNat_lt, cond_true]
      rw [hx, res_some, bindS]
      simp only [idx]
      cases p xs[m] with
      | true => rfl
      | false =>
        simp only [cond_false]
        rw [wrap_succ (by omega)]
        exact ih) 0 (Nat.zero_le _) k (by omega)
theorem ContainsFunc_int_ev {xs : List (D tI)} {f : FuncId} {caps : List (Dt E)} {p : D tI → Bool} {c : Nat} (hf : ∀ x ∈ xs, ∀ k, c ≤ k → run M k f ([.val tI x] ++ capArgs caps) = some ⟨.bool, p x⟩) (hs : xs.length ≤ reachBytes) :
    ∀ k, c + xs.length + 3 ≤ k → run M k f_slices_ContainsFunc_int [.val (.slice tI) xs, .fn f caps] = some ⟨.bool, xs.any p⟩ := by
  intro k hk
  obtain ⟨k, rfl⟩ : ∃ i, k = i + 1 := ⟨k - 1, by omega⟩
  rw [e_slices_ContainsFunc_int, b_slices_ContainsFunc_int, IndexFunc_int_ev hf hs k (by omega), res_some, bindS, idx_nonneg]
theorem IndexFunc_NodeType_ev {xs : List (D tNodeType)} {f : FuncId} {caps : List (Dt E)} {p : D tNodeType → Bool} {c : Nat} (hf : ∀ x ∈ xs, ∀ k, c ≤ k → run M k f ([.val tNodeType x] ++ capArgs caps) = some ⟨.bool, p x⟩) (hs : xs.length ≤ reachBytes) :
    ∀ k, c + xs.length + 2 ≤ k → run M k f_slices_IndexFunc_NodeType [.val (.slice tNodeType) xs, .fn f caps] = some ⟨tI, idx p 0 xs⟩ := by
  intro k hk
  obtain ⟨k, rfl⟩ : ∃ i, k = i + 1 := ⟨k - 1, by omega⟩
  rw [e_slices_IndexFunc_NodeType, b_slices_IndexFunc_NodeType]
  have hr := reach_lt
  exact loop_down (n := xs.length) (F := fun j i => l_slices_IndexFunc_NodeType_0 (run M k) j xs f caps xs.length i) (G := fun m => some ⟨tI, idx p m (xs.drop m)⟩)
    (fun j => by
      show s_slices_IndexFunc_NodeType_0 (run M k) _ xs f caps _ _ = _
      rw [List.drop_eq_nil_of_le (Nat.le_refl _)]
      simp [s_slices_IndexFunc_NodeType_0, idx])
    (fun m j hm ih => by
      show s_slices_IndexFunc_NodeType_0 (run M k) _ xs f caps _ _ = _
      have hx := hf _ (List.getElem_mem hm) k (by omega)
      rw [List.drop_eq_getElem_cons hm]
      simp only [s_slices_IndexFunc_NodeType_0, inB_nat, rd_nat xs m hm, hm, decide_true, Int.ofNat_lt, cond_true]
      rw [hx, res_some, bindS]
      simp only [idx]
      cases p xs[m] with
      | true => rfl
      | false =>
        simp only [cond_false]
        rw [wrap_succ (by omega)]
        exact ih) 0 (Nat.zero_le _) k (by omega)
theorem ContainsFunc_NodeType_ev {xs : List (D tNodeType)} {f : FuncId} {caps : List (Dt E)} {p : D tNodeType → Bool} {c : Nat} (hf : ∀ x ∈ xs, ∀ k, c ≤ k → run M k f ([.val tNodeType x] ++ capArgs caps) = some ⟨.bool, p x⟩) (hs : xs.length ≤ reachBytes) :
    ∀ k, c + xs.length + 3 ≤ k → run M k f_slices_ContainsFunc_NodeType [.val (.slice tNodeType) xs, .fn f caps] = some ⟨.bool, xs.any p⟩ := by
  intro k hk
  obtain ⟨k, rfl⟩ : ∃ i, k = i + 1 := ⟨k - 1, by omega⟩
  rw [e_slices_ContainsFunc_NodeType, b_slices_ContainsFunc_NodeType, IndexFunc_NodeType_ev hf hs k (by omega), res_some, bindS, idx_nonneg]
theorem IndexFunc_EdgeType_ev {xs : List (D tEdgeType)} {f : FuncId} {caps : List (Dt E)} {p : D tEdgeType → Bool} {c : Nat} (hf : ∀ x ∈ xs, ∀ k, c ≤ k → run M k f ([.val tEdgeType x] ++ capArgs caps) = some ⟨.bool, p x⟩) (hs : xs.length ≤ reachBytes) :
    ∀ k, c + xs.length + 2 ≤ k → run M k f_slices_IndexFunc_EdgeType [.val (.slice tEdgeType) xs, .fn f caps] = some ⟨tI, idx p 0 xs⟩ := by
  intro k hk
  obtain ⟨k, rfl⟩ : ∃ i, k = i + 1 := ⟨k - 1, by omega⟩
  rw [e_slices_IndexFunc_EdgeType, b_slices_IndexFunc_EdgeType]
  have hr := reach_lt
  exact loop_down (n := xs.length) (F := fun j i => l_slices_IndexFunc_EdgeType_0 (run M k) j xs f caps xs.length i) (G := fun m => some ⟨tI, idx p m (xs.drop m)⟩)
    (fun j => by
      show s_slices_IndexFunc_EdgeType_0 (run M k) _ xs f caps _ _ = _
      rw [List.drop_eq_nil_of_le (Nat.le_refl _)]
      simp [s_slices_IndexFunc_EdgeType_0, idx])
    (fun m j hm ih => by
      show s_slices_IndexFunc_EdgeType_0 (run M k) _ xs f caps _ _ = _
      have hx := hf _ (List.getElem_mem hm) k (by omega)
      rw [List.drop_eq_getElem_cons hm]
      simp only [s_slices_IndexFunc_EdgeType_0, inB_nat, rd_nat xs m hm, hm, decide_true, Int.ofNat_lt, cond_true]
      rw [hx, res_some, bindS]
      simp only [idx]
      cases p xs[m] with
      | true => rfl
      | false =>
        simp only [cond_false]
        rw [wrap_succ (by omega)]
        exact ih) 0 (Nat.zero_le _) k (by omega)
theorem ContainsFunc_EdgeType_ev {xs : List (D tEdgeType)} {f : FuncId} {caps : List (Dt E)} {p : D tEdgeType → Bool} {c : Nat} (hf : ∀ x ∈ xs, ∀ k, c ≤ k → run M k f ([.val tEdgeType x] ++ capArgs caps) = some ⟨.bool, p x⟩) (hs : xs.length ≤ reachBytes) :
    ∀ k, c + xs.length + 3 ≤ k → run M k f_slices_ContainsFunc_EdgeType [.val (.slice tEdgeType) xs, .fn f caps] = some ⟨.bool, xs.any p⟩ := by
  intro k hk
  obtain ⟨k, rfl⟩ : ∃ i, k = i + 1 := ⟨k - 1, by omega⟩
  rw [e_slices_ContainsFunc_EdgeType, b_slices_ContainsFunc_EdgeType, IndexFunc_EdgeType_ev hf hs k (by omega), res_some, bindS, idx_nonneg]
theorem IndexFunc_Attr_ev {xs : List (D tAttr)} {f : FuncId} {caps : List (Dt E)} {p : D tAttr → Bool} {c : Nat} (hf : ∀ x ∈ xs, ∀ k, c ≤ k → run M k f ([.val tAttr x] ++ capArgs caps) = some ⟨.bool, p x⟩) (hs : xs.length ≤ reachBytes) :
    ∀ k, c + xs.length + 2 ≤ k → run M k f_slices_IndexFunc_Attr [.val (.slice tAttr) xs, .fn f caps] = some ⟨tI, idx p 0 xs⟩ := by
  intro k hk
  obtain ⟨k, rfl⟩ : ∃ i, k = i + 1 := ⟨k - 1, by omega⟩
  rw [e_slices_IndexFunc_Attr, b_slices_IndexFunc_Attr]
  have hr := reach_lt
  exact loop_down (n := xs.length) (F := fun j i => l_slices_IndexFunc_Attr_0 (run M k) j xs f caps xs.length i) (G := fun m => some ⟨tI, idx p m (xs.drop m)⟩)
    (fun j => by
      show s_slices_IndexFunc_Attr_0 (run M k) _ xs f caps _ _ = _
      rw [List.drop_eq_nil_of_le (Nat.le_refl _)]
      simp [s_slices_IndexFunc_Attr_0, idx])
    (fun m j hm ih => by
      show s_slices_IndexFunc_Attr_0 (run M k) _ xs f caps _ _ = _
      have hx := hf _ (List.getElem_mem hm) k (by omega)
      rw [List.drop_eq_getElem_cons hm]
      simp only [s_slices_IndexFunc_Attr_0, inB_nat, rd_nat xs m hm, hm, decide_true, Int.ofNat_lt, cond_true]
      rw [hx, res_some, bindS]
      simp only [idx]
      cases p xs[m] with
      | true => rfl
      | false =>
        simp only [cond_false]
        rw [wrap_succ (by omega)]
        exact ih) 0 (Nat.zero_le _) k (by omega)
theorem ContainsFunc_Attr_ev {xs : List (D tAttr)} {f : FuncId} {caps : List (Dt E)} {p : D tAttr → Bool} {c : Nat} (hf : ∀ x ∈ xs, ∀ k, c ≤ k → run M k f ([.val tAttr x] ++ capArgs caps) = some ⟨.bool, p x⟩) (hs : xs.length ≤ reachBytes) :
    ∀ k, c + xs.length + 3 ≤ k → run M k f_slices_ContainsFunc_Attr [.val (.slice tAttr) xs, .fn f caps] = some ⟨.bool, xs.any p⟩ := by
  intro k hk
  obtain ⟨k, rfl⟩ : ∃ i, k = i + 1 := ⟨k - 1, by omega⟩
  rw [e_slices_ContainsFunc_Attr, b_slices_ContainsFunc_Attr, IndexFunc_Attr_ev hf hs k (by omega), res_some, bindS, idx_nonneg]
theorem Index_int_ev {xs : List (D tI)} (x : D tI) (hs : xs.length ≤ reachBytes) :
    ∀ k, xs.length + 2 ≤ k → run M k f_slices_Index_int [.val (.slice tI) xs, .val tI x] = some ⟨tI, idx (fun y => decide (x = y)) 0 xs⟩ := by
  intro k hk
  obtain ⟨k, rfl⟩ : ∃ i, k = i + 1 := ⟨k - 1, by omega⟩
  rw [e_slices_Index_int, b_slices_Index_int]
  have hr := reach_lt
  exact loop_down (n := xs.length) (F := fun j i => l_slices_Index_int_0 (run M k) j xs x xs.length i) (G := fun m => some ⟨tI, idx (fun y => decide (x = y)) m (xs.drop m)⟩)
    (fun j => by
      show s_slices_Index_int_0 (run M k) _ xs x _ _ = _
      rw [List.drop_eq_nil_of_le (Nat.le_refl _)]
      simp [s_slices_Index_int_0, idx])
    (fun m j hm ih => by
      show s_slices_Index_int_0 (run M k) _ xs x _ _ = _
      rw [List.drop_eq_getElem_cons hm]
      simp only [s_slices_Index_int_0, inB_nat, rd_nat xs m hm, hm, decide_true, Int.ofNat_lt, cond_true, idx]
      rw [wrap_succ (by omega), ih]
      rcases Bool.eq_false_or_eq_true (decide (x = xs[m])) with h | h <;> rw [h] <;> rfl) 0 (Nat.zero_le _) k (by omega)
theorem Contains_int_ev {xs : List (D tI)} (x : D tI) (hs : xs.length ≤ reachBytes) :
    ∀ k, xs.length + 3 ≤ k → run M k f_slices_Contains_int [.val (.slice tI) xs, .val tI x] = some ⟨.bool, xs.any (fun y => decide (x = y))⟩ := by
  intro k hk
  obtain ⟨k, rfl⟩ : ∃ i, k = i + 1 := ⟨k - 1, by omega⟩
  rw [e_slices_Contains_int, b_slices_Contains_int, Index_int_ev x hs k (by omega), res_some, bindS, idx_nonneg]
theorem Index_string_ev {xs : List (D .str)} (x : D .str) (hs : xs.length ≤ reachBytes) :
    ∀ k, xs.length + 2 ≤ k → run M k f_slices_Index_string [.val (.slice .str) xs, .val .str x] = some ⟨tI, idx (fun y => beqS x y) 0 xs⟩ := by
  intro k hk
  obtain ⟨k, rfl⟩ : ∃ i, k = i + 1 := ⟨k - 1, by omega⟩
  rw [e_slices_Index_string, b_slices_Index_string]
  have hr := reach_lt
  exact loop_down (n := xs.length) (F := fun j i => l_slices_Index_string_0 (run M k) j xs x xs.length i) (G := fun m => some ⟨tI, idx (fun y => beqS x y) m (xs.drop m)⟩)
    (fun j => by
      show s_slices_Index_string_0 (run M k) _ xs x _ _ = _
      rw [List.drop_eq_nil_of_le (Nat.le_refl _)]
      simp [s_slices_Index_string_0, idx])
    (fun m j hm ih => by
      show s_slices_Index_string_0 (run M k) _ xs x _ _ = _
      rw [List.drop_eq_getElem_cons hm]
      simp only [s_slices_Index_string_0, inB_nat, rd_nat xs m hm, hm, decide_true, Int.ofNat_lt, cond_true, idx]
      rw [wrap_succ (by omega), ih]
      rcases Bool.eq_false_or_eq_true (beqS x xs[m]) with h | h <;> rw [h] <;> rfl) 0 (Nat.zero_le _) k (by omega)
theorem Contains_string_ev {xs : List (D .str)} (x : D .str) (hs : xs.length ≤ reachBytes) :
    ∀ k, xs.length + 3 ≤ k → run M k f_slices_Contains_string [.val (.slice .str) xs, .val .str x] = some ⟨.bool, xs.any (fun y => beqS x y)⟩ := by
  intro k hk
  obtain ⟨k, rfl⟩ : ∃ i, k = i + 1 := ⟨k - 1, by omega⟩
  rw [e_slices_Contains_string, b_slices_Contains_string, Index_string_ev x hs k (by omega), res_some, bindS, idx_nonneg]
end Go.Proofs.AM

namespace Go.Proofs.AM
open Go
def isLetter (x : Int) : Bool := cond (cond (decide ((97 : Int) ≤ x)) (decide (x ≤ (122 : Int))) false) true (cond (decide ((65 : Int) ≤ x)) (decide (x ≤ (90 : Int))) false)
def isDigit (x : Int) : Bool := cond (decide ((48 : Int) ≤ x)) (decide (x ≤ (57 : Int))) false
def isPart (x : Int) : Bool := cond (cond (isLetter x) true (isDigit x)) true (decide (x = (95 : Int)))
def inQuotes (x : Int) : Bool := cond (cond (decide ((32 : Int) ≤ x)) (decide (x ≤ (126 : Int))) false) (!(decide (x = (34 : Int)))) false
theorem token_letter_ev (x : Int) : ∀ k, 1 ≤ k → run M k f_token_letter [.val tU8 x] = some ⟨.bool, isLetter x⟩ := by
  intro k hk
  obtain ⟨k, rfl⟩ : ∃ i, k = i + 1 := ⟨k - 1, by omega⟩
  exact e_token_letter k x
theorem token_digit_ev (x : Int) : ∀ k, 1 ≤ k → run M k f_token_digit [.val tU8 x] = some ⟨.bool, isDigit x⟩ := by
  intro k hk
  obtain ⟨k, rfl⟩ : ∃ i, k = i + 1 := ⟨k - 1, by omega⟩
  exact e_token_digit k x
theorem token_quoted_1_ev (x : Int) : ∀ k, 1 ≤ k → run M k f_token_quoted_1 [.val tU8 x] = some ⟨.bool, inQuotes x⟩ := by
  intro k hk
  obtain ⟨k, rfl⟩ : ∃ i, k = i + 1 := ⟨k - 1, by omega⟩
  exact e_token_quoted_1 k x
theorem r01_letter_ev (x : Int) : ∀ k, 1 ≤ k → run M k f_r01_letter [.val tU8 x] = some ⟨.bool, isLetter x⟩ := by
  intro k hk
  obtain ⟨k, rfl⟩ : ∃ i, k = i + 1 := ⟨k - 1, by omega⟩
  exact e_r01_letter k x
theorem r01_digit_ev (x : Int) : ∀ k, 1 ≤ k → run M k f_r01_digit [.val tU8 x] = some ⟨.bool, isDigit x⟩ := by
  intro k hk
  obtain ⟨k, rfl⟩ : ∃ i, k = i + 1 := ⟨k - 1, by omega⟩
  exact e_r01_digit k x
theorem token_part_ev (x : Int) : ∀ k, 2 ≤ k → run M k f_token_part [.val tU8 x] = some ⟨.bool, isPart x⟩ := by
  intro k hk
  obtain ⟨k, rfl⟩ : ∃ i, k = i + 1 := ⟨k - 1, by omega⟩
  rw [e_token_part, b_token_part, token_letter_ev x k (by omega), token_digit_ev x k (by omega), res_some, bindS]
  unfold isPart
  cases isLetter x <;> simp [res_some, dflt_bool]
theorem token_run_ev {s : ByteArray} {f : FuncId} {p : Int → Bool} {c : Nat} (hf : ∀ x ∈ by_ s, ∀ k, c ≤ k → run M k f [.val tU8 x] = some ⟨.bool, p x⟩) (hs : s.size ≤ reachBytes) :
    ∀ k, c + s.size + 2 ≤ k → run M k f_token_run [.val .str s, .fn f []] = some ⟨tI, ((lead p (by_ s) : Nat) : Int)⟩ := by
  intro k hk
  obtain ⟨k, rfl⟩ : ∃ i, k = i + 1 := ⟨k - 1, by omega⟩
  rw [e_token_run, b_token_run]
  have hr := reach_lt
  have := loop_down (n := s.size) (F := fun j i => l_token_run_0 (run M k) j s f [] i) (G := fun m => some ⟨tI, ((m + lead p ((by_ s).drop m) : Nat) : Int)⟩)
    (fun j => by
      show s_token_run_0 (run M k) _ s f [] _ = _
      rw [List.drop_eq_nil_of_le (by rw [by_length]; exact Nat.le_refl _)]
      simp [s_token_run_0, inB_nat, lead, dflt_bool])
    (fun m j hm ih => by
      show s_token_run_0 (run M k) _ s f [] _ = _
      have hm' : m < (by_ s).length := by rw [by_length]; exact hm
      have hx := hf _ (List.getElem_mem hm') k (by omega)
      rw [List.drop_eq_getElem_cons hm']
      simp only [s_token_run_0, inB_nat, bt_nat s m hm', capArgs, List.map_nil, List.append_nil]
      simp only [hm, decide_true, Int.ofNat_lt, cond_true, Bool.true_or]
      rw [hx, res_some, bindS]
      simp only [lead]
      cases p (by_ s)[m] with
      | false => simp
      | true =>
        simp only [cond_true]
        rw [wrap_succ (by omega)]
        rw [ih]
        rw [show m + (lead p ((by_ s).drop (m + 1)) + 1) = m + 1 + lead p ((by_ s).drop (m + 1)) by omega]) 0 (Nat.zero_le _) k (by omega)
  simpa using this
theorem by_sub (s : ByteArray) (l h : Nat) (hh : h ≤ s.size) : by_ (subS s (l : Int) (h : Int)) = ((by_ s).take h).drop l := by
  unfold subS by_
  rw [Int.toNat_natCast, Int.toNat_natCast]
  simp only [ByteArray.data_extract, Array.toList_extract, List.extract_eq_take_drop, List.map_take, List.map_drop]
  rw [List.drop_take]
theorem size_sub (s : ByteArray) (l h : Nat) (hh : h ≤ s.size) : (subS s (l : Int) (h : Int)).size = h - l := by
  rw [← by_length, by_sub s l h hh, List.length_drop, List.length_take, by_length, Nat.min_eq_left hh]
theorem token_quoted_ev {s : ByteArray} (h0 : 0 < s.size) (hs : s.size ≤ reachBytes) : ∀ k, s.size + 6 ≤ k → ∃ r, run M k f_token_quoted [.val .str s] = some ⟨tTerm, r⟩ := by
  intro k hk
  obtain ⟨k, rfl⟩ : ∃ i, k = i + 1 := ⟨k - 1, by omega⟩
  have hr := reach_lt
  have hz : (subS s (1 : Int) (s.size : Int)).size = s.size - 1 := size_sub s 1 s.size (Nat.le_refl _)
  have hl := lead_le inQuotes (by_ (subS s (1 : Int) (s.size : Int)))
  rw [by_length, hz] at hl
  rw [e_token_quoted, b_token_quoted, token_run_ev (p := inQuotes) (c := 1) (fun x _ k hk => token_quoted_1_ev x k hk) (by rw [hz]; omega) k (by rw [hz]; omega)]
  generalize lead inQuotes (by_ (subS s (1 : Int) (s.size : Int))) = n at hl
  rw [res_some, bindS, wrap_id (x := (1 : Int) + (n : Int)) (by omega) (by omega)]
  have h1 : inS (1 : Int) (s.size : Int) (s.size : Int) = true := by simp [inS]; omega
  rw [h1, cond_true]
  by_cases he : (1 : Int) + (n : Int) = (s.size : Int)
  · rw [decide_eq_true he]
    simp
  · have h2 : inB ((1 : Int) + (n : Int)) (s.size : Int) = true := by simp [inB]; omega
    rw [h2, decide_eq_false he]
    simp only [Bool.true_or, cond_true, cond_false]
    cases (!(decide ((bt s ((1 : Int) + (n : Int))) = (34 : Int)))) with
    | true => exact ⟨_, rfl⟩
    | false =>
      simp only [cond_false]
      cases (decide ((60 : Int) < (n : Int))) with
      | true => exact ⟨_, rfl⟩
      | false => exact ⟨_, rfl⟩
theorem token_pair_ev (s : ByteArray) : ∀ k, 9 ≤ k → ∃ b, run M k f_token_pair [.val .str s] = some ⟨.bool, b⟩ := by
  intro k hk
  obtain ⟨k, rfl⟩ : ∃ i, k = i + 1 := ⟨k - 1, by omega⟩
  rw [e_token_pair, b_token_pair]
  by_cases h : (2 : Int) ≤ (s.size : Int)
  · have h1 : inS (0 : Int) (2 : Int) (s.size : Int) = true := by simp [inS]; omega
    rw [h1, decide_eq_true h]
    simp only [Bool.true_or, cond_true]
    rw [Contains_string_ev _ (by decide) k (by simp; omega), res_some, bindS]
    exact ⟨_, rfl⟩
  · rw [decide_eq_false h]
    simp [dflt_bool]
theorem IndexByte_ev (s : ByteArray) (x : Int) : ∀ k, 1 ≤ k → run M k f_strings_IndexByte [.val .str s, .val tU8 x] = some ⟨tI, Lib.indexByte s.data.toList x.toNat.toUInt8⟩ := by
  intro k hk
  obtain ⟨k, rfl⟩ : ∃ i, k = i + 1 := ⟨k - 1, by omega⟩
  rfl
def isName (l : List Int) : Bool :=
  match l with
  | [] => false
  | x :: r => isLetter x && (decide (lead isPart (x :: r) ≤ 20) && decide (lead isPart (x :: r) = (x :: r).length))
theorem isName_cons (x : Int) (r : List Int) : isName (x :: r) = (isLetter x && (decide (lead isPart (x :: r) ≤ 20) && decide (lead isPart (x :: r) = (x :: r).length))) := rfl
theorem token_next_letter {s : ByteArray} {x : Int} {r : List Int} (hb : by_ s = x :: r) (hs : s.size ≤ reachBytes) (hx : isLetter x = true) : ∀ k, s.size + 8 ≤ k →
    run M k f_token_next [.val .str s] = some ⟨tEdge, cond (decide (20 < lead isPart (by_ s))) ((0 : Int), ((0 : Int), (3 : Int))) ((1 : Int), (((lead isPart (by_ s) : Nat) : Int), (0 : Int)))⟩ := by
  intro k hk
  obtain ⟨k, rfl⟩ : ∃ i, k = i + 1 := ⟨k - 1, by omega⟩
  have hsz : s.size = r.length + 1 := by rw [← by_length, hb]; rfl
  have h0 : bt s (0 : Int) = x := by
    have := bt_nat s 0 (by rw [by_length]; omega)
    simp only [hb] at this
    exact this
  have hin : inB (0 : Int) (s.size : Int) = true := by simp [inB]; omega
  rw [e_token_next, b_token_next, hin, cond_true, h0, token_letter_ev x k (by omega), res_some, bindS, hx, cond_true,
    token_run_ev (p := isPart) (c := 2) (fun x _ k hk => token_part_ev x k hk) hs k (by omega), res_some, bindS]
  have : decide ((20 : Int) < ((lead isPart (by_ s) : Nat) : Int)) = decide (20 < lead isPart (by_ s)) := by
    by_cases h : 20 < lead isPart (by_ s)
    · rw [decide_eq_true h, decide_eq_true (by omega)]
    · rw [decide_eq_false h, decide_eq_false (by omega)]
  rw [this]
  cases decide (20 < lead isPart (by_ s)) <;> rfl
theorem token_next_other {s : ByteArray} {x : Int} {r : List Int} (hb : by_ s = x :: r) (hs : s.size ≤ reachBytes) (hx : isLetter x = false) : ∀ k, s.size + 12 ≤ k →
    ∃ y : Int × (Int × Int), run M k f_token_next [.val .str s] = some ⟨tEdge, y⟩ ∧ y.1 ≠ 1 := by
  intro k hk
  obtain ⟨k, rfl⟩ : ∃ i, k = i + 1 := ⟨k - 1, by omega⟩
  have hsz : s.size = r.length + 1 := by rw [← by_length, hb]; rfl
  have h0 : bt s (0 : Int) = x := by
    have := bt_nat s 0 (by rw [by_length]; omega)
    simp only [hb] at this
    exact this
  have hin : inB (0 : Int) (s.size : Int) = true := by simp [inB]; omega
  rw [e_token_next, b_token_next, hin, cond_true, h0, token_letter_ev x k (by omega), res_some, bindS, hx, cond_false,
    token_digit_ev x k (by omega), res_some, bindS]
  cases isDigit x with
  | true =>
    rw [cond_true, token_run_ev (p := isDigit) (c := 1) (fun x _ k hk => token_digit_ev x k hk) hs k (by omega), res_some, bindS]
    cases decide ((9 : Int) < ((lead isDigit (by_ s) : Nat) : Int)) with
    | true => exact ⟨_, rfl, by decide⟩
    | false => exact ⟨_, rfl, show (2 : Int) ≠ 1 by decide⟩
  | false =>
    rw [cond_false]
    cases decide (x = (34 : Int)) with
    | true =>
      obtain ⟨y, hy⟩ := token_quoted_ev (s := s) (by omega) hs k (by omega)
      rw [cond_true, hy, res_some, bindS]
      exact ⟨_, rfl, show (3 : Int) ≠ 1 by decide⟩
    | false =>
      obtain ⟨b, hy⟩ := token_pair_ev s k (by omega)
      rw [cond_false, hy, res_some, bindS]
      cases b with
      | true => exact ⟨_, rfl, show (4 : Int) ≠ 1 by decide⟩
      | false =>
        rw [cond_false, IndexByte_ev _ _ k (by omega), res_some, bindS]
        cases decide ((0 : Int) ≤ Lib.indexByte (⟨#[123, 125, 40, 41, 91, 93, 44, 59, 58, 61, 43, 45, 42, 60, 62, 33, 38, 124, 46, 63]⟩ : ByteArray).data.toList x.toNat.toUInt8) with
        | true => exact ⟨_, rfl, show (4 : Int) ≠ 1 by decide⟩
        | false => exact ⟨_, rfl, show (0 : Int) ≠ 1 by decide⟩
theorem by_nil {s : ByteArray} : by_ s = [] ↔ s = (⟨#[]⟩ : ByteArray) := by
  constructor
  · intro h
    unfold by_ at h
    have : s.data.toList = [] := by simpa using h
    cases s with
    | mk d => cases d with
      | mk l => cases l with
        | nil => rfl
        | cons _ _ => cases this
  · intro h; subst h; rfl
theorem token_whole_ev {s : ByteArray} (hs : s.size ≤ reachBytes) : ∀ k, s.size + 14 ≤ k → ∃ z, run M k f_token_whole [.val tToken ((1 : Int), (s, (0 : Int)))] = some ⟨(.pair .str .bool), (z, isName (by_ s))⟩ := by
  intro k hk
  obtain ⟨k, rfl⟩ : ∃ i, k = i + 1 := ⟨k - 1, by omega⟩
  rw [e_token_whole, b_token_whole]
  simp only [show decide ((1 : Int) = (3 : Int)) = false from rfl, cond_false]
  rw [beqS_iff]
  cases hb : by_ s with
  | nil =>
    rw [show by_ (⟨#[]⟩ : ByteArray) = [] from rfl, decide_eq_true rfl, cond_true]
    exact ⟨_, rfl⟩
  | cons x r =>
    rw [show by_ (⟨#[]⟩ : ByteArray) = [] from rfl, decide_eq_false (by simp), cond_false]
    have hsz : s.size = (x :: r).length := by rw [← by_length, hb]
    cases hx : isLetter x with
    | true =>
      rw [token_next_letter hb hs hx k (by omega), res_some, bindS, hb]
      refine ⟨s, ?_⟩
      rw [isName_cons, hx]
      by_cases h : 20 < lead isPart (x :: r)
      · rw [decide_eq_true h, decide_eq_false (show ¬ lead isPart (x :: r) ≤ 20 by omega)]; rfl
      · rw [decide_eq_false h, decide_eq_true (show lead isPart (x :: r) ≤ 20 by omega)]
        simp only [cond_false]
        have : decide (((lead isPart (x :: r) : Nat) : Int) = (s.size : Int)) = decide (lead isPart (x :: r) = (x :: r).length) := by
          rw [hsz]
          by_cases h : lead isPart (x :: r) = (x :: r).length
          · rw [decide_eq_true h, decide_eq_true (by omega)]
          · rw [decide_eq_false h, decide_eq_false (by omega)]
        rw [this]
        rfl
    | false =>
      obtain ⟨y, h1, h2⟩ := token_next_other hb hs hx k (by omega)
      rw [h1, res_some, bindS]
      refine ⟨s, ?_⟩
      rw [isName_cons, hx, decide_eq_false h2]
      cases decide (y.2.2 = (0 : Int)) <;> rfl
theorem token_IsName_ev {s : ByteArray} (hs : s.size ≤ reachBytes) : ∀ k, s.size + 15 ≤ k → run M k f_token_IsName [.val .str s] = some ⟨.bool, isName (by_ s)⟩ := by
  intro k hk
  obtain ⟨k, rfl⟩ : ∃ i, k = i + 1 := ⟨k - 1, by omega⟩
  obtain ⟨z, hz⟩ := token_whole_ev hs k (by omega)
  rw [e_token_IsName, b_token_IsName, hz, res_some, bindS]
end Go.Proofs.AM

namespace Go.Proofs.AM
open Go
theorem zero_add_wrap {m : Nat} (h : m ≤ 9223372036854775807) : IntKind.i64.wrap ((0 : Int) + (m : Int)) = (m : Int) := by
  rw [wrap_id (by omega) (by omega)]; omega
def runP (d : Bool) (x : Int) : Bool := cond (isDigit x) true (cond (!d) (cond (isLetter x) true (decide (x = (95 : Int)))) false)
theorem r01_run_ev {s : ByteArray} (d : Bool) (hs : s.size ≤ reachBytes) :
    ∀ k, s.size + 4 ≤ k → run M k f_r01_run [.val .str s, .val tI (0 : Int), .val .bool d] = some ⟨tI, ((lead (runP d) (by_ s) : Nat) : Int)⟩ := by
  intro k hk
  obtain ⟨k, rfl⟩ : ∃ i, k = i + 1 := ⟨k - 1, by omega⟩
  rw [e_r01_run, b_r01_run]
  have hr := reach_lt
  have := loop_down (n := s.size) (F := fun j i => l_r01_run_0 (run M k) j s (0 : Int) d i) (G := fun m => some ⟨tI, ((m + lead (runP d) ((by_ s).drop m) : Nat) : Int)⟩)
    (fun j => by
      show s_r01_run_0 (run M k) _ s (0 : Int) d _ = _
      rw [List.drop_eq_nil_of_le (by rw [by_length]; exact Nat.le_refl _)]
      simp only [s_r01_run_0, zero_add_wrap (show s.size ≤ 9223372036854775807 by omega)]
      simp [inB_nat, lead, dflt_bool])
    (fun m j hm ih => by
      show s_r01_run_0 (run M k) _ s (0 : Int) d _ = _
      have hm' : m < (by_ s).length := by rw [by_length]; exact hm
      rw [List.drop_eq_getElem_cons hm']
      simp only [s_r01_run_0, zero_add_wrap (show m ≤ 9223372036854775807 by omega), inB_nat, bt_nat s m hm']
      simp only [hm, decide_true, Int.ofNat_lt, cond_true, Bool.true_or, Bool.true_and]
      rw [r01_digit_ev _ k (by omega), res_some, bindS, r01_letter_ev _ k (by omega), res_some]
      rw [wrap_succ (by omega), ih, lead]
      generalize lead (runP d) ((by_ s).drop (m + 1)) = L
      unfold runP
      generalize (by_ s)[m] = x
      generalize isDigit x = q
      generalize isLetter x = l
      generalize decide (x = (95 : Int)) = e
      rw [show m + 1 + L = m + (L + 1) by omega]
      cases q <;> cases d <;> cases l <;> cases e <;> rfl) 0 (Nat.zero_le _) k (by omega)
  simpa using this
theorem runP_false : runP false = isPart := by
  funext x
  unfold runP isPart
  cases isDigit x <;> cases isLetter x <;> rfl
def closes : Nat → List Int → Int
  | _, [] => 0
  | m, x :: r => cond (decide (x = (34 : Int))) ((m + 1 : Nat) : Int) (cond (cond (decide (x < (32 : Int))) true (decide ((126 : Int) < x))) 0 (closes (m + 1) r))
theorem closes_bound : ∀ (m : Nat) (l : List Int), closes m l = 0 ∨ ((m + 1 : Nat) : Int) ≤ closes m l ∧ closes m l ≤ ((m + l.length : Nat) : Int)
  | _, [] => .inl rfl
  | m, x :: r => by
    have ih := closes_bound (m + 1) r
    unfold closes
    cases decide (x = (34 : Int)) with
    | true => right; simp only [cond_true, List.length_cons]; omega
    | false =>
      cases (cond (decide (x < (32 : Int))) true (decide ((126 : Int) < x))) with
      | true => exact .inl rfl
      | false =>
        simp only [cond_false, List.length_cons] at ih ⊢
        rcases ih with h | h
        · exact .inl h
        · right; omega
theorem r01_quoted_ev {s : ByteArray} (h1 : 1 ≤ s.size) (hs : s.size ≤ reachBytes) :
    ∀ k, s.size + 2 ≤ k → run M k f_r01_quoted [.val .str s, .val tI (0 : Int)] = some ⟨tI, closes 1 ((by_ s).drop 1)⟩ := by
  intro k hk
  obtain ⟨k, rfl⟩ : ∃ i, k = i + 1 := ⟨k - 1, by omega⟩
  rw [e_r01_quoted, b_r01_quoted]
  have hr := reach_lt
  exact loop_down (n := s.size) (F := fun j i => l_r01_quoted_0 (run M k) j s (0 : Int) i) (G := fun m => some ⟨tI, closes m ((by_ s).drop m)⟩)
    (fun j => by
      show s_r01_quoted_0 (run M k) _ s (0 : Int) _ = _
      rw [List.drop_eq_nil_of_le (by rw [by_length]; exact Nat.le_refl _)]
      simp only [s_r01_quoted_0, zero_add_wrap (show s.size ≤ 9223372036854775807 by omega)]
      simp [closes])
    (fun m j hm ih => by
      show s_r01_quoted_0 (run M k) _ s (0 : Int) _ = _
      have hm' : m < (by_ s).length := by rw [by_length]; exact hm
      rw [List.drop_eq_getElem_cons hm']
      simp only [s_r01_quoted_0, zero_add_wrap (show m ≤ 9223372036854775807 by omega), inB_nat, bt_nat s m hm']
      simp only [hm, decide_true, Int.ofNat_lt, cond_true]
      rw [wrap_succ (by omega), ih, closes]
      generalize (by_ s)[m] = x
      generalize closes (m + 1) ((by_ s).drop (m + 1)) = L
      cases decide (x = (34 : Int)) <;> cases decide (x < (32 : Int)) <;> cases decide ((126 : Int) < x) <;> rfl) 1 h1 k (by omega)
def signOf (s : ByteArray) : List ByteArray → Int × (ByteArray × (Int × (Int × Int)))
  | [] => ((0 : Int), ((⟨#[]⟩ : ByteArray), ((0 : Int), ((0 : Int), (2 : Int)))))
  | y :: r => cond (decide (y.size ≤ s.size)) (cond (beqS (subS s (0 : Int) (y.size : Int)) y) ((4 : Int), (y, ((0 : Int), ((y.size : Int), (0 : Int))))) (signOf s r)) (signOf s r)
theorem signOf_kind (s : ByteArray) : ∀ l, (signOf s l).1 ≠ 1
  | [] => by show (0 : Int) ≠ 1; decide
  | y :: r => by
    unfold signOf
    have ih := signOf_kind s r
    cases decide (y.size ≤ s.size) with
    | false => exact ih
    | true =>
      cases beqS (subS s (0 : Int) (y.size : Int)) y with
      | true => show (4 : Int) ≠ 1; decide
      | false => exact ih
theorem getD_nat {t : List (D .str)} {m : Nat} (h : m < t.length) : List.getD t (Int.toNat (m : Int)) (dflt E .str) = t[m] := by
  rw [Int.toNat_natCast, List.getD_eq_getElem?_getD, List.getElem?_eq_getElem h]; rfl
theorem r01_signs_loop {s : ByteArray} (hs : s.size ≤ reachBytes) (t : List (D .str)) (ht : t.length ≤ 1000) (hts : ∀ y ∈ t, ByteArray.size y ≤ 1000) (a : D tI) (b : D .str) (c : D tI) (k j : Nat) (hj : t.length < j) :
    l_r01_one_0 (run M k) j s (0 : Int) (0 : Int) a b c t = some ⟨(.pair tI (.pair .str tEdge)), signOf s t⟩ := by
  have hr := reach_lt
  exact loop_down (n := t.length) (F := fun j i => l_r01_one_0 (run M k) j s (0 : Int) i a b c t) (G := fun m => some ⟨(.pair tI (.pair .str tEdge)), signOf s (t.drop m)⟩)
    (fun j => by
      show s_r01_one_0 (run M k) _ s (0 : Int) _ a b c t = _
      rw [List.drop_eq_nil_of_le (Nat.le_refl _)]
      simp [s_r01_one_0, signOf])
    (fun m j hm ih => by
      show s_r01_one_0 (run M k) _ s (0 : Int) _ a b c t = _
      have hsz := hts _ (List.getElem_mem hm)
      rw [List.drop_eq_getElem_cons hm]
      simp only [s_r01_one_0, inB_nat, hm, decide_true, Int.ofNat_lt, cond_true, getD_nat hm, Bool.true_or]
      generalize ht' : t[m] = y at hsz ⊢
      rw [zero_add_wrap (show ByteArray.size y ≤ 9223372036854775807 by omega), wrap_succ (by omega), ih, signOf]
      have hi : inS (0 : Int) (ByteArray.size y : Int) (s.size : Int) = decide (ByteArray.size y ≤ s.size) := by
        simp [inS]
      rw [hi]
      have hd : decide ((ByteArray.size y : Int) ≤ (s.size : Int)) = decide (ByteArray.size y ≤ s.size) := by simp
      rw [hd]
      cases decide (ByteArray.size y ≤ s.size) <;> cases beqS (subS s (0 : Int) (ByteArray.size y : Int)) y <;> rfl) 0 (Nat.zero_le _) j (by omega)
theorem r01_one_letter {s : ByteArray} {x : Int} {r : List Int} (hb : by_ s = x :: r) (hs : s.size ≤ reachBytes) (hx : isLetter x = true) : ∀ k, s.size + 40 ≤ k →
    ∃ z : Int × (ByteArray × (Int × (Int × Int))), run M k f_r01_one [.val .str s, .val tI (0 : Int)] = some ⟨(.pair tI (.pair .str tEdge)), z⟩ ∧
      (cond (cond (decide (z.2.2.2.2 = (0 : Int))) (decide (z.2.2.2.1 = (s.size : Int))) false) (decide (z.1 = (1 : Int))) false) = isName (by_ s) := by
  intro k hk
  obtain ⟨k, rfl⟩ : ∃ i, k = i + 1 := ⟨k - 1, by omega⟩
  have hr := reach_lt
  have hsz : s.size = r.length + 1 := by rw [← by_length, hb]; rfl
  have h0 : bt s (0 : Int) = x := by
    have := bt_nat s 0 (by rw [by_length]; omega)
    simp only [hb] at this
    exact this
  have hin : inB (0 : Int) (s.size : Int) = true := by simp [inB]; omega
  have hnd : isDigit x = false := by
    unfold isLetter at hx
    unfold isDigit
    cases h1 : decide ((48 : Int) ≤ x) with
    | false => rfl
    | true =>
      cases h2 : decide (x ≤ (57 : Int)) with
      | false => rfl
      | true =>
        have := of_decide_eq_true h2
        rw [decide_eq_false (show ¬ (97 : Int) ≤ x by omega), decide_eq_false (show ¬ (65 : Int) ≤ x by omega)] at hx
        cases hx
  rw [e_r01_one, b_r01_one, hin, cond_true, h0, r01_letter_ev x k (by omega), r01_digit_ev x k (by omega), res_some, bindS, hx, res_some]
  simp only [Bool.not_true, cond_false, bindS, dflt_bool, cond_true, hnd]
  rw [r01_run_ev false hs k (by omega), res_some, bindS, runP_false, hb, isName_cons, hx]
  have hle := lead_le isPart (by_ s)
  rw [hb] at hle
  have hsz2 : s.size = (x :: r).length := hsz
  generalize lead isPart (x :: r) = n at hle ⊢
  by_cases h : 20 < n
  · rw [decide_eq_true (show (20 : Int) < (n : Int) by omega), decide_eq_false (show ¬ n ≤ 20 by omega)]
    exact ⟨_, rfl, rfl⟩
  · rw [decide_eq_false (show ¬ (20 : Int) < (n : Int) by omega), decide_eq_true (show n ≤ 20 by omega), zero_add_wrap (by omega)]
    have : inS (0 : Int) (n : Int) (s.size : Int) = true := by simp [inS]; omega
    rw [this]
    refine ⟨_, rfl, ?_⟩
    have : decide ((n : Int) = (s.size : Int)) = decide (n = (x :: r).length) := by
      rw [hsz2]
      by_cases h : n = (x :: r).length
      · rw [decide_eq_true h, decide_eq_true (by omega)]
      · rw [decide_eq_false h, decide_eq_false (by omega)]
    show (cond (cond (decide ((0 : Int) = 0)) (decide ((n : Int) = (s.size : Int))) false) (decide ((1 : Int) = 1)) false) = _
    rw [this]
    cases decide (n = (x :: r).length) <;> rfl
theorem r01_one_other {s : ByteArray} {x : Int} {r : List Int} (hb : by_ s = x :: r) (hs : s.size ≤ reachBytes) (hx : isLetter x = false) : ∀ k, s.size + 40 ≤ k →
    ∃ z : Int × (ByteArray × (Int × (Int × Int))), run M k f_r01_one [.val .str s, .val tI (0 : Int)] = some ⟨(.pair tI (.pair .str tEdge)), z⟩ ∧ z.1 ≠ 1 := by
  intro k hk
  obtain ⟨k, rfl⟩ : ∃ i, k = i + 1 := ⟨k - 1, by omega⟩
  have hr := reach_lt
  have hsz : s.size = r.length + 1 := by rw [← by_length, hb]; rfl
  have h0 : bt s (0 : Int) = x := by
    have := bt_nat s 0 (by rw [by_length]; omega)
    simp only [hb] at this
    exact this
  have hin : inB (0 : Int) (s.size : Int) = true := by simp [inB]; omega
  rw [e_r01_one, b_r01_one, hin, cond_true, h0, r01_letter_ev x k (by omega), r01_digit_ev x k (by omega), res_some, bindS, hx, res_some]
  simp only [Bool.not_false, cond_true, bindS, cond_false]
  cases hd : isDigit x with
  | true =>
    simp only [cond_true, bindS]
    rw [r01_run_ev true hs k (by omega), res_some, bindS]
    have hle := lead_le (runP true) (by_ s)
    rw [by_length] at hle
    generalize lead (runP true) (by_ s) = n at hle ⊢
    cases h9 : decide ((9 : Int) < (n : Int)) with
    | true => exact ⟨_, rfl, show (0 : Int) ≠ 1 by decide⟩
    | false =>
      rw [zero_add_wrap (by omega)]
      have : inS (0 : Int) (n : Int) (s.size : Int) = true := by simp [inS]; omega
      rw [this]
      exact ⟨_, rfl, show (2 : Int) ≠ 1 by decide⟩
  | false =>
    simp only [cond_false]
    cases hq : decide (x = (34 : Int)) with
    | true =>
      rw [cond_true, r01_quoted_ev (by omega) hs k (by omega), res_some, bindS]
      have hcb := closes_bound 1 ((by_ s).drop 1)
      rw [List.length_drop, by_length] at hcb
      generalize closes 1 ((by_ s).drop 1) = c at hcb ⊢
      by_cases hc : c = 0
      · rw [decide_eq_true hc]; exact ⟨_, rfl, show (0 : Int) ≠ 1 by decide⟩
      · have hcb := hcb.resolve_left hc
        rw [decide_eq_false hc, cond_false]
        cases decide ((60 : Int) < IntKind.i64.wrap (c - (2 : Int))) with
        | true => exact ⟨_, rfl, show (0 : Int) ≠ 1 by decide⟩
        | false =>
          rw [wrap_id (x := (0 : Int) + (1 : Int)) (by omega) (by omega), wrap_id (x := (0 : Int) + c) (by omega) (by omega), wrap_id (x := (0 : Int) + c - 1) (by omega) (by omega)]
          have : inS ((0 : Int) + (1 : Int)) ((0 : Int) + c - 1) (s.size : Int) = true := by simp [inS]; omega
          rw [this]
          exact ⟨_, rfl, show (3 : Int) ≠ 1 by decide⟩
    | false =>
      obtain ⟨k, rfl⟩ : ∃ i, k = i + 1 := ⟨k - 1, by omega⟩
      rw [cond_false, e_r01_signs, b_r01_signs, res_some, bindS]
      rw [r01_signs_loop hs _ (by decide) (by decide) _ _ _ _ _ (by simp; omega)]
      exact ⟨_, rfl, signOf_kind _ _⟩
theorem r01_Right_ev {s : ByteArray} (hs : s.size ≤ reachBytes) : ∀ k, s.size + 42 ≤ k → run M k f_r01_Right [.val tToken ((1 : Int), (s, (0 : Int)))] = some ⟨.bool, isName (by_ s)⟩ := by
  intro k hk
  obtain ⟨k, rfl⟩ : ∃ i, k = i + 1 := ⟨k - 1, by omega⟩
  have ht : run M k f_r01_text [.val tToken ((1 : Int), (s, (0 : Int)))] = some ⟨.str, s⟩ := by
    obtain ⟨k, rfl⟩ : ∃ i, k = i + 1 := ⟨k - 1, by omega⟩
    rw [e_r01_text, b_r01_text]; rfl
  rw [e_r01_Right, b_r01_Right, ht, res_some, bindS, beqS_iff]
  cases hb : by_ s with
  | nil => rw [show by_ (⟨#[]⟩ : ByteArray) = [] from rfl, decide_eq_true rfl, cond_true]; rfl
  | cons x r =>
    rw [show by_ (⟨#[]⟩ : ByteArray) = [] from rfl, decide_eq_false (by simp), cond_false]
    cases hx : isLetter x with
    | true =>
      obtain ⟨z, h1, h2⟩ := r01_one_letter hb hs hx k (by omega)
      rw [h1, res_some, bindS, ← hb, ← h2]
    | false =>
      obtain ⟨z, h1, h2⟩ := r01_one_other hb hs hx k (by omega)
      rw [h1, res_some, bindS, isName_cons, hx, decide_eq_false h2]
      cases (cond (decide (z.2.2.2.2 = (0 : Int))) (decide (z.2.2.2.1 = (s.size : Int))) false) <;> rfl
theorem r01_IsName_ev {s : ByteArray} (hs : s.size ≤ reachBytes) : ∀ k, s.size + 43 ≤ k → run M k f_r01_IsName [.val .str s] = some ⟨.bool, isName (by_ s)⟩ := by
  intro k hk
  obtain ⟨k, rfl⟩ : ∃ i, k = i + 1 := ⟨k - 1, by omega⟩
  rw [e_r01_IsName, b_r01_IsName, r01_Right_ev hs k (by omega), res_some, bindS]
end Go.Proofs.AM

namespace Go.Proofs.AM
open Go
def kindB (x : Int) : Bool := cond (decide ((0 : Int) ≤ x)) (decide (x ≤ (99 : Int))) false
def edgeB (n : Int) (e : Int × (Int × Int)) : Bool := cond (cond (cond (cond (kindB e.1) (decide ((0 : Int) ≤ e.2.1)) false) (decide (e.2.1 < n)) false) (decide ((0 : Int) ≤ e.2.2)) false) (decide (e.2.2 < n)) false
def graphE (g : List Int × List (Int × (Int × Int))) : Int :=
  cond (cond (decide ((40 : Int) < (g.1.length : Int))) true (decide ((80 : Int) < (g.2.length : Int)))) 3 (cond (g.1.any fun x => !kindB x) 6 (cond (g.2.any fun e => !edgeB g.1.length e) 6 0))
theorem graph_within_ev (x y : Int) : ∀ k, 1 ≤ k → run M k f_graph_within [.val tI x, .val tI y] = some ⟨.bool, cond (decide ((0 : Int) ≤ x)) (decide (x ≤ y)) false⟩ := by
  intro k hk
  obtain ⟨k, rfl⟩ : ∃ i, k = i + 1 := ⟨k - 1, by omega⟩
  exact e_graph_within k x y
theorem r05_kind_ev (x : Int) : ∀ k, 1 ≤ k → run M k f_r05_kind [.val tI x] = some ⟨.bool, kindB x⟩ := by
  intro k hk
  obtain ⟨k, rfl⟩ : ∃ i, k = i + 1 := ⟨k - 1, by omega⟩
  exact e_r05_kind k x
theorem le_pred {x n : Int} : decide (x ≤ n - 1) = decide (x < n) := by
  by_cases h : x < n
  · rw [decide_eq_true h, decide_eq_true (by omega)]
  · rw [decide_eq_false h, decide_eq_false (by omega)]
theorem graph_fits_ev (e : Int × (Int × Int)) (n : Nat) (hn : n ≤ reachBytes) : ∀ k, 2 ≤ k → run M k f_graph_fits [.val tEdge e, .val tI (n : Int)] = some ⟨.bool, edgeB n e⟩ := by
  intro k hk
  obtain ⟨k, rfl⟩ : ∃ i, k = i + 1 := ⟨k - 1, by omega⟩
  have hr := reach_lt
  rw [e_graph_fits, b_graph_fits, wrap_id (x := (n : Int) - 1) (by omega) (by omega), graph_within_ev _ _ k (by omega), graph_within_ev _ _ k (by omega), graph_within_ev _ _ k (by omega), res_some, bindS, res_some, res_some, le_pred, le_pred]
  unfold edgeB kindB
  cases decide ((0 : Int) ≤ e.1) <;> cases decide (e.1 ≤ (99 : Int)) <;> cases decide ((0 : Int) ≤ e.2.1) <;> cases decide (e.2.1 < (n : Int)) <;> cases decide ((0 : Int) ≤ e.2.2) <;> cases decide (e.2.2 < (n : Int)) <;> rfl
theorem r05_right_ev (e : Int × (Int × Int)) (n : Int) : ∀ k, 2 ≤ k → run M k f_r05_right [.val tEdge e, .val tI n] = some ⟨.bool, edgeB n e⟩ := by
  intro k hk
  obtain ⟨k, rfl⟩ : ∃ i, k = i + 1 := ⟨k - 1, by omega⟩
  rw [e_r05_right, b_r05_right, r05_kind_ev _ k (by omega), res_some, bindS]
  rfl
theorem graph_Valid_ev (g : List Int × List (Int × (Int × Int))) : ∀ k, 200 ≤ k → run M k f_graph_Valid [.val tGraph g] = some ⟨tI, graphE g⟩ := by
  intro k hk
  obtain ⟨k, rfl⟩ : ∃ i, k = i + 1 := ⟨k - 1, by omega⟩
  have hr : 100 ≤ reachBytes := by decide
  rw [e_graph_Valid, b_graph_Valid]
  unfold graphE
  cases h1 : decide ((40 : Int) < (g.1.length : Int)) with
  | true => rfl
  | false =>
    cases h2 : decide ((80 : Int) < (g.2.length : Int)) with
    | true => rfl
    | false =>
      have h1 := of_decide_eq_false h1
      have h2 := of_decide_eq_false h2
      simp only [cond_false]
      rw [ContainsFunc_int_ev (p := fun x => !kindB x) (c := 2) (fun x _ k hk => by
          obtain ⟨k, rfl⟩ : ∃ i, k = i + 1 := ⟨k - 1, by omega⟩
          show run M (k + 1) f_graph_Valid_1 [.val tI x] = _
          rw [e_graph_Valid_1, b_graph_Valid_1, graph_within_ev _ _ k (by omega), res_some, bindS]; rfl) (by omega) k (by omega), res_some, bindS]
      rw [ContainsFunc_Edge_ev (p := fun e => !edgeB g.1.length e) (c := 3) (fun x _ k hk => by
          obtain ⟨k, rfl⟩ : ∃ i, k = i + 1 := ⟨k - 1, by omega⟩
          show run M (k + 1) f_graph_Valid_2 [.val tEdge x, .ro tGraph (g.1, g.2)] = _
          rw [e_graph_Valid_2, b_graph_Valid_2]
          show Option.bind (res .bool (run M k f_graph_fits [.val tEdge x, .val tI (g.1.length : Int)])) _ = _
          rw [graph_fits_ev x g.1.length (by omega) k (by omega), res_some, bindS]) (by omega) k (by omega), res_some, bindS]
      cases (g.1.any fun x => !kindB x) with
      | true => rfl
      | false => cases (g.2.any fun e => !edgeB g.1.length e) <;> rfl
theorem any_drop {α : Type} (p : α → Bool) (xs : List α) (m : Nat) (h : m < xs.length) : (xs.drop m).any p = (p xs[m] || (xs.drop (m + 1)).any p) := by
  rw [List.drop_eq_getElem_cons h, List.any_cons]
theorem r05_Valid_ev (g : List Int × List (Int × (Int × Int))) : ∀ k, 200 ≤ k → run M k f_r05_Valid [.val tGraph g] = some ⟨tI, graphE g⟩ := by
  intro k hk
  obtain ⟨k, rfl⟩ : ∃ i, k = i + 1 := ⟨k - 1, by omega⟩
  have hr : 100 ≤ reachBytes := by decide
  rw [e_r05_Valid, b_r05_Valid]
  unfold graphE
  cases h1 : decide ((40 : Int) < (g.1.length : Int)) with
  | true => rfl
  | false =>
    cases h2 : decide ((80 : Int) < (g.2.length : Int)) with
    | true => rfl
    | false =>
      have h1 := of_decide_eq_false h1
      have h2 := of_decide_eq_false h2
      simp only [cond_false]
      have hE := loop_down (n := g.2.length) (F := fun j i => l_r05_Valid_2 (run M k) j i g.1 g.2) (G := fun m => some ⟨tI, cond ((g.2.drop m).any fun e => !edgeB g.1.length e) (6 : Int) 0⟩)
        (fun j => by
          show s_r05_Valid_2 (run M k) _ _ g.1 g.2 = _
          rw [List.drop_eq_nil_of_le (Nat.le_refl _)]
          simp [s_r05_Valid_2])
        (fun m j hm ih => by
          show s_r05_Valid_2 (run M k) _ _ g.1 g.2 = _
          rw [any_drop _ _ m hm]
          simp only [s_r05_Valid_2, inB_nat, rd_nat (t := tEdge) g.2 m hm, hm, decide_true, Int.ofNat_lt, cond_true]
          show Option.bind (res .bool (run M k f_r05_right [.val tEdge g.2[m], .val tI (g.1.length : Int)])) _ = _
          rw [r05_right_ev _ _ k (by omega), res_some, bindS, wrap_succ (by omega), ih]
          cases edgeB g.1.length g.2[m] <;> rfl) 0 (Nat.zero_le _) k (by omega)
      exact loop_down (n := g.1.length) (F := fun j i => l_r05_Valid_0 (run M k) (l_r05_Valid_2 (run M k) k) j i g.1 g.2) (G := fun m => some ⟨tI, cond ((g.1.drop m).any fun x => !kindB x) (6 : Int) (cond (g.2.any fun e => !edgeB g.1.length e) (6 : Int) 0)⟩)
        (fun j => by
          show s_r05_Valid_0 (run M k) _ _ _ g.1 g.2 = _
          rw [List.drop_eq_nil_of_le (Nat.le_refl _)]
          simp only [s_r05_Valid_0, Int.lt_irrefl, decide_false, cond_false, List.any_nil]
          exact hE)
        (fun m j hm ih => by
          show s_r05_Valid_0 (run M k) _ _ _ g.1 g.2 = _
          rw [any_drop _ _ m hm]
          simp only [s_r05_Valid_0, inB_nat, rd_nat (t := tI) g.1 m hm, hm, decide_true, Int.ofNat_lt, cond_true]
          rw [r05_kind_ev _ k (by omega), res_some, bindS, wrap_succ (by omega), ih]
          cases kindB g.1[m] <;> rfl) 0 (Nat.zero_le _) k (by omega)
end Go.Proofs.AM

namespace Go.Proofs.AM
open Go
abbrev GraphD := List Int × List (Int × (Int × Int))
abbrev MorD := List Int × List Int
noncomputable abbrev rdI (xs : List Int) (i : Int) : Int := rd (E := E) (t := tI) xs i
noncomputable abbrev rdE (xs : List (Int × (Int × Int))) (i : Int) : Int × (Int × Int) := rd (E := E) (t := tEdge) xs i
def firstE {α : Type} (f : Nat → α → Int) : Nat → List α → Int
  | _, [] => 0
  | m, x :: r => cond (decide (f m x = 0)) (firstE f (m + 1) r) (f m x)
noncomputable def nodeErr (an bn : List Int) (i : Nat) (k : Int) : Int :=
  cond (cond (decide (k < (0 : Int))) true (decide ((bn.length : Int) ≤ k))) 6 (cond (!(decide (rdI bn k = rdI an i))) 13 0)
noncomputable def edgeErr (ae be : List (Int × (Int × Int))) (mn : List Int) (i : Nat) (k : Int) : Int :=
  cond (cond (decide (k < (0 : Int))) true (decide ((be.length : Int) ≤ k))) 6 (cond (!(decide ((rdE ae i).1 = (rdE be k).1))) 13
    (cond (cond (!(decide (rdI mn (rdE ae i).2.1 = (rdE be k).2.1))) true (!(decide (rdI mn (rdE ae i).2.2 = (rdE be k).2.2)))) 11 0))
noncomputable def edgesE (a b : GraphD) (m : MorD) : Int := firstE (edgeErr a.2 b.2 m.1) 0 m.2
noncomputable def mapE (a b : GraphD) (m : MorD) : Int := cond (decide (firstE (nodeErr a.1 b.1) 0 m.1 = 0)) (edgesE a b m) (firstE (nodeErr a.1 b.1) 0 m.1)
noncomputable def morE (a b : GraphD) (m : MorD) : Int :=
  cond (!(decide (graphE a = 0))) (graphE a) (cond (!(decide (graphE b = 0))) (graphE b) (cond (cond (!(decide ((m.1.length : Int) = (a.1.length : Int)))) true (!(decide ((m.2.length : Int) = (a.2.length : Int))))) 20 (mapE a b m)))
theorem inB_of {i n : Int} (h : (cond (decide (i < (0 : Int))) true (decide (n ≤ i))) = false) : inB i n = true := by
  cases h1 : decide (i < (0 : Int)) with
  | true => rw [h1] at h; cases h
  | false =>
    rw [h1] at h
    have h1 := of_decide_eq_false h1
    have h := of_decide_eq_false (p := n ≤ i) h
    simp [inB]; omega
theorem graphE_zero {g : GraphD} (h : graphE g = 0) : g.1.length ≤ 40 ∧ g.2.length ≤ 80 ∧ (∀ x ∈ g.1, kindB x = true) ∧ ∀ e ∈ g.2, edgeB g.1.length e = true := by
  unfold graphE at h
  cases h1 : decide ((40 : Int) < (g.1.length : Int)) with
  | true => rw [h1] at h; cases h
  | false =>
    cases h2 : decide ((80 : Int) < (g.2.length : Int)) with
    | true => rw [h1, h2] at h; cases h
    | false =>
      rw [h1, h2] at h
      have h1 := of_decide_eq_false h1
      have h2 := of_decide_eq_false h2
      simp only [cond_false] at h
      cases h3 : (g.1.any fun x => !kindB x) with
      | true => rw [h3] at h; cases h
      | false =>
        cases h4 : (g.2.any fun e => !edgeB g.1.length e) with
        | true => rw [h3, h4] at h; cases h
        | false =>
          refine ⟨by omega, by omega, fun x hx => ?_, fun e he => ?_⟩
          · have := List.any_eq_false.1 h3 x hx; simpa using this
          · have := List.any_eq_false.1 h4 e he; simpa using this
theorem edgeB_ends {n : Nat} {e : Int × (Int × Int)} (h : edgeB n e = true) : kindB e.1 = true ∧ inB e.2.1 (n : Int) = true ∧ inB e.2.2 (n : Int) = true := by
  unfold edgeB at h
  cases h1 : kindB e.1 with
  | false => rw [h1] at h; cases h
  | true =>
    cases h2 : decide ((0 : Int) ≤ e.2.1) with
    | false => rw [h1, h2] at h; cases h
    | true =>
      cases h3 : decide (e.2.1 < (n : Int)) with
      | false => rw [h1, h2, h3] at h; cases h
      | true =>
        cases h4 : decide ((0 : Int) ≤ e.2.2) with
        | false => rw [h1, h2, h3, h4] at h; cases h
        | true =>
          cases h5 : decide (e.2.2 < (n : Int)) with
          | false => rw [h1, h2, h3, h4, h5] at h; cases h
          | true => exact ⟨rfl, by unfold inB; rw [h2, h3]; rfl, by unfold inB; rw [h4, h5]; rfl⟩
theorem rdE_mem {xs : List (Int × (Int × Int))} {m : Nat} (h : m < xs.length) : rdE xs m ∈ xs := by
  unfold rdE; rw [rd_nat (t := tEdge) xs m h]; exact List.getElem_mem h
theorem morphism_Valid_ev (a b : GraphD) (m : MorD) : ∀ k, 300 ≤ k → run M k f_morphism_Valid [.val tGraph a, .val tGraph b, .val tMorphism m] = some ⟨tI, morE a b m⟩ := by
  intro k hk
  obtain ⟨k, rfl⟩ : ∃ i, k = i + 1 := ⟨k - 1, by omega⟩
  rw [e_morphism_Valid, b_morphism_Valid]
  show Option.bind (res tI (run M k f_graph_Valid [.val tGraph a])) _ = _
  rw [graph_Valid_ev a k (by omega), res_some, bindS]
  show cond _ _ (Option.bind (res tI (run M k f_graph_Valid [.val tGraph b])) _) = _
  rw [graph_Valid_ev b k (by omega), res_some, bindS]
  unfold morE
  by_cases h1 : graphE a = 0
  case neg => rw [decide_eq_false h1]; rfl
  by_cases h2 : graphE b = 0
  case neg => rw [decide_eq_false h2, decide_eq_true h1]; rfl
  rw [decide_eq_true h1, decide_eq_true h2]
  simp only [Bool.not_true, cond_false]
  obtain ⟨ga, gb, gc, gd⟩ := graphE_zero h1
  by_cases l1 : (m.1.length : Int) = (a.1.length : Int)
  case neg => rw [decide_eq_false l1]; rfl
  by_cases l2 : (m.2.length : Int) = (a.2.length : Int)
  case neg => rw [decide_eq_false l2, decide_eq_true l1]; rfl
  rw [decide_eq_true l1, decide_eq_true l2]
  simp only [Bool.not_true, cond_false]
  have hE := loop_down (n := m.2.length) (F := fun j i => l_morphism_Valid_2 (run M k) j m.2 m.2.length i a.1 a.2 b.1 b.2 m.1 m.2) (G := fun q => some ⟨tI, firstE (edgeErr a.2 b.2 m.1) q (m.2.drop q)⟩)
    (fun j => by
      show s_morphism_Valid_2 (run M k) _ m.2 _ _ a.1 a.2 b.1 b.2 m.1 m.2 = _
      rw [List.drop_eq_nil_of_le (Nat.le_refl _)]
      simp [s_morphism_Valid_2, firstE])
    (fun q j hq ih => by
      show s_morphism_Valid_2 (run M k) _ m.2 _ _ a.1 a.2 b.1 b.2 m.1 m.2 = _
      rw [List.drop_eq_getElem_cons hq, firstE, edgeErr]
      have hqa : q < a.2.length := by omega
      obtain ⟨_, e1, e2⟩ := edgeB_ends (gd _ (rdE_mem hqa))
      rw [← l1] at e1 e2
      simp only [s_morphism_Valid_2, inB_nat, rd_nat (t := tI) m.2 q hq, hq, hqa, decide_true, Int.ofNat_lt, cond_true, e1, e2, Bool.true_or]
      rw [wrap_succ (by omega), ih]
      generalize m.2[q] = x
      cases hx : (cond (decide (x < (0 : Int))) true (decide ((b.2.length : Int) ≤ x))) with
      | true => rfl
      | false =>
        rw [inB_of hx]
        simp only [cond_true, cond_false]
        cases decide ((rdE a.2 q).1 = (rdE b.2 x).1) <;> cases decide (rdI m.1 (rdE a.2 q).2.1 = (rdE b.2 x).2.1) <;> cases decide (rdI m.1 (rdE a.2 q).2.2 = (rdE b.2 x).2.2) <;> rfl) 0 (Nat.zero_le _) k (by omega)
  exact loop_down (n := m.1.length) (F := fun j i => l_morphism_Valid_0 (run M k) (l_morphism_Valid_2 (run M k) k) j m.1 m.1.length i a.1 a.2 b.1 b.2 m.1 m.2) (G := fun q => some ⟨tI, cond (decide (firstE (nodeErr a.1 b.1) q (m.1.drop q) = 0)) (edgesE a b m) (firstE (nodeErr a.1 b.1) q (m.1.drop q))⟩)
    (fun j => by
      show s_morphism_Valid_0 (run M k) _ _ m.1 _ _ a.1 a.2 b.1 b.2 m.1 m.2 = _
      rw [List.drop_eq_nil_of_le (Nat.le_refl _)]
      simp only [s_morphism_Valid_0, Int.lt_irrefl, decide_false, cond_false, firstE]
      exact hE)
    (fun q j hq ih => by
      show s_morphism_Valid_0 (run M k) _ _ m.1 _ _ a.1 a.2 b.1 b.2 m.1 m.2 = _
      rw [List.drop_eq_getElem_cons hq, firstE, nodeErr]
      have hqa : q < a.1.length := by omega
      simp only [s_morphism_Valid_0, inB_nat, rd_nat (t := tI) m.1 q hq, hq, hqa, decide_true, Int.ofNat_lt, cond_true]
      rw [wrap_succ (by omega), ih]
      generalize m.1[q] = x
      cases hx : (cond (decide (x < (0 : Int))) true (decide ((b.1.length : Int) ≤ x))) with
      | true => rfl
      | false =>
        rw [inB_of hx]
        simp only [cond_true, cond_false]
        cases decide (rdI b.1 x = rdI a.1 q) <;> rfl) 0 (Nat.zero_le _) k (by omega)
theorem r06_Valid_ev (a b : GraphD) (m : MorD) : ∀ k, 300 ≤ k → run M k f_r06_Valid [.val tGraph a, .val tGraph b, .val tMorphism m] = some ⟨tI, morE a b m⟩ := by
  intro k hk
  obtain ⟨k, rfl⟩ : ∃ i, k = i + 1 := ⟨k - 1, by omega⟩
  rw [e_r06_Valid, b_r06_Valid]
  show Option.bind (res tI (run M k f_r05_Valid [.val tGraph a])) _ = _
  rw [r05_Valid_ev a k (by omega), res_some, bindS]
  show cond _ _ (Option.bind (res tI (run M k f_r05_Valid [.val tGraph b])) _) = _
  rw [r05_Valid_ev b k (by omega), res_some, bindS]
  unfold morE
  by_cases h1 : graphE a = 0
  case neg => rw [decide_eq_false h1]; rfl
  by_cases h2 : graphE b = 0
  case neg => rw [decide_eq_false h2, decide_eq_true h1]; rfl
  rw [decide_eq_true h1, decide_eq_true h2]
  simp only [Bool.not_true, cond_false]
  obtain ⟨ga, gb, gc, gd⟩ := graphE_zero h1
  by_cases l1 : (m.1.length : Int) = (a.1.length : Int)
  case neg => rw [decide_eq_false l1]; rfl
  by_cases l2 : (m.2.length : Int) = (a.2.length : Int)
  case neg => rw [decide_eq_false l2, decide_eq_true l1]; rfl
  rw [decide_eq_true l1, decide_eq_true l2]
  simp only [Bool.not_true, cond_false]
  have l1' : m.1.length = a.1.length := by omega
  have l2' : m.2.length = a.2.length := by omega
  have hE := loop_down (n := m.2.length) (F := fun j i => l_r06_Valid_2 (run M k) j i a.1 a.2 b.1 b.2 m.1 m.2) (G := fun q => some ⟨tI, firstE (edgeErr a.2 b.2 m.1) q (m.2.drop q)⟩)
    (fun j => by
      show s_r06_Valid_2 (run M k) _ _ a.1 a.2 b.1 b.2 m.1 m.2 = _
      rw [List.drop_eq_nil_of_le (Nat.le_refl _)]
      simp [s_r06_Valid_2, firstE, l2'])
    (fun q j hq ih => by
      show s_r06_Valid_2 (run M k) _ _ a.1 a.2 b.1 b.2 m.1 m.2 = _
      rw [List.drop_eq_getElem_cons hq, firstE, edgeErr]
      have hqa : q < a.2.length := by omega
      obtain ⟨_, e1, e2⟩ := edgeB_ends (gd _ (rdE_mem hqa))
      rw [← l1] at e1 e2
      simp only [s_r06_Valid_2, inB_nat, rd_nat (t := tI) m.2 q hq, hq, hqa, decide_true, Int.ofNat_lt, cond_true, e1, e2, Bool.true_or]
      rw [wrap_succ (by omega), ih]
      generalize m.2[q] = x
      cases hx : (cond (decide (x < (0 : Int))) true (decide ((b.2.length : Int) ≤ x))) with
      | true => rfl
      | false =>
        rw [inB_of hx]
        simp only [cond_true, cond_false]
        cases decide ((rdE a.2 q).1 = (rdE b.2 x).1) <;> cases decide (rdI m.1 (rdE a.2 q).2.1 = (rdE b.2 x).2.1) <;> cases decide (rdI m.1 (rdE a.2 q).2.2 = (rdE b.2 x).2.2) <;> rfl) 0 (Nat.zero_le _) k (by omega)
  exact loop_down (n := m.1.length) (F := fun j i => l_r06_Valid_0 (run M k) (l_r06_Valid_2 (run M k) k) j i a.1 a.2 b.1 b.2 m.1 m.2) (G := fun q => some ⟨tI, cond (decide (firstE (nodeErr a.1 b.1) q (m.1.drop q) = 0)) (edgesE a b m) (firstE (nodeErr a.1 b.1) q (m.1.drop q))⟩)
    (fun j => by
      show s_r06_Valid_0 (run M k) _ _ _ a.1 a.2 b.1 b.2 m.1 m.2 = _
      rw [List.drop_eq_nil_of_le (Nat.le_refl _)]
      simp only [s_r06_Valid_0, l1', Int.lt_irrefl, decide_false, cond_false, firstE]
      exact hE)
    (fun q j hq ih => by
      show s_r06_Valid_0 (run M k) _ _ _ a.1 a.2 b.1 b.2 m.1 m.2 = _
      rw [List.drop_eq_getElem_cons hq, firstE, nodeErr]
      have hqa : q < a.1.length := by omega
      simp only [s_r06_Valid_0, inB_nat, rd_nat (t := tI) m.1 q hq, hq, hqa, decide_true, Int.ofNat_lt, cond_true, Bool.true_or]
      rw [wrap_succ (by omega), ih]
      generalize m.1[q] = x
      cases hx : (cond (decide (x < (0 : Int))) true (decide ((b.1.length : Int) ≤ x))) with
      | true => rfl
      | false =>
        rw [inB_of hx]
        simp only [cond_true, cond_false]
        cases decide (rdI b.1 x = rdI a.1 q) <;> rfl) 0 (Nat.zero_le _) k (by omega)
def freshFrom (xs : List Int) : Nat → List Int → Bool
  | _, [] => true
  | m, x :: r => cond ((xs.take m).any fun y => decide (x = y)) false (freshFrom xs (m + 1) r)
def distinctB (xs : List Int) : Bool := freshFrom xs 0 xs
theorem freshFrom_iff (xs : List Int) : ∀ (n m : Nat), n + m = xs.length → (xs.take m).Nodup → (freshFrom xs m (xs.drop m) = true ↔ xs.Nodup)
  | 0, m, h, hn => by
    rw [List.drop_eq_nil_of_le (by omega)]
    rw [List.take_of_length_le (by omega)] at hn
    exact ⟨fun _ => hn, fun _ => rfl⟩
  | n + 1, m, h, hn => by
    have hm : m < xs.length := by omega
    rw [List.drop_eq_getElem_cons hm, freshFrom]
    have ht : xs.take (m + 1) = xs.take m ++ [xs[m]] := by rw [List.take_add_one, List.getElem?_eq_getElem hm]; rfl
    cases ha : ((xs.take m).any fun y => decide (xs[m] = y)) with
    | true =>
      simp only [cond_true, Bool.false_eq_true, false_iff]
      intro hx
      obtain ⟨y, hy, he⟩ := List.any_eq_true.1 ha
      have he := of_decide_eq_true he
      subst he
      have := hx.sublist (List.take_sublist (m + 1) xs)
      rw [ht, List.nodup_append] at this
      exact this.2.2 _ hy _ (by simp) rfl
    | false =>
      simp only [cond_false]
      refine freshFrom_iff xs n (m + 1) (by omega) ?_
      rw [ht, List.nodup_append]
      refine ⟨hn, by simp, fun y hy z hz => ?_⟩
      simp only [List.mem_singleton] at hz
      subst hz
      intro e
      have := List.any_eq_false.1 ha y hy
      simp [e] at this
theorem distinctB_iff (xs : List Int) : distinctB xs = true ↔ xs.Nodup := freshFrom_iff xs xs.length 0 rfl (by simp)
theorem r06_Distinct_ev (xs : List Int) (hs : xs.length ≤ reachBytes) : ∀ k, 2 * xs.length + 5 ≤ k → run M k f_r06_Distinct [.val (.slice tI) xs] = some ⟨.bool, distinctB xs⟩ := by
  intro k hk
  obtain ⟨k, rfl⟩ : ∃ i, k = i + 1 := ⟨k - 1, by omega⟩
  rw [e_r06_Distinct, b_r06_Distinct]
  have hr := reach_lt
  exact loop_down' (n := xs.length) xs.length (F := fun j i => l_r06_Distinct_0 (run M k) j xs i) (G := fun m => some ⟨.bool, freshFrom xs m (xs.drop m)⟩)
    (fun j _ => by
      show s_r06_Distinct_0 (run M k) _ _ xs _ = _
      rw [List.drop_eq_nil_of_le (Nat.le_refl _)]
      simp [s_r06_Distinct_0, freshFrom])
    (fun m j hm hj ih => by
      show s_r06_Distinct_0 (run M k) _ _ xs _ = _
      rw [List.drop_eq_getElem_cons hm, freshFrom]
      simp only [s_r06_Distinct_0, hm, decide_true, Int.ofNat_lt, cond_true]
      have hlt : (xs.take m).length = m := by rw [List.length_take]; omega
      have := loop_down (n := m) (F := fun i q => l_r06_Distinct_2 (run M k) (l_r06_Distinct_0 (run M k) j) i xs (m : Int) q)
        (G := fun q => some ⟨.bool, cond (((xs.take m).drop q).any fun y => decide (xs[m] = y)) false (freshFrom xs (m + 1) (xs.drop (m + 1)))⟩)
        (fun i => by
          show s_r06_Distinct_2 (run M k) _ _ xs _ _ = _
          rw [List.drop_eq_nil_of_le (by omega)]
          simp only [s_r06_Distinct_2, Int.lt_irrefl, decide_false, cond_false, List.any_nil]
          rw [wrap_succ (by omega)]
          exact ih)
        (fun q i hq ih2 => by
          show s_r06_Distinct_2 (run M k) _ _ xs _ _ = _
          rw [any_drop _ _ q (by omega)]
          simp only [s_r06_Distinct_2, inB_nat, rd_nat (t := tI) xs m hm, rd_nat (t := tI) xs q (by omega), hq, hm, show q < xs.length by omega, decide_true, Int.ofNat_lt, cond_true, List.getElem_take]
          rw [wrap_succ (by omega), ih2]
          cases decide (xs[m] = xs[q]) <;> rfl) 0 (Nat.zero_le _) j (by omega)
      simpa using this) 0 (Nat.zero_le _) k (by omega)
theorem Clone_int_ev (xs : List Int) (hs : xs.length ≤ 1000000) : ∀ k, 1 ≤ k → run M k f_slices_Clone_int [.val (.slice tI) xs] = some ⟨.slice tI, xs⟩ := by
  intro k hk
  obtain ⟨k, rfl⟩ : ∃ i, k = i + 1 := ⟨k - 1, by omega⟩
  rw [e_slices_Clone_int, b_slices_Clone_int]
  cases xs with
  | nil => rfl
  | cons x r =>
    have h1 : roomy (([] : List (D tI)).length + (x :: r : List Int).length) 8 = true := by
      unfold roomy
      refine decide_eq_true ?_
      simp only [List.length_nil, List.length_cons] at hs ⊢
      omega
    have h2 : decide (0 < (x :: r : List Int).length) = true := by simp
    rw [h2, cond_true, h1, cond_true]
    rfl
theorem Sort_int_ev (xs : List Int) (hs : xs.length ≤ 1000000) : ∀ k, 1 ≤ k → run M k f_slices_Sort_int [.own tI xs] = some ⟨.slice tI, isortI xs⟩ := by
  intro k hk
  obtain ⟨k, rfl⟩ : ∃ i, k = i + 1 := ⟨k - 1, by omega⟩
  show extSort [.own tI xs] = _
  unfold extSort
  have : Nat.blt (List.length xs) 4611686018427387904 = true := by rw [Nat.blt_eq]; omega
  show cond (Nat.blt (List.length xs) 4611686018427387904) _ _ = _
  rw [this]; rfl
theorem Compact_int_ev (xs : List Int) (hs : xs.length ≤ 1000000) : ∀ k, 1 ≤ k → run M k f_slices_Compact_int [.take tI xs] = some ⟨.slice tI, Lib.compact xs⟩ := by
  intro k hk
  obtain ⟨k, rfl⟩ : ∃ i, k = i + 1 := ⟨k - 1, by omega⟩
  show extCompact [.take tI xs] = _
  have : Nat.blt (List.length xs) 9223372036854775808 = true := by rw [Nat.blt_eq]; omega
  show cond (Nat.blt (List.length xs) 9223372036854775808) _ _ = _
  rw [this]; rfl
theorem images_ev (xs : List Int) (hs : xs.length ≤ 1000000) : ∀ k, 2 ≤ k → run M k f_morphism_images [.val (.slice tI) xs] = some ⟨tI, ((Lib.compact (isortI xs)).length : Int)⟩ := by
  intro k hk
  obtain ⟨k, rfl⟩ : ∃ i, k = i + 1 := ⟨k - 1, by omega⟩
  have hl := (isortI_perm xs).length_eq
  rw [e_morphism_images, b_morphism_images, Clone_int_ev xs hs k (by omega), res_some, bindS, Sort_int_ev xs hs k (by omega), res_some, bindS, decide_eq_true hl, cond_true,
    Compact_int_ev _ (by omega) k (by omega), res_some, bindS]
theorem compact_all_iff (l : List Int) : (Lib.compact l).length = l.length ↔ ∀ j (h : j < l.length), j = 0 ∨ l[j] ≠ l[j - 1] := by
  unfold Lib.compact Lib.compactUpTo
  rw [List.length_map]
  have key : ∀ j (h : j < l.length), (Lib.keeps l.toArray j = true ↔ j = 0 ∨ l[j] ≠ l[j - 1]) := by
    intro j h
    unfold Lib.keeps
    rw [decide_eq_true_iff]
    have h1 : l.toArray[j]! = l[j] := by simp [h]
    have h2 : l.toArray[j - 1]! = l[j - 1] := by
      have : j - 1 < l.length := by omega
      simp [this]
    rw [h1, h2]
  have hc : ((List.range l.length).filter (Lib.keeps l.toArray)).length = (List.range l.length).length ↔ ∀ j ∈ List.range l.length, Lib.keeps l.toArray j = true := List.length_filter_eq_length_iff
  rw [List.length_range] at hc
  rw [hc]
  exact ⟨fun h j hj => (key j hj).1 (h j (List.mem_range.2 hj)), fun h j hj => (key j (List.mem_range.1 hj)).2 (h j (List.mem_range.1 hj))⟩
theorem images_iff (xs : List Int) : decide (((Lib.compact (isortI xs)).length : Int) = (xs.length : Int)) = distinctB xs := by
  have hp := isortI_perm xs
  have hs := isortI_sorted xs
  have key : (Lib.compact (isortI xs)).length = (isortI xs).length ↔ (isortI xs).Nodup := by
    rw [compact_all_iff]
    constructor
    · intro h
      rw [List.pairwise_iff_getElem] at hs
      unfold List.Nodup
      rw [List.pairwise_iff_getElem]
      intro i j hi hj hij
      have h1 := (h j hj).resolve_left (by omega)
      have h2 : (isortI xs)[j - 1] ≤ (isortI xs)[j] := hs (j - 1) j (by omega) hj (by omega)
      have h3 : (isortI xs)[i] ≤ (isortI xs)[j - 1] := by
        rcases Nat.lt_or_ge i (j - 1) with h | h
        · exact hs i (j - 1) hi (by omega) h
        · have : i = j - 1 := by omega
          subst this; exact Int.le_refl _
      omega
    · intro h j hj
      unfold List.Nodup at h
      rw [List.pairwise_iff_getElem] at h
      rcases Nat.eq_zero_or_pos j with h0 | h0
      · exact .inl h0
      · exact .inr fun e => h (j - 1) j (by omega) hj (by omega) e.symm
  have hn : (isortI xs).Nodup ↔ xs.Nodup := hp.nodup_iff
  rw [hp.length_eq] at key
  cases hd : distinctB xs with
  | true =>
    have := key.2 (hn.2 ((distinctB_iff xs).1 hd))
    exact decide_eq_true (by omega)
  | false =>
    refine decide_eq_false fun e => ?_
    have := (distinctB_iff xs).2 (hn.1 (key.1 (by omega)))
    rw [this] at hd; cases hd
noncomputable def injB (a b : GraphD) (m : MorD) : Bool := cond (cond (decide (morE a b m = 0)) (distinctB m.1) false) (distinctB m.2) false
theorem morE_zero {a b : GraphD} {m : MorD} (h : morE a b m = 0) : graphE a = 0 ∧ graphE b = 0 ∧ m.1.length = a.1.length ∧ m.2.length = a.2.length := by
  unfold morE at h
  by_cases h1 : graphE a = 0
  case neg => rw [decide_eq_false h1] at h; exact absurd h h1
  by_cases h2 : graphE b = 0
  case neg => rw [decide_eq_false h2, decide_eq_true h1] at h; exact absurd h h2
  rw [decide_eq_true h1, decide_eq_true h2] at h
  simp only [Bool.not_true, cond_false] at h
  by_cases l1 : (m.1.length : Int) = (a.1.length : Int)
  case neg => rw [decide_eq_false l1] at h; cases h
  by_cases l2 : (m.2.length : Int) = (a.2.length : Int)
  case neg => rw [decide_eq_false l2, decide_eq_true l1] at h; cases h
  exact ⟨h1, h2, by omega, by omega⟩
theorem morphism_Injective_ev (a b : GraphD) (m : MorD) : ∀ k, 400 ≤ k → run M k f_morphism_Injective [.val tGraph a, .val tGraph b, .val tMorphism m] = some ⟨.bool, injB a b m⟩ := by
  intro k hk
  obtain ⟨k, rfl⟩ : ∃ i, k = i + 1 := ⟨k - 1, by omega⟩
  rw [e_morphism_Injective, b_morphism_Injective]
  show Option.bind (res tI (run M k f_morphism_Valid [.val tGraph a, .val tGraph b, .val tMorphism m])) _ = _
  rw [morphism_Valid_ev a b m k (by omega), res_some, bindS]
  unfold injB
  by_cases h : morE a b m = 0
  case neg => rw [decide_eq_false h]; rfl
  obtain ⟨h1, h2, l1, l2⟩ := morE_zero h
  obtain ⟨g1, g2, _, _⟩ := graphE_zero h1
  rw [decide_eq_true h]
  simp only [cond_true]
  rw [images_ev m.1 (by omega) k (by omega), res_some, bindS, images_iff]
  cases distinctB m.1 with
  | false => rfl
  | true =>
    simp only [cond_true]
    rw [images_ev m.2 (by omega) k (by omega), res_some, bindS, images_iff]
theorem r06_Injective_ev (a b : GraphD) (m : MorD) : ∀ k, 400 ≤ k → run M k f_r06_Injective [.val tGraph a, .val tGraph b, .val tMorphism m] = some ⟨.bool, injB a b m⟩ := by
  intro k hk
  obtain ⟨k, rfl⟩ : ∃ i, k = i + 1 := ⟨k - 1, by omega⟩
  have hr : 1000 ≤ reachBytes := by decide
  rw [e_r06_Injective, b_r06_Injective]
  show Option.bind (res tI (run M k f_r06_Valid [.val tGraph a, .val tGraph b, .val tMorphism m])) _ = _
  rw [r06_Valid_ev a b m k (by omega), res_some, bindS]
  unfold injB
  by_cases h : morE a b m = 0
  case neg => rw [decide_eq_false h]; rfl
  obtain ⟨h1, h2, l1, l2⟩ := morE_zero h
  obtain ⟨g1, g2, _, _⟩ := graphE_zero h1
  rw [decide_eq_true h]
  simp only [cond_true]
  rw [r06_Distinct_ev m.1 (by omega) k (by omega), res_some, bindS]
  cases distinctB m.1 with
  | false => rfl
  | true =>
    simp only [cond_true]
    rw [r06_Distinct_ev m.2 (by omega) k (by omega), res_some, bindS]
end Go.Proofs.AM

namespace Go.Proofs.AM
open Go
abbrev ExtD := MorD × GraphD
abbrev ConD := ByteArray × (Int × (GraphD × List ExtD))
def largeB (g : GraphD) : Bool := cond (decide ((6 : Int) < (g.1.length : Int))) true (decide ((8 : Int) < (g.2.length : Int)))
noncomputable def extE (g : GraphD) (x : ExtD) : Int := cond (!(decide (morE g x.2 x.1 = 0))) (morE g x.2 x.1) (cond (largeB x.2) 3 (cond (!injB g x.2 x.1) 1 0))
noncomputable def shapeE (c : ConD) : Int :=
  cond (!isName (by_ c.1)) 2 (cond (cond (cond (!(decide (c.2.1 = (1 : Int)))) (!(decide (c.2.1 = (2 : Int)))) false) true (cond (decide (c.2.1 = (1 : Int))) (decide ((0 : Int) < (c.2.2.2.length : Int))) false)) 1
    (cond (cond (decide (c.2.1 = (2 : Int))) (decide ((c.2.2.2.length : Int) = (0 : Int))) false) 7 (cond (decide ((6 : Int) < (c.2.2.2.length : Int))) 3
      (cond (!(decide (graphE c.2.2.1 = 0))) (graphE c.2.2.1) (cond (largeB c.2.2.1) 3 (firstE (fun _ x => extE c.2.2.1 x) 0 c.2.2.2))))))
theorem constraint_large_ev (g : GraphD) : ∀ k, 1 ≤ k → run M k f_constraint_large [.val tGraph g] = some ⟨.bool, largeB g⟩ := by
  intro k hk
  obtain ⟨k, rfl⟩ : ∃ i, k = i + 1 := ⟨k - 1, by omega⟩
  exact e_constraint_large k g
theorem r42_large_ev (g : GraphD) : ∀ k, 1 ≤ k → run M k f_r42_large [.val tGraph g] = some ⟨.bool, largeB g⟩ := by
  intro k hk
  obtain ⟨k, rfl⟩ : ∃ i, k = i + 1 := ⟨k - 1, by omega⟩
  exact e_r42_large k g
theorem constraint_shape_ev (c : ConD) (hn : c.1.size ≤ 60) : ∀ k, 500 ≤ k → run M k f_constraint_shape [.val tConstraint c] = some ⟨tI, shapeE c⟩ := by
  intro k hk
  obtain ⟨k, rfl⟩ : ∃ i, k = i + 1 := ⟨k - 1, by omega⟩
  have hr : 1000 ≤ reachBytes := by decide
  obtain ⟨name, kind, g, xs⟩ := c
  rw [e_constraint_shape, b_constraint_shape]
  unfold shapeE
  simp only at hn ⊢
  rw [token_IsName_ev (by omega) k (by omega), res_some, bindS]
  cases isName (by_ name) with
  | false => rfl
  | true =>
    simp only [Bool.not_true, cond_false]
    cases (cond (cond (!(decide (kind = (1 : Int)))) (!(decide (kind = (2 : Int)))) false) true (cond (decide (kind = (1 : Int))) (decide ((0 : Int) < (xs.length : Int))) false)) with
    | true => rfl
    | false =>
      cases (cond (decide (kind = (2 : Int))) (decide ((xs.length : Int) = (0 : Int))) false) with
      | true => rfl
      | false =>
        cases h6 : decide ((6 : Int) < (xs.length : Int)) with
        | true => rfl
        | false =>
          have h6 := of_decide_eq_false h6
          simp only [cond_false]
          show Option.bind (res tI (run M k f_graph_Valid [.val tGraph g])) _ = _
          rw [graph_Valid_ev g k (by omega), res_some, bindS]
          by_cases hg : graphE g = 0
          case neg => rw [decide_eq_false hg]; rfl
          rw [decide_eq_true hg]
          simp only [Bool.not_true, cond_false]
          show Option.bind (res .bool (run M k f_constraint_large [.val tGraph g])) _ = _
          rw [constraint_large_ev g k (by omega), res_some, bindS]
          cases largeB g with
          | true => rfl
          | false =>
            simp only [cond_false]
            exact loop_down (n := xs.length) (F := fun j i => l_constraint_shape_1 (run M k) j xs xs.length i name kind g.1 g.2 xs) (G := fun q => some ⟨tI, firstE (fun _ x => extE g x) q (xs.drop q)⟩)
              (fun j => by
                show s_constraint_shape_1 (run M k) _ xs _ _ name kind g.1 g.2 xs = _
                rw [List.drop_eq_nil_of_le (Nat.le_refl _)]
                simp [s_constraint_shape_1, firstE])
              (fun q j hq ih => by
                show s_constraint_shape_1 (run M k) _ xs _ _ name kind g.1 g.2 xs = _
                rw [List.drop_eq_getElem_cons hq, firstE, extE]
                simp only [s_constraint_shape_1, inB_nat, rd_nat (t := tExtension) xs q hq, hq, decide_true, Int.ofNat_lt, cond_true]
                rw [wrap_succ (by omega), ih]
                generalize xs[q] = x
                show Option.bind (res tI (run M k f_morphism_Valid [.val tGraph g, .val tGraph x.2, .val tMorphism x.1])) _ = _
                rw [morphism_Valid_ev g x.2 x.1 k (by omega), res_some, bindS]
                by_cases hm : morE g x.2 x.1 = 0
                case neg =>
                  rw [decide_eq_false hm]
                  simp only [Bool.not_false, cond_true]
                  rw [decide_eq_false hm]; rfl
                rw [decide_eq_true hm]
                simp only [Bool.not_true, cond_false]
                show Option.bind (res .bool (run M k f_constraint_large [.val tGraph x.2])) _ = _
                rw [constraint_large_ev x.2 k (by omega), res_some, bindS]
                cases largeB x.2 with
                | true => rfl
                | false =>
                  simp only [cond_false]
                  show Option.bind (res .bool (run M k f_morphism_Injective [.val tGraph g, .val tGraph x.2, .val tMorphism x.1])) _ = _
                  rw [morphism_Injective_ev g x.2 x.1 k (by omega), res_some, bindS]
                  cases injB g x.2 x.1 <;> rfl) 0 (Nat.zero_le _) k (by omega)
theorem r42_Shape_ev (c : ConD) (hn : c.1.size ≤ 60) : ∀ k, 500 ≤ k → run M k f_r42_Shape [.val tConstraint c] = some ⟨tI, shapeE c⟩ := by
  intro k hk
  obtain ⟨k, rfl⟩ : ∃ i, k = i + 1 := ⟨k - 1, by omega⟩
  have hr : 1000 ≤ reachBytes := by decide
  obtain ⟨name, kind, g, xs⟩ := c
  rw [e_r42_Shape, b_r42_Shape]
  unfold shapeE
  simp only at hn ⊢
  rw [r01_IsName_ev (by omega) k (by omega), res_some, bindS]
  cases isName (by_ name) with
  | false => rfl
  | true =>
    simp only [Bool.not_true, cond_false]
    cases (cond (cond (!(decide (kind = (1 : Int)))) (!(decide (kind = (2 : Int)))) false) true (cond (decide (kind = (1 : Int))) (decide ((0 : Int) < (xs.length : Int))) false)) with
    | true => rfl
    | false =>
      cases (cond (decide (kind = (2 : Int))) (decide ((xs.length : Int) = (0 : Int))) false) with
      | true => rfl
      | false =>
        cases h6 : decide ((6 : Int) < (xs.length : Int)) with
        | true => rfl
        | false =>
          have h6 := of_decide_eq_false h6
          simp only [cond_false]
          show Option.bind (res tI (run M k f_r05_Valid [.val tGraph g])) _ = _
          rw [r05_Valid_ev g k (by omega), res_some, bindS]
          by_cases hg : graphE g = 0
          case neg => rw [decide_eq_false hg]; rfl
          rw [decide_eq_true hg]
          simp only [Bool.not_true, cond_false]
          show Option.bind (res .bool (run M k f_r42_large [.val tGraph g])) _ = _
          rw [r42_large_ev g k (by omega), res_some, bindS]
          cases largeB g with
          | true => rfl
          | false =>
            simp only [cond_false]
            exact loop_down (n := xs.length) (F := fun j i => l_r42_Shape_0 (run M k) j i name kind g.1 g.2 xs) (G := fun q => some ⟨tI, firstE (fun _ x => extE g x) q (xs.drop q)⟩)
              (fun j => by
                show s_r42_Shape_0 (run M k) _ _ name kind g.1 g.2 xs = _
                rw [List.drop_eq_nil_of_le (Nat.le_refl _)]
                simp [s_r42_Shape_0, firstE])
              (fun q j hq ih => by
                show s_r42_Shape_0 (run M k) _ _ name kind g.1 g.2 xs = _
                rw [List.drop_eq_getElem_cons hq, firstE, extE]
                simp only [s_r42_Shape_0, inB_nat, rd_nat (t := tExtension) xs q hq, hq, decide_true, Int.ofNat_lt, cond_true]
                rw [wrap_succ (by omega), ih]
                generalize xs[q] = x
                show Option.bind (res tI (run M k f_r06_Valid [.val tGraph g, .val tGraph x.2, .val tMorphism x.1])) _ = _
                rw [r06_Valid_ev g x.2 x.1 k (by omega), res_some, bindS]
                by_cases hm : morE g x.2 x.1 = 0
                case neg =>
                  rw [decide_eq_false hm]
                  simp only [Bool.not_false, cond_true]
                  rw [decide_eq_false hm]; rfl
                rw [decide_eq_true hm]
                simp only [Bool.not_true, cond_false]
                show Option.bind (res .bool (run M k f_r42_large [.val tGraph x.2])) _ = _
                rw [r42_large_ev x.2 k (by omega), res_some, bindS]
                cases largeB x.2 with
                | true => rfl
                | false =>
                  simp only [cond_false]
                  show Option.bind (res .bool (run M k f_r06_Injective [.val tGraph g, .val tGraph x.2, .val tMorphism x.1])) _ = _
                  rw [r06_Injective_ev g x.2 x.1 k (by omega), res_some, bindS]
                  cases injB g x.2 x.1 <;> rfl) 0 (Nat.zero_le _) k (by omega)
end Go.Proofs.AM

namespace Go.Proofs.AM
open Go
abbrev AttrD := ByteArray × (Int × (Int × List ByteArray))
abbrev NodeD := ByteArray × (Int × (Bool × List AttrD))
abbrev ETypeD := ByteArray × (Int × (Int × (Int × (Int × (Int × Int)))))
abbrev TypesD := List NodeD × List ETypeD
theorem sub_take {α : Type} (xs : List α) (m : Nat) : sub xs (0 : Int) (m : Int) = xs.take m := by simp [sub]
theorem sub_take' {α : Type} (xs : List α) (m : Nat) : (List.drop (Int.toNat (0 : Int)) xs).take (Int.toNat ((m : Int) - (0 : Int))) = xs.take m := by simp
theorem inS_nat (m n : Nat) : inS (0 : Int) (m : Int) (n : Int) = decide (m ≤ n) := by simp [inS]
theorem beqS_comm (a b : ByteArray) : beqS a b = beqS b a := by
  rw [beqS_iff, beqS_iff]
  by_cases h : by_ a = by_ b
  · rw [decide_eq_true h, decide_eq_true h.symm]
  · rw [decide_eq_false h, decide_eq_false fun e => h e.symm]
def nameErr (l : List ByteArray) (i : Nat) (s : ByteArray) : Int := cond (!isName (by_ s)) 2 (cond ((l.take i).any fun y => beqS y s) 5 0)
def namesE (l : List ByteArray) : Int := cond (decide ((20 : Int) < (l.length : Int))) 3 (firstE (nameErr l) 0 l)
theorem types_names_ev (l : List ByteArray) (hs : ∀ s ∈ l, s.size ≤ 40) : ∀ k, 200 ≤ k → run M k f_types_names [.val (.slice .str) l] = some ⟨tI, namesE l⟩ := by
  intro k hk
  obtain ⟨k, rfl⟩ : ∃ i, k = i + 1 := ⟨k - 1, by omega⟩
  have hr : 1000 ≤ reachBytes := by decide
  rw [e_types_names, b_types_names]
  unfold namesE
  cases h : decide ((20 : Int) < (l.length : Int)) with
  | true => rfl
  | false =>
    have h := of_decide_eq_false h
    simp only [cond_false]
    exact loop_down (n := l.length) (F := fun j i => l_types_names_0 (run M k) j l l l.length i) (G := fun q => some ⟨tI, firstE (nameErr l) q (l.drop q)⟩)
      (fun j => by
        show s_types_names_0 (run M k) _ l l _ _ = _
        rw [List.drop_eq_nil_of_le (Nat.le_refl _)]
        simp [s_types_names_0, firstE])
      (fun q j hq ih => by
        show s_types_names_0 (run M k) _ l l _ _ = _
        have hz := hs _ (List.getElem_mem hq)
        rw [List.drop_eq_getElem_cons hq, firstE, nameErr]
        simp only [s_types_names_0, inB_nat, rd_nat (t := .str) l q hq, hq, decide_true, Int.ofNat_lt, cond_true, inS_nat, show q ≤ l.length by omega, sub_take]
        rw [token_IsName_ev (by omega) k (by omega), res_some, bindS, Contains_string_ev l[q] (by simp; omega) k (by simp; omega), res_some, bindS, wrap_succ (by omega), ih]
        have : ((l.take q).any fun y => beqS l[q] y) = ((l.take q).any fun y => beqS y l[q]) := by
          congr 1; funext y; exact beqS_comm _ _
        rw [this]
        cases isName (by_ l[q]) with
        | false => rfl
        | true => cases ((l.take q).any fun y => beqS y l[q]) <;> rfl) 0 (Nat.zero_le _) k (by omega)
theorem r04_names_ev (l : List ByteArray) (hs : ∀ s ∈ l, s.size ≤ 40) : ∀ k, 200 ≤ k → run M k f_r04_names [.val (.slice .str) l] = some ⟨tI, namesE l⟩ := by
  intro k hk
  obtain ⟨k, rfl⟩ : ∃ i, k = i + 1 := ⟨k - 1, by omega⟩
  have hr : 1000 ≤ reachBytes := by decide
  rw [e_r04_names, b_r04_names]
  unfold namesE
  cases h : decide ((20 : Int) < (l.length : Int)) with
  | true => rfl
  | false =>
    have h := of_decide_eq_false h
    simp only [cond_false]
    exact loop_down' (n := l.length) l.length (F := fun j i => l_r04_names_0 (run M k) j l i) (G := fun q => some ⟨tI, firstE (nameErr l) q (l.drop q)⟩)
      (fun j _ => by
        show s_r04_names_0 (run M k) _ _ l _ = _
        rw [List.drop_eq_nil_of_le (Nat.le_refl _)]
        simp [s_r04_names_0, firstE])
      (fun q j hq hj ih => by
        show s_r04_names_0 (run M k) _ _ l _ = _
        have hz := hs _ (List.getElem_mem hq)
        rw [List.drop_eq_getElem_cons hq, firstE, nameErr]
        simp only [s_r04_names_0, inB_nat, rd_nat (t := .str) l q hq, hq, decide_true, Int.ofNat_lt, cond_true]
        rw [r01_IsName_ev (by omega) k (by omega), res_some, bindS]
        cases isName (by_ l[q]) with
        | false => rfl
        | true =>
          have hlt : (l.take q).length = q := by rw [List.length_take]; omega
          have := loop_down (n := q) (F := fun i p => l_r04_names_2 (run M k) (l_r04_names_0 (run M k) j) i l (q : Int) p)
            (G := fun p => some ⟨tI, cond (((l.take q).drop p).any fun y => beqS y l[q]) (5 : Int) (firstE (nameErr l) (q + 1) (l.drop (q + 1)))⟩)
            (fun i => by
              show s_r04_names_2 (run M k) _ _ l _ _ = _
              rw [List.drop_eq_nil_of_le (by omega)]
              simp only [s_r04_names_2, Int.lt_irrefl, decide_false, cond_false, List.any_nil]
              rw [wrap_succ (by omega)]
              exact ih)
            (fun p i hp ih2 => by
              show s_r04_names_2 (run M k) _ _ l _ _ = _
              rw [any_drop _ _ p (by omega)]
              simp only [s_r04_names_2, inB_nat, rd_nat (t := .str) l q hq, rd_nat (t := .str) l p (by omega), hp, hq, show p < l.length by omega, decide_true, Int.ofNat_lt, cond_true, List.getElem_take]
              rw [wrap_succ (by omega), ih2]
              cases beqS l[p] l[q] <;> rfl) 0 (Nat.zero_le _) j (by omega)
          simp only [Bool.not_true, cond_false]
          refine Eq.trans this ?_
          rw [List.drop_zero]
          cases ((l.take q).any fun y => beqS y l[q]) <;> rfl) 0 (Nat.zero_le _) k (by omega)
def attrE (x : AttrD) : Int :=
  cond (!(decide (namesE x.2.2.2 = 0))) (namesE x.2.2.2) (cond (decide ((0 : Int) < (x.2.2.2.length : Int))) (cond (!(cond (decide (x.2.1 = (0 : Int))) (decide (x.2.2.1 = (x.2.2.2.length : Int) - 1)) false)) 6 0)
    (cond (!(cond (cond (decide ((-1000000 : Int) ≤ x.2.1)) (decide (x.2.1 ≤ x.2.2.1)) false) (decide (x.2.2.1 ≤ (1000000 : Int))) false)) 6 0))
def attrAt (l : List AttrD) (i : Nat) (x : AttrD) : Int := cond (!isName (by_ x.1)) 2 (cond ((l.take i).any fun y => beqS y.1 x.1) 5 (attrE x))
def SmallA (x : AttrD) : Prop := x.1.size ≤ 40 ∧ x.2.2.2.length ≤ 25 ∧ ∀ s ∈ x.2.2.2, ByteArray.size s ≤ 40
theorem types_attribute_ev (l : List AttrD) (i : Nat) (x : AttrD) (hx : SmallA x) (hl : l.length ≤ 1000) : ∀ k, 1500 ≤ k → run M k f_types_attribute [.val tAttr x, .val (.slice tAttr) (l.take i)] = some ⟨tI, attrAt l i x⟩ := by
  intro k hk
  obtain ⟨k, rfl⟩ : ∃ i, k = i + 1 := ⟨k - 1, by omega⟩
  have hr : 1000 ≤ reachBytes := by decide
  obtain ⟨h1, h2, h3⟩ := hx
  have hlt : (l.take i).length ≤ l.length := by rw [List.length_take]; omega
  rw [e_types_attribute, b_types_attribute, token_IsName_ev (by omega) k (by omega), res_some, bindS]
  unfold attrAt
  cases isName (by_ x.1) with
  | false => rfl
  | true =>
    simp only [Bool.not_true, cond_false]
    rw [ContainsFunc_Attr_ev (p := fun y => beqS y.1 x.1) (c := 1) (fun y _ k hk => by
      obtain ⟨k, rfl⟩ : ∃ i, k = i + 1 := ⟨k - 1, by omega⟩
      exact e_types_attribute_1 k y x) (by omega) k (by omega), res_some, bindS]
    cases ((l.take i).any fun y => beqS y.1 x.1) with
    | true => rfl
    | false =>
      simp only [cond_false]
      rw [types_names_ev x.2.2.2 h3 k (by omega), res_some, bindS, wrap_id (x := (x.2.2.2.length : Int) - 1) (by omega) (by omega)]
      unfold attrE
      by_cases hn : namesE x.2.2.2 = 0
      case neg => rw [decide_eq_false hn]; rfl
      rw [decide_eq_true hn]
      simp only [Bool.not_true, cond_false]
      cases decide ((0 : Int) < (x.2.2.2.length : Int)) with
      | true =>
        simp only [cond_true]
        cases (cond (decide (x.2.1 = (0 : Int))) (decide (x.2.2.1 = (x.2.2.2.length : Int) - 1)) false) <;> rfl
      | false =>
        simp only [cond_false]
        cases (cond (cond (decide ((-1000000 : Int) ≤ x.2.1)) (decide (x.2.1 ≤ x.2.2.1)) false) (decide (x.2.2.1 ≤ (1000000 : Int))) false) <;> rfl
theorem r04_in_ev (x lo hi : Int) : ∀ k, 1 ≤ k → run M k f_r04_in [.val tI x, .val tI lo, .val tI hi] = some ⟨.bool, cond (decide (lo ≤ x)) (decide (x ≤ hi)) false⟩ := by
  intro k hk
  obtain ⟨k, rfl⟩ : ∃ i, k = i + 1 := ⟨k - 1, by omega⟩
  exact e_r04_in k x lo hi
theorem r04_attribute_ev (x : AttrD) (hx : SmallA x) : ∀ k, 300 ≤ k → run M k f_r04_attribute [.val tAttr x] = some ⟨tI, attrE x⟩ := by
  intro k hk
  obtain ⟨k, rfl⟩ : ∃ i, k = i + 1 := ⟨k - 1, by omega⟩
  obtain ⟨h1, h2, h3⟩ := hx
  rw [e_r04_attribute, b_r04_attribute]
  unfold attrE
  by_cases h0 : (x.2.2.2.length : Int) = (0 : Int)
  · have hnil : x.2.2.2 = [] := List.eq_nil_of_length_eq_zero (by omega)
    rw [decide_eq_true h0, hnil, show namesE [] = 0 from rfl]
    simp only [cond_true]
    rw [r04_in_ev _ _ _ k (by omega), r04_in_ev _ _ _ k (by omega), res_some, bindS, res_some]
    by_cases ha : (-1000000 : Int) ≤ x.2.1
    · rw [decide_eq_true ha]
      by_cases hb : x.2.1 ≤ (1000000 : Int)
      · rw [decide_eq_true hb]
        cases decide (x.2.1 ≤ x.2.2.1) <;> cases decide (x.2.2.1 ≤ (1000000 : Int)) <;> rfl
      · rw [decide_eq_false hb]
        by_cases hc : x.2.1 ≤ x.2.2.1
        · rw [decide_eq_true hc, decide_eq_false (show ¬ x.2.2.1 ≤ (1000000 : Int) by omega)]; rfl
        · rw [decide_eq_false hc]; rfl
    · rw [decide_eq_false ha]; rfl
  · rw [decide_eq_false h0, decide_eq_true (show (0 : Int) < (x.2.2.2.length : Int) by omega)]
    simp only [cond_false, cond_true]
    rw [r04_names_ev x.2.2.2 h3 k (by omega), res_some, bindS, wrap_id (x := (x.2.2.2.length : Int) - 1) (by omega) (by omega)]
    by_cases hn : namesE x.2.2.2 = 0
    case neg => rw [decide_eq_false hn]; rfl
    rw [decide_eq_true hn]
    cases decide (x.2.1 = (0 : Int)) <;> cases decide (x.2.2.1 = (x.2.2.2.length : Int) - 1) <;> rfl
end Go.Proofs.AM

namespace Go.Proofs.AM
open Go
noncomputable abbrev rdN (xs : List NodeD) (i : Int) : NodeD := rd (E := E) (t := tNodeType) xs i
theorem down_any {n : Nat} {Q : Nat → Nat → Prop} (hend : ∀ j, Q (j + 1) n) (hstep : ∀ m j, m < n → Q j (m + 1) → Q (j + 1) m) : ∀ m, m ≤ n → ∀ j, n - m < j → Q j m := by
  intro m hm
  induction h : n - m generalizing m with
  | zero =>
    intro j hj
    have : m = n := by omega
    subst this
    obtain ⟨i, rfl⟩ : ∃ i, j = i + 1 := ⟨j - 1, by omega⟩
    exact hend i
  | succ d ih =>
    intro j hj
    obtain ⟨i, rfl⟩ : ∃ i, j = i + 1 := ⟨j - 1, by omega⟩
    exact hstep m i (by omega) (ih (m + 1) (by omega) (by omega) i (by omega))
noncomputable def attrsF (ns : List NodeD) : Nat → Int → List AttrD
  | 0, _ => []
  | f + 1, a => cond (decide (a < 0)) [] (attrsF ns f (rdN ns a).2.1 ++ (rdN ns a).2.2.2)
def Par (ns : List NodeD) (a : Int) : Prop := ∀ i : Nat, (i : Int) ≤ a → (rdN ns i).2.1 < (i : Int)
theorem attrsF_neg (ns : List NodeD) (f : Nat) {a : Int} (h : a < 0) : attrsF ns f a = [] := by
  cases f with
  | zero => rfl
  | succ f => rw [attrsF, decide_eq_true h]; rfl
theorem attrsF_stable (ns : List NodeD) : ∀ (f g : Nat) (a : Int), a < f → a < g → Par ns a → attrsF ns f a = attrsF ns g a
  | 0, g, a, h1, _, _ => by rw [attrsF_neg ns g (by omega), attrsF_neg ns 0 (by omega)]
  | f + 1, 0, a, _, h2, _ => by rw [attrsF_neg ns 0 (by omega), attrsF_neg ns (f + 1) (by omega)]
  | f + 1, g + 1, a, h1, h2, hp => by
    rw [attrsF, attrsF]
    by_cases h : a < 0
    · rw [decide_eq_true h]; rfl
    · rw [decide_eq_false h]
      have hpar := hp a.toNat (by omega)
      rw [show ((a.toNat : Nat) : Int) = a by omega] at hpar
      rw [attrsF_stable ns f g _ (by omega) (by omega) fun i hi => hp i (by omega)]
def SmallN (ns : List NodeD) : Prop := ns.length ≤ 20 ∧ ∀ n ∈ ns, n.1.size ≤ 40 ∧ n.2.2.2.length ≤ 30 ∧ ∀ a ∈ n.2.2.2, SmallA a
theorem rdN_small {ns : List NodeD} (hs : SmallN ns) (a : Int) : (rdN ns a).1.size ≤ 40 ∧ (rdN ns a).2.2.2.length ≤ 30 ∧ ∀ x ∈ (rdN ns a).2.2.2, SmallA x := by
  unfold rdN rd
  rw [List.getD_eq_getElem?_getD]
  cases h : ns[a.toNat]? with
  | none => exact ⟨by decide, by decide, fun x hx => by cases hx⟩
  | some n => exact hs.2 n (List.mem_of_getElem? h)
theorem attrsF_length {ns : List NodeD} (hs : SmallN ns) : ∀ (f : Nat) (a : Int), (attrsF ns f a).length ≤ 30 * f
  | 0, _ => Nat.zero_le _
  | f + 1, a => by
    rw [attrsF]
    have := attrsF_length hs f (rdN ns a).2.1
    have := (rdN_small hs a).2.1
    cases decide (a < 0) with
    | true => exact Nat.zero_le _
    | false => simp only [cond_false, List.length_append]; omega
theorem attrsF_small {ns : List NodeD} (hs : SmallN ns) : ∀ (f : Nat) (a : Int), ∀ x ∈ attrsF ns f a, SmallA x
  | 0, _, x, hx => by cases hx
  | f + 1, a, x, hx => by
    rw [attrsF] at hx
    cases h : decide (a < 0) with
    | true => rw [h] at hx; cases hx
    | false =>
      rw [h] at hx
      simp only [cond_false, List.mem_append] at hx
      rcases hx with hx | hx
      · exact attrsF_small hs f _ x hx
      · exact (rdN_small hs a).2.2 x hx
theorem roomy_ok {n : Nat} (h : n ≤ 1000000) : roomy n 56 = true := by
  unfold roomy; exact decide_eq_true (by omega)
theorem types_attrs_ev (t : TypesD) (hs : SmallN t.1) : ∀ (a : Nat), a < t.1.length → Par t.1 a → ∀ k, a + 1 ≤ k → run M k f_types_attrs [.val tTypes t, .val tI (a : Int)] = some ⟨.slice tAttr, attrsF t.1 100 a⟩ := by
  intro a
  induction a using Nat.strongRecOn with
  | ind a ih =>
    intro ha hp k hk
    obtain ⟨k, rfl⟩ : ∃ i, k = i + 1 := ⟨k - 1, by omega⟩
    have hl := hs.1
    have hpar := hp a (Int.le_refl _)
    have hown := (rdN_small hs a).2.1
    rw [e_types_attrs, b_types_attrs, inB_nat, decide_eq_true ha, cond_true]
    have he : attrsF t.1 100 a = attrsF t.1 99 (rdN t.1 a).2.1 ++ (rdN t.1 a).2.2.2 := by
      rw [attrsF, decide_eq_false (by omega)]; rfl
    rw [he]
    by_cases h0 : (0 : Int) ≤ (rdN t.1 a).2.1
    · rw [decide_eq_true h0, cond_true]
      have hq : ((rdN t.1 a).2.1.toNat : Int) = (rdN t.1 a).2.1 := by omega
      have := ih (rdN t.1 a).2.1.toNat (by omega) (by omega) (fun i hi => hp i (by omega)) k (by omega)
      rw [hq] at this
      show Option.bind (res (.slice tAttr) (run M k f_types_attrs [.val tTypes t, .val tI (rdN t.1 a).2.1])) _ = _
      rw [this, res_some, bindS, cond_true, attrsF_stable t.1 99 100 _ (by omega) (by omega) (fun i hi => hp i (by omega))]
      have hlen := attrsF_length hs 100 (rdN t.1 a).2.1
      rw [roomy_ok (show (attrsF t.1 100 (rdN t.1 a).2.1).length + (rdN t.1 a).2.2.2.length ≤ 1000000 by omega), cond_true]
    · rw [decide_eq_false h0, cond_false, cond_true, roomy_ok (show (rdN t.1 a).2.2.2.length ≤ 1000000 by omega), cond_true, attrsF_neg t.1 99 (by omega)]
      rfl
theorem r04_attrs_ev (t : TypesD) (hs : SmallN t.1) : ∀ (a : Nat), a < t.1.length → Par t.1 a → ∀ k, a + 3 ≤ k → run M k f_r04_attrs [.val tTypes t, .val tI (a : Int)] = some ⟨.slice tAttr, attrsF t.1 100 a⟩ := by
  intro a
  induction a using Nat.strongRecOn with
  | ind a ih =>
    intro ha hp k hk
    obtain ⟨k, rfl⟩ : ∃ i, k = i + 1 := ⟨k - 1, by omega⟩
    have hl := hs.1
    have hpar := hp a (Int.le_refl _)
    have hown := (rdN_small hs a).2.1
    rw [e_r04_attrs, b_r04_attrs, inB_nat, decide_eq_true ha, decide_eq_false (show ¬ (a : Int) < 0 by omega), cond_false, cond_true]
    have he : attrsF t.1 100 a = attrsF t.1 100 (rdN t.1 a).2.1 ++ (rdN t.1 a).2.2.2 := by
      rw [attrsF, decide_eq_false (by omega), attrsF_stable t.1 99 100 _ (by omega) (by omega) (fun i hi => hp i (by omega))]; rfl
    rw [he]
    have hsub : run M k f_r04_attrs [.val tTypes t, .val tI (rdN t.1 a).2.1] = some ⟨.slice tAttr, attrsF t.1 100 (rdN t.1 a).2.1⟩ := by
      by_cases h0 : (0 : Int) ≤ (rdN t.1 a).2.1
      · have hq : ((rdN t.1 a).2.1.toNat : Int) = (rdN t.1 a).2.1 := by omega
        have := ih (rdN t.1 a).2.1.toNat (by omega) (by omega) (fun i hi => hp i (by omega)) k (by omega)
        rw [hq] at this
        exact this
      · obtain ⟨k, rfl⟩ : ∃ i, k = i + 1 := ⟨k - 1, by omega⟩
        rw [e_r04_attrs, b_r04_attrs, decide_eq_true (show (rdN t.1 a).2.1 < (0 : Int) by omega), attrsF_neg t.1 100 (by omega)]
        rfl
    show Option.bind (res (.slice tAttr) (run M k f_r04_attrs [.val tTypes t, .val tI (rdN t.1 a).2.1])) _ = _
    rw [hsub, res_some, bindS]
    have hlen := attrsF_length hs 100 (rdN t.1 a).2.1
    rw [roomy_ok (show ([] : List (D tAttr)).length + (attrsF t.1 100 (rdN t.1 a).2.1).length ≤ 1000000 by simp only [List.length_nil]; omega), cond_true, cond_true,
      roomy_ok (show (([] : List (D tAttr)) ++ attrsF t.1 100 (rdN t.1 a).2.1).length + (rdN t.1 a).2.2.2.length ≤ 1000000 by simp only [List.nil_append]; omega), cond_true]
    rfl
noncomputable def nodeE (t : TypesD) (i : Nat) : Int :=
  cond (!isName (by_ (rdN t.1 i).1)) 2 (cond ((t.1.take i).any fun y => beqS y.1 (rdN t.1 i).1) 5
    (cond (cond (decide ((rdN t.1 i).2.1 < (-1 : Int))) true (decide ((i : Int) ≤ (rdN t.1 i).2.1))) 6 (cond (decide ((4 : Int) < ((rdN t.1 i).2.2.2.length : Int))) 3
      (cond (decide ((8 : Int) < ((attrsF t.1 100 i).length : Int))) 3
        (firstE (attrAt (attrsF t.1 100 i)) ((attrsF t.1 100 i).length - (rdN t.1 i).2.2.2.length) ((attrsF t.1 100 i).drop ((attrsF t.1 100 i).length - (rdN t.1 i).2.2.2.length)))))))
theorem nodeE_zero {t : TypesD} {i : Nat} (h : nodeE t i = 0) : (-1 : Int) ≤ (rdN t.1 i).2.1 ∧ (rdN t.1 i).2.1 < (i : Int) := by
  unfold nodeE at h
  cases h1 : isName (by_ (rdN t.1 i).1) with
  | false => rw [h1] at h; cases h
  | true =>
    rw [h1] at h
    cases h2 : ((t.1.take i).any fun y => beqS y.1 (rdN t.1 i).1) with
    | true => rw [h2] at h; cases h
    | false =>
      rw [h2] at h
      cases h3 : decide ((rdN t.1 i).2.1 < (-1 : Int)) with
      | true => rw [h3] at h; cases h
      | false =>
        cases h4 : decide ((i : Int) ≤ (rdN t.1 i).2.1) with
        | true => rw [h3, h4] at h; cases h
        | false =>
          have := of_decide_eq_false h3
          have := of_decide_eq_false h4
          omega
theorem getA_nat {l : List AttrD} {m : Nat} (h : m < l.length) : List.getD l (Int.toNat (m : Int)) (dflt E tAttr) = l[m] := by
  rw [Int.toNat_natCast, List.getD_eq_getElem?_getD, List.getElem?_eq_getElem h]; rfl
theorem own_le {ns : List NodeD} {i : Nat} : (rdN ns i).2.2.2.length ≤ (attrsF ns 100 i).length := by
  rw [attrsF, decide_eq_false (by omega)]
  simp only [cond_false, List.length_append]
  omega
theorem types_node_ev (t : TypesD) (hs : SmallN t.1) (i : Nat) (hi : i < t.1.length) (hp : ∀ q, q < i → nodeE t q = 0) : ∀ k, 2000 ≤ k → run M k f_types_node [.val tTypes t, .val tI (i : Int)] = some ⟨tI, nodeE t i⟩ := by
  intro k hk
  obtain ⟨k, rfl⟩ : ∃ i, k = i + 1 := ⟨k - 1, by omega⟩
  have hr : 1000 ≤ reachBytes := by decide
  have hl := hs.1
  have hsm := rdN_small hs i
  rw [e_types_node, b_types_node, inB_nat, decide_eq_true hi, cond_true]
  show Option.bind (res .bool (run M k f_token_IsName [.val .str (rdN t.1 i).1])) _ = _
  rw [token_IsName_ev (by omega) k (by omega), res_some, bindS]
  unfold nodeE
  cases isName (by_ (rdN t.1 i).1) with
  | false => rfl
  | true =>
    simp only [Bool.not_true, cond_false]
    rw [inS_nat, decide_eq_true (by omega), cond_true, sub_take]
    rw [ContainsFunc_NodeType_ev (p := fun y => beqS y.1 (rdN t.1 i).1) (c := 1) (fun y _ k hk => by
      obtain ⟨k, rfl⟩ : ∃ i, k = i + 1 := ⟨k - 1, by omega⟩
      exact e_types_node_1 k y (rdN t.1 i)) (by rw [List.length_take]; omega) k (by rw [List.length_take]; omega), res_some, bindS]
    cases ((t.1.take i).any fun y => beqS y.1 (rdN t.1 i).1) with
    | true => rfl
    | false =>
      simp only [cond_false]
      cases h3 : (cond (decide ((rdN t.1 i).2.1 < (-1 : Int))) true (decide ((i : Int) ≤ (rdN t.1 i).2.1))) with
      | true => rfl
      | false =>
        simp only [cond_false]
        cases h4 : decide ((4 : Int) < ((rdN t.1 i).2.2.2.length : Int)) with
        | true => rfl
        | false =>
          simp only [cond_false]
          have hpar : Par t.1 i := by
            intro q hq
            rcases Nat.lt_or_ge q i with h | h
            · exact (nodeE_zero (hp q h)).2
            · have : q = i := by omega
              subst this
              cases h5 : decide ((rdN t.1 q).2.1 < (-1 : Int)) with
              | true => rw [h5] at h3; cases h3
              | false => rw [h5] at h3; have := of_decide_eq_false h3; omega
          show Option.bind (res (.slice tAttr) (run M k f_types_attrs [.val tTypes t, .val tI (i : Int)])) _ = _
          rw [types_attrs_ev t hs i hi hpar k (by omega), res_some, bindS]
          cases h8 : decide ((8 : Int) < ((attrsF t.1 100 i).length : Int)) with
          | true => rfl
          | false =>
            have h8 := of_decide_eq_false h8
            simp only [cond_false]
            have hsma := attrsF_small hs 100 i
            have hown := own_le (ns := t.1) (i := i)
            have hlen : ((attrsF t.1 100 i).length : Int) - ((rdN t.1 i).2.2.2.length : Int) = (((attrsF t.1 100 i).length - (rdN t.1 i).2.2.2.length : Nat) : Int) := by omega
            show l_types_node_1 (run M k) k (IntKind.i64.wrap (((attrsF t.1 100 i).length : Int) - ((rdN t.1 i).2.2.2.length : Int))) (attrsF t.1 100 i) = _
            rw [wrap_id (by omega) (by omega), hlen]
            generalize attrsF t.1 100 i = al at *
            exact loop_down (n := al.length) (F := fun j q => l_types_node_1 (run M k) j q al) (G := fun q => some ⟨tI, firstE (attrAt al) q (al.drop q)⟩)
              (fun j => by
                show s_types_node_1 (run M k) _ _ al = _
                rw [List.drop_eq_nil_of_le (Nat.le_refl _)]
                simp [s_types_node_1, firstE])
              (fun q j hq ih => by
                show s_types_node_1 (run M k) _ _ al = _
                rw [List.drop_eq_getElem_cons hq, firstE]
                simp only [s_types_node_1, inB_nat, hq, decide_true, Int.ofNat_lt, cond_true, inS_nat, show q ≤ al.length by omega, sub_take', getA_nat hq]
                show Option.bind (res tI (run M k f_types_attribute [.val tAttr al[q], .val (.slice tAttr) (al.take q)])) _ = _
                rw [types_attribute_ev al q al[q] (hsma _ (List.getElem_mem hq)) (by omega) k (by omega), res_some, bindS, wrap_succ (by omega), ih]
                by_cases h : attrAt al q al[q] = 0
                · rw [decide_eq_true h]; rfl
                · rw [decide_eq_false h]; rfl) _ (Nat.sub_le _ _) k (by omega)
end Go.Proofs.AM

namespace Go.Proofs.AM
open Go
theorem r04_node_ev (t : TypesD) (hs : SmallN t.1) (i : Nat) (hi : i < t.1.length) (hp : ∀ q, q < i → nodeE t q = 0) : ∀ k, 2000 ≤ k → run M k f_r04_node [.val tTypes t, .val tI (i : Int)] = some ⟨tI, nodeE t i⟩ := by
  intro k hk
  obtain ⟨k, rfl⟩ : ∃ i, k = i + 1 := ⟨k - 1, by omega⟩
  have hr : 1000 ≤ reachBytes := by decide
  have hl := hs.1
  have hsm := rdN_small hs i
  rw [e_r04_node, b_r04_node, inB_nat, decide_eq_true hi, cond_true]
  show Option.bind (res .bool (run M k f_r01_IsName [.val .str (rdN t.1 i).1])) _ = _
  rw [r01_IsName_ev (by omega) k (by omega), res_some, bindS]
  unfold nodeE
  cases isName (by_ (rdN t.1 i).1) with
  | false => rfl
  | true =>
    simp only [Bool.not_true, cond_false]
    -- what follows the loop over the earlier types
    have hrest : ∀ j, s_r04_node_0 (run M k) (l_r04_node_2 (run M k) k) (l_r04_node_0 (run M k) (l_r04_node_2 (run M k) k) j) (i : Int) (i : Int) t.1 t.2 (rdN t.1 i).1 (rdN t.1 i).2.1 (rdN t.1 i).2.2.1 (rdN t.1 i).2.2.2 =
        some ⟨tI, cond (cond (decide ((rdN t.1 i).2.1 < (-1 : Int))) true (decide ((i : Int) ≤ (rdN t.1 i).2.1))) 6 (cond (decide ((4 : Int) < ((rdN t.1 i).2.2.2.length : Int))) 3
          (cond (decide ((8 : Int) < ((attrsF t.1 100 i).length : Int))) 3
            (firstE (attrAt (attrsF t.1 100 i)) ((attrsF t.1 100 i).length - (rdN t.1 i).2.2.2.length) ((attrsF t.1 100 i).drop ((attrsF t.1 100 i).length - (rdN t.1 i).2.2.2.length)))))⟩ := by
      intro j
      simp only [s_r04_node_0, Int.lt_irrefl, decide_false, cond_false]
      rw [r04_in_ev _ _ _ k (by omega), res_some, bindS, wrap_id (x := (i : Int) - 1) (by omega) (by omega)]
      by_cases h1 : (rdN t.1 i).2.1 < (-1 : Int)
      · rw [decide_eq_true h1, decide_eq_false (show ¬ (-1 : Int) ≤ (rdN t.1 i).2.1 by omega)]; rfl
      · rw [decide_eq_false h1, decide_eq_true (show (-1 : Int) ≤ (rdN t.1 i).2.1 by omega)]
        by_cases h2 : (i : Int) ≤ (rdN t.1 i).2.1
        · rw [decide_eq_true h2, decide_eq_false (show ¬ (rdN t.1 i).2.1 ≤ (i : Int) - 1 by omega)]; rfl
        · rw [decide_eq_false h2, decide_eq_true (show (rdN t.1 i).2.1 ≤ (i : Int) - 1 by omega)]
          simp only [cond_true, cond_false, Bool.not_true]
          have hpar : Par t.1 i := by
            intro q hq
            rcases Nat.lt_or_ge q i with h | h
            · exact (nodeE_zero (hp q h)).2
            · have : q = i := by omega
              subst this; omega
          show Option.bind (res (.slice tAttr) (run M k f_r04_attrs [.val tTypes t, .val tI (i : Int)])) _ = _
          rw [r04_attrs_ev t hs i hi hpar k (by omega), res_some, bindS]
          cases h4 : decide ((4 : Int) < ((rdN t.1 i).2.2.2.length : Int)) with
          | true => rfl
          | false =>
            cases h8 : decide ((8 : Int) < ((attrsF t.1 100 i).length : Int)) with
            | true => rfl
            | false =>
              have h8 := of_decide_eq_false h8
              simp only [cond_false]
              have hsma := attrsF_small hs 100 i
              have hown := own_le (ns := t.1) (i := i)
              have hlen : ((attrsF t.1 100 i).length : Int) - ((rdN t.1 i).2.2.2.length : Int) = (((attrsF t.1 100 i).length - (rdN t.1 i).2.2.2.length : Nat) : Int) := by omega
              show l_r04_node_2 (run M k) k (IntKind.i64.wrap (((attrsF t.1 100 i).length : Int) - ((rdN t.1 i).2.2.2.length : Int))) (attrsF t.1 100 i) = _
              rw [wrap_id (by omega) (by omega), hlen]
              generalize attrsF t.1 100 i = al at *
              exact loop_down' (n := al.length) al.length (F := fun j q => l_r04_node_2 (run M k) j q al) (G := fun q => some ⟨tI, firstE (attrAt al) q (al.drop q)⟩)
                (fun j _ => by
                  show s_r04_node_2 (run M k) _ _ _ al = _
                  rw [List.drop_eq_nil_of_le (Nat.le_refl _)]
                  simp [s_r04_node_2, firstE])
                (fun q j hq hj ih => by
                  show s_r04_node_2 (run M k) _ _ _ al = _
                  have hz := hsma _ (List.getElem_mem hq)
                  have hz1 := hz.1
                  rw [List.drop_eq_getElem_cons hq, firstE]
                  simp only [s_r04_node_2, inB_nat, hq, decide_true, Int.ofNat_lt, cond_true, getA_nat hq]
                  rw [r01_IsName_ev (by omega) k (by omega), res_some, bindS, attrAt]
                  cases isName (by_ al[q].1) with
                  | false => rfl
                  | true =>
                    simp only [Bool.not_true, cond_false]
                    have hlt : (al.take q).length = q := by rw [List.length_take]; omega
                    have := loop_down (n := q) (F := fun i p => l_r04_node_4 (run M k) (l_r04_node_2 (run M k) j) i (q : Int) p al)
                      (G := fun p => some ⟨tI, cond (((al.take q).drop p).any fun y => beqS y.1 al[q].1) (5 : Int) (cond (decide (attrE al[q] = 0)) (firstE (attrAt al) (q + 1) (al.drop (q + 1))) (attrE al[q]))⟩)
                      (fun i => by
                        show s_r04_node_4 (run M k) _ _ _ _ al = _
                        rw [List.drop_eq_nil_of_le (by omega)]
                        simp only [s_r04_node_4, Int.lt_irrefl, decide_false, cond_false, List.any_nil, inB_nat, hq, decide_true, cond_true, getA_nat hq]
                        show Option.bind (res tI (run M k f_r04_attribute [.val tAttr al[q]])) _ = _
                        rw [r04_attribute_ev al[q] hz k (by omega), res_some, bindS, wrap_succ (by omega), ih]
                        by_cases h : attrE al[q] = 0
                        · rw [decide_eq_true h]; rfl
                        · rw [decide_eq_false h]; rfl)
                      (fun p i hp ih2 => by
                        show s_r04_node_4 (run M k) _ _ _ _ al = _
                        rw [any_drop _ _ p (by omega)]
                        simp only [s_r04_node_4, inB_nat, getA_nat hq, getA_nat (show p < al.length by omega), hp, hq, show p < al.length by omega, decide_true, Int.ofNat_lt, cond_true, List.getElem_take]
                        rw [wrap_succ (by omega), ih2]
                        cases beqS al[p].1 al[q].1 <;> rfl) 0 (Nat.zero_le _) j (by omega)
                    refine Eq.trans this ?_
                    rw [List.drop_zero]
                    cases ((al.take q).any fun y => beqS y.1 al[q].1) with
                    | true => rfl
                    | false => rfl) _ (Nat.sub_le _ _) k (by omega)
    have hlt : (t.1.take i).length = i := by rw [List.length_take]; omega
    have := loop_down (n := i) (F := fun j q => l_r04_node_0 (run M k) (l_r04_node_2 (run M k) k) j (i : Int) q t.1 t.2 (rdN t.1 i).1 (rdN t.1 i).2.1 (rdN t.1 i).2.2.1 (rdN t.1 i).2.2.2)
      (G := fun q => some ⟨tI, cond (((t.1.take i).drop q).any fun y => beqS y.1 (rdN t.1 i).1) 5 (cond (cond (decide ((rdN t.1 i).2.1 < (-1 : Int))) true (decide ((i : Int) ≤ (rdN t.1 i).2.1))) 6 (cond (decide ((4 : Int) < ((rdN t.1 i).2.2.2.length : Int))) 3
          (cond (decide ((8 : Int) < ((attrsF t.1 100 i).length : Int))) 3
            (firstE (attrAt (attrsF t.1 100 i)) ((attrsF t.1 100 i).length - (rdN t.1 i).2.2.2.length) ((attrsF t.1 100 i).drop ((attrsF t.1 100 i).length - (rdN t.1 i).2.2.2.length))))))⟩)
      (fun j => by
        rw [List.drop_eq_nil_of_le (by omega), List.any_nil, cond_false]
        exact hrest j)
      (fun q j hq ih => by
        show s_r04_node_0 (run M k) _ _ _ _ t.1 t.2 _ _ _ _ = _
        rw [any_drop _ _ q (by omega)]
        simp only [s_r04_node_0, inB_nat, hq, show q < t.1.length by omega, decide_true, Int.ofNat_lt, cond_true, List.getElem_take, rd_nat (t := tNodeType) t.1 q (by omega)]
        rw [wrap_succ (by omega), ih]
        cases beqS t.1[q].1 (rdN t.1 i).1 <;> rfl) 0 (Nat.zero_le _) k (by omega)
    exact this
noncomputable abbrev rdT (xs : List ETypeD) (i : Int) : ETypeD := rd (E := E) (t := tEdgeType) xs i
def insideB (n : Nat) (x : Int) : Bool := cond (decide ((0 : Int) ≤ x)) (decide (x < (n : Int))) false
def boundB (lo hi : Int) : Bool := cond (cond (decide ((0 : Int) ≤ lo)) (decide (lo ≤ (40 : Int))) false) (cond (decide (hi = (-1 : Int))) true (cond (decide (lo ≤ hi)) (decide (hi ≤ (40 : Int))) false)) false
noncomputable def etypeE (t : TypesD) (i : Nat) : Int :=
  cond (!isName (by_ (rdT t.2 i).1)) 2 (cond ((t.2.take i).any fun y => beqS y.1 (rdT t.2 i).1) 5
    (cond (insideB t.1.length (rdT t.2 i).2.1 && (insideB t.1.length (rdT t.2 i).2.2.1 && (boundB (rdT t.2 i).2.2.2.1 (rdT t.2 i).2.2.2.2.1 && boundB (rdT t.2 i).2.2.2.2.2.1 (rdT t.2 i).2.2.2.2.2.2))) 0 6))
def SmallT (t : TypesD) : Prop := SmallN t.1 ∧ t.2.length ≤ 30 ∧ ∀ e ∈ t.2, ByteArray.size e.1 ≤ 40
theorem types_edge_ev (t : TypesD) (hs : SmallT t) (i : Nat) (hi : i < t.2.length) : ∀ k, 500 ≤ k → run M k f_types_edge [.val tTypes t, .val tI (i : Int)] = some ⟨tI, etypeE t i⟩ := by
  intro k hk
  obtain ⟨k, rfl⟩ : ∃ i, k = i + 1 := ⟨k - 1, by omega⟩
  have hr : 1000 ≤ reachBytes := by decide
  have hl := hs.2.1
  have hz : (rdT t.2 i).1.size ≤ 40 := by
    unfold rdT; rw [rd_nat (t := tEdgeType) t.2 i hi]; exact hs.2.2 _ (List.getElem_mem hi)
  rw [e_types_edge, b_types_edge, inB_nat, decide_eq_true hi, cond_true]
  show Option.bind (res .bool (run M k f_token_IsName [.val .str (rdT t.2 i).1])) _ = _
  rw [token_IsName_ev (by omega) k (by omega), res_some, bindS]
  unfold etypeE
  cases isName (by_ (rdT t.2 i).1) with
  | false => rfl
  | true =>
    simp only [Bool.not_true, cond_false]
    rw [inS_nat, decide_eq_true (by omega), cond_true, sub_take]
    rw [ContainsFunc_EdgeType_ev (p := fun y => beqS y.1 (rdT t.2 i).1) (c := 1) (fun y _ k hk => by
      obtain ⟨k, rfl⟩ : ∃ i, k = i + 1 := ⟨k - 1, by omega⟩
      exact e_types_edge_2 k y (rdT t.2 i)) (by rw [List.length_take]; omega) k (by rw [List.length_take]; omega), res_some, bindS]
    cases ((t.2.take i).any fun y => beqS y.1 (rdT t.2 i).1) with
    | true => rfl
    | false =>
      simp only [cond_false]
      have h1 : ∀ x : Int, run M k f_types_edge_1 [.val tI x, .ro tTypes t] = some ⟨.bool, insideB t.1.length x⟩ := by
        intro x
        obtain ⟨k, rfl⟩ : ∃ i, k = i + 1 := ⟨k - 1, by omega⟩
        exact e_types_edge_1 k x t
      have h2 : ∀ x y : Int, run M k f_types_bounded [.val tI x, .val tI y] = some ⟨.bool, boundB x y⟩ := by
        intro x y
        obtain ⟨k, rfl⟩ : ∃ i, k = i + 1 := ⟨k - 1, by omega⟩
        exact e_types_bounded k x y
      show Option.bind (res .bool (run M k f_types_edge_1 [.val tI (rdT t.2 i).2.1, .ro tTypes t])) (fun r3 => Option.bind (cond (!(!r3)) (res .bool (run M k f_types_edge_1 [.val tI (rdT t.2 i).2.2.1, .ro tTypes t])) (some (dflt E .bool))) _) = _
      rw [h1, h1, res_some, bindS, res_some, h2, h2, res_some, res_some]
      cases insideB t.1.length (rdT t.2 i).2.1 <;> cases insideB t.1.length (rdT t.2 i).2.2.1 <;> cases boundB (rdT t.2 i).2.2.2.1 (rdT t.2 i).2.2.2.2.1 <;> cases boundB (rdT t.2 i).2.2.2.2.2.1 (rdT t.2 i).2.2.2.2.2.2 <;> rfl
end Go.Proofs.AM

namespace Go.Proofs.AM
open Go
theorem r04_bound_ev (lo hi : Int) : ∀ k, 2 ≤ k → run M k f_r04_bound [.val tI lo, .val tI hi] = some ⟨.bool, boundB lo hi⟩ := by
  intro k hk
  obtain ⟨k, rfl⟩ : ∃ i, k = i + 1 := ⟨k - 1, by omega⟩
  rw [e_r04_bound, b_r04_bound, r04_in_ev _ _ _ k (by omega), r04_in_ev _ _ _ k (by omega), res_some, bindS, res_some]
  unfold boundB
  cases decide ((0 : Int) ≤ lo) <;> cases decide (lo ≤ (40 : Int)) <;> cases decide (hi = (-1 : Int)) <;> cases decide (lo ≤ hi) <;> cases decide (hi ≤ (40 : Int)) <;> rfl
theorem r04_edge_ev (t : TypesD) (hs : SmallT t) (i : Nat) (hi : i < t.2.length) : ∀ k, 500 ≤ k → run M k f_r04_edge [.val tTypes t, .val tI (i : Int)] = some ⟨tI, etypeE t i⟩ := by
  intro k hk
  obtain ⟨k, rfl⟩ : ∃ i, k = i + 1 := ⟨k - 1, by omega⟩
  have hr : 1000 ≤ reachBytes := by decide
  have hl := hs.2.1
  have hn := hs.1.1
  have hz : (rdT t.2 i).1.size ≤ 40 := by
    unfold rdT; rw [rd_nat (t := tEdgeType) t.2 i hi]; exact hs.2.2 _ (List.getElem_mem hi)
  rw [e_r04_edge, b_r04_edge, inB_nat, decide_eq_true hi, cond_true]
  show Option.bind (res .bool (run M k f_r01_IsName [.val .str (rdT t.2 i).1])) _ = _
  rw [r01_IsName_ev (by omega) k (by omega), res_some, bindS]
  unfold etypeE
  cases isName (by_ (rdT t.2 i).1) with
  | false => rfl
  | true =>
    simp only [Bool.not_true, cond_false]
    have hlt : (t.2.take i).length = i := by rw [List.length_take]; omega
    have := loop_down (n := i) (F := fun j q => l_r04_edge_0 (run M k) j (i : Int) q t.1 t.2 (rdT t.2 i).1 (rdT t.2 i).2.1 (rdT t.2 i).2.2.1 (rdT t.2 i).2.2.2.1 (rdT t.2 i).2.2.2.2.1 (rdT t.2 i).2.2.2.2.2.1 (rdT t.2 i).2.2.2.2.2.2)
      (G := fun q => some ⟨tI, cond (((t.2.take i).drop q).any fun y => beqS y.1 (rdT t.2 i).1) (5 : Int)
        (cond (insideB t.1.length (rdT t.2 i).2.1 && (insideB t.1.length (rdT t.2 i).2.2.1 && (boundB (rdT t.2 i).2.2.2.1 (rdT t.2 i).2.2.2.2.1 && boundB (rdT t.2 i).2.2.2.2.2.1 (rdT t.2 i).2.2.2.2.2.2))) 0 6)⟩)
      (fun j => by
        show s_r04_edge_0 (run M k) _ _ _ t.1 t.2 _ _ _ _ _ _ _ = _
        rw [List.drop_eq_nil_of_le (by omega), List.any_nil, cond_false]
        simp only [s_r04_edge_0, Int.lt_irrefl, decide_false, cond_false]
        have hin : ∀ x : Int, run M k f_r04_in [.val tI x, .val tI (0 : Int), .val tI ((t.1.length : Int) - 1)] = some ⟨.bool, insideB t.1.length x⟩ := by
          intro x
          rw [r04_in_ev _ _ _ k (by omega), le_pred]; rfl
        rw [wrap_id (x := (t.1.length : Int) - 1) (by omega) (by omega), hin, hin, r04_bound_ev _ _ k (by omega), r04_bound_ev _ _ k (by omega), res_some, bindS, res_some, res_some, res_some]
        cases insideB t.1.length (rdT t.2 i).2.1 <;> cases insideB t.1.length (rdT t.2 i).2.2.1 <;> cases boundB (rdT t.2 i).2.2.2.1 (rdT t.2 i).2.2.2.2.1 <;> cases boundB (rdT t.2 i).2.2.2.2.2.1 (rdT t.2 i).2.2.2.2.2.2 <;> rfl)
      (fun q j hq ih => by
        show s_r04_edge_0 (run M k) _ _ _ t.1 t.2 _ _ _ _ _ _ _ = _
        rw [any_drop _ _ q (by omega)]
        simp only [s_r04_edge_0, inB_nat, hq, show q < t.2.length by omega, decide_true, Int.ofNat_lt, cond_true, List.getElem_take, rd_nat (t := tEdgeType) t.2 q (by omega)]
        rw [wrap_succ (by omega), ih]
        cases beqS t.2[q].1 (rdT t.2 i).1 <;> rfl) 0 (Nat.zero_le _) k (by omega)
    exact this
def firstP {α : Type} (f : Nat → Int) (nm : α → ByteArray) (z : ByteArray × Int) : Nat → List α → ByteArray × Int
  | _, [] => z
  | m, x :: r => cond (!(decide (f m = 0))) (nm x, f m) (firstP f nm z (m + 1) r)
noncomputable def typesP (t : TypesD) : ByteArray × Int :=
  cond (decide ((t.1.length : Int) = (0 : Int))) ((⟨#[]⟩ : ByteArray), 7) (cond (cond (decide ((12 : Int) < (t.1.length : Int))) true (decide ((20 : Int) < (t.2.length : Int)))) ((⟨#[]⟩ : ByteArray), 3)
    (firstP (nodeE t) (fun n : NodeD => n.1) (firstP (etypeE t) (fun e : ETypeD => e.1) ((⟨#[]⟩ : ByteArray), 0) 0 t.2) 0 t.1))
theorem types_Valid_ev (t : TypesD) (hs : SmallT t) : ∀ k, 2100 ≤ k → run M k f_types_Valid [.val tTypes t] = some ⟨.pair .str tI, typesP t⟩ := by
  intro k hk
  obtain ⟨k, rfl⟩ : ∃ i, k = i + 1 := ⟨k - 1, by omega⟩
  have hr : 1000 ≤ reachBytes := by decide
  rw [e_types_Valid, b_types_Valid]
  unfold typesP
  cases decide ((t.1.length : Int) = (0 : Int)) with
  | true => rfl
  | false =>
    cases h1 : decide ((12 : Int) < (t.1.length : Int)) with
    | true => rfl
    | false =>
      cases h2 : decide ((20 : Int) < (t.2.length : Int)) with
      | true => rfl
      | false =>
        have h1 := of_decide_eq_false h1
        have h2 := of_decide_eq_false h2
        simp only [cond_false]
        have hE := loop_down (n := t.2.length) (F := fun j i => l_types_Valid_3 (run M k) j t.2 t.2.length i t.1 t.2) (G := fun q => some ⟨.pair .str tI, firstP (etypeE t) (fun e : ETypeD => e.1) ((⟨#[]⟩ : ByteArray), 0) q (t.2.drop q)⟩)
          (fun j => by
            show s_types_Valid_3 (run M k) _ t.2 _ _ t.1 t.2 = _
            rw [List.drop_eq_nil_of_le (Nat.le_refl _)]
            simp [s_types_Valid_3, firstP])
          (fun q j hq ih => by
            show s_types_Valid_3 (run M k) _ t.2 _ _ t.1 t.2 = _
            rw [List.drop_eq_getElem_cons hq, firstP]
            simp only [s_types_Valid_3, inB_nat, hq, decide_true, Int.ofNat_lt, cond_true, rd_nat (t := tEdgeType) t.2 q hq]
            show Option.bind (res tI (run M k f_types_edge [.val tTypes t, .val tI (q : Int)])) _ = _
            rw [types_edge_ev t hs q hq k (by omega), res_some, bindS, wrap_succ (by omega), ih]
            cases (!(decide (etypeE t q = (0 : Int)))) <;> rfl) 0 (Nat.zero_le _) k (by omega)
        have := down_any (n := t.1.length) (Q := fun j q => (∀ i, i < q → nodeE t i = 0) → l_types_Valid_1 (run M k) (l_types_Valid_3 (run M k) k) j t.1 t.1.length (q : Int) t.1 t.2 =
            some ⟨.pair .str tI, firstP (nodeE t) (fun n : NodeD => n.1) (firstP (etypeE t) (fun e : ETypeD => e.1) ((⟨#[]⟩ : ByteArray), 0) 0 t.2) q (t.1.drop q)⟩)
          (fun j _ => by
            show s_types_Valid_1 (run M k) _ _ t.1 _ _ t.1 t.2 = _
            rw [List.drop_eq_nil_of_le (Nat.le_refl _)]
            simp only [s_types_Valid_1, Int.lt_irrefl, decide_false, cond_false, firstP]
            exact hE)
          (fun q j hq ih hv => by
            show s_types_Valid_1 (run M k) _ _ t.1 _ _ t.1 t.2 = _
            rw [List.drop_eq_getElem_cons hq, firstP]
            simp only [s_types_Valid_1, inB_nat, hq, decide_true, Int.ofNat_lt, cond_true, rd_nat (t := tNodeType) t.1 q hq]
            show Option.bind (res tI (run M k f_types_node [.val tTypes t, .val tI (q : Int)])) _ = _
            rw [types_node_ev t hs.1 q hq hv k (by omega), res_some, bindS, wrap_succ (by omega)]
            by_cases h : nodeE t q = 0
            · rw [decide_eq_true h]
              simp only [Bool.not_true, cond_false]
              exact ih fun i hi => by
                rcases Nat.lt_or_ge i q with h' | h'
                · exact hv i h'
                · have : i = q := by omega
                  subst this; exact h
            · rw [decide_eq_false h]; rfl) 0 (Nat.zero_le _) k (by omega)
        exact this (fun i hi => absurd hi (Nat.not_lt_zero _))
theorem r04_Valid_ev (t : TypesD) (hs : SmallT t) : ∀ k, 2100 ≤ k → run M k f_r04_Valid [.val tTypes t] = some ⟨.pair .str tI, typesP t⟩ := by
  intro k hk
  obtain ⟨k, rfl⟩ : ∃ i, k = i + 1 := ⟨k - 1, by omega⟩
  have hr : 1000 ≤ reachBytes := by decide
  rw [e_r04_Valid, b_r04_Valid]
  unfold typesP
  cases decide ((t.1.length : Int) = (0 : Int)) with
  | true => rfl
  | false =>
    cases h1 : decide ((12 : Int) < (t.1.length : Int)) with
    | true => rfl
    | false =>
      cases h2 : decide ((20 : Int) < (t.2.length : Int)) with
      | true => rfl
      | false =>
        have h1 := of_decide_eq_false h1
        have h2 := of_decide_eq_false h2
        simp only [cond_false]
        have hE := loop_down (n := t.2.length) (F := fun j i => l_r04_Valid_2 (run M k) j i t.1 t.2) (G := fun q => some ⟨.pair .str tI, firstP (etypeE t) (fun e : ETypeD => e.1) ((⟨#[]⟩ : ByteArray), 0) q (t.2.drop q)⟩)
          (fun j => by
            show s_r04_Valid_2 (run M k) _ _ t.1 t.2 = _
            rw [List.drop_eq_nil_of_le (Nat.le_refl _)]
            simp [s_r04_Valid_2, firstP])
          (fun q j hq ih => by
            show s_r04_Valid_2 (run M k) _ _ t.1 t.2 = _
            rw [List.drop_eq_getElem_cons hq, firstP]
            simp only [s_r04_Valid_2, inB_nat, hq, decide_true, Int.ofNat_lt, cond_true, rd_nat (t := tEdgeType) t.2 q hq]
            show Option.bind (res tI (run M k f_r04_edge [.val tTypes t, .val tI (q : Int)])) _ = _
            rw [r04_edge_ev t hs q hq k (by omega), res_some, bindS, wrap_succ (by omega), ih]
            cases (!(decide (etypeE t q = (0 : Int)))) <;> rfl) 0 (Nat.zero_le _) k (by omega)
        have := down_any (n := t.1.length) (Q := fun j q => (∀ i, i < q → nodeE t i = 0) → l_r04_Valid_0 (run M k) (l_r04_Valid_2 (run M k) k) j (q : Int) t.1 t.2 =
            some ⟨.pair .str tI, firstP (nodeE t) (fun n : NodeD => n.1) (firstP (etypeE t) (fun e : ETypeD => e.1) ((⟨#[]⟩ : ByteArray), 0) 0 t.2) q (t.1.drop q)⟩)
          (fun j _ => by
            show s_r04_Valid_0 (run M k) _ _ _ t.1 t.2 = _
            rw [List.drop_eq_nil_of_le (Nat.le_refl _)]
            simp only [s_r04_Valid_0, Int.lt_irrefl, decide_false, cond_false, firstP]
            exact hE)
          (fun q j hq ih hv => by
            show s_r04_Valid_0 (run M k) _ _ _ t.1 t.2 = _
            rw [List.drop_eq_getElem_cons hq, firstP]
            simp only [s_r04_Valid_0, inB_nat, hq, decide_true, Int.ofNat_lt, cond_true, rd_nat (t := tNodeType) t.1 q hq]
            show Option.bind (res tI (run M k f_r04_node [.val tTypes t, .val tI (q : Int)])) _ = _
            rw [r04_node_ev t hs.1 q hq hv k (by omega), res_some, bindS, wrap_succ (by omega)]
            by_cases h : nodeE t q = 0
            · rw [decide_eq_true h]
              simp only [Bool.not_true, cond_false]
              exact ih fun i hi => by
                rcases Nat.lt_or_ge i q with h' | h'
                · exact hv i h'
                · have : i = q := by omega
                  subst this; exact h
            · rw [decide_eq_false h]; rfl) 0 (Nat.zero_le _) k (by omega)
        exact this (fun i hi => absurd hi (Nat.not_lt_zero _))
end Go.Proofs.AM

namespace Go.Proofs.AM
open Go
def leafB (ns : List NodeD) (x : Int) : Bool := !(ns.any fun n => decide (n.2.1 = x))
theorem constraint_leaf_ev (t : TypesD) (x : Int) (hs : t.1.length ≤ 20) : ∀ k, 100 ≤ k → run M k f_constraint_leaf [.val tTypes t, .val tI x] = some ⟨.bool, leafB t.1 x⟩ := by
  intro k hk
  obtain ⟨k, rfl⟩ : ∃ i, k = i + 1 := ⟨k - 1, by omega⟩
  have hr : 1000 ≤ reachBytes := by decide
  rw [e_constraint_leaf, b_constraint_leaf, ContainsFunc_NodeType_ev (p := fun n => decide (n.2.1 = x)) (c := 1) (fun y _ k hk => by
    obtain ⟨k, rfl⟩ : ∃ i, k = i + 1 := ⟨k - 1, by omega⟩
    exact e_constraint_leaf_1 k y x) (by omega) k (by omega), res_some, bindS]
  rfl
theorem r42_Leaf_ev (t : TypesD) (x : Int) (hs : t.1.length ≤ 20) : ∀ k, 100 ≤ k → run M k f_r42_Leaf [.val tTypes t, .val tI x] = some ⟨.bool, leafB t.1 x⟩ := by
  intro k hk
  obtain ⟨k, rfl⟩ : ∃ i, k = i + 1 := ⟨k - 1, by omega⟩
  have hr : 1000 ≤ reachBytes := by decide
  rw [e_r42_Leaf, b_r42_Leaf]
  exact loop_down (n := t.1.length) (F := fun j i => l_r42_Leaf_0 (run M k) j x i t.1 t.2) (G := fun q => some ⟨.bool, !((t.1.drop q).any fun n => decide (n.2.1 = x))⟩)
    (fun j => by
      show s_r42_Leaf_0 (run M k) _ x _ t.1 t.2 = _
      rw [List.drop_eq_nil_of_le (Nat.le_refl _)]
      simp [s_r42_Leaf_0])
    (fun q j hq ih => by
      show s_r42_Leaf_0 (run M k) _ x _ t.1 t.2 = _
      rw [any_drop _ _ q hq]
      simp only [s_r42_Leaf_0, inB_nat, rd_nat (t := tNodeType) t.1 q hq, hq, decide_true, Int.ofNat_lt, cond_true]
      rw [wrap_succ (by omega), ih]
      cases decide (t.1[q].2.1 = x) <;> rfl) 0 (Nat.zero_le _) k (by omega)
noncomputable def chainF (ns : List NodeD) : Nat → Int → List Int
  | 0, _ => []
  | f + 1, a => cond (decide (a < 0)) [] (a :: chainF ns f (rdN ns a).2.1)
theorem chainF_length (ns : List NodeD) : ∀ (f : Nat) (a : Int), (chainF ns f a).length ≤ f
  | 0, _ => Nat.le_refl _
  | f + 1, a => by
    rw [chainF]
    have := chainF_length ns f (rdN ns a).2.1
    cases decide (a < 0) with
    | true => exact Nat.zero_le _
    | false => simp only [cond_false, List.length_cons]; omega
theorem chainF_neg (ns : List NodeD) (f : Nat) {a : Int} (h : a < 0) : chainF ns f a = [] := by
  cases f with
  | zero => rfl
  | succ f => rw [chainF, decide_eq_true h]; rfl
theorem getI_nat {l : List (D tI)} {m : Nat} (h : m < l.length) : List.getD l (Int.toNat (m : Int)) (dflt E tI) = l[m] := by
  rw [Int.toNat_natCast, List.getD_eq_getElem?_getD, List.getElem?_eq_getElem h]; rfl
theorem Reverse_loop (k n : Nat) (hn : n ≤ 1000000) (x : List Int) : ∀ (j i : Nat) (l : List Int), l.length = n → l.Perm x → i ≤ n → n - i < j →
    ∃ r : List Int, l_slices_Reverse_int_0 (run M k) j (i : Int) ((n : Int) - 1 - (i : Int)) l = some ⟨.slice tI, r⟩ ∧ r.Perm x
  | 0, _, _, _, _, _, h => by omega
  | j + 1, i, l, hl, hp, hi, hj => by
    show ∃ r, s_slices_Reverse_int_0 (run M k) _ _ _ l = _ ∧ _
    by_cases h : (i : Int) < (n : Int) - 1 - (i : Int)
    · have hq : (n : Int) - 1 - (i : Int) = ((n - 1 - i : Nat) : Int) := by omega
      have h1 : i < l.length := by omega
      have h2 : n - 1 - i < l.length := by omega
      rw [hq]
      simp only [s_slices_Reverse_int_0, inB_nat, getI_nat h1, getI_nat h2, List.length_set, h1, h2, decide_true, cond_true, Int.ofNat_lt, show i < n - 1 - i by omega]
      rw [Int.toNat_natCast, Int.toNat_natCast, wrap_succ (by omega), wrap_id (x := ((n - 1 - i : Nat) : Int) - 1) (by omega) (by omega)]
      have hq2 : ((n - 1 - i : Nat) : Int) - 1 = (n : Int) - 1 - ((i + 1 : Nat) : Int) := by omega
      rw [hq2]
      refine Reverse_loop k n hn x j (i + 1) _ (by rw [List.length_set, List.length_set]; exact hl) ?_ (by omega) (by omega)
      exact (List.set_set_perm h1 h2).trans hp
    · simp only [s_slices_Reverse_int_0]
      rw [decide_eq_false h]
      exact ⟨l, rfl, hp⟩
theorem Reverse_int_ev (x : List Int) (hs : x.length ≤ 1000000) : ∀ k, x.length + 2 ≤ k → ∃ r : List Int, run M k f_slices_Reverse_int [.own tI x] = some ⟨.slice tI, r⟩ ∧ r.Perm x := by
  intro k hk
  obtain ⟨k, rfl⟩ : ∃ i, k = i + 1 := ⟨k - 1, by omega⟩
  rw [e_slices_Reverse_int, b_slices_Reverse_int, wrap_id (x := (x.length : Int) - 1) (by omega) (by omega)]
  have := Reverse_loop k x.length hs x k 0 x rfl (.refl _) (Nat.zero_le _) (by omega)
  rw [show (x.length : Int) - 1 - ((0 : Nat) : Int) = (x.length : Int) - 1 by omega] at this
  exact this
theorem line_loop (t : TypesD) (hs : t.1.length ≤ 20) (k : Nat) (hk : 200 ≤ k) : ∀ (f j : Nat) (a : Int) (acc : List Int), a < f → f ≤ 100 → a < t.1.length → Par t.1 a → acc.length + f ≤ 150 → f < j →
    ∃ r : List Int, l_types_line_0 (run M k) j a t.1 t.2 acc = some ⟨.slice tI, r⟩ ∧ r.Perm (acc ++ chainF t.1 f a) := by
  intro f
  induction f with
  | zero =>
    intro j a acc h1 _ _ _ hac hj
    obtain ⟨j, rfl⟩ : ∃ i, j = i + 1 := ⟨j - 1, by omega⟩
    show ∃ r, s_types_line_0 (run M k) _ _ _ _ acc = _ ∧ _
    simp only [s_types_line_0]
    rw [decide_eq_false (by omega)]
    obtain ⟨r, hr, hp⟩ := Reverse_int_ev acc (by omega) k (by omega)
    rw [cond_false, hr, res_some, bindS, decide_eq_true hp.length_eq]
    exact ⟨r, rfl, by simpa [chainF] using hp⟩
  | succ f ih =>
    intro j a acc h1 hf ha hp hac hj
    obtain ⟨j, rfl⟩ : ∃ i, j = i + 1 := ⟨j - 1, by omega⟩
    show ∃ r, s_types_line_0 (run M k) _ _ _ _ acc = _ ∧ _
    simp only [s_types_line_0]
    by_cases h0 : (0 : Int) ≤ a
    · rw [decide_eq_true h0, cond_true]
      have hroom : roomy (acc.length + ([a] : List (D tI)).length) 8 = true := by
        unfold roomy; exact decide_eq_true (by simp only [List.length_singleton]; omega)
      have hin : inB a (t.1.length : Int) = true := by simp [inB]; omega
      rw [hroom, cond_true, hin, cond_true]
      have hpar := hp a.toNat (by omega)
      rw [show ((a.toNat : Nat) : Int) = a by omega] at hpar
      obtain ⟨r, hr, hq⟩ := ih j (rdN t.1 a).2.1 (acc ++ [a]) (by omega) (by omega) (by omega) (fun i hi => hp i (by omega)) (by rw [List.length_append, List.length_singleton]; omega) (by omega)
      refine ⟨r, hr, ?_⟩
      rw [chainF, decide_eq_false (by omega), cond_false]
      simpa using hq
    · rw [decide_eq_false h0, cond_false, chainF_neg t.1 (f + 1) (by omega), List.append_nil]
      obtain ⟨r, hr, hp⟩ := Reverse_int_ev acc (by omega) k (by omega)
      rw [hr, res_some, bindS, decide_eq_true hp.length_eq]
      exact ⟨r, rfl, hp⟩
noncomputable def isB (ns : List NodeD) (a b : Int) : Bool := (chainF ns 100 a).any fun y => decide (b = y)
theorem types_is_ev (t : TypesD) (hs : t.1.length ≤ 20) (a b : Int) (ha : a < t.1.length) (hp : Par t.1 a) : ∀ k, 300 ≤ k → run M k f_types_is [.val tTypes t, .val tI a, .val tI b] = some ⟨.bool, isB t.1 a b⟩ := by
  intro k hk
  obtain ⟨k, rfl⟩ : ∃ i, k = i + 1 := ⟨k - 1, by omega⟩
  have hr : 1000 ≤ reachBytes := by decide
  obtain ⟨k2, rfl⟩ : ∃ i, k = i + 1 := ⟨k - 1, by omega⟩
  obtain ⟨r, hl, hq⟩ := line_loop t hs k2 (by omega) 100 k2 a [] (by omega) (by omega) ha hp (by simp) (by omega)
  have hline : run M (k2 + 1) f_types_line [.val tTypes t, .val tI a] = some ⟨.slice tI, r⟩ := by
    rw [e_types_line, b_types_line]; exact hl
  have hlen := hq.length_eq
  rw [List.nil_append] at hlen hq
  have hcl := chainF_length t.1 100 a
  rw [e_types_is, b_types_is]
  show Option.bind (res (.slice tI) (run M (k2 + 1) f_types_line [.val tTypes t, .val tI a])) _ = _
  rw [hline, res_some, bindS, Contains_int_ev b (by omega) (k2 + 1) (by omega), res_some, bindS]
  unfold isB
  rw [hq.any_eq]
theorem r04_Below1_ev (t : TypesD) (hs : t.1.length ≤ 20) (b : Int) (hb : 0 ≤ b) : ∀ (f : Nat) (a : Int), a < f → f ≤ 100 → a < t.1.length → Par t.1 a → ∀ k, f + 1 ≤ k → run M k f_r04_Below1 [.val tTypes t, .val tI a, .val tI b] = some ⟨.bool, (chainF t.1 f a).any fun y => decide (b = y)⟩ := by
  intro f
  induction f with
  | zero =>
    intro a h1 _ _ _ k hk
    obtain ⟨k, rfl⟩ : ∃ i, k = i + 1 := ⟨k - 1, by omega⟩
    rw [e_r04_Below1, b_r04_Below1, decide_eq_false (show ¬ a = b by omega), decide_eq_false (show ¬ (0 : Int) ≤ a by omega)]
    cases inB a (t.1.length : Int) <;> rfl
  | succ f ih =>
    intro a h1 hf ha hp k hk
    obtain ⟨k, rfl⟩ : ∃ i, k = i + 1 := ⟨k - 1, by omega⟩
    rw [e_r04_Below1, b_r04_Below1]
    by_cases h0 : (0 : Int) ≤ a
    · have hin : inB a (t.1.length : Int) = true := by simp [inB]; omega
      rw [hin, chainF, decide_eq_false (show ¬ a < 0 by omega), decide_eq_true h0]
      simp only [Bool.true_or, cond_true, cond_false, Bool.and_true, List.any_cons]
      have hpar := hp a.toNat (by omega)
      rw [show ((a.toNat : Nat) : Int) = a by omega] at hpar
      by_cases he : a = b
      · rw [decide_eq_true he, decide_eq_true he.symm]; rfl
      · rw [decide_eq_false he, decide_eq_false (fun e => he e.symm)]
        simp only [Bool.not_false, cond_true, cond_false, Bool.false_or]
        show Option.bind (res .bool (run M k f_r04_Below1 [.val tTypes t, .val tI (rdN t.1 a).2.1, .val tI b])) _ = _
        rw [ih (rdN t.1 a).2.1 (by omega) (by omega) (by omega) (fun i hi => hp i (by omega)) k (by omega), res_some, bindS]
    · rw [decide_eq_false (show ¬ a = b by omega), decide_eq_false h0, chainF_neg t.1 (f + 1) (by omega)]
      cases inB a (t.1.length : Int) <;> rfl
end Go.Proofs.AM

namespace Go.Proofs.AM
open Go
theorem firstP_zero {α : Type} {f : Nat → Int} {nm : α → ByteArray} {z : ByteArray × Int} : ∀ {m : Nat} {l : List α}, (firstP f nm z m l).2 = 0 → z.2 = 0 ∧ ∀ i, m ≤ i → i < m + l.length → f i = 0
  | m, [], h => ⟨h, fun i h1 h2 => by simp at h2; omega⟩
  | m, x :: r, h => by
    unfold firstP at h
    by_cases h0 : f m = 0
    · rw [decide_eq_true h0] at h
      obtain ⟨a, b⟩ := firstP_zero (m := m + 1) (l := r) h
      refine ⟨a, fun i h1 h2 => ?_⟩
      rcases Nat.eq_or_lt_of_le h1 with e | e
      · subst e; exact h0
      · exact b i e (by simp only [List.length_cons] at h2; omega)
    · rw [decide_eq_false h0] at h
      exact absurd h h0
theorem typesP_zero {t : TypesD} (h : (typesP t).2 = 0) : (∀ i, i < t.1.length → nodeE t i = 0) ∧ ∀ i, i < t.2.length → etypeE t i = 0 := by
  unfold typesP at h
  cases h1 : decide ((t.1.length : Int) = (0 : Int)) with
  | true => rw [h1] at h; cases h
  | false =>
    rw [h1] at h
    cases h2 : (cond (decide ((12 : Int) < (t.1.length : Int))) true (decide ((20 : Int) < (t.2.length : Int)))) with
    | true => rw [h2] at h; cases h
    | false =>
      rw [h2] at h
      obtain ⟨a, b⟩ := firstP_zero h
      obtain ⟨c, d⟩ := firstP_zero a
      exact ⟨fun i hi => b i (Nat.zero_le _) (by omega), fun i hi => d i (Nat.zero_le _) (by omega)⟩
theorem par_of {t : TypesD} (h : ∀ i, i < t.1.length → nodeE t i = 0) {a : Int} (ha : a < t.1.length) : Par t.1 a := fun i hi => (nodeE_zero (h i (by omega))).2
theorem etypeE_zero {t : TypesD} {i : Nat} (h : etypeE t i = 0) : insideB t.1.length (rdT t.2 i).2.1 = true ∧ insideB t.1.length (rdT t.2 i).2.2.1 = true := by
  unfold etypeE at h
  cases h1 : isName (by_ (rdT t.2 i).1) with
  | false => rw [h1] at h; cases h
  | true =>
    rw [h1] at h
    cases h2 : ((t.2.take i).any fun y => beqS y.1 (rdT t.2 i).1) with
    | true => rw [h2] at h; cases h
    | false =>
      rw [h2] at h
      cases h3 : insideB t.1.length (rdT t.2 i).2.1 with
      | false => rw [h3] at h; cases h
      | true =>
        cases h4 : insideB t.1.length (rdT t.2 i).2.2.1 with
        | false => rw [h3, h4] at h; cases h
        | true => exact ⟨rfl, rfl⟩
theorem inside_iff {n : Nat} {x : Int} : insideB n x = true ↔ 0 ≤ x ∧ x < n := by
  unfold insideB
  cases h1 : decide ((0 : Int) ≤ x) with
  | false => have := of_decide_eq_false h1; simp; omega
  | true => have := of_decide_eq_true h1; simp; omega
noncomputable def fitsB (t : TypesD) (ty a b : Int) : Bool :=
  cond (insideB t.1.length a && (insideB t.1.length b && insideB t.2.length ty)) (isB t.1 a (rdT t.2 ty).2.1 && isB t.1 b (rdT t.2 ty).2.2.1) false
theorem types_given_ev (t : TypesD) (hs : SmallT t) (hv : (typesP t).2 = 0) (a b : Int) : ∀ k, 2200 ≤ k → run M k f_types_given [.val tTypes t, .val (.slice tI) ([a, b] : List Int)] = some ⟨tI, cond (insideB t.1.length a && insideB t.1.length b) 0 6⟩ := by
  intro k hk
  obtain ⟨k, rfl⟩ : ∃ i, k = i + 1 := ⟨k - 1, by omega⟩
  rw [e_types_given, b_types_given]
  show Option.bind (res (.pair .str tI) (run M k f_types_Valid [.val tTypes t])) _ = _
  rw [types_Valid_ev t hs k (by omega), res_some, bindS, decide_eq_true hv]
  simp only [Bool.not_true, cond_false]
  rw [ContainsFunc_int_ev (p := fun x => cond (decide (x < (0 : Int))) true (decide ((t.1.length : Int) ≤ x))) (c := 1) (fun y _ k hk => by
    obtain ⟨k, rfl⟩ : ∃ i, k = i + 1 := ⟨k - 1, by omega⟩
    exact e_types_given_1 k y t) (by simp; decide) k (by simp; omega), res_some, bindS]
  have hx : ∀ x : Int, (cond (decide (x < (0 : Int))) true (decide ((t.1.length : Int) ≤ x))) = !insideB t.1.length x := by
    intro x
    unfold insideB
    by_cases h1 : x < 0
    · rw [decide_eq_true h1, decide_eq_false (show ¬ (0 : Int) ≤ x by omega)]; rfl
    · rw [decide_eq_false h1, decide_eq_true (show (0 : Int) ≤ x by omega)]
      by_cases h2 : x < (t.1.length : Int)
      · rw [decide_eq_true h2, decide_eq_false (show ¬ (t.1.length : Int) ≤ x by omega)]; rfl
      · rw [decide_eq_false h2, decide_eq_true (show (t.1.length : Int) ≤ x by omega)]; rfl
  simp only [hx, List.any_cons, List.any_nil]
  cases insideB t.1.length a <;> cases insideB t.1.length b <;> rfl
theorem types_Fits_ev (t : TypesD) (hs : SmallT t) (hv : (typesP t).2 = 0) (ty a b : Int) : ∀ k, 2300 ≤ k → run M k f_types_Fits [.val tTypes t, .val tI ty, .val tI a, .val tI b] = some ⟨.bool, fitsB t ty a b⟩ := by
  intro k hk
  obtain ⟨k, rfl⟩ : ∃ i, k = i + 1 := ⟨k - 1, by omega⟩
  obtain ⟨hn, he⟩ := typesP_zero hv
  rw [e_types_Fits, b_types_Fits]
  show Option.bind (res tI (run M k f_types_given [.val tTypes t, .val (.slice tI) ([a, b] : List Int)])) _ = _
  rw [types_given_ev t hs hv a b k (by omega), res_some, bindS]
  unfold fitsB
  cases h1 : insideB t.1.length a with
  | false => rfl
  | true =>
    cases h2 : insideB t.1.length b with
    | false => rfl
    | true =>
      have g1 := inside_iff.1 h1
      have g2 := inside_iff.1 h2
      cases h3 : insideB t.2.length ty with
      | false =>
        have : (cond (decide (ty < (0 : Int))) true (decide ((t.2.length : Int) ≤ ty))) = true := by
          by_cases h : ty < 0
          · rw [decide_eq_true h]; rfl
          · rw [decide_eq_false h]
            refine decide_eq_true (p := (t.2.length : Int) ≤ ty) ?_
            refine Int.not_lt.1 fun h' => ?_
            rw [inside_iff.2 ⟨by omega, h'⟩] at h3; cases h3
        simp only [Bool.and_self, cond_true, decide_true, Bool.not_true, cond_false, this]
        rfl
      | true =>
        have g3 := inside_iff.1 h3
        have hin : inB ty (t.2.length : Int) = true := by simp [inB]; omega
        simp only [Bool.and_self, cond_true, decide_true, Bool.not_true, cond_false, decide_eq_false (show ¬ ty < 0 by omega), decide_eq_false (show ¬ (t.2.length : Int) ≤ ty by omega), hin, Bool.true_or]
        show Option.bind (res .bool (run M k f_types_is [.val tTypes t, .val tI a, .val tI (rdT t.2 ty).2.1])) (fun r2 => Option.bind (cond r2 (res .bool (run M k f_types_is [.val tTypes t, .val tI b, .val tI (rdT t.2 ty).2.2.1])) (some (dflt E .bool))) _) = _
        rw [types_is_ev t hs.1.1 a _ g1.2 (par_of hn g1.2) k (by omega), types_is_ev t hs.1.1 b _ g2.2 (par_of hn g2.2) k (by omega), res_some, bindS, res_some]
        cases isB t.1 a (rdT t.2 ty).2.1 <;> cases isB t.1 b (rdT t.2 ty).2.2.1 <;> rfl
theorem r04_given_ev (t : TypesD) (hs : SmallT t) (hv : (typesP t).2 = 0) (a b : Int) : ∀ k, 2200 ≤ k → run M k f_r04_given [.val tTypes t, .val tI a, .val tI b] = some ⟨tI, cond (insideB t.1.length a && insideB t.1.length b) 0 6⟩ := by
  intro k hk
  obtain ⟨k, rfl⟩ : ∃ i, k = i + 1 := ⟨k - 1, by omega⟩
  have hl := hs.1.1
  rw [e_r04_given, b_r04_given]
  show Option.bind (res (.pair .str tI) (run M k f_r04_Valid [.val tTypes t])) _ = _
  rw [r04_Valid_ev t hs k (by omega), res_some, bindS, decide_eq_true hv]
  simp only [Bool.not_true, cond_false]
  have hin : ∀ x : Int, run M k f_r04_in [.val tI x, .val tI (0 : Int), .val tI ((t.1.length : Int) - 1)] = some ⟨.bool, insideB t.1.length x⟩ := by
    intro x
    rw [r04_in_ev _ _ _ k (by omega), le_pred]; rfl
  rw [wrap_id (x := (t.1.length : Int) - 1) (by omega) (by omega), hin, hin, res_some, bindS, res_some]
  cases insideB t.1.length a <;> cases insideB t.1.length b <;> rfl
theorem r04_Fits_ev (t : TypesD) (hs : SmallT t) (hv : (typesP t).2 = 0) (ty a b : Int) : ∀ k, 2300 ≤ k → run M k f_r04_Fits [.val tTypes t, .val tI ty, .val tI a, .val tI b] = some ⟨.bool, fitsB t ty a b⟩ := by
  intro k hk
  obtain ⟨k, rfl⟩ : ∃ i, k = i + 1 := ⟨k - 1, by omega⟩
  obtain ⟨hn, he⟩ := typesP_zero hv
  have hl := hs.1.1
  have hl2 := hs.2.1
  rw [e_r04_Fits, b_r04_Fits]
  show Option.bind (res tI (run M k f_r04_given [.val tTypes t, .val tI a, .val tI b])) _ = _
  have hin : run M k f_r04_in [.val tI ty, .val tI (0 : Int), .val tI ((t.2.length : Int) - 1)] = some ⟨.bool, insideB t.2.length ty⟩ := by
    rw [r04_in_ev _ _ _ k (by omega), le_pred]; rfl
  rw [r04_given_ev t hs hv a b k (by omega), res_some, bindS, wrap_id (x := (t.2.length : Int) - 1) (by omega) (by omega), hin, res_some]
  unfold fitsB
  cases h1 : insideB t.1.length a with
  | false => rfl
  | true =>
    cases h2 : insideB t.1.length b with
    | false => rfl
    | true =>
      have g1 := inside_iff.1 h1
      have g2 := inside_iff.1 h2
      cases h3 : insideB t.2.length ty with
      | false => rfl
      | true =>
        have g3 := inside_iff.1 h3
        have hin : inB ty (t.2.length : Int) = true := by simp [inB]; omega
        have hq : ((ty.toNat : Nat) : Int) = ty := by omega
        obtain ⟨e1, e2⟩ := etypeE_zero (he ty.toNat (by omega))
        rw [hq] at e1 e2
        have e1 := inside_iff.1 e1
        have e2 := inside_iff.1 e2
        simp only [Bool.and_self, cond_true, decide_true, Bool.not_true, Bool.not_false, cond_false, bindS, hin, Bool.true_or]
        show Option.bind (res .bool (run M k f_r04_Below1 [.val tTypes t, .val tI a, .val tI (rdT t.2 ty).2.1])) (fun r2 => Option.bind (cond r2 (res .bool (run M k f_r04_Below1 [.val tTypes t, .val tI b, .val tI (rdT t.2 ty).2.2.1])) (some (dflt E .bool))) _) = _
        have hA : run M k f_r04_Below1 [.val tTypes t, .val tI a, .val tI (rdT t.2 ty).2.1] = some ⟨.bool, isB t.1 a (rdT t.2 ty).2.1⟩ := r04_Below1_ev t hl _ e1.1 100 a (by omega) (by omega) g1.2 (par_of hn g1.2) k (by omega)
        have hB : run M k f_r04_Below1 [.val tTypes t, .val tI b, .val tI (rdT t.2 ty).2.2.1] = some ⟨.bool, isB t.1 b (rdT t.2 ty).2.2.1⟩ := r04_Below1_ev t hl _ e2.1 100 b (by omega) (by omega) g2.2 (par_of hn g2.2) k (by omega)
        rw [hA, hB, res_some, bindS, res_some]
        cases isB t.1 a (rdT t.2 ty).2.1 <;> cases isB t.1 b (rdT t.2 ty).2.2.1 <;> rfl
end Go.Proofs.AM

namespace Go.Proofs.AM
open Go
def nodeBad (t : TypesD) (x : Int) : Bool := cond (decide ((t.1.length : Int) ≤ x)) true (!leafB t.1 x)
noncomputable def edgeBad (t : TypesD) (g : GraphD) (e : Int × (Int × Int)) : Bool := !fitsB t e.1 (rdI g.1 e.2.1) (rdI g.1 e.2.2)
noncomputable def leavesB (t : TypesD) (g : GraphD) : Bool := cond (g.1.any (nodeBad t)) false (!(g.2.any (edgeBad t g)))
theorem constraint_leaves_ev (t : TypesD) (hs : SmallT t) (hv : (typesP t).2 = 0) (g : GraphD) (hg : graphE g = 0) : ∀ k, 2500 ≤ k → run M k f_constraint_leaves [.val tTypes t, .val tGraph g] = some ⟨.bool, leavesB t g⟩ := by
  intro k hk
  obtain ⟨k, rfl⟩ : ∃ i, k = i + 1 := ⟨k - 1, by omega⟩
  have hr : 1000 ≤ reachBytes := by decide
  obtain ⟨g1, g2, _, g4⟩ := graphE_zero hg
  rw [e_constraint_leaves, b_constraint_leaves]
  exact loop_down (n := g.1.length) (F := fun j i => l_constraint_leaves_0 (run M k) j g.1 g.1.length i t.1 t.2 g.1 g.2) (G := fun q => some ⟨.bool, cond ((g.1.drop q).any (nodeBad t)) false (!(g.2.any (edgeBad t g)))⟩)
    (fun j => by
      show s_constraint_leaves_0 (run M k) _ g.1 _ _ t.1 t.2 g.1 g.2 = _
      rw [List.drop_eq_nil_of_le (Nat.le_refl _)]
      simp only [s_constraint_leaves_0, Int.lt_irrefl, decide_false, cond_false, List.any_nil]
      rw [ContainsFunc_Edge_ev (p := edgeBad t g) (c := 2400) (fun e he k hk => by
        obtain ⟨k, rfl⟩ : ∃ i, k = i + 1 := ⟨k - 1, by omega⟩
        show run M (k + 1) f_constraint_leaves_1 [.val tEdge e, .ro tTypes t, .ro tGraph g] = _
        obtain ⟨_, h1, h2⟩ := edgeB_ends (g4 e he)
        rw [e_constraint_leaves_1, b_constraint_leaves_1, h1, h2, cond_true, cond_true]
        show Option.bind (res .bool (run M k f_types_Fits [.val tTypes t, .val tI e.1, .val tI (rdI g.1 e.2.1), .val tI (rdI g.1 e.2.2)])) _ = _
        rw [types_Fits_ev t hs hv _ _ _ k (by omega), res_some, bindS]
        rfl) (by omega) k (by omega), res_some, bindS])
    (fun q j hq ih => by
      show s_constraint_leaves_0 (run M k) _ g.1 _ _ t.1 t.2 g.1 g.2 = _
      rw [any_drop _ _ q hq]
      simp only [s_constraint_leaves_0, inB_nat, rd_nat (t := tI) g.1 q hq, hq, decide_true, Int.ofNat_lt, cond_true]
      rw [wrap_succ (by omega), ih]
      show Option.bind (cond (!(decide ((t.1.length : Int) ≤ g.1[q]))) (res .bool (run M k f_constraint_leaf [.val tTypes t, .val tI g.1[q]])) (some (dflt E .bool))) _ = _
      rw [constraint_leaf_ev t _ hs.1.1 k (by omega), res_some]
      unfold nodeBad
      cases decide ((t.1.length : Int) ≤ g.1[q]) <;> cases leafB t.1 g.1[q] <;> rfl) 0 (Nat.zero_le _) k (by omega)
theorem r42_Leaves_ev (t : TypesD) (hs : SmallT t) (hv : (typesP t).2 = 0) (g : GraphD) (hg : graphE g = 0) : ∀ k, 2500 ≤ k → run M k f_r42_Leaves [.val tTypes t, .val tGraph g] = some ⟨.bool, leavesB t g⟩ := by
  intro k hk
  obtain ⟨k, rfl⟩ : ∃ i, k = i + 1 := ⟨k - 1, by omega⟩
  have hr : 1000 ≤ reachBytes := by decide
  obtain ⟨g1, g2, _, g4⟩ := graphE_zero hg
  rw [e_r42_Leaves, b_r42_Leaves]
  have hE := loop_down (n := g.2.length) (F := fun j i => l_r42_Leaves_2 (run M k) j i t.1 t.2 g.1 g.2) (G := fun q => some ⟨.bool, !((g.2.drop q).any (edgeBad t g))⟩)
    (fun j => by
      show s_r42_Leaves_2 (run M k) _ _ t.1 t.2 g.1 g.2 = _
      rw [List.drop_eq_nil_of_le (Nat.le_refl _)]
      simp [s_r42_Leaves_2])
    (fun q j hq ih => by
      show s_r42_Leaves_2 (run M k) _ _ t.1 t.2 g.1 g.2 = _
      rw [any_drop _ _ q hq]
      obtain ⟨_, h1, h2⟩ := edgeB_ends (g4 _ (List.getElem_mem hq))
      simp only [s_r42_Leaves_2, inB_nat, rd_nat (t := tEdge) g.2 q hq, hq, decide_true, Int.ofNat_lt, cond_true]
      rw [h1, h2, cond_true, cond_true, wrap_succ (by omega), ih]
      show Option.bind (res .bool (run M k f_r04_Fits [.val tTypes t, .val tI g.2[q].1, .val tI (rdI g.1 g.2[q].2.1), .val tI (rdI g.1 g.2[q].2.2)])) _ = _
      rw [r04_Fits_ev t hs hv _ _ _ k (by omega), res_some, bindS]
      unfold edgeBad
      cases fitsB t g.2[q].1 (rdI g.1 g.2[q].2.1) (rdI g.1 g.2[q].2.2) <;> rfl) 0 (Nat.zero_le _) k (by omega)
  exact loop_down (n := g.1.length) (F := fun j i => l_r42_Leaves_0 (run M k) (l_r42_Leaves_2 (run M k) k) j i t.1 t.2 g.1 g.2) (G := fun q => some ⟨.bool, cond ((g.1.drop q).any (nodeBad t)) false (!(g.2.any (edgeBad t g)))⟩)
    (fun j => by
      show s_r42_Leaves_0 (run M k) _ _ _ t.1 t.2 g.1 g.2 = _
      rw [List.drop_eq_nil_of_le (Nat.le_refl _)]
      simp only [s_r42_Leaves_0, Int.lt_irrefl, decide_false, cond_false, List.any_nil]
      exact hE)
    (fun q j hq ih => by
      show s_r42_Leaves_0 (run M k) _ _ _ t.1 t.2 g.1 g.2 = _
      rw [any_drop _ _ q hq]
      simp only [s_r42_Leaves_0, inB_nat, rd_nat (t := tI) g.1 q hq, hq, decide_true, Int.ofNat_lt, cond_true, Bool.true_or]
      rw [wrap_succ (by omega), ih]
      show Option.bind (cond (!(decide ((t.1.length : Int) ≤ g.1[q]))) (res .bool (run M k f_r42_Leaf [.val tTypes t, .val tI g.1[q]])) (some (dflt E .bool))) _ = _
      rw [r42_Leaf_ev t _ hs.1.1 k (by omega), res_some]
      unfold nodeBad
      cases decide ((t.1.length : Int) ≤ g.1[q]) <;> cases leafB t.1 g.1[q] <;> rfl) 0 (Nat.zero_le _) k (by omega)
theorem firstE_zero {α : Type} {f : Nat → α → Int} : ∀ {m : Nat} {l : List α}, firstE f m l = 0 → ∀ i (h : i < l.length), f (m + i) l[i] = 0
  | m, x :: r, h, i, hi => by
    unfold firstE at h
    by_cases h0 : f m x = 0
    · rw [decide_eq_true h0] at h
      cases i with
      | zero => exact h0
      | succ i =>
        have := firstE_zero (m := m + 1) (l := r) h i (by simpa using hi)
        rw [show m + (i + 1) = m + 1 + i by omega]
        exact this
    · rw [decide_eq_false h0] at h; exact absurd h h0
theorem shapeE_zero {c : ConD} (h : shapeE c = 0) : graphE c.2.2.1 = 0 ∧ c.2.2.2.length ≤ 6 ∧ ∀ x ∈ c.2.2.2, graphE x.2 = 0 := by
  unfold shapeE at h
  cases h1 : isName (by_ c.1) with
  | false => rw [h1] at h; cases h
  | true =>
    rw [h1] at h
    cases h2 : (cond (cond (!(decide (c.2.1 = (1 : Int)))) (!(decide (c.2.1 = (2 : Int)))) false) true (cond (decide (c.2.1 = (1 : Int))) (decide ((0 : Int) < (c.2.2.2.length : Int))) false)) with
    | true => rw [h2] at h; cases h
    | false =>
      cases h3 : (cond (decide (c.2.1 = (2 : Int))) (decide ((c.2.2.2.length : Int) = (0 : Int))) false) with
      | true => rw [h2, h3] at h; cases h
      | false =>
        cases h4 : decide ((6 : Int) < (c.2.2.2.length : Int)) with
        | true => rw [h2, h3, h4] at h; cases h
        | false =>
          rw [h2, h3, h4] at h
          have h4 := of_decide_eq_false h4
          by_cases h5 : graphE c.2.2.1 = 0
          case neg => rw [decide_eq_false h5] at h; exact absurd h h5
          rw [decide_eq_true h5] at h
          cases h6 : largeB c.2.2.1 with
          | true => rw [h6] at h; cases h
          | false =>
            rw [h6] at h
            refine ⟨h5, by omega, fun x hx => ?_⟩
            obtain ⟨i, hi, rfl⟩ := List.getElem_of_mem hx
            have he : extE c.2.2.1 c.2.2.2[i] = 0 := firstE_zero h i hi
            unfold extE at he
            by_cases hm : morE c.2.2.1 c.2.2.2[i].2 c.2.2.2[i].1 = 0
            · exact (morE_zero hm).2.1
            · rw [decide_eq_false hm] at he; exact absurd he hm
noncomputable def validE (t : TypesD) (c : ConD) : Int :=
  cond (!(decide ((typesP t).2 = 0))) (typesP t).2 (cond (!(decide (shapeE c = 0))) (shapeE c) (cond (!leavesB t c.2.2.1) 13 (cond (c.2.2.2.any fun x => !leavesB t x.2) 13 0)))
theorem constraint_Valid_ev (t : TypesD) (hs : SmallT t) (c : ConD) (hn : c.1.size ≤ 60) : ∀ k, 2600 ≤ k → run M k f_constraint_Valid [.val tTypes t, .val tConstraint c] = some ⟨tI, validE t c⟩ := by
  intro k hk
  obtain ⟨k, rfl⟩ : ∃ i, k = i + 1 := ⟨k - 1, by omega⟩
  have hr : 1000 ≤ reachBytes := by decide
  rw [e_constraint_Valid, b_constraint_Valid]
  show Option.bind (res (.pair .str tI) (run M k f_types_Valid [.val tTypes t])) _ = _
  rw [types_Valid_ev t hs k (by omega), res_some, bindS]
  unfold validE
  by_cases hv : (typesP t).2 = 0
  case neg => rw [decide_eq_false hv]; rfl
  rw [decide_eq_true hv]
  simp only [Bool.not_true, cond_false]
  show Option.bind (res tI (run M k f_constraint_shape [.val tConstraint c])) _ = _
  rw [constraint_shape_ev c hn k (by omega), res_some, bindS]
  by_cases hsh : shapeE c = 0
  case neg => rw [decide_eq_false hsh]; rfl
  rw [decide_eq_true hsh]
  simp only [Bool.not_true, cond_false]
  obtain ⟨g0, gl, gx⟩ := shapeE_zero hsh
  show Option.bind (res .bool (run M k f_constraint_leaves [.val tTypes t, .val tGraph c.2.2.1])) _ = _
  rw [constraint_leaves_ev t hs hv c.2.2.1 g0 k (by omega), res_some, bindS]
  cases leavesB t c.2.2.1 with
  | false => rfl
  | true =>
    simp only [Bool.not_true, Bool.not_false, cond_true]
    show Option.bind (res .bool (run M k f_slices_ContainsFunc_Extension [.val (.slice tExtension) c.2.2.2, .fn f_constraint_Valid_1 [⟨tTypes, t⟩]])) _ = _
    rw [ContainsFunc_Extension_ev (p := fun x => !leavesB t x.2) (c := 2510) (fun x hx k hk => by
      obtain ⟨k, rfl⟩ : ∃ i, k = i + 1 := ⟨k - 1, by omega⟩
      show run M (k + 1) f_constraint_Valid_1 [.val tExtension x, .ro tTypes t] = _
      rw [e_constraint_Valid_1, b_constraint_Valid_1]
      show Option.bind (res .bool (run M k f_constraint_leaves [.val tTypes t, .val tGraph x.2])) _ = _
      rw [constraint_leaves_ev t hs hv x.2 (gx x hx) k (by omega), res_some, bindS]) (by omega) k (by omega), res_some, bindS]
    cases (c.2.2.2.any fun x => !leavesB t x.2) <;> rfl
theorem r42_Valid_ev (t : TypesD) (hs : SmallT t) (c : ConD) (hn : c.1.size ≤ 60) : ∀ k, 2600 ≤ k → run M k f_r42_Valid [.val tTypes t, .val tConstraint c] = some ⟨tI, validE t c⟩ := by
  intro k hk
  obtain ⟨k, rfl⟩ : ∃ i, k = i + 1 := ⟨k - 1, by omega⟩
  have hr : 1000 ≤ reachBytes := by decide
  rw [e_r42_Valid, b_r42_Valid]
  show Option.bind (res (.pair .str tI) (run M k f_r04_Valid [.val tTypes t])) _ = _
  rw [r04_Valid_ev t hs k (by omega), res_some, bindS]
  unfold validE
  by_cases hv : (typesP t).2 = 0
  case neg => rw [decide_eq_false hv]; rfl
  rw [decide_eq_true hv]
  simp only [Bool.not_true, cond_false]
  show Option.bind (res tI (run M k f_r42_Shape [.val tConstraint c])) _ = _
  rw [r42_Shape_ev c hn k (by omega), res_some, bindS]
  by_cases hsh : shapeE c = 0
  case neg => rw [decide_eq_false hsh]; rfl
  rw [decide_eq_true hsh]
  simp only [Bool.not_true, cond_false]
  obtain ⟨g0, gl, gx⟩ := shapeE_zero hsh
  show Option.bind (res .bool (run M k f_r42_Leaves [.val tTypes t, .val tGraph c.2.2.1])) _ = _
  rw [r42_Leaves_ev t hs hv c.2.2.1 g0 k (by omega), res_some, bindS]
  cases leavesB t c.2.2.1 with
  | false => rfl
  | true =>
    simp only [Bool.not_true, cond_false]
    exact loop_down (n := c.2.2.2.length) (F := fun j i => l_r42_Valid_0 (run M k) j i t.1 t.2 c.1 c.2.1 c.2.2.1.1 c.2.2.1.2 c.2.2.2) (G := fun q => some ⟨tI, cond ((c.2.2.2.drop q).any fun x => !leavesB t x.2) (13 : Int) 0⟩)
      (fun j => by
        show s_r42_Valid_0 (run M k) _ _ t.1 t.2 c.1 c.2.1 c.2.2.1.1 c.2.2.1.2 c.2.2.2 = _
        rw [List.drop_eq_nil_of_le (Nat.le_refl _)]
        simp [s_r42_Valid_0])
      (fun q j hq ih => by
        show s_r42_Valid_0 (run M k) _ _ t.1 t.2 c.1 c.2.1 c.2.2.1.1 c.2.2.1.2 c.2.2.2 = _
        rw [any_drop _ _ q hq]
        simp only [s_r42_Valid_0, inB_nat, rd_nat (t := tExtension) c.2.2.2 q hq, hq, decide_true, Int.ofNat_lt, cond_true]
        rw [wrap_succ (by omega), ih]
        show Option.bind (res .bool (run M k f_r42_Leaves [.val tTypes t, .val tGraph c.2.2.2[q].2])) _ = _
        rw [r42_Leaves_ev t hs hv _ (gx _ (List.getElem_mem hq)) k (by omega), res_some, bindS]
        cases leavesB t c.2.2.2[q].2 <;> rfl) 0 (Nat.zero_le _) k (by omega)
end Go.Proofs.AM

namespace Go.Proofs.AM
open Go
abbrev CD : Type := D (.nom 0)
theorem repack0 (x : Cond) : (E.cl 0 ((E.op 0 x).1, (((E.op 0 x).2).1, ((((((E.op 0 x).2).2).1).1, ((((E.op 0 x).2).2).1).2), (((((((E.op 0 x).2).2).2).1).1, (((((E.op 0 x).2).2).2).1).2), ((((((E.op 0 x).2).2).2).2).1, (((((((E.op 0 x).2).2).2).2).2).1, ((((((E.op 0 x).2).2).2).2).2).2)))))) : Cond) = x := by cases x; rfl
theorem repack (x : CD) : (E.cl 0 ((E.op 0 x).1, (((E.op 0 x).2).1, ((((((E.op 0 x).2).2).1).1, ((((E.op 0 x).2).2).1).2), (((((((E.op 0 x).2).2).2).1).1, (((((E.op 0 x).2).2).2).1).2), ((((((E.op 0 x).2).2).2).2).1, (((((((E.op 0 x).2).2).2).2).2).1, ((((((E.op 0 x).2).2).2).2).2).2)))))) : CD) = x := repack0 x
abbrev SlotD := Int × (Int × (Int × Int))
abbrev TestD := Int × ((Int × Int) × (Int × Int))
noncomputable def mkC (kind : Int) (kids : List CD) (m : MorD) (g : GraphD) : CD := E.cl 0 (kind, (kids, (m, (g, (([] : List SlotD), ((0 : Int), ([] : List TestD)))))))
noncomputable def exC (m : MorD) (g : GraphD) (x : CD) : CD := mkC 5 [x] m g
noncomputable def notC (x : CD) : CD := mkC 2 [x] ([], []) ([], [])
noncomputable def trueC : CD := mkC 1 [] ([], []) ([], [])
theorem Clone_Edge_ev (xs : List (Int × (Int × Int))) (hs : xs.length ≤ 1000000) : ∀ k, 1 ≤ k → run M k f_slices_Clone_Edge [.val (.slice tEdge) xs] = some ⟨.slice tEdge, xs⟩ := by
  intro k hk
  obtain ⟨k, rfl⟩ : ∃ i, k = i + 1 := ⟨k - 1, by omega⟩
  rw [e_slices_Clone_Edge, b_slices_Clone_Edge]
  cases xs with
  | nil => rfl
  | cons x r =>
    have h1 : roomy (([] : List (D tEdge)).length + (x :: r : List (Int × (Int × Int))).length) 24 = true := by
      unfold roomy
      refine decide_eq_true ?_
      simp only [List.length_nil, List.length_cons] at hs ⊢
      omega
    have h2 : decide (0 < (x :: r : List (Int × (Int × Int))).length) = true := by simp
    rw [h2, cond_true, h1, cond_true]
    rfl
theorem constraint_exists_ev (m : MorD) (g : GraphD) (x : CD) (h1 : m.1.length ≤ 1000) (h2 : m.2.length ≤ 1000) (h3 : g.1.length ≤ 1000) (h4 : g.2.length ≤ 1000) : ∀ k, 4 ≤ k → run M k f_constraint_exists [.val tMorphism m, .val tGraph g, .val (.nom 0) x] = some ⟨.nom 0, exC m g x⟩ := by
  intro k hk
  obtain ⟨k, rfl⟩ : ∃ i, k = i + 1 := ⟨k - 1, by omega⟩
  have hc : run M k f_constraint_copied [.val tGraph g] = some ⟨tGraph, g⟩ := by
    obtain ⟨k, rfl⟩ : ∃ i, k = i + 1 := ⟨k - 1, by omega⟩
    rw [e_constraint_copied, b_constraint_copied, Clone_int_ev _ (by omega) k (by omega), res_some, bindS, Clone_Edge_ev _ (by omega) k (by omega), res_some, bindS]
  rw [e_constraint_exists, b_constraint_exists, Clone_int_ev _ (by omega) k (by omega), res_some, bindS, Clone_int_ev _ (by omega) k (by omega), res_some, bindS]
  show Option.bind (res tGraph (run M k f_constraint_copied [.val tGraph g])) _ = _
  rw [hc, res_some, bindS]
  unfold exC mkC
  rw [repack x]
theorem r42_exists_ev (m : MorD) (g : GraphD) (x : CD) : ∀ k, 1 ≤ k → run M k f_r42_exists [.val tMorphism m, .val tGraph g, .val (.nom 0) x] = some ⟨.nom 0, exC m g x⟩ := by
  intro k hk
  obtain ⟨k, rfl⟩ : ∃ i, k = i + 1 := ⟨k - 1, by omega⟩
  rw [e_r42_exists, b_r42_exists]
  unfold exC mkC
  rw [repack x]
theorem constraint_not_ev (x : CD) : ∀ k, 1 ≤ k → run M k f_constraint_not [.val (.nom 0) x] = some ⟨.nom 0, notC x⟩ := by
  intro k hk
  obtain ⟨k, rfl⟩ : ∃ i, k = i + 1 := ⟨k - 1, by omega⟩
  rw [e_constraint_not, b_constraint_not]
  unfold notC mkC
  rw [repack x]
theorem r42_not_ev (x : CD) : ∀ k, 1 ≤ k → run M k f_r42_not [.val (.nom 0) x] = some ⟨.nom 0, notC x⟩ := by
  intro k hk
  obtain ⟨k, rfl⟩ : ∃ i, k = i + 1 := ⟨k - 1, by omega⟩
  rw [e_r42_not, b_r42_not]
  unfold notC mkC
  rw [repack x]
theorem r02_SameInts_refl (xs : List Int) (hs : xs.length ≤ 1000000) : ∀ k, xs.length + 2 ≤ k → run M k f_r02_SameInts [.val (.slice tI) xs, .val (.slice tI) xs] = some ⟨.bool, true⟩ := by
  intro k hk
  obtain ⟨k, rfl⟩ : ∃ i, k = i + 1 := ⟨k - 1, by omega⟩
  rw [e_r02_SameInts, b_r02_SameInts, decide_eq_true rfl]
  exact loop_down (n := xs.length) (F := fun j i => l_r02_SameInts_0 (run M k) j xs xs i) (G := fun _ => some ⟨.bool, true⟩)
    (fun j => by
      show s_r02_SameInts_0 (run M k) _ xs xs _ = _
      simp [s_r02_SameInts_0])
    (fun q j hq ih => by
      show s_r02_SameInts_0 (run M k) _ xs xs _ = _
      simp only [s_r02_SameInts_0, inB_nat, hq, decide_true, Int.ofNat_lt, cond_true, Bool.not_true, cond_false]
      rw [wrap_succ (by omega), ih]) 0 (Nat.zero_le _) k (by omega)
theorem r05_SameInts_refl (xs : List Int) (hs : xs.length ≤ 1000000) : ∀ k, xs.length + 2 ≤ k → run M k f_r05_SameInts [.val (.slice tI) xs, .val (.slice tI) xs] = some ⟨.bool, true⟩ := by
  intro k hk
  obtain ⟨k, rfl⟩ : ∃ i, k = i + 1 := ⟨k - 1, by omega⟩
  rw [e_r05_SameInts, b_r05_SameInts, decide_eq_true rfl]
  exact loop_down (n := xs.length) (F := fun j i => l_r05_SameInts_0 (run M k) j xs xs i) (G := fun _ => some ⟨.bool, true⟩)
    (fun j => by
      show s_r05_SameInts_0 (run M k) _ xs xs _ = _
      simp [s_r05_SameInts_0])
    (fun q j hq ih => by
      show s_r05_SameInts_0 (run M k) _ xs xs _ = _
      simp only [s_r05_SameInts_0, inB_nat, hq, decide_true, Int.ofNat_lt, cond_true, Bool.not_true, cond_false]
      rw [wrap_succ (by omega), ih]) 0 (Nat.zero_le _) k (by omega)
theorem r06_Same_refl (m : MorD) (h1 : m.1.length ≤ 1000) (h2 : m.2.length ≤ 1000) : ∀ k, 1010 ≤ k → run M k f_r06_Same [.val tMorphism m, .val tMorphism m] = some ⟨.bool, true⟩ := by
  intro k hk
  obtain ⟨k, rfl⟩ : ∃ i, k = i + 1 := ⟨k - 1, by omega⟩
  rw [e_r06_Same, b_r06_Same, r02_SameInts_refl _ (by omega) k (by omega), res_some, bindS, cond_true, r02_SameInts_refl _ (by omega) k (by omega), res_some, bindS]
  rfl
theorem r05_Same_refl (g : GraphD) (h1 : g.1.length ≤ 1000) (h2 : g.2.length ≤ 1000) : ∀ k, 1010 ≤ k → run M k f_r05_Same [.val tGraph g, .val tGraph g] = some ⟨.bool, true⟩ := by
  intro k hk
  obtain ⟨k, rfl⟩ : ∃ i, k = i + 1 := ⟨k - 1, by omega⟩
  rw [e_r05_Same, b_r05_Same, r05_SameInts_refl _ (by omega) k (by omega), res_some, bindS, decide_eq_true rfl]
  simp only [Bool.not_true, cond_false]
  exact loop_down (n := g.2.length) (F := fun j i => l_r05_Same_0 (run M k) j i g.1 g.2 g.1 g.2) (G := fun _ => some ⟨.bool, true⟩)
    (fun j => by
      show s_r05_Same_0 (run M k) _ _ g.1 g.2 g.1 g.2 = _
      simp [s_r05_Same_0])
    (fun q j hq ih => by
      show s_r05_Same_0 (run M k) _ _ g.1 g.2 g.1 g.2 = _
      simp only [s_r05_Same_0, inB_nat, hq, decide_true, Int.ofNat_lt, cond_true, Bool.not_true, cond_false, Bool.and_self]
      rw [wrap_succ (by omega), ih]) 0 (Nat.zero_le _) k (by omega)
theorem r33_Same_step (kind : Int) (kids : List CD) (m : MorD) (g : GraphD) (c : Nat) (hk : kids.length ≤ 1000) (h1 : m.1.length ≤ 1000) (h2 : m.2.length ≤ 1000) (h3 : g.1.length ≤ 1000) (h4 : g.2.length ≤ 1000)
    (hkids : ∀ y ∈ kids, ∀ k, c ≤ k → run M k f_r33_Same [.val (.nom 0) y, .val (.nom 0) y] = some ⟨.bool, true⟩) :
    ∀ k, c + 2000 ≤ k → run M k f_r33_Same [.val (.nom 0) (mkC kind kids m g), .val (.nom 0) (mkC kind kids m g)] = some ⟨.bool, true⟩ := by
  intro k hkk
  obtain ⟨k, rfl⟩ : ∃ i, k = i + 1 := ⟨k - 1, by omega⟩
  rw [e_r33_Same, b_r33_Same]
  have hop : E.op 0 (mkC kind kids m g) = (kind, (kids, (m, (g, (([] : List SlotD), ((0 : Int), ([] : List TestD))))))) := rfl
  rw [hop]
  simp only [decide_true, Bool.not_true, cond_false, Bool.not_false, cond_true]
  show Option.bind (res .bool (run M k f_r06_Same [.val tMorphism m, .val tMorphism m])) (fun r1 => Option.bind (cond (!(cond false true (!r1))) (res .bool (run M k f_r05_Same [.val tGraph g, .val tGraph g])) (some (dflt E .bool))) _) = _
  rw [r06_Same_refl m h1 h2 k (by omega), res_some, bindS]
  simp only [Bool.not_true, cond_false, Bool.not_false, cond_true]
  rw [r05_Same_refl g h3 h4 k (by omega), res_some, bindS]
  simp only [Bool.not_true, cond_false]
  have hK := loop_down (n := kids.length) (F := fun j i => l_r33_Same_4 (run M k) j i kind kids m.1 m.2 g.1 g.2 ([] : List SlotD) (0 : Int) ([] : List TestD) kind kids m.1 m.2 g.1 g.2 ([] : List SlotD) (0 : Int) ([] : List TestD)) (G := fun _ => some ⟨.bool, true⟩)
    (fun j => by
      show s_r33_Same_4 (run M k) _ _ kind kids m.1 m.2 g.1 g.2 _ _ _ kind kids m.1 m.2 g.1 g.2 _ _ _ = _
      simp [s_r33_Same_4])
    (fun q j hq ih => by
      show s_r33_Same_4 (run M k) _ _ kind kids m.1 m.2 g.1 g.2 _ _ _ kind kids m.1 m.2 g.1 g.2 _ _ _ = _
      simp only [s_r33_Same_4, inB_nat, hq, decide_true, Int.ofNat_lt, cond_true, rd_nat (t := .nom 0) kids q hq]
      rw [repack kids[q], hkids _ (List.getElem_mem hq) k (by omega), res_some, bindS, wrap_succ (by omega), ih]
      rfl) 0 (Nat.zero_le _) k (by omega)
  obtain ⟨k', rfl⟩ : ∃ i, k = i + 1 := ⟨k - 1, by omega⟩
  show s_r33_Same_0 (run M (k' + 1)) _ _ _ kind kids m.1 m.2 g.1 g.2 ([] : List SlotD) (0 : Int) ([] : List TestD) kind kids m.1 m.2 g.1 g.2 ([] : List SlotD) (0 : Int) ([] : List TestD) = _
  simp only [s_r33_Same_0, List.length_nil]
  show s_r33_Same_2 (run M (k' + 1)) _ _ _ kind kids m.1 m.2 g.1 g.2 ([] : List SlotD) (0 : Int) ([] : List TestD) kind kids m.1 m.2 g.1 g.2 ([] : List SlotD) (0 : Int) ([] : List TestD) = _
  simp only [s_r33_Same_2, List.length_nil]
  exact hK
end Go.Proofs.AM

namespace Go.Proofs.AM
open Go
noncomputable def reqC (g : GraphD) (kids : List CD) : CD := notC (exC ([], []) g (notC (mkC 4 kids ([], []) ([], []))))
noncomputable def extC (x : ExtD) : CD := exC x.1 x.2 trueC
noncomputable def condP (c : ConD) : CD × Int :=
  cond (!(decide (shapeE c = 0))) (mkC 0 [] ([], []) ([], []), shapeE c) (cond (decide (c.2.1 = (1 : Int))) (notC (exC ([], []) c.2.2.1 trueC), 0) (reqC c.2.2.1 (c.2.2.2.map extC), 0))
theorem roomy184 {n : Nat} (h : n ≤ 1000) : roomy n 184 = true := by
  unfold roomy; exact decide_eq_true (by omega)
theorem shapeE_kind {c : ConD} (h : shapeE c = 0) : c.2.1 = 1 ∨ c.2.1 = 2 := by
  unfold shapeE at h
  cases h1 : isName (by_ c.1) with
  | false => rw [h1] at h; cases h
  | true =>
    rw [h1] at h
    by_cases k1 : c.2.1 = 1
    · exact .inl k1
    · by_cases k2 : c.2.1 = 2
      · exact .inr k2
      · rw [decide_eq_false k1, decide_eq_false k2] at h; cases h
theorem shapeE_ext {c : ConD} (h : shapeE c = 0) : ∀ x ∈ c.2.2.2, x.1.1.length ≤ 1000 ∧ x.1.2.length ≤ 1000 ∧ x.2.1.length ≤ 1000 ∧ x.2.2.length ≤ 1000 := by
  obtain ⟨g0, gl, gx⟩ := shapeE_zero h
  obtain ⟨a1, a2, _, _⟩ := graphE_zero g0
  intro x hx
  obtain ⟨b1, b2, _, _⟩ := graphE_zero (gx x hx)
  have hm : morE c.2.2.1 x.2 x.1 = 0 := by
    unfold shapeE at h
    cases h1 : isName (by_ c.1) with
    | false => rw [h1] at h; cases h
    | true =>
      rw [h1] at h
      cases h2 : (cond (cond (!(decide (c.2.1 = (1 : Int)))) (!(decide (c.2.1 = (2 : Int)))) false) true (cond (decide (c.2.1 = (1 : Int))) (decide ((0 : Int) < (c.2.2.2.length : Int))) false)) with
      | true => rw [h2] at h; cases h
      | false =>
        cases h3 : (cond (decide (c.2.1 = (2 : Int))) (decide ((c.2.2.2.length : Int) = (0 : Int))) false) with
        | true => rw [h2, h3] at h; cases h
        | false =>
          cases h4 : decide ((6 : Int) < (c.2.2.2.length : Int)) with
          | true => rw [h2, h3, h4] at h; cases h
          | false =>
            rw [h2, h3, h4, decide_eq_true g0] at h
            cases h6 : largeB c.2.2.1 with
            | true => rw [h6] at h; cases h
            | false =>
              rw [h6] at h
              obtain ⟨i, hi, rfl⟩ := List.getElem_of_mem hx
              have he : extE c.2.2.1 c.2.2.2[i] = 0 := firstE_zero h i hi
              unfold extE at he
              by_cases hm : morE c.2.2.1 c.2.2.2[i].2 c.2.2.2[i].1 = 0
              · exact hm
              · rw [decide_eq_false hm] at he; exact absurd he hm
  obtain ⟨_, _, l1, l2⟩ := morE_zero hm
  omega
theorem constraint_Condition_ev (c : ConD) (hn : c.1.size ≤ 60) : ∀ k, 600 ≤ k → run M k f_constraint_Condition [.val tConstraint c] = some ⟨.pair (.nom 0) tI, condP c⟩ := by
  intro k hk
  obtain ⟨k, rfl⟩ : ∃ i, k = i + 1 := ⟨k - 1, by omega⟩
  rw [e_constraint_Condition, b_constraint_Condition]
  show Option.bind (res tI (run M k f_constraint_shape [.val tConstraint c])) _ = _
  rw [constraint_shape_ev c hn k (by omega), res_some, bindS]
  unfold condP
  by_cases hsh : shapeE c = 0
  case neg => rw [decide_eq_false hsh]; rfl
  rw [decide_eq_true hsh]
  simp only [Bool.not_true, cond_false]
  obtain ⟨g0, gl, gx⟩ := shapeE_zero hsh
  have hxs := shapeE_ext hsh
  obtain ⟨a1, a2, _, _⟩ := graphE_zero g0
  obtain ⟨name, kind, g, xs⟩ := c
  simp only at g0 gl gx a1 a2 hxs ⊢
  by_cases hk1 : kind = (1 : Int)
  · rw [decide_eq_true hk1, cond_true, cond_true]
    show Option.bind (res (.nom 0) (run M k f_constraint_exists [.val tMorphism (([] : List Int), ([] : List Int)), .val tGraph g, .val (.nom 0) trueC])) _ = _
    rw [constraint_exists_ev _ _ _ (by simp) (by simp) (by omega) (by omega) k (by omega), res_some, bindS, repack, constraint_not_ev _ k (by omega), res_some, bindS, repack]
  · rw [decide_eq_false hk1, cond_false, cond_false]
    have := down_any (n := xs.length) (Q := fun j q => ∀ acc : List CD, acc.length ≤ q → l_constraint_Condition_0 (run M k) j xs xs.length (q : Int) name kind g.1 g.2 xs (0 : Int) (0 : Int) (1 : Int) (0 : Int) (4 : Int) (0 : Int) acc =
        some ⟨.pair (.nom 0) tI, (reqC g (acc ++ (xs.drop q).map extC), (0 : Int))⟩)
      (fun j acc _ => by
        show s_constraint_Condition_0 (run M k) _ xs _ _ name kind g.1 g.2 xs _ _ _ _ _ _ acc = _
        rw [List.drop_eq_nil_of_le (Nat.le_refl _), List.map_nil, List.append_nil]
        simp only [s_constraint_Condition_0, Int.lt_irrefl, decide_false, cond_false]
        show Option.bind (res (.nom 0) (run M k f_constraint_not [.val (.nom 0) (mkC 4 acc ([], []) ([], []))])) _ = _
        rw [constraint_not_ev _ k (by omega), res_some, bindS, repack]
        show Option.bind (res (.nom 0) (run M k f_constraint_exists [.val tMorphism (([] : List Int), ([] : List Int)), .val tGraph g, .val (.nom 0) (notC (mkC 4 acc ([], []) ([], [])))])) _ = _
        rw [constraint_exists_ev _ _ _ (by simp) (by simp) (by omega) (by omega) k (by omega), res_some, bindS, repack, constraint_not_ev _ k (by omega), res_some, bindS, repack]
        rfl)
      (fun q j hq ih acc ha => by
        show s_constraint_Condition_0 (run M k) _ xs _ _ name kind g.1 g.2 xs _ _ _ _ _ _ acc = _
        obtain ⟨b1, b2, b3, b4⟩ := hxs _ (List.getElem_mem hq)
        rw [List.drop_eq_getElem_cons hq, List.map_cons]
        simp only [s_constraint_Condition_0, inB_nat, hq, decide_true, Int.ofNat_lt, cond_true, rd_nat (t := tExtension) xs q hq]
        show Option.bind (res (.nom 0) (run M k f_constraint_exists [.val tMorphism xs[q].1, .val tGraph xs[q].2, .val (.nom 0) trueC])) _ = _
        rw [constraint_exists_ev _ _ _ b1 b2 b3 b4 k (by omega), res_some, bindS, repack, roomy184 (by simp only [List.length_singleton]; omega), cond_true, wrap_succ (by omega)]
        have := ih (acc ++ [extC xs[q]]) (by rw [List.length_append, List.length_singleton]; omega)
        rw [List.append_assoc] at this
        exact this) 0 (Nat.zero_le _) k (by omega) [] (by simp)
    exact this
theorem r42_Condition_ev (c : ConD) (hn : c.1.size ≤ 60) : ∀ k, 600 ≤ k → run M k f_r42_Condition [.val tConstraint c] = some ⟨.pair (.nom 0) tI, condP c⟩ := by
  intro k hk
  obtain ⟨k, rfl⟩ : ∃ i, k = i + 1 := ⟨k - 1, by omega⟩
  rw [e_r42_Condition, b_r42_Condition]
  show Option.bind (res tI (run M k f_r42_Shape [.val tConstraint c])) _ = _
  rw [r42_Shape_ev c hn k (by omega), res_some, bindS]
  unfold condP
  by_cases hsh : shapeE c = 0
  case neg => rw [decide_eq_false hsh]; rfl
  rw [decide_eq_true hsh]
  simp only [Bool.not_true, cond_false]
  obtain ⟨g0, gl, gx⟩ := shapeE_zero hsh
  have hkd := shapeE_kind hsh
  obtain ⟨name, kind, g, xs⟩ := c
  simp only at g0 gl gx hkd ⊢
  by_cases hk1 : kind = (1 : Int)
  · rw [decide_eq_true hk1, decide_eq_false (show ¬ kind = (2 : Int) by omega), cond_true, cond_false]
    show Option.bind (res (.nom 0) (run M k f_r42_exists [.val tMorphism (([] : List Int), ([] : List Int)), .val tGraph g, .val (.nom 0) trueC])) _ = _
    rw [r42_exists_ev _ _ _ k (by omega), res_some, bindS, repack, r42_not_ev _ k (by omega), res_some, bindS, repack]
  · rw [decide_eq_false hk1, decide_eq_true (hkd.resolve_left hk1), cond_true, cond_false]
    have := down_any (n := xs.length) (Q := fun j q => ∀ acc : List CD, acc.length ≤ q → l_r42_Condition_0 (run M k) j (q : Int) name kind g.1 g.2 xs (0 : Int) (0 : Int) (1 : Int) (0 : Int) (4 : Int) (0 : Int) acc =
        some ⟨.pair (.nom 0) tI, (reqC g (acc ++ (xs.drop q).map extC), (0 : Int))⟩)
      (fun j acc _ => by
        show s_r42_Condition_0 (run M k) _ _ name kind g.1 g.2 xs _ _ _ _ _ _ acc = _
        rw [List.drop_eq_nil_of_le (Nat.le_refl _), List.map_nil, List.append_nil]
        simp only [s_r42_Condition_0, Int.lt_irrefl, decide_false, cond_false]
        show Option.bind (res (.nom 0) (run M k f_r42_not [.val (.nom 0) (mkC 4 acc ([], []) ([], []))])) _ = _
        rw [r42_not_ev _ k (by omega), res_some, bindS, repack]
        show Option.bind (res (.nom 0) (run M k f_r42_exists [.val tMorphism (([] : List Int), ([] : List Int)), .val tGraph g, .val (.nom 0) (notC (mkC 4 acc ([], []) ([], [])))])) _ = _
        rw [r42_exists_ev _ _ _ k (by omega), res_some, bindS, repack, r42_not_ev _ k (by omega), res_some, bindS, repack]
        rfl)
      (fun q j hq ih acc ha => by
        show s_r42_Condition_0 (run M k) _ _ name kind g.1 g.2 xs _ _ _ _ _ _ acc = _
        rw [List.drop_eq_getElem_cons hq, List.map_cons]
        simp only [s_r42_Condition_0, inB_nat, hq, decide_true, Int.ofNat_lt, cond_true, rd_nat (t := tExtension) xs q hq]
        show Option.bind (res (.nom 0) (run M k f_r42_exists [.val tMorphism xs[q].1, .val tGraph xs[q].2, .val (.nom 0) trueC])) _ = _
        rw [r42_exists_ev _ _ _ k (by omega), res_some, bindS, repack, roomy184 (by simp only [List.length_singleton]; omega), cond_true, wrap_succ (by omega)]
        have := ih (acc ++ [extC xs[q]]) (by rw [List.length_append, List.length_singleton]; omega)
        rw [List.append_assoc] at this
        exact this) 0 (Nat.zero_le _) k (by omega) [] (by simp)
    exact this
theorem Same_condP (c : ConD) : ∀ k, 20000 ≤ k → run M k f_r33_Same [.val (.nom 0) (condP c).1, .val (.nom 0) (condP c).1] = some ⟨.bool, true⟩ := by
  have hT : ∀ k, 2000 ≤ k → run M k f_r33_Same [.val (.nom 0) trueC, .val (.nom 0) trueC] = some ⟨.bool, true⟩ := r33_Same_step 1 [] ([], []) ([], []) 0 (by simp) (by simp) (by simp) (by simp) (by simp) (fun y hy => by cases hy)
  have hN : ∀ (x : CD) (d : Nat), (∀ k, d ≤ k → run M k f_r33_Same [.val (.nom 0) x, .val (.nom 0) x] = some ⟨.bool, true⟩) → ∀ k, d + 2000 ≤ k → run M k f_r33_Same [.val (.nom 0) (notC x), .val (.nom 0) (notC x)] = some ⟨.bool, true⟩ :=
    fun x d h => r33_Same_step 2 [x] ([], []) ([], []) d (by simp) (by simp) (by simp) (by simp) (by simp) (fun y hy => by
      have : y = x := List.mem_singleton.1 hy
      subst this; exact h)
  have hE : ∀ (m : MorD) (g : GraphD) (x : CD) (d : Nat), m.1.length ≤ 1000 → m.2.length ≤ 1000 → g.1.length ≤ 1000 → g.2.length ≤ 1000 → (∀ k, d ≤ k → run M k f_r33_Same [.val (.nom 0) x, .val (.nom 0) x] = some ⟨.bool, true⟩) →
      ∀ k, d + 2000 ≤ k → run M k f_r33_Same [.val (.nom 0) (exC m g x), .val (.nom 0) (exC m g x)] = some ⟨.bool, true⟩ :=
    fun m g x d a1 a2 a3 a4 h => r33_Same_step 5 [x] m g d (by simp) a1 a2 a3 a4 (fun y hy => by
      have : y = x := List.mem_singleton.1 hy
      subst this; exact h)
  intro k hk
  unfold condP
  by_cases hsh : shapeE c = 0
  case neg =>
    rw [decide_eq_false hsh]
    exact r33_Same_step 0 [] ([], []) ([], []) 0 (by simp) (by simp) (by simp) (by simp) (by simp) (fun y hy => by cases hy) k (by omega)
  rw [decide_eq_true hsh]
  obtain ⟨g0, gl, gx⟩ := shapeE_zero hsh
  have hxs := shapeE_ext hsh
  obtain ⟨a1, a2, _, _⟩ := graphE_zero g0
  simp only [Bool.not_true, cond_false]
  cases decide (c.2.1 = (1 : Int)) with
  | true => exact hN _ 4000 (hE _ _ _ 2000 (by simp) (by simp) (by omega) (by omega) hT) k (by omega)
  | false =>
    refine hN _ 10000 (hE _ _ _ 8000 (by simp) (by simp) (by omega) (by omega) (hN _ 6000 ?_)) k (by omega)
    refine r33_Same_step 4 _ ([], []) ([], []) 4000 (by rw [List.length_map]; omega) (by simp) (by simp) (by simp) (by simp) fun y hy => ?_
    obtain ⟨x, hx, rfl⟩ := List.mem_map.1 hy
    obtain ⟨b1, b2, b3, b4⟩ := hxs x hx
    exact hE _ _ _ 2000 b1 b2 b3 b4 hT
end Go.Proofs.AM

namespace Go.Proofs.AM
open Go
def strOk (s : ByteArray) : Bool := !(decide ((40 : Int) < (s.size : Int)))
def attrOk (a : AttrD) : Bool := cond (cond (decide ((40 : Int) < (a.1.size : Int))) true (decide ((25 : Int) < (a.2.2.2.length : Int)))) false (a.2.2.2.all strOk)
def fewFrom : Nat → List NodeD → Bool
  | _, [] => true
  | s, x :: r => cond (cond (decide ((30 : Int) < ((s + x.2.2.2.length : Nat) : Int))) true (decide ((40 : Int) < (x.1.size : Int)))) false (x.2.2.2.all attrOk && fewFrom (s + x.2.2.2.length) r)
def fewT (t : TypesD) : Bool := cond (cond (decide ((20 : Int) < (t.1.length : Int))) true (decide ((30 : Int) < (t.2.length : Int)))) false (fewFrom 0 t.1 && t.2.all fun e => strOk e.1)
theorem all_drop {α : Type} (p : α → Bool) (xs : List α) (m : Nat) (h : m < xs.length) : (xs.drop m).all p = (p xs[m] && (xs.drop (m + 1)).all p) := by
  rw [List.drop_eq_getElem_cons h, List.all_cons]
theorem r04_Few_ev (t : TypesD) (hs : ∀ n ∈ t.1, n.2.2.2.length ≤ reachBytes) : ∀ k, 200 ≤ k → run M k f_r04_Few [.val tTypes t] = some ⟨.bool, fewT t⟩ := by
  intro k hk
  obtain ⟨k, rfl⟩ : ∃ i, k = i + 1 := ⟨k - 1, by omega⟩
  have hr := reach_lt
  have hr2 : reachBytes + 1000 < 9223372036854775807 := by decide
  rw [e_r04_Few, b_r04_Few]
  unfold fewT
  cases h1 : decide ((20 : Int) < (t.1.length : Int)) with
  | true => rfl
  | false =>
    cases h2 : decide ((30 : Int) < (t.2.length : Int)) with
    | true => rfl
    | false =>
      have h1 := of_decide_eq_false h1
      have h2 := of_decide_eq_false h2
      simp only [cond_false]
      generalize hEO : (t.2.all fun e => strOk e.1) = EO
      have hE : l_r04_Few_6 (run M k) k (0 : Int) t.1 t.2 = some ⟨.bool, EO⟩ := by
        have := loop_down (n := t.2.length) (F := fun j i => l_r04_Few_6 (run M k) j i t.1 t.2) (G := fun q => some ⟨.bool, (t.2.drop q).all fun e => strOk e.1⟩)
          (fun j => by
            show s_r04_Few_6 (run M k) _ _ t.1 t.2 = _
            rw [List.drop_eq_nil_of_le (Nat.le_refl _)]
            simp [s_r04_Few_6])
          (fun q j hq ih => by
            show s_r04_Few_6 (run M k) _ _ t.1 t.2 = _
            rw [all_drop _ _ q hq]
            simp only [s_r04_Few_6, inB_nat, hq, decide_true, Int.ofNat_lt, cond_true, rd_nat (t := tEdgeType) t.2 q hq]
            rw [wrap_succ (by omega), ih]
            show cond (decide ((40 : Int) < (t.2[q].1.size : Int))) _ _ = (some ⟨.bool, (!(decide ((40 : Int) < (t.2[q].1.size : Int))) && _)⟩ : Res E)
            cases decide ((40 : Int) < (t.2[q].1.size : Int)) <;> rfl) 0 (Nat.zero_le _) k (by omega)
        rw [← hEO]; exact this
      have := down_any (n := t.1.length) (Q := fun j q => ∀ (j' s : Nat), j' = j + 60 → s ≤ 30 → l_r04_Few_0 (run M k) (l_r04_Few_6 (run M k) k) j' (s : Int) (q : Int) t.1 t.2 = some ⟨.bool, fewFrom s (t.1.drop q) && EO⟩)
        (fun j j' s hj' hs30 => by
          obtain ⟨j'', rfl⟩ : ∃ i, j' = i + 1 := ⟨j' - 1, by omega⟩
          show s_r04_Few_0 (run M k) _ _ _ _ _ t.1 t.2 = _
          rw [List.drop_eq_nil_of_le (Nat.le_refl _)]
          simp only [s_r04_Few_0, Int.lt_irrefl, decide_false, cond_false, fewFrom, Bool.true_and]
          exact hE)
        (fun q j hq ih j' s hj' hs30 => by
          obtain ⟨j'', rfl⟩ : ∃ i, j' = i + 1 := ⟨j' - 1, by omega⟩
          show s_r04_Few_0 (run M k) _ _ _ _ _ t.1 t.2 = _
          have hlen := hs _ (List.getElem_mem hq)
          rw [List.drop_eq_getElem_cons hq, fewFrom]
          simp only [s_r04_Few_0, inB_nat, hq, decide_true, Int.ofNat_lt, cond_true, rd_nat (t := tNodeType) t.1 q hq, Bool.true_or]
          generalize hx : t.1[q] = x at hlen
          have hw : IntKind.i64.wrap ((s : Int) + ((x.2.2.2.length : Nat) : Int)) = ((s + x.2.2.2.length : Nat) : Int) := by
            rw [wrap_id (by omega) (by omega)]; omega
          show cond (cond (decide ((30 : Int) < IntKind.i64.wrap ((s : Int) + (x.2.2.2.length : Int)))) true (decide ((40 : Int) < (x.1.size : Int)))) _ (l_r04_Few_2 (run M k) _ _ (IntKind.i64.wrap ((s : Int) + (x.2.2.2.length : Int))) _ _ t.1 t.2) = _
          rw [hw]
          cases h3 : (cond (decide ((30 : Int) < ((s + x.2.2.2.length : Nat) : Int))) true (decide ((40 : Int) < (x.1.size : Int)))) with
          | true => rfl
          | false =>
            have h30 : s + x.2.2.2.length ≤ 30 := by
              cases h4 : decide ((30 : Int) < ((s + x.2.2.2.length : Nat) : Int)) with
              | true => rw [h4] at h3; cases h3
              | false => have := of_decide_eq_false h4; omega
            simp only [cond_false]
            generalize hs' : s + x.2.2.2.length = s' at *
            have hnext := ih j'' s' (by omega) h30
            have := loop_down' (n := x.2.2.2.length) 28 (F := fun i p => l_r04_Few_2 (run M k) (l_r04_Few_0 (run M k) (l_r04_Few_6 (run M k) k) j'') i (s' : Int) (q : Int) p t.1 t.2)
              (G := fun p => some ⟨.bool, (x.2.2.2.drop p).all attrOk && (fewFrom s' (t.1.drop (q + 1)) && EO)⟩)
              (fun i _ => by
                show s_r04_Few_2 (run M k) _ _ _ _ _ _ t.1 t.2 = _
                rw [List.drop_eq_nil_of_le (Nat.le_refl _)]
                simp only [s_r04_Few_2, inB_nat, hq, decide_true, cond_true, rd_nat (t := tNodeType) t.1 q hq, hx, Int.lt_irrefl, decide_false, cond_false, List.all_nil, Bool.true_and]
                rw [wrap_succ (by omega)]
                exact hnext)
              (fun p i hp hi ih2 => by
                show s_r04_Few_2 (run M k) _ _ _ _ _ _ t.1 t.2 = _
                rw [all_drop _ _ p hp]
                simp only [s_r04_Few_2, inB_nat, hq, decide_true, cond_true, rd_nat (t := tNodeType) t.1 q hq, hx, Int.ofNat_lt, hp, rd_nat (t := tAttr) x.2.2.2 p hp]
                generalize hy : x.2.2.2[p] = y
                rw [attrOk]
                cases h5 : (cond (decide ((40 : Int) < (y.1.size : Int))) true (decide ((25 : Int) < (y.2.2.2.length : Int)))) with
                | true => rfl
                | false =>
                  have h25 : y.2.2.2.length ≤ 25 := by
                    cases h6 : decide ((40 : Int) < (y.1.size : Int)) with
                    | true => rw [h6] at h5; cases h5
                    | false => rw [h6] at h5; have := of_decide_eq_false h5; omega
                  simp only [cond_false]
                  have := loop_down (n := y.2.2.2.length) (F := fun i' u => l_r04_Few_4 (run M k) (l_r04_Few_2 (run M k) (l_r04_Few_0 (run M k) (l_r04_Few_6 (run M k) k) j'') i) i' (s' : Int) (q : Int) (p : Int) u t.1 t.2 y.1 y.2.1 y.2.2.1 y.2.2.2)
                    (G := fun u => some ⟨.bool, (y.2.2.2.drop u).all strOk && ((x.2.2.2.drop (p + 1)).all attrOk && (fewFrom s' (t.1.drop (q + 1)) && EO))⟩)
                    (fun i' => by
                      show s_r04_Few_4 (run M k) _ _ _ _ _ _ t.1 t.2 y.1 y.2.1 y.2.2.1 y.2.2.2 = _
                      rw [List.drop_eq_nil_of_le (Nat.le_refl _)]
                      simp only [s_r04_Few_4, Int.lt_irrefl, decide_false, cond_false, List.all_nil, Bool.true_and]
                      rw [wrap_succ (by omega)]
                      exact ih2)
                    (fun u i' hu ih3 => by
                      show s_r04_Few_4 (run M k) _ _ _ _ _ _ t.1 t.2 y.1 y.2.1 y.2.2.1 y.2.2.2 = _
                      rw [all_drop _ _ u hu]
                      simp only [s_r04_Few_4, inB_nat, hu, decide_true, Int.ofNat_lt, cond_true, rd_nat (t := .str) y.2.2.2 u hu]
                      rw [wrap_succ (by omega), ih3, strOk]
                      cases decide ((40 : Int) < (ByteArray.size y.2.2.2[u] : Int)) <;> rfl) 0 (Nat.zero_le _) i (by omega)
                  rw [List.drop_zero] at this
                  refine Eq.trans this ?_
                  cases (y.2.2.2.all strOk) <;> rfl) 0 (Nat.zero_le _) j'' (by omega)
            rw [List.drop_zero] at this
            refine Eq.trans this ?_
            cases (x.2.2.2.all attrOk) <;> rfl) 0 (Nat.zero_le _) (k - 60) (by omega) k 0 (by omega) (by omega)
      exact this
theorem strOk_size {s : ByteArray} (h : strOk s = true) : s.size ≤ 40 := by
  unfold strOk at h
  cases h1 : decide ((40 : Int) < (s.size : Int)) with
  | true => rw [h1] at h; cases h
  | false => have := of_decide_eq_false h1; omega
theorem attrOk_small {a : AttrD} (h : attrOk a = true) : SmallA a := by
  unfold attrOk at h
  cases h1 : decide ((40 : Int) < (a.1.size : Int)) with
  | true => rw [h1] at h; cases h
  | false =>
    cases h2 : decide ((25 : Int) < (a.2.2.2.length : Int)) with
    | true => rw [h1, h2] at h; cases h
    | false =>
      rw [h1, h2] at h
      have h1 := of_decide_eq_false h1
      have h2 := of_decide_eq_false h2
      exact ⟨by omega, by omega, fun s hs => strOk_size (List.all_eq_true.1 h s hs)⟩
theorem fewFrom_small : ∀ (s : Nat) (l : List NodeD), fewFrom s l = true → ∀ n ∈ l, n.1.size ≤ 40 ∧ n.2.2.2.length ≤ 30 ∧ ∀ a ∈ n.2.2.2, SmallA a
  | _, [], _, n, hn => by cases hn
  | s, x :: r, h, n, hn => by
    unfold fewFrom at h
    cases h1 : decide ((30 : Int) < ((s + x.2.2.2.length : Nat) : Int)) with
    | true => rw [h1] at h; cases h
    | false =>
      cases h2 : decide ((40 : Int) < (x.1.size : Int)) with
      | true => rw [h1, h2] at h; cases h
      | false =>
        rw [h1, h2] at h
        have h1 := of_decide_eq_false h1
        have h2 := of_decide_eq_false h2
        simp only [cond_false, Bool.and_eq_true] at h
        rcases List.mem_cons.1 hn with e | hn
        · subst e
          exact ⟨by omega, by omega, fun a ha => attrOk_small (List.all_eq_true.1 h.1 a ha)⟩
        · exact fewFrom_small _ r h.2 n hn
theorem fewT_small {t : TypesD} (h : fewT t = true) : SmallT t := by
  unfold fewT at h
  cases h1 : decide ((20 : Int) < (t.1.length : Int)) with
  | true => rw [h1] at h; cases h
  | false =>
    cases h2 : decide ((30 : Int) < (t.2.length : Int)) with
    | true => rw [h1, h2] at h; cases h
    | false =>
      rw [h1, h2] at h
      have h1 := of_decide_eq_false h1
      have h2 := of_decide_eq_false h2
      simp only [cond_false, Bool.and_eq_true] at h
      exact ⟨⟨by omega, fewFrom_small 0 t.1 h.1⟩, by omega, fun e he => strOk_size (List.all_eq_true.1 h.2 e he)⟩
end Go.Proofs.AM
