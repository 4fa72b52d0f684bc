/- Helpers of this claim: an abstract machine over the model, proved sound; what it computes. Part 1. -/
import Derived.Test.YthdbgkfinpbggaaGreatSAm0
import Derived.Deep.AppendSrc
import Derived.Laws.Runes
import Derived.Great.BuildSlice
set_option linter.unusedVariables false
set_option linter.unusedSimpArgs false
namespace Go.Proofs.AM
open Go Go.RowKit
variable {E : Env}
theorem obj_put (s : St E) (n g : Nat) (o : Ob E) : objOf (s.putOb n g o).ob n g = some o := obj_of_lk (by rw [St.lk_putOb]; simp)
theorem Known.put (s : St E) (n g : Nat) (o : Ob E) : Known (s.putOb n g o).ob n g := ⟨g, o, by rw [St.lk_putOb]; simp, Nat.le_refl _⟩
theorem Car.drew (okP : Nat → Prop) (ob : Obs E) (A : Asg) (okS : Nat → Nat → Prop) (w w' : World) (h : w'.heap = w.heap) : Car okP ob A okS w ob A okS w' where
  size := by rw [h]; exact Nat.le_refl _
  ok := fun _ _ h => h
  cell := fun b k _ => World.cell?_of_block (by rw [h])
  block := fun b _ _ => by rw [h]
  gen := fun n h o hl => ⟨h, o, hl, Nat.le_refl _⟩
  box := fun n g cs' _ ho => ⟨cs', ho, rfl⟩
  tok := fun n g t xs' _ ho => ⟨xs', ho, rfl, rfl, rfl, fun b cs e _ hc => ⟨cs, by rw [h]; exact hc, rfl⟩⟩
  frz := fun n g t xs _ ho => ⟨.inl ho, rfl, rfl, fun b cs e _ hc => ⟨cs, by rw [h]; exact hc, rfl⟩⟩
section
variable {P : Program} {C : FC} {s : St E} {A : Asg} {okS : Nat → Nat → Prop} {tmps : Array Value} {w : World}
theorem Inv.world (I : Inv C s A okS tmps w) {w' : World} (h : w'.heap = w.heap) (hos : w'.os = w.os) (htape : w'.tape = w.tape) (hout : w'.output = w.output) : Inv C s A okS tmps w' ∧ Keeps C.okP s.ob A okS w s.ob A okS w' := by
  have car := Car.drew C.okP s.ob A okS w w' h
  refine ⟨I.next car rfl rfl hos htape hout (fun b _ _ => by rw [h]) (fun b k hb => by rw [h]; exact I.okLt b k hb) I.okSub
    (fun n g o hl => (I.obj n g o hl).car car I.okLt rfl rfl fun b _ _ => by rw [h]) (fun n g o b hl hlv hB => by rw [h]; exact I.own n g o b hl hlv hB) I.inj (fun n g o hp hl => ⟨(I.pin n g o hp hl).1, (I.pin n g o hp hl).2.block fun b _ => by rw [h]⟩), car.keeps I.okLt⟩
theorem newBox_ok (I : Inv C s A okS tmps w) {d : Nat} (hpn : ¬ pinned d) {cs : List (CV E)} {vs : List Value} (e : TypeId) (hr : All2 (RepCV w okS C.okP s.ob A) cs vs) :
    Inv C (s.fresh d (.box cs)) (A.at d (some w.heap.size) 0) okS tmps (w.alloc (.cells vs.toArray e)) ∧
    RepCV (w.alloc (.cells vs.toArray e)) okS C.okP (s.fresh d (.box cs)).ob (A.at d (some w.heap.size) 0) (.ptr d (s.gen d) 0) (.pointer (some ⟨w.heap.size, 0, none⟩)) := by
  have h := I.fresh (n := d) hpn (o := .box cs) (cs := vs.toArray) (e := e) fun K => ⟨w.heap.size, vs, e, by simp, heap_alloc_new _ _, hr.imp fun c v h => K.cv c v h⟩
  refine ⟨h.1, Known.put _ _ _ _, rfl, fun cs' ho => ?_⟩
  exact ⟨w.heap.size, by simp, rfl⟩
theorem newTok_ok (I : Inv C s A okS tmps w) {d : Nat} (hpn : ¬ pinned d) {t : Ty} {xs : List (den E.Γ t)} {cs : Array Value} (e : TypeId) (hr : RowF E w okS t xs (fun k => cs[k]?)) {cap : Nat} (hc : xs.length ≤ cap) (hs : cap * nc E t ≤ cs.size) :
    Inv C (s.fresh d (.tok t xs)) (A.at d (some w.heap.size) 0) okS tmps (w.alloc (.cells cs e)) ∧
    RepCV (w.alloc (.cells cs e)) okS C.okP (s.fresh d (.tok t xs)).ob (A.at d (some w.heap.size) 0) (.ref d (s.gen d) none) (.slice (some ⟨w.heap.size, 0, none⟩) xs.length cap) := by
  have h := I.fresh (n := d) hpn (o := .tok t xs) (cs := cs) (e := e) fun K => by
    unfold RepOb
    simp only [Asg.at_B, Asg.at_O]
    refine ⟨cs, e, heap_alloc_new _ _, RowF.toRow ?_⟩
    simp only [Nat.zero_add]
    exact hr.imp fun x c hx => K.dat t x c hx
  refine ⟨h.1, ⟨Known.put _ _ _ _, rfl⟩, fun t' xs' ho => ?_, fun t' xs' ho => ?_⟩
  · have := obj_put s d (s.gen d) (.tok t xs)
    unfold St.fresh at ho
    rw [this] at ho; injection ho with ho; injection ho with e1 e2; subst e1; cases e2
    unfold RepRef
    simp only [Asg.at_B, Asg.at_O]
    exact ⟨0, cap, cs, e, by simp [winLen], heap_alloc_new _ _, by simp [winLo, winLen], by simpa [winLen] using hc, .inr (by simp [winLo]), by simpa using hs⟩
  · have := obj_put s d (s.gen d) (.tok t xs)
    unfold St.fresh at ho
    rw [this] at ho; cases ho
theorem expF_leaf : ∀ (t : Ty) (x : den E.Γ t) (c : CV E), c ∈ expF E t x → ∃ t x, c = .leaf t x
  | .unit, x, c, h => by simp [expF] at h
  | .pair a b, x, c, h => by
    simp only [expF, List.mem_append] at h
    exact h.elim (expF_leaf a _ c) (expF_leaf b _ c)
  | .nom n, x, c, h => by simp [expF] at h
  | .int k, x, c, h => by simp [expF] at h; exact ⟨_, _, h⟩
  | .bool, x, c, h => by simp [expF] at h; exact ⟨_, _, h⟩
  | .str, x, c, h => by simp [expF] at h; exact ⟨_, _, h⟩
  | .slice t, x, c, h => by simp [expF] at h; exact ⟨_, _, h⟩
  | .opt t, x, c, h => by simp [expF] at h; exact ⟨_, _, h⟩
theorem exp_leaf : ∀ (t : Ty) (x : den E.Γ t) (c : CV E), c ∈ exp E t x → ∃ t x, c = .leaf t x
  | .unit, x, c, h => by simp [exp] at h
  | .pair a b, x, c, h => by
    simp only [exp, List.mem_append] at h
    exact h.elim (exp_leaf a _ c) (exp_leaf b _ c)
  | .nom n, x, c, h => expF_leaf _ _ c h
  | .int k, x, c, h => by simp [exp] at h; exact ⟨_, _, h⟩
  | .bool, x, c, h => by simp [exp] at h; exact ⟨_, _, h⟩
  | .str, x, c, h => by simp [exp] at h; exact ⟨_, _, h⟩
  | .slice t, x, c, h => by simp [exp] at h; exact ⟨_, _, h⟩
  | .opt t, x, c, h => by simp [exp] at h; exact ⟨_, _, h⟩
theorem exp_repL (hE : EnvOk E) {w : World} {ok : Nat → Nat → Prop} {t : Ty} {x : den E.Γ t} {vs : List Value} (h : RepD E w ok t x vs) : All2 (RepL E w ok) (exp E t x) vs := by
  have := exp_rep hE h (okP := fun _ => False) (ob := []) (A := ⟨fun _ => none, fun _ => 0⟩)
  refine this.imp_mem fun c v hc hr => ?_
  obtain ⟨t', x', he⟩ := exp_leaf t x c hc
  subst he; exact hr
theorem storeBox_ok (I : Inv C s A okS tmps w) {n g b : Nat} {cs vs : List (CV E)} {us : List Value} {off : Nat} (ho : s.obj n g = some (.box cs)) (hB : A.B n = some b) (hv : All2 (RepCV w okS C.okP s.ob A) vs us) (hle : off + vs.length ≤ cs.length) :
    ∃ cells e, w.heap[b]? = some (.cells cells e (0, 0)) ∧ off + us.length ≤ cells.size ∧ Inv C (s.putOb n g (.box (splice cs off vs))) A okS tmps (w.setCells b off us) := by
  have hl := lk_of_obj (ob := s.ob) ho
  obtain ⟨b', ws, e, hB', hw, hr⟩ := I.obj n g _ hl
  rw [hB] at hB'; cases hB'
  have hlen : off + us.length ≤ ws.toArray.size := by rw [← hv.length]; simp [← hr.length]; exact hle
  refine ⟨ws.toArray, e, hw, hlen, ?_⟩
  refine (I.write (o' := .box (splice cs off vs)) hl rfl rfl hB (size_setCells _ _ _ _) (os_setCells _ _ _ _).1 (os_setCells _ _ _ _).2.1 (os_setCells _ _ _ _).2.2 (fun k hk => heap_setCells_ne b us off w k hk) ⟨⟨cs, rfl⟩, rfl⟩ rfl fun K => ?_).1
  refine ⟨b, splice ws off us, e, hB, ?_, ?_⟩
  · have := heap_setCells b e us off w _ hw
    rw [this]
    have h2 := layA_list us ws.toArray off hlen
    simp at h2
    rw [← h2]
  · exact (hr.splice hv off).imp fun c v h => K.cv c v h
theorem storeTok_ok (I : Inv C s A okS tmps w) {n g b i : Nat} {t : Ty} {xs : List (den E.Γ t)} {x : den E.Γ t} {us : List Value} {off : Nat} (ho : s.obj n g = some (.tok t xs)) (hB : A.B n = some b) (hi : i < xs.length)
    (hle : off + us.length ≤ nc E t) (hne : us.length ≠ 0) (hc0 : ∀ (f : List Value), RepD E w okS t xs[i] f → ∃ c, c = splice f off us ∧ RepD E w okS t x c) :
    ∃ cells e, w.heap[b]? = some (.cells cells e (0, 0)) ∧ A.O n + i * nc E t + off + us.length ≤ cells.size ∧ Inv C (s.putOb n g (.tok t (xs.set i x))) A okS tmps (w.setCells b (A.O n + i * nc E t + off) us) := by
  have hl := lk_of_obj (ob := s.ob) ho
  have hob := I.obj n g _ hl
  unfold RepOb at hob
  simp only [hB] at hob
  obtain ⟨cells, e, hw, f, hf⟩ := hob
  obtain ⟨h1, h2, h3⟩ := hf i hi
  obtain ⟨c, hc, hcr⟩ := hc0 _ h3
  have hpos : 0 < nc E t := by omega
  have hsz : A.O n + i * nc E t + nc E t ≤ cells.size := by
    have := h2 (nc E t - 1) (by omega)
    rw [List.getElem?_eq_getElem (by omega)] at this
    have hlt : A.O n + i * nc E t + (nc E t - 1) < cells.size := by
      rcases Nat.lt_or_ge (A.O n + i * nc E t + (nc E t - 1)) cells.size with h' | h'
      · exact h'
      · rw [Array.getElem?_eq_none h'] at this; cases this
    omega
  have hle2 : A.O n + i * nc E t + off + us.length ≤ cells.size := by omega
  refine ⟨cells, e, hw, hle2, ?_⟩
  have hw' := heap_setCells b e us (A.O n + i * nc E t + off) w _ hw
  refine (I.write (o' := .tok t (xs.set i x)) hl rfl rfl hB (size_setCells _ _ _ _) (os_setCells _ _ _ _).1 (os_setCells _ _ _ _).2.1 (os_setCells _ _ _ _).2.2 (fun k hk => heap_setCells_ne b us _ w k hk)
    ⟨xs, rfl, by simp, rfl, rfl, fun b' cs' e' hB' hc' => ?_⟩ rfl fun K => ?_).1
  · rw [hB] at hB'; cases hB'
    rw [hw] at hc'; cases hc'
    exact ⟨_, hw', layA_size _ _ _⟩
  · unfold RepOb
    simp only [hB]
    refine ⟨_, e, hw', ?_⟩
    have hR : RowF E (w.setCells b (A.O n + i * nc E t + off) us) okS t xs (fun k => cells[A.O n + k]?) := by
      refine RowF.imp ?_ (fun y c hy => K.dat t y c hy)
      exact RepRow.toF ⟨f, hf⟩
    have hcl : c.length = nc E t := by rw [hc, splice_length _ _ _ (by omega), h1]
    have hS := hR.set i hcl (K.dat t x c hcr)
    refine RowF.toRow (hS.congr fun k hk => ?_)
    show (layA cells (A.O n + i * nc E t + off) us)[A.O n + k]? = _
    rw [layA_get _ _ _ _ hle2]
    by_cases hin : i * nc E t ≤ k ∧ k < i * nc E t + nc E t
    · simp only [hin, and_self, if_true]
      rw [hc, splice]
      by_cases h4 : A.O n + i * nc E t + off ≤ A.O n + k ∧ A.O n + k < A.O n + i * nc E t + off + us.length
      · rw [if_pos h4, List.getElem?_append_left (by simp; omega), List.getElem?_append_right (by simp; omega)]
        congr 1; simp; omega
      · rw [if_neg h4]
        have hk2 : A.O n + k = A.O n + i * nc E t + (k - i * nc E t) := by omega
        rw [hk2, h2 _ (by omega)]
        by_cases h5 : k - i * nc E t < off
        · rw [List.getElem?_append_left (by simp; omega), List.getElem?_append_left (by simp; omega), List.getElem?_take]
          simp [h5]
        · rw [List.getElem?_append_right (by simp; omega)]
          simp
          congr 1; omega
    · simp only [hin, if_false]
      rw [if_neg (by omega)]
theorem all_one {vs : List (CV E)} {us : List Value} (h : All2 (RepCV w okS C.okP s.ob A) vs us) (ha : vs.all alive = true) : ∀ u ∈ us, u.oneCell' = true := by
  induction h with
  | nil => intro u hu; cases hu
  | cons r _ ih =>
    simp only [List.all_cons, Bool.and_eq_true] at ha
    intro u hu
    rcases List.mem_cons.1 hu with e | hu
    · subst e; exact RepCV.one r (fun e => by subst e; cases ha.1)
    · exact ih ha.2 u hu
theorem store_ok (hE : EnvOk E) {tys : Tr TI} (hT : TysOk E P tys) (I : Inv C s A okS tmps w) {t : TypeId} {ti : TI} (ht : tys.find t = some ti) {p : CV E} {u x : Value} {vs : List (CV E)} {s' : St E}
    (hp : RepCV w okS C.okP s.ob A p u) (hv : All2 (RepCV w okS C.okP s.ob A) vs x.cells.toList) (h : store ti s p vs = some s') :
    ∃ w' A' okS', (Instr.storeAt t u x).run P w = .ok () w' ∧ Inv C s' A' okS' tmps w' := by
  unfold store at h
  split at h
  · rename_i hl
    have hlen : x.cells.toList.length = ti.size := by rw [← hv.length]; exact hl.1
    have h1 := all_one hv hl.2
    split at h
    · rename_i n g off
      split at h
      · rename_i cs ho
        split at h
        · rename_i hle
          injection h with h; subst h
          obtain ⟨b, hB, hu⟩ := hp.2.2 cs ho
          obtain ⟨cells, e, hw, hin, hI⟩ := storeBox_ok I ho hB hv hle
          subst hu
          exact ⟨_, A, okS, run_storeAt_of (hT t ti ht) w b off cells e hw x _ rfl hlen hin h1, hI⟩
        · cases h
      · cases h
    · rename_i n g i off
      simp only at h
      obtain ⟨ok2, I2, K2, L2, E2⟩ := I.frzList vs
      split at h
      · rename_i tt xs ho
        split at h
        · rename_i y hy
          split at h
          · rename_i hle
            injection h with h; subst h
            have hp2 := K2.cv _ _ hp
            obtain ⟨hi, b, hB, hu⟩ := hp2.2.2 tt xs ho
            have hvl : vs.length = x.cells.toList.length := hv.length
            obtain ⟨cells, e, hw, hin, hI⟩ := storeTok_ok (us := x.cells.toList) (x := y) I2 ho hB hi (by rw [← hvl]; exact hle.1) (by rw [← hvl]; exact hle.2) (fun f hf => by
              refine ⟨_, rfl, pack_rep tt ?_ hy⟩
              have hexp : ∀ z : den E.Γ tt, z = xs[i] → All2 (RepL E w ok2) (exp E tt z) f := fun z hz => by subst hz; exact exp_repL hE hf
              have hz : xs.getD i (dflt E tt) = xs[i] := by rw [List.getD_eq_getElem?_getD, List.getElem?_eq_getElem hi]; rfl
              exact (hexp _ hz).splice ((hv.imp_mem fun c v hc hr => L2 c v hc hr).map_left (R := RepL E w ok2) s.look) off)
            subst hu
            exact ⟨_, A, ok2, run_storeAt_of (hT t ti ht) w b _ cells e hw x _ rfl hlen hin h1, hI⟩
          · cases h
        · cases h
      · cases h
    · cases h
  · cases h
end
end Go.Proofs.AM

namespace Go.Proofs.AM
open Go Go.RowKit
variable {E : Env}
section
variable {P : Program} {C : FC} {s : St E} {A : Asg} {okS : Nat → Nat → Prop} {tmps : Array Value} {w : World}
theorem alloc_ok {tys : Tr TI} (hT : TysOk E P tys) (I : Inv C s A okS tmps w) {t : TypeId} {ti : TI} (ht : tys.find t = some ti) {d : Nat} (hpn : ¬ pinned d) :
    ∃ v w' A' okS', (Instr.alloc t true (.tuple #[])).run P w = .ok v w' ∧ Inv C (s.fresh d (.box (ti.zero.map (cellOf E)))) A' okS' tmps w' ∧ RepCV w' okS' C.okP (s.fresh d (.box (ti.zero.map (cellOf E)))).ob A' (.ptr d (s.gen d) 0) v := by
  obtain ⟨z, hz, hzc⟩ := run_zeroValue_of (hT t ti ht) w
  have h := newBox_ok I hpn t (map_cellOf_rep (E := E) (w := w) (okS := okS) (okP := C.okP) (ob := s.ob) (A := A) ti.zero)
  refine ⟨_, _, _, okS, ?_, h.1, h.2⟩
  have hc : z.cells = ti.zero.toArray := by apply Array.ext'; simpa using hzc
  simp [Instr.alloc, hz, newVar, newRow, hc]
theorem box_ok (I : Inv C s A okS tmps w) (t : TypeId) {cs : List (CV E)} {x : Value} (hr : All2 (RepCV w okS C.okP s.ob A) cs x.cells.toList) {d : Nat} (hpn : ¬ pinned d) :
    ∃ v w' A' okS', (Instr.box t x).run P w = .ok v w' ∧ Inv C (s.fresh d (.box cs)) A' okS' tmps w' ∧ RepCV w' okS' C.okP (s.fresh d (.box cs)).ob A' (.ptr d (s.gen d) 0) v := by
  have h := newBox_ok I hpn t hr
  refine ⟨_, _, _, okS, ?_, h.1, h.2⟩
  simp [Instr.box, newVar, newRow]
theorem zeros_row (hE : EnvOk E) {tys : Tr TI} (hT : TysOk E P tys) {e : TypeId} {ti : TI} (ht : tys.find e = some ti) {t : Ty} (hty : t = ti.ty) (hu : t ≠ .unit) (ok : Nat → Nat → Prop) (w' : World) :
    ∃ i z, P.info? e = some i ∧ i.size = ti.size ∧ i.bytes = ti.bytes ∧ i.zero = some z ∧ z.cells.size = nc E t ∧ nc E t = ti.size ∧
      ∀ n, RowF E w' ok t (List.replicate n (dflt E t)) (fun k => some (z.cells[k % z.cells.size]!)) ∨ nc E t = 0 := by
  obtain ⟨i, z, hi, hs, hb, hz, hzc, hzl⟩ := (hT e ti ht).info
  have hh := (hT e ti ht).ty
  rw [← hty] at hh
  rcases hh with hh | ⟨hn, hzo⟩
  · exact absurd hh hu
  · have hsz : z.cells.size = nc E t := by rw [hn, ← hzl, ← hzc]; simp
    refine ⟨i, z, hi, hs, hb, hz, hsz, hn, fun n => ?_⟩
    rcases Nat.eq_zero_or_pos (nc E t) with h0 | h0
    · exact .inr h0
    · left
      have hd := zeroOk_rep hE t ti.zero hzo (w := w') (ok := ok)
      refine (RowF.replicate n (by rw [hzl, hn]) hd).congr fun k _ => ?_
      have hlt : k % nc E t < z.cells.size := by rw [hsz]; exact Nat.mod_lt _ h0
      show some (z.cells[k % z.cells.size]!) = ti.zero[k % nc E t]?
      rw [hsz, ← hzc, Array.getElem?_toList, Array.getElem?_eq_getElem hlt, getElem!_pos z.cells _ hlt]
theorem run_makeSlice_of {T e : TypeId} (hu : P.underlying T = some (.slice e)) {i : TypeInfo} {z : Value} (hi : P.info? e = some i) (hz : i.zero = some z) {n m : Int} (hw1 : IntKind.i64.wrap n = n) (hw2 : IntKind.i64.wrap m = m)
    (hb : (i.bytes : Int) * m ≤ 70368744177664) (h1 : 0 ≤ n) (h2 : n ≤ m) (hz0 : m.toNat * i.size = 0 → m.toNat = 0) (w : World) :
    (Instr.makeSlice T (.int .i64 n) (.int .i64 m)).run P w = .ok (.slice (some ⟨w.heap.size, 0, none⟩) n.toNat m.toNat) (w.alloc (.cells ((Array.range (m.toNat * i.size)).map (z.cells[· % z.cells.size]!)) e)) := by
  have h48 : (2 : Int) ^ 48 = 281474976710656 := by decide
  have e1 : decide (m < 0) = false := by simp; omega
  have e2 : decide ((i.bytes : Int) * m > 281474976710656) = false := by simp; omega
  have e3 : decide (n < 0) = false := by simp; omega
  have e4 : decide (n > m) = false := by simp; omega
  have ht : (typeInfo e).run P w = .ok i w := run_typeInfo_of hi w
  have hs : (sizeOf e).run P w = .ok i.size w := by simp [sizeOf, typeInfo, hi]
  have hzv : (zeroValue e).run P w = .ok z w := by simp [zeroValue, typeInfo, hi, hz]
  simp only [Instr.makeSlice, Sem.run_bind, run_underlying hu, Result.andThen_ok, asInt, asIntOf, Sem.run_pure, ht, hw1, hw2, h48, e1, e2, e3, e4, Bool.or_false, Bool.false_eq_true, if_false, run_askRoom, hs]
  by_cases hmz : m.toNat * i.size = 0
  · have h0 : Array.range 0 = #[] := rfl
    simp [hmz, newRow, h0]
  · simp only [hmz, if_false, Sem.run_bind, hzv, Result.andThen_ok, Sem.run_pure]
    simp [newRow]
theorem makeSlice_ok (hE : EnvOk E) {M : Mach E} (hT : TysOk E P M.tys) (I : Inv C s A okS tmps w) {T e : TypeId} {te : Ty} {ti : TI} (hs : sliceTy M T = some (e, te, ti)) {n m : Int} (hin : inS 0 n m = true) (hr : roomy m.toNat ti.bytes = true) {d : Nat} (hpn : ¬ pinned d) :
    ∃ v w' A' okS', (Instr.makeSlice T (.int .i64 n) (.int .i64 m)).run P w = .ok v w' ∧ Inv C (s.fresh d (.tok te (List.replicate n.toNat (dflt E te)))) A' okS' tmps w' ∧
      RepCV w' okS' C.okP (s.fresh d (.tok te (List.replicate n.toNat (dflt E te)))).ob A' (.ref d (s.gen d) none) v := by
  obtain ⟨hu, hte, hty, hnc, hne, hun, hby, _⟩ := sliceTy_some hT hs
  obtain ⟨i, z, hi, hsz, hbb, hz, hzs, _, hrow⟩ := zeros_row hE hT hte hty hun okS w
  obtain ⟨h0, h1, h2⟩ := inS_iff.1 hin
  have hpos : nc E te ≠ 0 := by rw [hnc]; exact hne
  have hroom : m.toNat * ti.bytes ≤ 70368744177664 := of_decide_eq_true hr
  have hm : m.toNat ≤ 70368744177664 := Nat.le_trans (Nat.le_mul_of_pos_right _ (Nat.pos_of_ne_zero hby)) hroom
  have hw1 : IntKind.i64.wrap n = n := wrap_small n (by omega) (by omega)
  have hw2 : IntKind.i64.wrap m = m := wrap_small m (by omega) (by omega)
  have hrowL := (hrow n.toNat).resolve_right hpos
  have h := newTok_ok I hpn (t := te) (xs := List.replicate n.toNat (dflt E te)) (cs := (Array.range (m.toNat * i.size)).map (z.cells[· % z.cells.size]!)) e (hrowL.congr fun k hk => by
      simp only [List.length_replicate] at hk
      have hlt : k < m.toNat * i.size := by
        rw [hsz, ← hnc]
        have : n.toNat * nc E te ≤ m.toNat * nc E te := Nat.mul_le_mul_right _ (by omega)
        omega
      rw [Array.getElem?_map, Array.getElem?_range, if_pos hlt]; rfl) (cap := m.toNat) (by rw [List.length_replicate]; omega) (by rw [Array.size_map, Array.size_range, hsz, hnc]; exact Nat.le_refl _)
  refine ⟨_, _, _, okS, ?_, h.1, h.2⟩
  have hbytes : (ti.bytes : Int) * m ≤ 70368744177664 := by
    have h5 : ((m.toNat * ti.bytes : Nat) : Int) = m * ti.bytes := by rw [Int.natCast_mul, Int.toNat_of_nonneg (by omega)]
    rw [Int.mul_comm, ← h5]
    generalize m.toNat * ti.bytes = q at hroom ⊢
    omega
  have hlen : (List.replicate n.toNat (dflt E te)).length = n.toNat := by simp
  rw [hlen]
  exact run_makeSlice_of hu hi hz hw1 hw2 (by rw [hbb]; exact hbytes) h1 h2 (fun h => by
    rcases Nat.mul_eq_zero.1 h with h | h
    · exact h
    · rw [hsz] at h; exact absurd h hne) w
theorem content_rows (I : Inv C s A okS tmps w) {t : Ty} {y : CV E} {v : Value} {ys : List (den E.Γ t)} (h : RepCV w okS C.okP s.ob A y v) (hc : content s t y = some ys) :
    (∃ p, v = .slice p 0 0 ∧ ys = []) ∨ ∃ (b off cap : Nat), v = .slice (some ⟨b, off, none⟩) ys.length cap ∧ ys.length ≤ cap ∧ RowF E w okS t ys (fun k => w.cell? ⟨b, off + k, none⟩) := by
  unfold content at hc
  have hD : ∀ {zs : List (den E.Γ t)}, RepD E w okS (.slice t) zs [v] → zs = ys → (∃ p, v = .slice p 0 0 ∧ ys = []) ∨ ∃ (b off cap : Nat), v = .slice (some ⟨b, off, none⟩) ys.length cap ∧ ys.length ≤ cap ∧ RowF E w okS t ys (fun k => w.cell? ⟨b, off + k, none⟩) := by
    intro zs hd he
    subst he
    rcases hd.rows with ⟨p, h1, h2⟩ | ⟨b, off, cap, h1, _, h2, h3⟩
    · exact .inl ⟨p, h1, h2⟩
    · exact .inr ⟨b, off, cap, h1, h2, h3⟩
  have hleaf : ∀ {tt : Ty} {zs : den E.Γ tt}, leafOf (.slice t) (.leaf tt zs : CV E) = some ys → RepD E w okS tt zs [v] → (∃ p, v = .slice p 0 0 ∧ ys = []) ∨ ∃ (b off cap : Nat), v = .slice (some ⟨b, off, none⟩) ys.length cap ∧ ys.length ≤ cap ∧ RowF E w okS t ys (fun k => w.cell? ⟨b, off + k, none⟩) := by
    intro tt zs he hd
    simp only [leafOf] at he
    split at he
    · rename_i htt; subst htt
      injection he with he
      exact hD hd he
    · exact hD (asSl_rep hd he) rfl
  cases y with
  | leaf tt zs => exact hleaf hc h
  | nilS => simp only [St.look, leafOf] at hc; injection hc with hc; exact .inl ⟨none, h, hc.symm⟩
  | ref n g win =>
    simp only [St.look] at hc
    split at hc
    · rename_i tt xs ho
      simp only [leafOf] at hc
      split at hc
      · rename_i htt; injection htt with htt; subst htt
        injection hc with hc
        have hc : winOf xs win = ys := hc
        subst hc
        have hr := h.2.1 tt xs ho
        have hob := I.obj n g _ (lk_of_obj ho)
        unfold RepRef at hr
        unfold RepOb at hob
        cases hB : A.B n with
        | none =>
          simp only [hB] at hr hob
          subst hob
          refine .inl ⟨none, hr.1, ?_⟩
          cases win <;> simp [winOf]
        | some b =>
          simp only [hB] at hr hob
          obtain ⟨o, cap, cs, e, hv, hw, hwin, hcap, ho', hsp⟩ := hr
          obtain ⟨cs', e', hw', hrow⟩ := hob
          rw [hw] at hw'; injection hw' with hw'; injection hw' with e1 e2; subst e1
          have hlen := winOf_length xs win hwin
          refine .inr ⟨b, o, cap, by rw [hlen]; exact hv, by rw [hlen]; exact hcap, ?_⟩
          have hwd : winOf xs win = (xs.drop (winLo win)).take (winLen xs.length win) := by
            cases win with
            | none => simp [winOf, winLo, winLen]
            | some p => rfl
          rcases ho' with h0 | h0
          · have : winOf xs win = [] := List.eq_nil_of_length_eq_zero (by rw [hlen]; omega)
            rw [this]; exact RowF.nil _
          · have := hrow.toF.window (winLo win) (winLen xs.length win) hwin
            rw [hwd]
            refine this.congr fun k hk => ?_
            show w.cell? ⟨b, o + k, none⟩ = cs[A.O n + (winLo win * nc E tt + k)]?
            rw [cell?_of_heap hw, h0]; congr 1; omega
      · cases hc
    · rename_i tt xs ho
      exact hleaf hc (h.2.2 tt xs ho).1
    · simp [leafOf] at hc
  | _ => simp [St.look, leafOf] at hc
theorem content_rows_ref (I : Inv C s A okS tmps w) {t : Ty} {n g : Nat} {win : Option (Nat × Nat)} {v : Value} {ys : List (den E.Γ t)} (h : RepCV w okS C.okP s.ob A (.ref n g win) v) (hc : content s t (.ref n g win) = some ys) :
    (v = .slice none 0 0 ∧ ys = []) ∨ ∃ (b off cap : Nat), v = .slice (some ⟨b, off, none⟩) ys.length cap ∧ ys.length ≤ cap ∧ RowF E w okS t ys (fun k => w.cell? ⟨b, off + k, none⟩) := by
  rcases content_rows I h hc with ⟨p, hv, hy⟩ | h2
  · cases p with
    | none => exact .inl ⟨hv, hy⟩
    | some a =>
      have hr : ∃ sz len, RepRef w A n sz len win v := by
        unfold content at hc
        simp only [St.look] at hc
        split at hc
        · rename_i tt xs ho
          exact ⟨_, _, h.2.1 tt xs ho⟩
        · rename_i tt xs ho
          exact ⟨_, _, (h.2.2 tt xs ho).2⟩
        · simp [leafOf] at hc
      obtain ⟨sz, len, hr⟩ := hr
      unfold RepRef at hr
      cases hB : A.B n with
      | none => simp only [hB] at hr; exact .inl ⟨hr.1, hy⟩
      | some b =>
        simp only [hB] at hr
        obtain ⟨o, cap, cs, e, hv2, _⟩ := hr
        rw [hv] at hv2
        injection hv2 with h1 h2 h3
        injection h1 with h1
        subst hy
        exact .inr ⟨b, o, 0, by rw [hv, h1]; rfl, Nat.le_refl _, RowF.nil _⟩
  · exact .inr h2
theorem src_ok (I : Inv C s A okS tmps w) {t : Ty} {y : CV E} {v : Value} {ys : List (den E.Γ t)} (h : RepCV w okS C.okP s.ob A y v) (hc : content s t y = some ys) {T' e' : TypeId} (hT' : P.underlying T' = some (.slice e')) :
    ∃ news : List Value, Src P (nc E t) T' v ys.length news w ∧ RowF E w okS t ys (fun k => news[k]?) := by
  rcases content_rows I h hc with ⟨p, hv, hy⟩ | ⟨b, off, cap, hv, hcap, hrow⟩
  · subst hy; rw [hv]
    cases p with
    | none => exact ⟨[], Src.ofNil w hT' 0, RowF.nil _⟩
    | some a => exact ⟨[], Src.ofSlice w hT' a 0 0 [] (by simp) (fun j u hu => by simp at hu) (by simp), RowF.nil _⟩
  · obtain ⟨l, h1, h2, h3⟩ := hrow.list
    refine ⟨l, ?_, hrow.congr fun k hk => (h2 k (by omega)).symm⟩
    rw [hv]
    refine Src.ofSlice w hT' ⟨b, off, none⟩ ys.length cap l h1 (fun j u hu => ?_) h3
    have hj : j < l.length := by
      rcases Nat.lt_or_ge j l.length with h | h
      · exact h
      · rw [List.getElem?_eq_none h] at hu; cases hu
    rw [add_plain, h2 j hj, hu]
end
theorem RowF.concat {w : World} {ok : Nat → Nat → Prop} {t : Ty} {xs ys : List (den E.Γ t)} {l m r : List Value} (hx : RowF E w ok t xs (fun k => l[k]?)) (hl : l.length = xs.length * nc E t) (hy : RowF E w ok t ys (fun k => m[k]?)) (hm : m.length = ys.length * nc E t) :
    RowF E w ok t (xs ++ ys) (fun k => (l ++ m ++ r)[k]?) := by
  refine (hx.append hy).congr fun k hk => ?_
  rw [List.length_append, Nat.add_mul] at hk
  by_cases h : k < xs.length * nc E t
  · simp only [h, if_true]
    rw [List.append_assoc, List.getElem?_append_left (by omega)]
  · simp only [h, if_false]
    rw [List.getElem?_append_left (by rw [List.length_append]; omega), List.getElem?_append_right (by omega), hl]
section
variable {P : Program} {C : FC} {s : St E} {A : Asg} {okS : Nat → Nat → Prop} {tmps : Array Value} {w : World}
theorem zeroCells_size (z : Array Value) (n : Nat) : (Builtin.zeroCells z n).size = n * z.size := by simp [Builtin.zeroCells]
theorem grow_ok (I : Inv C s A okS tmps w) {d : Nat} (hpn : ¬ pinned d) {t : Ty} {xs ys : List (den E.Γ t)} {olds news : List Value} (hx : RowF E w okS t xs (fun k => olds[k]?)) (hl : olds.length = xs.length * nc E t)
    (hy : RowF E w okS t ys (fun k => news[k]?)) (hm : news.length = ys.length * nc E t) (e : TypeId) {cap : Nat} (hcap : xs.length + ys.length ≤ cap) {z : Array Value} (hz : z.size = nc E t) :
    ∃ A' okS', Inv C (s.fresh d (.tok t (xs ++ ys))) A' okS' tmps (w.drew.alloc (.cells ((olds ++ news).toArray ++ Builtin.zeroCells z (cap - (xs.length + ys.length))) e)) ∧
      RepCV (w.drew.alloc (.cells ((olds ++ news).toArray ++ Builtin.zeroCells z (cap - (xs.length + ys.length))) e)) okS' C.okP (s.fresh d (.tok t (xs ++ ys))).ob A' (.ref d (s.gen d) none)
        (.slice (some ⟨w.heap.size, 0, none⟩) (xs.length + ys.length) cap) := by
  obtain ⟨I1, K1⟩ := I.world (w' := w.drew) rfl rfl rfl rfl
  have hrow : RowF E w.drew okS t (xs ++ ys) (fun k => ((olds ++ news).toArray ++ Builtin.zeroCells z (cap - (xs.length + ys.length)))[k]?) := by
    have := (hx.concat (r := (Builtin.zeroCells z (cap - (xs.length + ys.length))).toList) hl hy hm).imp (fun x c h => K1.dat t x c h)
    refine this.congr fun k _ => ?_
    rw [← Array.getElem?_toList]; simp
  have h := newTok_ok I1 hpn e hrow (cap := cap) (by simpa using hcap) (by
    rw [Array.size_append, zeroCells_size, hz, List.size_toArray, List.length_append, hl, hm, ← Nat.add_mul, ← Nat.add_mul]
    exact Nat.mul_le_mul_right _ (by omega))
  rw [List.length_append] at h
  exact ⟨_, okS, h.1, h.2⟩
theorem room_ok (I : Inv C s A okS tmps w) {n g : Nat} {t : Ty} {xs0 xs ys : List (den E.Γ t)} (hl : lk s.ob n = some (g, .tok t xs0)) {b o cap : Nat} (hB : A.B n = some b) {cs : Array Value} {e : TypeId} (hw : w.heap[b]? = some (.cells cs e (0, 0)))
    (hx : RowF E w okS t xs (fun k => w.cell? ⟨b, o + k, none⟩)) {news : List Value} (hy : RowF E w okS t ys (fun k => news[k]?)) (hm : news.length = ys.length * nc E t) (hcap : xs.length + ys.length ≤ cap) (hsp : o + cap * nc E t ≤ cs.size) {d : Nat} (hpn : ¬ pinned d) :
    ∃ A' okS', Inv C ((s.kill n g).fresh d (.tok t (xs ++ ys))) A' okS' tmps (w.setCells b (o + xs.length * nc E t) news) ∧
      RepCV (w.setCells b (o + xs.length * nc E t) news) okS' C.okP ((s.kill n g).fresh d (.tok t (xs ++ ys))).ob A' (.ref d ((s.kill n g).gen d) none) (.slice (some ⟨b, o, none⟩) (xs.length + ys.length) cap) := by
  have hown := I.own n g _ b hl rfl hB
  have hle : o + xs.length * nc E t + news.length ≤ cs.size := by
    have := Nat.mul_le_mul_right (nc E t) hcap
    rw [Nat.add_mul] at this
    omega
  have hw' := heap_setCells b e news (o + xs.length * nc E t) w _ hw
  have h1 := I.upd (n := n) (g := g) (o' := .gone) (A' := A) (okS' := okS) (w' := w.setCells b (o + xs.length * nc E t) news) (fun _ _ => ⟨rfl, rfl⟩) (fun _ => ⟨_, hl⟩) (fun h o' hl' => by rw [hl] at hl'; cases hl'; exact Nat.le_refl _)
    (by rw [size_setCells]; exact Nat.le_refl _) (os_setCells _ _ _ _).1 (os_setCells _ _ _ _).2.1 (os_setCells _ _ _ _).2.2
    (fun k _ hk => heap_setCells_ne b news _ w k fun e' => hk g _ hl rfl (e' ▸ hB)) (fun b' k hk hB' => by rw [hB] at hB'; cases hB'; exact absurd hk (hown.1 k (Nat.zero_le _))) (fun _ _ h => h) (fun k i hk => by rw [size_setCells]; exact I.okLt k i hk) I.okSub (fun b k h1 h2 => absurd h1 h2) (fun _ _ => trivial) (fun _ => trivial) (fun h => by cases h)
  obtain ⟨I1, K1⟩ := h1
  change Inv C (s.kill n g) A okS tmps _ at I1
  have hrow : RowF E (w.setCells b (o + xs.length * nc E t) news) okS t (xs ++ ys) (fun k => (layA cs (o + xs.length * nc E t) news)[o + k]?) := by
    refine ((hx.append hy).imp (fun x c h => K1.dat t x c h)).congr fun k hk => ?_
    rw [List.length_append, Nat.add_mul] at hk
    show (layA cs (o + xs.length * nc E t) news)[o + k]? = _
    rw [layA_get _ _ _ _ hle]
    by_cases h : k < xs.length * nc E t
    · simp only [h, if_true]
      rw [if_neg (by omega), cell?_of_heap hw]
    · simp only [h, if_false]
      rw [if_pos (by omega)]
      congr 1; omega
  have h2 := Inv.upd I1 (n := d) (g := (s.kill n g).gen d) (o' := .tok t (xs ++ ys)) (A' := A.at d (some b) o) (okS' := okS) (w' := w.setCells b (o + xs.length * nc E t) news) (fun m hm => Asg.at_ne _ _ _ hm) (fun h => absurd h hpn) (fun h o hl => by rw [St.gen_gt hl]; omega)
    (Nat.le_refl _) rfl rfl rfl (fun _ _ _ => rfl) (fun _ _ _ _ => rfl) (fun _ _ h => h) I1.okLt I1.okSub (fun b k h1 h2 => absurd h1 h2) (fun o hl => by have := St.gen_gt hl; omega) (fun K => by
      unfold RepOb
      simp only [Asg.at_B, Asg.at_O]
      exact ⟨_, e, hw', hrow.toRow⟩) (fun _ b' hb' => by
      simp at hb'; subst hb'
      refine ⟨fun k _ => hown.1 k (Nat.zero_le _), hown.2.1, by rw [size_setCells]; exact hown.2.2.1, hown.2.2.2, fun m h o' hm hl2 hlv2 hB2 => ?_⟩
      change lk (s.putOb n g .gone).ob m = _ at hl2
      rw [St.lk_putOb] at hl2
      by_cases hmn : m = n
      · subst hmn; simp only [if_true] at hl2; cases hl2; cases hlv2
      · simp only [hmn, if_false] at hl2
        exact hmn (I.inj m n h g o' _ b hl2 hl hlv2 rfl hB2 hB))
  refine ⟨_, okS, h2.1, ⟨Known.put _ _ _ _, rfl⟩, fun t' xs' ho => ?_, fun t' xs' ho => ?_⟩
  · have := obj_put (s.kill n g) d ((s.kill n g).gen d) (.tok t (xs ++ ys))
    unfold St.fresh at ho
    rw [this] at ho; injection ho with ho; injection ho with e1 e2; subst e1; cases e2
    unfold RepRef
    simp only [Asg.at_B, Asg.at_O]
    exact ⟨o, cap, _, e, by simp [winLen], hw', by simp [winLo, winLen], by simpa [winLen] using hcap, .inr (by simp [winLo]), by rw [layA_size]; exact hsp⟩
  · have := obj_put (s.kill n g) d ((s.kill n g).gen d) (.tok t (xs ++ ys))
    unfold St.fresh at ho
    rw [this] at ho; cases ho
theorem freeze_fresh (s : St E) (d : Nat) (t : Ty) (xs : List (den E.Γ t)) : (s.fresh d (.tok t xs)).freeze d (s.gen d) = s.fresh d (.frz t xs) := by
  have ho : (s.fresh d (.tok t xs)).obj d (s.gen d) = some (.tok t xs) := obj_put s d (s.gen d) (.tok t xs)
  unfold St.freeze
  rw [ho]
  simp only [St.fresh, St.putOb, ins_ins]
theorem frozen_ok {A' : Asg} {okS' : Nat → Nat → Prop} {w' : World} {d : Nat} {t : Ty} {xs : List (den E.Γ t)} {v : Value} (I : Inv C (s.fresh d (.tok t xs)) A' okS' tmps w') (h : RepCV w' okS' C.okP (s.fresh d (.tok t xs)).ob A' (.ref d (s.gen d) none) v) :
    ∃ ok2, Inv C (s.fresh d (.frz t xs)) A' ok2 tmps w' ∧ RepCV w' ok2 C.okP (s.fresh d (.frz t xs)).ob A' (.ref d (s.gen d) none) v := by
  obtain ⟨ok2, I2, K2, _⟩ := I.freeze d (s.gen d)
  rw [freeze_fresh] at I2 K2
  exact ⟨ok2, I2, K2.cv _ _ h⟩
theorem roomF_ok (I : Inv C s A okS tmps w) {n g : Nat} {t : Ty} {xs ys : List (den E.Γ t)} (hl : lk s.ob n = some (g, .frz t xs)) {b o cap : Nat} (hB : A.B n = some b) {cs : Array Value} {e : TypeId} (hw : w.heap[b]? = some (.cells cs e (0, 0)))
    (ho : cap = 0 ∨ o = A.O n) (hx : RowF E w okS t xs (fun k => w.cell? ⟨b, o + k, none⟩)) {news : List Value} (hy : RowF E w okS t ys (fun k => news[k]?)) (hm : news.length = ys.length * nc E t) (hcap : xs.length + ys.length ≤ cap) (hsp : o + cap * nc E t ≤ cs.size) {d : Nat} (hpn : ¬ pinned d) :
    ∃ A' okS', Inv C ((s.kill n g).fresh d (.frz t (xs ++ ys))) A' okS' tmps (w.setCells b (o + xs.length * nc E t) news) ∧
      RepCV (w.setCells b (o + xs.length * nc E t) news) okS' C.okP ((s.kill n g).fresh d (.frz t (xs ++ ys))).ob A' (.ref d ((s.kill n g).gen d) none) (.slice (some ⟨b, o, none⟩) (xs.length + ys.length) cap) := by
  have hown := I.own n g _ b hl rfl hB
  have hle : o + xs.length * nc E t + news.length ≤ cs.size := by
    have := Nat.mul_le_mul_right (nc E t) hcap
    rw [Nat.add_mul] at this
    omega
  have hw' := heap_setCells b e news (o + xs.length * nc E t) w _ hw
  have hbelow : ∀ k, okS b k → k < o + xs.length * nc E t ∨ news.length = 0 := by
    intro k hk
    have hlt : k < A.O n + xs.length * nc E t := by
      rcases Nat.lt_or_ge k (A.O n + xs.length * nc E t) with h | h
      · exact h
      · exact absurd hk (hown.1 k h)
    rcases ho with h0 | h0
    · right; rw [hm]; have : ys.length = 0 := by omega
      rw [this]; simp
    · left; omega
  have h1 := I.upd (n := n) (g := g) (o' := .gone) (A' := A) (okS' := okS) (w' := w.setCells b (o + xs.length * nc E t) news) (fun _ _ => ⟨rfl, rfl⟩) (fun _ => ⟨_, hl⟩) (fun h o' hl' => by rw [hl] at hl'; cases hl'; exact Nat.le_refl _)
    (by rw [size_setCells]; exact Nat.le_refl _) (os_setCells _ _ _ _).1 (os_setCells _ _ _ _).2.1 (os_setCells _ _ _ _).2.2
    (fun k _ hk => heap_setCells_ne b news _ w k fun e' => hk g _ hl rfl (e' ▸ hB)) (fun b' k hk hB' => by
      rw [hB] at hB'; cases hB'
      rw [cell?_of_heap hw', cell?_of_heap hw, layA_get _ _ _ _ hle]
      rcases hbelow k hk with h | h
      · rw [if_neg (by omega)]
      · rw [if_neg (by omega)]) (fun _ _ h => h) (fun k i hk => by rw [size_setCells]; exact I.okLt k i hk) I.okSub (fun b k h1 h2 => absurd h1 h2) (fun _ _ => trivial) (fun _ => trivial) (fun h => by cases h)
  obtain ⟨I1, K1⟩ := h1
  change Inv C (s.kill n g) A okS tmps _ at I1
  have hrow : RowF E (w.setCells b (o + xs.length * nc E t) news) okS t (xs ++ ys) (fun k => (layA cs (o + xs.length * nc E t) news)[o + k]?) := by
    refine ((hx.append hy).imp (fun x c h => K1.dat t x c h)).congr fun k hk => ?_
    rw [List.length_append, Nat.add_mul] at hk
    show (layA cs (o + xs.length * nc E t) news)[o + k]? = _
    rw [layA_get _ _ _ _ hle]
    by_cases h : k < xs.length * nc E t
    · simp only [h, if_true]
      rw [if_neg (by omega), cell?_of_heap hw]
    · simp only [h, if_false]
      rw [if_pos (by omega)]
      congr 1; omega
  have hdis : ∀ m h o', m ≠ d → lk (s.kill n g).ob m = some (h, o') → isLive o' = true → A.B m ≠ some b := by
    intro m h o' hm hl2 hlv2 hB2
    change lk (s.putOb n g .gone).ob m = _ at hl2
    rw [St.lk_putOb] at hl2
    by_cases hmn : m = n
    · subst hmn; simp only [if_true] at hl2; cases hl2; cases hlv2
    · simp only [hmn, if_false] at hl2
      exact hmn (I.inj m n h g o' _ b hl2 hl hlv2 rfl hB2 hB)
  have hlen0 : cap = 0 → (xs ++ ys).length = 0 := by intro h; rw [List.length_append]; omega
  have h2 := Inv.upd I1 (n := d) (g := (s.kill n g).gen d) (o' := .frz t (xs ++ ys)) (A' := A.at d (some b) (A.O n)) (okS' := fun b' k => okS b' k ∨ (b' = b ∧ A.O n ≤ k ∧ k < A.O n + (xs ++ ys).length * nc E t)) (w' := w.setCells b (o + xs.length * nc E t) news) (fun m hm => Asg.at_ne _ _ _ hm) (fun h => absurd h hpn) (fun h o hl => by rw [St.gen_gt hl]; omega)
    (Nat.le_refl _) rfl rfl rfl (fun _ _ _ => rfl) (fun _ _ _ _ => rfl) (fun _ _ h => .inl h) (fun b' k hk => hk.elim (I1.okLt b' k) fun h => by rw [h.1, size_setCells]; exact hown.2.2.1)
    (fun b' k hk => hk.elim (I1.okSub b' k) fun h => by rw [h.1]; exact .inr hown.2.2.2) (fun b' k h1 h2 m h o' hm hl2 hlv2 => h1.elim (fun h => absurd h h2) fun h => by rw [h.1]; exact hdis m _ o' hm hl2 hlv2) (fun o hl => by have := St.gen_gt hl; omega) (fun K => by
      unfold RepOb
      simp only [Asg.at_B]
      exact ⟨_, e, hw'⟩) (fun _ b' hb' => by
      simp at hb'; subst hb'
      refine ⟨fun k hk hh => ?_, hown.2.1, by rw [size_setCells]; exact hown.2.2.1, hown.2.2.2, hdis⟩
      simp only [lim, Asg.at_O] at hk
      rcases hh with hh | hh
      · rw [List.length_append, Nat.add_mul] at hk
        exact hown.1 k (by simp only [lim]; omega) hh
      · omega)
  have hkeep := h2.2
  refine ⟨_, _, h2.1, ⟨Known.put _ _ _ _, rfl⟩, fun t' xs' ho2 => ?_, fun t' xs' ho2 => ?_⟩
  · have := obj_put (s.kill n g) d ((s.kill n g).gen d) (.frz t (xs ++ ys))
    unfold St.fresh at ho2
    rw [this] at ho2; cases ho2
  · have := obj_put (s.kill n g) d ((s.kill n g).gen d) (.frz t (xs ++ ys))
    unfold St.fresh at ho2
    rw [this] at ho2; injection ho2 with ho2; injection ho2 with e1 e2; subst e1; cases e2
    constructor
    · have hd := RowF.data (E := E) (w := w.setCells b (o + xs.length * nc E t) news) (ok := fun b' k => okS b' k ∨ (b' = b ∧ A.O n ≤ k ∧ k < A.O n + (xs ++ ys).length * nc E t)) (b := b) (off := o) (cap := cap) (xs := xs ++ ys) (fun k hk => by
          rcases ho with h0 | h0
          · rw [hlen0 h0] at hk; simp at hk
          · exact .inr ⟨rfl, by omega, by omega⟩) (by rw [size_setCells]; exact hown.2.2.1) (by rw [List.length_append]; exact hcap) ((hrow.imp fun x c h => hkeep.dat t x c h).congr fun k _ => cell?_of_heap hw' _)
      rw [← List.length_append]
      exact hd
    · unfold RepRef
      simp only [Asg.at_B, Asg.at_O]
      exact ⟨o, cap, _, e, by simp [winLen], hw', by simp [winLo, winLen], by simpa [winLen] using hcap, by simpa [winLo] using ho, by rw [layA_size]; exact hsp⟩
theorem nil_ok (I : Inv C s A okS tmps w) {d : Nat} (hpn : ¬ pinned d) (t : Ty) : ∃ A' okS', Inv C (s.fresh d (.tok t [])) A' okS' tmps w ∧ RepCV w okS' C.okP (s.fresh d (.tok t [])).ob A' (.ref d (s.gen d) none) (.slice none 0 0) := by
  refine ⟨_, okS, (I.freshNil hpn t).1, ⟨Known.put _ _ _ _, rfl⟩, fun t' xs' ho => ?_, fun t' xs' ho => ?_⟩
  · have := obj_put s d (s.gen d) (.tok t [])
    unfold St.fresh at ho
    rw [this] at ho; injection ho with ho; injection ho with e1 e2; subst e1; cases e2
    unfold RepRef
    simp [winLen]
  · have := obj_put s d (s.gen d) (.tok t [])
    unfold St.fresh at ho
    rw [this] at ho; cases ho
theorem run_append_nil {T T' e e' : TypeId} {i : TypeInfo} (hu : P.underlying T = some (.slice e)) (hi : P.info? e = some i) {v : Value} {news : List Value} (hs : Src P i.size T' v 0 news w) (ty : TypeId) :
    (Builtin.append_ #[T, T'] ty #[.slice none 0 0, v]).run P w = .ok (.slice none 0 0) w := by
  rcases hs.kind with ⟨e', hk⟩ | hk <;> simp [Builtin.append_, run_underlying hu, run_underlying hk, sizeOf, typeInfo, hi, hs.len, hs.cells]
structure AppSrc (P : Program) (T T' : TypeId) (v : Value) (e : TypeId) (i : TypeInfo) (z : Value) (n : Nat) (news : List Value) (w : World) : Prop where
  newsLen : news.length = n * i.size
  nil : ∀ ty, n = 0 → (Builtin.append_ #[T, T'] ty #[.slice none 0 0, v]).run P w = .ok (.slice none 0 0) w
  room : ∀ ty b off sLen sCap, sLen + n ≤ sCap → (∀ j, j < news.length → (w.cell? ⟨b, off + sLen * i.size + j, none⟩).isSome = true) → (∀ j, j < news.length → w.frozen? ⟨b, off + sLen * i.size + j, none⟩ = false) →
    (Builtin.append_ #[T, T'] ty #[.slice (some ⟨b, off, none⟩) sLen sCap, v]).run P w = .ok (.slice (some ⟨b, off, none⟩) (sLen + n) sCap) (w.setCells b (off + sLen * i.size) news)
  grow : ∀ ty base sLen sCap olds, (Builtin.firstCells i.size sLen (.slice base sLen sCap)).run P w.drew = .ok olds.toArray w.drew → sCap < sLen + n → ((sLen + n : Nat) : Int) ≤ 9223372036854775807 → Builtin.nextslicecap (sLen + n) sCap * i.bytes ≤ 281474976710656 →
    (Builtin.append_ #[T, T'] ty #[.slice base sLen sCap, v]).run P w =
      .ok (.slice (some ⟨w.heap.size, 0, none⟩) (sLen + n) (grownCap w (sLen + n) sCap e)) (w.drew.alloc (.cells ((olds ++ news).toArray ++ Builtin.zeroCells z.cells (grownCap w (sLen + n) sCap e - (sLen + n))) e))
theorem AppSrc.ofSrc {T T' e : TypeId} {v : Value} {i : TypeInfo} {z : Value} {n : Nat} {news : List Value} (hu : P.underlying T = some (.slice e)) (hi : P.info? e = some i) (hz : i.zero = some z) (hs : Src P i.size T' v n news w) : AppSrc P T T' v e i z n news w where
  newsLen := hs.newsLen
  nil := fun ty hn => by subst hn; exact run_append_nil (e' := e) hu hi hs ty
  room := fun ty b off sLen sCap h1 h2 h3 => run_append_room_src w T T' ty e i hu hi b off sLen sCap v n news hs h1 h2 h3
  grow := fun ty base sLen sCap olds h0 h1 h2 h3 => run_append_grow_src w T T' ty e i z hu hi hz base sLen sCap olds h0 v n news hs h1 h2 h3
theorem AppSrc.zeros {T T' e : TypeId} {k : IntKind} {i : TypeInfo} {z : Value} {n : Int} {news : List Value} (hu : P.underlying T = some (.slice e)) (hk : P.underlying T' = some (.int k)) (hi : P.info? e = some i) (hz : i.zero = some z) (hzs : z.cells.size = i.size)
    (h0 : 0 ≤ n) (hr : n.toNat * i.bytes ≤ 70368744177664) (hn : n ≤ 70368744177664) (hnew : news = (Builtin.zeroCells z.cells n.toNat).toList) (h1 : ∀ u ∈ news, u.oneCell' = true) : AppSrc P T T' (.int .i64 n) e i z n.toNat news w := by
  obtain ⟨m, rfl⟩ := Int.eq_ofNat_of_zero_le h0
  rw [Int.toNat_natCast] at hr hnew ⊢
  have hw : IntKind.i64.wrap (m : Int) = (m : Int) := wrap_small _ (by omega) (by omega)
  have hb : ¬ (281474976710656 < ((m : Int) * (i.bytes : Int))) := by
    have h5 : ((m * i.bytes : Nat) : Int) = m * i.bytes := Int.natCast_mul _ _
    rw [← h5]; omega
  have hneg : ¬ ((m : Int) < 0) := by omega
  have hlen : news.length = m * i.size := by rw [hnew, Array.length_toList, zeroCells_size, hzs]
  have hti : ∀ w' : World, (typeInfo e).run P w' = .ok i w' := fun w' => by simp [typeInfo, hi]
  have hsz : ∀ w' : World, (sizeOf e).run P w' = .ok i.size w' := fun w' => by simp [sizeOf, typeInfo, hi]
  have hzv : ∀ w' : World, (zeroValue e).run P w' = .ok z w' := fun w' => by simp [zeroValue, typeInfo, hi, hz]
  have hzc : (Builtin.zeroCells z.cells m) = news.toArray := by rw [hnew]
  refine ⟨hlen, fun ty hn0 => ?_, fun ty b off sLen sCap g1 g2 g3 => ?_, fun ty base sLen sCap olds g0 g1 g2 g3 => ?_⟩
  · subst hn0
    have hw0 : IntKind.i64.wrap 0 = 0 := hw
    simp [Builtin.append_, run_underlying hu, run_underlying hk, hsz, hti, asInt, asIntOf, hw0]
  · have hst := run_storeCells_cells (P := P) b (off + sLen * i.size) news 0 w (by simpa using g2) (by simpa using g3) h1
    simp only [Nat.add_zero] at hst
    by_cases hz0 : m * i.size = 0
    · have hn0 : news = [] := List.eq_nil_of_length_eq_zero (by omega)
      subst hn0
      simp [Builtin.append_, run_underlying hu, run_underlying hk, hsz, hti, asInt, asIntOf, hw, hneg, hb, g1, hz0, Addr.add_lit] at hst ⊢
      rw [hst]; rfl
    · simp [Builtin.append_, run_underlying hu, run_underlying hk, hsz, hti, hzv, asInt, asIntOf, hw, hneg, hb, g1, hz0, hzc, Addr.add_lit, hst]
  · have hn' : ¬ (sLen + m ≤ sCap) := by omega
    have h63' : ¬ (9223372036854775807 < ((sLen : Int) + (m : Int))) := by omega
    have h48' : ¬ (281474976710656 < Builtin.nextslicecap (sLen + m) sCap * i.bytes) := by omega
    by_cases hz0 : m * i.size = 0
    · have hn0 : news = [] := List.eq_nil_of_length_eq_zero (by omega)
      subst hn0
      simp [Builtin.append_, run_underlying hu, run_underlying hk, hsz, hti, hzv, asInt, asIntOf, hw, hneg, hb, hn', h63', h48', Question.forced, g0, hz0, newRow, grownCap]
    · simp [Builtin.append_, run_underlying hu, run_underlying hk, hsz, hti, hzv, asInt, asIntOf, hw, hneg, hb, hn', h63', h48', Question.forced, g0, hz0, hzc, newRow, grownCap]
      congr 2
      apply Array.ext'
      simp [List.append_assoc]
theorem append_core (hE : EnvOk E) {M : Mach E} (hT : TysOk E P M.tys) (I : Inv C s A okS tmps w) {T T' : TypeId} {x y : CV E} {u v : Value} {c : CV E} {s' : St E} {d : Nat}
    (hx : RepCV w okS C.okP s.ob A x u) (hsrc0 : ∀ (e : TypeId) (t : Ty) (te : TI) (ys : List (den E.Γ t)) (i : TypeInfo) (z : Value), sliceTy M T = some (e, t, te) → content s t y = some ys → P.info? e = some i → i.zero = some z → i.bytes = te.bytes → i.size = nc E t → z.cells.size = i.size → roomy ys.length te.bytes = true →
      ∃ news : List Value, AppSrc P T T' v e i z ys.length news w ∧ RowF E w okS t ys (fun k => news[k]?)) (h : appendOp M s d T x y = some (.c c, true, s')) (hpn : ¬ pinned d) (ty : TypeId) :
    ∃ z w' A' okS', (Builtin.append_ #[T, T'] ty #[u, v]).run P w = .ok z w' ∧ Inv C s' A' okS' tmps w' ∧ RepCV w' okS' C.okP s'.ob A' c z := by
  unfold appendOp at h
  split at h
  · rename_i e t te hs
    obtain ⟨hu, hte, hty, hnc, hne, hun, hby, _⟩ := sliceTy_some hT hs
    obtain ⟨i, z, hi, hsz, hbb, hz, hzs, _, _⟩ := zeros_row hE hT hte hty hun okS w
    have hnz : nc E t = i.size := by rw [hnc, hsz]
    split at h
    · rename_i ys hcy
      have hroomy : roomy ys.length te.bytes = true := by
        have down : ∀ {n m : Nat}, roomy (m + n) te.bytes = true → roomy n te.bytes = true := by
          intro n m hr
          have hr := of_decide_eq_true hr
          exact decide_eq_true (Nat.le_trans (Nat.mul_le_mul_right _ (Nat.le_add_left _ _)) hr)
        split at h
        · injection h with h; injection h with h1 h2; injection h2
        · split at h
          · split at h
            · injection h with h; injection h with h1 h2; injection h2 with h2 _; exact down h2
            · cases h
          · split at h
            · injection h with h; injection h with h1 h2; injection h2 with h2 _; exact down h2
            · cases h
          · cases h
        · cases h
      obtain ⟨news, hsrc, hrowy⟩ := hsrc0 e t te ys i z hs hcy hi hz hbb hnz.symm (hzs.trans hnz) hroomy
      have hm := hsrc.newsLen
      rw [← hnz] at hm
      have fits : ∀ {len sCap : Nat}, roomy len te.bytes = true → sCap < len → ((len : Nat) : Int) ≤ 9223372036854775807 ∧ Builtin.nextslicecap len sCap * i.bytes ≤ 281474976710656 := by
        intro len sCap hr hlt
        have hroom : len * te.bytes ≤ 70368744177664 := of_decide_eq_true hr
        have h1 : len ≤ 70368744177664 := Nat.le_trans (Nat.le_mul_of_pos_right _ (Nat.pos_of_ne_zero hby)) hroom
        exact ⟨by omega, growslice_fits hlt (by rw [hbb]; omega)⟩
      split at h
      · injection h with h; injection h with h1 h2; injection h2 with h2 h3
        injection h1 with h1; subst h1; subst h3
        have hu' : u = .slice none 0 0 := hx
        subst hu'
        by_cases hy0 : ys.length = 0
        · have hys : ys = [] := List.eq_nil_of_length_eq_zero hy0
          subst hys
          obtain ⟨A', ok', g1, g2⟩ := nil_ok I hpn t
          exact ⟨_, w, A', ok', hsrc.nil ty rfl, g1, g2⟩
        · obtain ⟨f1, f2⟩ := fits (sCap := 0) h2 (by omega)
          have hrun := hsrc.grow ty none 0 0 [] (run_firstCells_none w.drew i.size 0 0 0) (by omega) (by simpa using f1) (by simpa using f2)
          rw [Nat.zero_add] at hrun
          obtain ⟨A', ok', g1, g2⟩ := grow_ok I hpn (xs := ([] : List (den E.Γ t))) (olds := []) (RowF.nil _) (by simp) hrowy hm e (cap := grownCap w ys.length 0 e) (by simpa using grownCap_ge w ys.length 0 e) (z := z.cells) hzs
          simp only [List.length_nil, Nat.zero_add, List.nil_append] at g1 g2 hrun
          exact ⟨_, _, A', ok', hrun, g1, g2⟩
      · rename_i n g win
        split at h
        · rename_i tt xs0 xs ho hcx
          split at h
          · rename_i hoth
            injection h with h; injection h with h1 h2; injection h2 with h2 h3
            injection h1 with h1; subst h1; subst h3
            have hl := lk_of_obj (ob := s.ob) ho
            have htt : tt = t := by
              simp only [content, St.look, ho, leafOf] at hcx
              split at hcx
              · rename_i h; injection h
              · cases hcx
            subst htt
            obtain ⟨I1, K1⟩ := I.kill hl
            have grown : ∀ (base : Option Addr) (sCap : Nat) (olds : List Value), u = .slice base xs.length sCap → RowF E w okS tt xs (fun k => olds[k]?) → olds.length = xs.length * nc E tt → (Builtin.firstCells i.size xs.length u).run P w.drew = .ok olds.toArray w.drew → sCap < xs.length + ys.length →
                ∃ z w' A' okS', (Builtin.append_ #[T, T'] ty #[u, v]).run P w = .ok z w' ∧ Inv C ((s.kill n g).fresh d (.tok tt (xs ++ ys))) A' okS' tmps w' ∧ RepCV w' okS' C.okP ((s.kill n g).fresh d (.tok tt (xs ++ ys))).ob A' (.ref d ((s.kill n g).gen d) none) z := by
              intro base sCap olds hu' hrx holen hfc hlt
              obtain ⟨f1, f2⟩ := fits h2 hlt
              subst hu'
              have hrun := hsrc.grow ty base xs.length sCap olds hfc hlt f1 f2
              obtain ⟨A', ok', g1, g2⟩ := grow_ok I1 hpn hrx holen hrowy hm e (cap := grownCap w (xs.length + ys.length) sCap e) (grownCap_ge w _ _ e) (z := z.cells) hzs
              exact ⟨_, _, A', ok', hrun, g1, g2⟩
            rcases content_rows_ref I hx hcx with ⟨hv, hx0⟩ | ⟨b, o, cap, hv, hcap, hrx⟩
            · by_cases hy0 : ys.length = 0
              · have hys : ys = [] := List.eq_nil_of_length_eq_zero hy0
                subst hys; subst hx0; subst hv
                obtain ⟨A', ok', g1, g2⟩ := nil_ok I1 hpn tt
                exact ⟨_, w, A', ok', hsrc.nil ty rfl, g1, g2⟩
              · subst hx0
                exact grown none 0 [] hv (RowF.nil _) (by simp) (by rw [hv]; exact run_firstCells_none w.drew i.size _ 0 0) (by simp; omega)
            · by_cases hroom : xs.length + ys.length ≤ cap
              · have hr := hx.2.1 tt xs0 ho
                unfold RepRef at hr
                cases hB : A.B n with
                | none => simp only [hB] at hr; rw [hr.1] at hv; cases hv
                | some b' =>
                  simp only [hB] at hr
                  obtain ⟨o', cap', cs, ec, hv', hw, hwin, hcap', ho', hsp⟩ := hr
                  rw [hv] at hv'
                  injection hv' with e1 e2 e3
                  injection e1 with e1; injection e1 with e1 e4
                  subst e1; subst e3; subst e4
                  obtain ⟨A', ok', g1, g2⟩ := room_ok I hl hB hw hrx hrowy hm hroom hsp hpn
                  have hstep : ∀ j, j < news.length → o + xs.length * i.size + j < cs.size := by
                    intro j hj
                    have := Nat.mul_le_mul_right (nc E tt) hroom
                    rw [Nat.add_mul] at this
                    rw [← hnz]; omega
                  have hrun := hsrc.room ty b o xs.length cap hroom (fun j hj => by
                    rw [cell?_of_heap hw, Array.getElem?_eq_getElem (hstep j hj)]; rfl) (fun j hj => frozen_of_row w b _ cs ec hw)
                  rw [← hnz] at hrun
                  rw [← hv] at hrun
                  exact ⟨_, _, A', ok', hrun, g1, g2⟩
              · obtain ⟨l, l1, l2, l3⟩ := hrx.list
                refine grown _ cap l hv (hrx.congr fun k hk => (l2 k (by omega)).symm) l1 ?_ (by omega)
                rw [hv]
                refine run_firstCells_some w.drew i.size xs.length ⟨b, o, none⟩ xs.length cap l (by rw [l1, hnz]) fun j u hu => ?_
                have hj : j < l.length := by
                  rcases Nat.lt_or_ge j l.length with h | h
                  · exact h
                  · rw [List.getElem?_eq_none h] at hu; cases hu
                have := l2 j hj
                rw [hu] at this
                rw [add_plain]
                show w.cell? ⟨b, o + j, none⟩ = _
                exact this
          · cases h
        · rename_i tt xs0 xs ho hcx
          split at h
          · rename_i hoth
            injection h with h; injection h with h1 h2; injection h2 with h2 h3
            injection h1 with h1; subst h1; subst h3
            have hl := lk_of_obj (ob := s.ob) ho
            have hwn : win = none := by
              simp only [Bool.and_eq_true, Option.isNone_iff_eq_none] at hoth
              exact hoth.2
            subst hwn
            obtain ⟨htt, hxx⟩ : tt = t ∧ HEq xs0 xs := by
              simp only [content, St.look, ho, leafOf] at hcx
              split at hcx
              · rename_i h
                injection h with h
                subst h
                injection hcx with hcx
                exact ⟨rfl, heq_of_eq hcx⟩
              · cases hcx
            subst htt
            have hxx := eq_of_heq hxx
            subst hxx
            obtain ⟨I1, K1⟩ := I.kill hl
            have grown : ∀ (base : Option Addr) (sCap : Nat) (olds : List Value), u = .slice base xs0.length sCap → RowF E w okS tt xs0 (fun k => olds[k]?) → olds.length = xs0.length * nc E tt → (Builtin.firstCells i.size xs0.length u).run P w.drew = .ok olds.toArray w.drew → sCap < xs0.length + ys.length →
                ∃ z w' A' okS', (Builtin.append_ #[T, T'] ty #[u, v]).run P w = .ok z w' ∧ Inv C ((s.kill n g).fresh d (.frz tt (xs0 ++ ys))) A' okS' tmps w' ∧ RepCV w' okS' C.okP ((s.kill n g).fresh d (.frz tt (xs0 ++ ys))).ob A' (.ref d ((s.kill n g).gen d) none) z := by
              intro base sCap olds hu' hrx holen hfc hlt
              obtain ⟨f1, f2⟩ := fits h2 hlt
              subst hu'
              have hrun := hsrc.grow ty base xs0.length sCap olds hfc hlt f1 f2
              obtain ⟨A', ok', g1, g2⟩ := grow_ok I1 hpn hrx holen hrowy hm e (cap := grownCap w (xs0.length + ys.length) sCap e) (grownCap_ge w _ _ e) (z := z.cells) hzs
              obtain ⟨ok2, g3, g4⟩ := frozen_ok g1 g2
              exact ⟨_, _, A', ok2, hrun, g3, g4⟩
            have hrr := (hx.2.2 tt xs0 ho).2
            rcases content_rows_ref I hx hcx with ⟨hv, hx0⟩ | ⟨b, o, cap, hv, hcap, hrx⟩
            · by_cases hy0 : ys.length = 0
              · have hys : ys = [] := List.eq_nil_of_length_eq_zero hy0
                subst hys; subst hx0; subst hv
                obtain ⟨A', ok', g1, g2⟩ := nil_ok I1 hpn tt
                obtain ⟨ok2, g3, g4⟩ := frozen_ok g1 g2
                exact ⟨_, w, A', ok2, hsrc.nil ty rfl, g3, g4⟩
              · subst hx0
                exact grown none 0 [] hv (RowF.nil _) (by simp) (by rw [hv]; exact run_firstCells_none w.drew i.size _ 0 0) (by simp; omega)
            · by_cases hroom : xs0.length + ys.length ≤ cap
              · unfold RepRef at hrr
                cases hB : A.B n with
                | none => simp only [hB] at hrr; rw [hrr.1] at hv; cases hv
                | some b' =>
                  simp only [hB] at hrr
                  obtain ⟨o', cap', cs, ec, hv', hw, hwin, hcap', ho', hsp⟩ := hrr
                  rw [hv] at hv'
                  injection hv' with e1 e2 e3
                  injection e1 with e1; injection e1 with e1 e4
                  subst e1; subst e3; subst e4
                  obtain ⟨A', ok', g1, g2⟩ := roomF_ok I hl hB hw (by simpa [winLo] using ho') hrx hrowy hm hroom hsp hpn
                  have hstep : ∀ j, j < news.length → o + xs0.length * i.size + j < cs.size := by
                    intro j hj
                    have := Nat.mul_le_mul_right (nc E tt) hroom
                    rw [Nat.add_mul] at this
                    rw [← hnz]; omega
                  have hrun := hsrc.room ty b o xs0.length cap hroom (fun j hj => by
                    rw [cell?_of_heap hw, Array.getElem?_eq_getElem (hstep j hj)]; rfl) (fun j hj => frozen_of_row w b _ cs ec hw)
                  rw [← hnz] at hrun
                  rw [← hv] at hrun
                  exact ⟨_, _, A', ok', hrun, g1, g2⟩
              · obtain ⟨l, l1, l2, l3⟩ := hrx.list
                refine grown _ cap l hv (hrx.congr fun k hk => (l2 k (by omega)).symm) l1 ?_ (by omega)
                rw [hv]
                refine run_firstCells_some w.drew i.size xs0.length ⟨b, o, none⟩ xs0.length cap l (by rw [l1, hnz]) fun j u hu => ?_
                have hj : j < l.length := by
                  rcases Nat.lt_or_ge j l.length with h | h
                  · exact h
                  · rw [List.getElem?_eq_none h] at hu; cases hu
                have := l2 j hj
                rw [hu] at this
                rw [add_plain]
                show w.cell? ⟨b, o + j, none⟩ = _
                exact this
          · cases h
        · cases h
      · cases h
    · cases h
  · cases h
theorem append_ok (hE : EnvOk E) {M : Mach E} (hT : TysOk E P M.tys) (I : Inv C s A okS tmps w) {T T' e' : TypeId} {x y : CV E} {u v : Value} {c : CV E} {s' : St E} {d : Nat} (hT' : P.underlying T' = some (.slice e'))
    (hx : RepCV w okS C.okP s.ob A x u) (hy : RepCV w okS C.okP s.ob A y v) (h : appendOp M s d T x y = some (.c c, true, s')) (hpn : ¬ pinned d) (ty : TypeId) :
    ∃ z w' A' okS', (Builtin.append_ #[T, T'] ty #[u, v]).run P w = .ok z w' ∧ Inv C s' A' okS' tmps w' ∧ RepCV w' okS' C.okP s'.ob A' c z :=
  append_core hE hT I hx (fun e t te ys i z hs hc hi hz hb hnz _ _ => by
    obtain ⟨news, hsrc, hrow⟩ := src_ok (P := P) I hy hc hT'
    rw [← hnz] at hsrc
    exact ⟨news, .ofSrc (sliceTy_some hT hs).1 hi hz hsrc, hrow⟩) h hpn ty
theorem zeros_ok (hE : EnvOk E) {M : Mach E} (hT : TysOk E P M.tys) (I : Inv C s A okS tmps w) {T T' : TypeId} {k : IntKind} {x y : CV E} {u v : Value} {c : CV E} {s' : St E} {d : Nat} (hT' : P.underlying T' = some (.int k))
    (hx : RepCV w okS C.okP s.ob A x u) (hy : RepCV w okS C.okP s.ob A y v) (h : zerosOp M s d T x y = some (.c c, true, s')) (hpn : ¬ pinned d) (ty : TypeId) :
    ∃ z w' A' okS', (Builtin.append_ #[T, T'] ty #[u, v]).run P w = .ok z w' ∧ Inv C s' A' okS' tmps w' ∧ RepCV w' okS' C.okP s'.ob A' c z := by
  unfold zerosOp at h
  split at h
  · rename_i n e0 t0 te0 hs0
    split at h
    · rename_i v0 c0 s0 ha
      injection h with h; injection h with h1 h2; injection h2 with h2 h3; subst h1; subst h3
      simp only [Bool.and_eq_true, decide_eq_true_eq] at h2
      obtain ⟨hn0, h2⟩ := h2
      subst h2
      have hv : v = .int .i64 n := leaf_int hy
      subst hv
      refine append_core hE hT I hx (fun e t te ys i z hs hc hi hz hb hnz hzs hr => ?_) ha hpn ty
      rw [hs0] at hs
      injection hs with hs; injection hs with e1 hs; injection hs with e2 e3
      subst e1; subst e2; subst e3
      obtain ⟨hu, hte, hty, hnc, hne, hun, hby, _⟩ := sliceTy_some hT hs0
      have hys : ys = List.replicate n.toNat (dflt E t0) := by
        simp only [content, St.look, leafOf, dif_pos] at hc
        injection hc with hc
        exact hc.symm
      subst hys
      rw [List.length_replicate] at hr ⊢
      have hr := of_decide_eq_true hr
      have hn1 : n.toNat ≤ 70368744177664 := Nat.le_trans (Nat.le_mul_of_pos_right _ (Nat.pos_of_ne_zero hby)) hr
      obtain ⟨i', z', hi', hsz', hbb', hz', hzs', _, hrow⟩ := zeros_row hE hT hte hty hun okS w
      rw [hi] at hi'; injection hi' with hi'; subst hi'
      rw [hz] at hz'; injection hz' with hz'; subst hz'
      have hrow := (hrow n.toNat).resolve_right (by rw [hnc]; exact hne)
      obtain ⟨l, l1, l2, l3⟩ := hrow.list
      have hl : l = (Builtin.zeroCells z.cells n.toNat).toList := by
        apply List.ext_getElem?
        intro q
        by_cases hq : q < l.length
        · rw [← l2 q hq]
          have : q < n.toNat * z.cells.size := by
            rw [l1, List.length_replicate, ← hnz, ← hzs] at hq; exact hq
          rw [Array.getElem?_toList]
          simp [Builtin.zeroCells, this]
        · rw [List.getElem?_eq_none (by omega), List.getElem?_eq_none]
          rw [Array.length_toList, zeroCells_size, hzs, hnz]
          rw [l1, List.length_replicate] at hq
          omega
      refine ⟨l, .zeros hu hT' hi hz hzs hn0 (by rw [hb]; exact hr) (by omega) hl l3, hrow.congr fun q hq => ?_⟩
      exact (l2 q (by rw [l1]; exact hq)).symm
    · cases h
  · cases h
end
end Go.Proofs.AM

namespace Go.Proofs.AM
open Go Go.RowKit
variable {E : Env}
def cellsOf (s0 : St E) (ch : Chain) (parts : List (Nat × Operand)) : List (CV E) := parts.flatMap fun p => (svCells (ev s0 ch p.2)).getD []
theorem frzList_append : ∀ (a b : List (CV E)) (s : St E), frzList s (a ++ b) = frzList (frzList s a) b
  | [], _, _ => rfl
  | c :: a, b, s => by
    cases c with
    | ref n g w => exact frzList_append a b (s.freeze n g)
    | _ => exact frzList_append a b s
theorem frzOps_eq (s0 : St E) (ch : Chain) : ∀ (parts : List (Nat × Operand)) (s : St E), frzOps s0 ch s parts = frzList s (cellsOf s0 ch parts)
  | [], s => rfl
  | (i, x) :: r, s => by
    simp only [frzOps, cellsOf, List.flatMap_cons]
    rw [frzList_append]
    split
    · rename_i v hv; rw [frzOps_eq s0 ch r]; simp [hv, cellsOf]
    · rename_i hv; rw [frzOps_eq s0 ch r]; simp [hv, cellsOf, frzList]
section
variable {P : Program} {C : FC} {s : St E} {A : Asg} {okS : Nat → Nat → Prop} {a : Act} {w : World}
theorem elems_ok' (hE : EnvOk E) (I : Inv C s A okS a.tmps w) {ch : Chain} (hch : ∀ q b, inChain ch q b = true → a.tmps.getD q undef = .bool b) {t : Ty} {ok2 : Nat → Nat → Prop} {size : Nat} (hsz : nc E t = size) :
    ∀ (parts : List (Nat × Operand)) (xs ys : List (den E.Γ t)) (cells : Array Value), (∀ c v, c ∈ cellsOf s ch parts → RepCV w okS C.okP s.ob A c v → RepL E w ok2 (s.look c) v) → RowF E w ok2 t xs (fun k => cells[k]?) → cells.size = xs.length * nc E t →
      elems E t s ch xs parts = some ys → ∃ out, Instr.fill (fun i => some (i * size, size)) cells (parts.map fun p => (p.1, a.eval p.2)) = some out ∧ RowF E w ok2 t ys (fun k => out[k]?) ∧ out.size = ys.length * nc E t ∧ ys.length = xs.length
  | [], xs, ys, cells, hL, hr, hs, h => by simp [elems] at h; subst h; exact ⟨cells, rfl, hr, hs, rfl⟩
  | (i, x) :: parts, xs, ys, cells, hL, hr, hs, h => by
    simp only [elems] at h
    split at h
    · rename_i v hv
      split at h
      · rename_i y hy
        split at h
        · rename_i hi
          have hrep := svCells_rep (ev_rep I hch x) hv
          have hin : ∀ c ∈ v, c ∈ cellsOf s ch ((i, x) :: parts) := fun c hc => by simp [cellsOf, hv, hc]
          have hd : RepD E w ok2 t y (a.eval x).cells.toList := pack_rep t ((hrep.imp_mem fun c u hc hr => hL c u (hin c hc) hr).map_left (R := RepL E w ok2) s.look) hy
          have hlen := hd.len hE
          have hle : i * nc E t + nc E t ≤ cells.size := by
            rw [hs]
            have := Nat.mul_le_mul_right (nc E t) (show i + 1 ≤ xs.length from hi)
            rw [Nat.succ_mul] at this; exact this
          have hset := (hr.set i hlen hd)
          obtain ⟨out, h1, h2, h3, h4⟩ := elems_ok' hE I hch hsz parts (xs.set i y) ys (layA cells (i * nc E t) (a.eval x).cells.toList) (fun c u hc hr => hL c u (by
            simp only [cellsOf, List.flatMap_cons, List.mem_append]; exact .inr hc) hr) (hset.congr fun k hk => by
              rw [layA_get _ _ _ _ (by omega), hlen]) (by rw [layA_size, hs]; simp) h
          refine ⟨out, ?_, h2, h3, by simpa using h4⟩
          rw [List.map_cons, fill_step (fun i => some (i * size, size)) cells i (i * nc E t) (nc E t) _ _ (by rw [hsz]) hlen hle]
          exact h1
        · cases h
      · cases h
    · cases h
theorem Inv.immAlloc {tmps : Array Value} (I : Inv C s A okS tmps w) (cs : Array Value) (e : TypeId) :
    Inv C s A (fun b k => okS b k ∨ b = w.heap.size) tmps (w.alloc (.cells cs e)) ∧ Keeps C.okP s.ob A okS w s.ob A (fun b k => okS b k ∨ b = w.heap.size) (w.alloc (.cells cs e)) := by
  have hal : ∀ b, b < w.heap.size → (w.alloc (.cells cs e)).heap[b]? = w.heap[b]? := fun b hb => Below.heap_alloc _ _ _ hb
  have car : Car C.okP s.ob A okS w s.ob A (fun b k => okS b k ∨ b = w.heap.size) (w.alloc (.cells cs e)) :=
    ⟨by simp, fun b k h => .inl h, fun b k hb => World.cell?_of_block (hal b (I.okLt b k hb)), fun b hb _ => hal b hb, fun n h o hl => ⟨h, o, hl, Nat.le_refl _⟩, fun n g cs' _ ho => ⟨cs', ho, rfl⟩,
      fun n g t xs' _ ho => ⟨xs', ho, rfl, rfl, rfl, fun b cs e _ hc => ⟨cs, by rw [hal b (heap_lt hc)]; exact hc, rfl⟩⟩, fun n g t xs _ ho => ⟨.inl ho, rfl, rfl, fun b cs e _ hc => ⟨cs, by rw [hal b (heap_lt hc)]; exact hc, rfl⟩⟩⟩
  refine ⟨I.next car rfl rfl rfl rfl rfl (fun b hb _ => hal b (Nat.lt_of_lt_of_le hb I.size)) (fun b k hb => ?_) (fun b k hb => ?_) (fun n g o hl => ?_) (fun n g o b hl hlv hB => ?_) I.inj (fun n g o hp hl => ⟨(I.pin n g o hp hl).1, (I.pin n g o hp hl).2.block hal⟩), car.keeps I.okLt⟩
  · rcases hb with hb | hb
    · exact Nat.lt_of_lt_of_le (I.okLt b k hb) (by simp)
    · subst hb; simp
  · rcases hb with hb | hb
    · exact I.okSub b k hb
    · subst hb; exact .inr (.inl I.size)
  · exact (I.obj n g o hl).car car I.okLt rfl rfl fun b hB hlv => hal b (I.own n g o b hl hlv hB).2.2.1
  · obtain ⟨a1, a2, a3, a4⟩ := I.own n g o b hl hlv hB
    refine ⟨fun k hk h => h.elim (a1 k hk) fun h => ?_, a2, Nat.lt_of_lt_of_le a3 (by simp), a4⟩
    omega
theorem run_buildSlice_of {T e : TypeId} (hu : P.underlying T = some (.slice e)) {i : TypeInfo} {z : Value} (hi : P.info? e = some i) (hz : i.zero = some z) (hne : i.size ≠ 0) {len : Nat} (hsm : len * i.size ≤ 4096) {parts : Array (Nat × Value)} {out : Array Value}
    (hf : Instr.fill (fun k => some (k * i.size, i.size)) ((Array.range (len * i.size)).map (z.cells[· % z.cells.size]!)) parts.toList = some out) (hp : len = 0 → parts.toList = []) (w : World) :
    (Instr.buildSlice T len parts).run P w = .ok (.slice (some ⟨w.heap.size, 0, none⟩) len len) (w.alloc (.cells out e)) := by
  by_cases h0 : len * i.size = 0
  · have hl : len = 0 := by
      rcases Nat.mul_eq_zero.1 h0 with h | h
      · exact h
      · exact absurd h hne
    subst hl
    have hp' := hp rfl
    rw [hp'] at hf
    simp only [Nat.zero_mul] at hf
    have hr : Array.range 0 = #[] := rfl
    rw [hr] at hf
    simp only [Array.map_empty, Instr.fill] at hf
    injection hf with hf
    simp [Instr.buildSlice, run_underlying hu, sizeOf, typeInfo, hi, hp', hr, Instr.fill, newRow, hf]
  · exact run_buildSlice w T e len parts out i z hu hi hz (by
      have : (2 : Nat) ^ 24 = 16777216 := by decide
      omega) h0 hf
theorem buildSlice_ok (hE : EnvOk E) {M : Mach E} (hT : TysOk E P M.tys) (I : Inv C s A okS a.tmps w) {ch : Chain} (hch : ∀ q b, inChain ch q b = true → a.tmps.getD q undef = .bool b) {T e : TypeId} {te : Ty} {ti : TI} (hs : sliceTy M T = some (e, te, ti))
    {len : Nat} {parts : Array (Nat × Operand)} {xs : List (den E.Γ te)} (hsm : len * ti.size ≤ 4096) (h : elems E te s ch (List.replicate len (dflt E te)) parts.toList = some xs) {d : Nat} (hpn : ¬ pinned d) :
    (∃ v w' A' okS', (Instr.buildSlice T len (parts.map fun (i, x) => (i, a.eval x))).run P w = .ok v w' ∧ Inv C ((frzOps s ch s parts.toList).fresh d (.tok te xs)) A' okS' a.tmps w' ∧
      RepCV w' okS' C.okP ((frzOps s ch s parts.toList).fresh d (.tok te xs)).ob A' (.ref d ((frzOps s ch s parts.toList).gen d) none) v) ∧
    (∃ v w' A' okS', (Instr.buildSlice T len (parts.map fun (i, x) => (i, a.eval x))).run P w = .ok v w' ∧ Inv C (frzOps s ch s parts.toList) A' okS' a.tmps w' ∧
      RepCV w' okS' C.okP (frzOps s ch s parts.toList).ob A' (.leaf (.slice te) xs) v) := by
  obtain ⟨hu, hte, hty, hnc, hne, hun, hby, _⟩ := sliceTy_some hT hs
  obtain ⟨ok2, I2, K2, L2, E2⟩ := I.frzList (cellsOf s ch parts.toList)
  rw [frzOps_eq]
  obtain ⟨i, z, hi, hsz, hbb, hz, hzs, _, hrow⟩ := zeros_row hE hT hte hty hun ok2 w
  have hpos : nc E te ≠ 0 := by rw [hnc]; exact hne
  have hrow0 := ((hrow len).resolve_right hpos).congr (g' := fun k => ((Array.range (len * i.size)).map (z.cells[· % z.cells.size]!))[k]?) (fun k hk => by
    simp only [List.length_replicate] at hk
    have hlt : k < len * i.size := by rw [hsz, ← hnc]; exact hk
    show ((Array.range (len * i.size)).map (z.cells[· % z.cells.size]!))[k]? = _
    rw [Array.getElem?_map, Array.getElem?_range, if_pos hlt]; rfl)
  obtain ⟨out, h1, h2, h3, h4⟩ := elems_ok' hE I hch (size := i.size) (by rw [hnc, hsz]) parts.toList _ xs _ L2 hrow0 (by simp [hsz, hnc]) h
  have h4' : xs.length = len := by simpa using h4
  have hrun := run_buildSlice_of (P := P) hu hi hz (by rw [hsz]; exact hne) (by rw [hsz]; exact hsm) (parts := parts.map fun (i, x) => (i, a.eval x)) (out := out) (by
    rw [show (parts.map fun (i, x) => (i, a.eval x)).toList = parts.toList.map fun p => (p.1, a.eval p.2) by simp]; exact h1) (fun hl => by
      subst hl
      cases hpl : parts.toList with
      | nil => simp [hpl]
      | cons p r =>
        rw [hpl] at h
        obtain ⟨i', x'⟩ := p
        simp only [elems] at h
        split at h
        · split at h
          · simp at h
          · cases h
        · cases h) w
  constructor
  · have hn := newTok_ok I2 hpn e (xs := xs) (cs := out) h2 (cap := len) (by omega) (by rw [h3, h4']; exact Nat.le_refl _)
    rw [h4'] at hn
    exact ⟨_, _, _, ok2, hrun, hn.1, hn.2⟩
  · obtain ⟨I3, K3⟩ := I2.immAlloc out e
    refine ⟨_, _, A, _, hrun, I3, ?_⟩
    have hd := RowF.data (E := E) (w := w.alloc (.cells out e)) (ok := fun b k => ok2 b k ∨ b = w.heap.size) (b := w.heap.size) (off := 0) (cap := len) (xs := xs) (fun _ _ => .inr rfl) (by simp) (by omega) ((h2.imp fun x c h => K3.dat te x c h).congr fun k _ => by
      show (w.alloc (.cells out e)).cell? ⟨w.heap.size, 0 + k, none⟩ = _
      rw [cell?_of_heap (heap_alloc_new w _)]; simp)
    rw [h4'] at hd
    exact hd
theorem copy_ok {M : Mach E} (hT : TysOk E P M.tys) {tmps : Array Value} (I : Inv C s A okS tmps w) {T e : TypeId} {te : Ty} {ti : TI} (hs : sliceTy M T = some (e, te, ti)) {n g : Nat} {win : Option (Nat × Nat)} {u v : Value} {y : CV E} {xs ys : List (den E.Γ te)}
    (hx : RepCV w okS C.okP s.ob A (.ref n g win) u) (ho : s.obj n g = some (.tok te xs)) (hy : RepCV w okS C.okP s.ob A y v) (hc : content s te y = some ys) (ty : TypeId) (more : List TypeId) :
    ∃ w' A' okS', (Builtin.copy_ (T :: more).toArray ty #[u, v]).run P w = .ok (.int .i64 (min ys.length (winLen xs.length win) : Nat)) w' ∧
      Inv C (s.putOb n g (.tok te (splice xs (winLo win) (ys.take (min ys.length (winLen xs.length win)))))) A' okS' tmps w' := by
  obtain ⟨hu, hte, hty, hnc, hne, hun, hby, _⟩ := sliceTy_some hT hs
  have hsz : (sizeOf e).run P w = .ok (nc E te) w := by rw [hnc]; exact run_sizeOf_of (hT e ti hte) w
  have hpos : 0 < nc E te := by rw [hnc]; exact Nat.pos_of_ne_zero hne
  obtain ⟨zs, hz1, hlen, hfc, hone, hrow⟩ : ∃ zs : List Value, zs.length = min ys.length (winLen xs.length win) * nc E te ∧ (∀ w' : World, (Builtin.lenOf v).run P w' = .ok ys.length w') ∧
      (Builtin.firstCells (nc E te) (min ys.length (winLen xs.length win)) v).run P w = .ok zs.toArray w ∧ (∀ u ∈ zs, u.oneCell' = true) ∧ RowF E w okS te (ys.take (min ys.length (winLen xs.length win))) (fun k => zs[k]?) := by
    rcases content_rows I hy hc with ⟨p, hv, hy0⟩ | ⟨b, off, cap, hv, hcap, hrow⟩
    · subst hy0; subst hv
      refine ⟨[], by simp, fun _ => rfl, ?_, (fun _ h => by cases h), ?_⟩
      · cases p with
        | none => exact run_firstCells_none w _ _ _ _
        | some a => exact run_firstCells_some w _ _ a 0 0 [] (by simp) fun j u hu => by simp at hu
      rw [List.take_nil]; exact RowF.nil _
    · obtain ⟨l, l1, l2, l3⟩ := hrow.list
      have hml : min ys.length (winLen xs.length win) * nc E te ≤ l.length := by rw [l1]; exact Nat.mul_le_mul_right _ (Nat.min_le_left _ _)
      refine ⟨l.take (min ys.length (winLen xs.length win) * nc E te), by rw [List.length_take, Nat.min_eq_left hml], fun w' => by subst hv; rfl, ?_, fun u hu => l3 u (List.mem_of_mem_take hu), ?_⟩
      · subst hv
        refine run_firstCells_some w _ _ ⟨b, off, none⟩ ys.length cap _ (by rw [List.length_take, Nat.min_eq_left hml]) fun j u hu => ?_
        have hj : j < l.length := by
          rcases Nat.lt_or_ge j l.length with h | h
          · exact h
          · rw [List.getElem?_eq_none (by rw [List.length_take]; omega)] at hu; cases hu
        rw [List.getElem?_take] at hu
        split at hu
        · rw [add_plain, l2 j hj, hu]
        · cases hu
      · have := hrow.window 0 (min ys.length (winLen xs.length win)) (by rw [Nat.zero_add]; exact Nat.min_le_left _ _)
        simp only [List.drop_zero] at this
        refine this.congr fun k hk => ?_
        rw [List.length_take, Nat.min_eq_left (Nat.min_le_left _ _)] at hk
        show (l.take _)[k]? = w.cell? ⟨b, off + (0 * nc E te + k), none⟩
        rw [List.getElem?_take, if_pos hk, ← l2 k (by omega)]
        simp
  generalize hm : min ys.length (winLen xs.length win) = m at *
  have hmw : m ≤ winLen xs.length win := by rw [← hm]; exact Nat.min_le_right _ _
  have hym : (ys.take m).length = m := by rw [List.length_take, ← hm]; exact Nat.min_eq_left (Nat.min_le_left _ _)
  have hl := lk_of_obj (ob := s.ob) ho
  have hr := hx.2.1 te xs ho
  have hob := I.obj n g _ hl
  unfold RepRef at hr
  cases hB : A.B n with
  | none =>
    unfold RepOb at hob
    simp only [hB] at hr hob
    obtain ⟨hv, hw0⟩ := hr
    subst hv; subst hob
    have hm0 : m = 0 := by rw [hw0] at hmw; omega
    subst hm0
    have hzs : zs = [] := List.eq_nil_of_length_eq_zero (by simpa using hz1)
    subst hzs
    have hsp : splice ([] : List (den E.Γ te)) (winLo win) (ys.take 0) = [] := by simp [splice]
    rw [hsp]
    refine ⟨w, A, okS, ?_, ?_⟩
    · rw [hw0] at hm
      simp [Builtin.copy_, run_underlying hu, hlen, hsz, goInt]
      simp [hfc]
    · exact (I.upd (A' := A) (okS' := okS) (w' := w) (g := g) (o' := .tok te []) (fun _ _ => ⟨rfl, rfl⟩) (fun _ => ⟨_, hl⟩) (fun h o hl' => by rw [hl] at hl'; cases hl'; exact Nat.le_refl _) (Nat.le_refl _) rfl rfl rfl (fun _ _ _ => rfl) (fun _ _ _ _ => rfl) (fun _ _ h => h) I.okLt I.okSub
        (fun b k h1 h2 => absurd h1 h2) (fun o hl' => by rw [hl] at hl'; cases hl'; exact ⟨[], rfl, rfl, rfl, rfl, fun b cs e hB' _ => by rw [hB] at hB'; cases hB'⟩) (fun K => by unfold RepOb; simp only [hB]) (fun _ b hb => by rw [hB] at hb; cases hb)).1
  | some b =>
    unfold RepOb at hob
    simp only [hB] at hr hob
    obtain ⟨o, cap, cs, ec, hv, hw, hwin, hcap, ho', hsp⟩ := hr
    obtain ⟨cs', e', hw2, hrx⟩ := hob
    rw [hw] at hw2; injection hw2 with hw2; injection hw2 with e1 e2; subst e1; subst e2
    subst hv
    have hle : o + zs.length ≤ cs.size := by
      rw [hz1]
      have := Nat.mul_le_mul_right (nc E te) (Nat.le_trans hmw hcap)
      omega
    have hst := run_storeCells_cells (P := P) b o zs 0 w (fun j hj => by
      rw [cell?_of_heap hw, Array.getElem?_eq_getElem (by omega)]; rfl) (fun j hj => frozen_of_row w b _ cs ec hw) hone
    rw [Nat.add_zero] at hst
    refine ⟨w.setCells b o zs, A, okS, ?_, ?_⟩
    · have hm' : Nat.min ys.length (winLen xs.length win) = m := hm
      simp [Builtin.copy_, run_underlying hu, hlen, hsz, goInt, hm', hfc, hst]
    · have hlo : zs.length = 0 ∨ o = A.O n + winLo win * nc E te := by
        rcases ho' with h0 | h0
        · left; rw [hz1]; have : m = 0 := by omega
          rw [this]; simp
        · exact .inr h0
      have hw' := heap_setCells b ec zs o w _ hw
      have hslen : (splice xs (winLo win) (ys.take m)).length = xs.length := splice_length _ _ _ (by rw [hym]; omega)
      refine (I.write (o' := .tok te (splice xs (winLo win) (ys.take m))) hl rfl rfl hB (size_setCells _ _ _ _) (os_setCells _ _ _ _).1 (os_setCells _ _ _ _).2.1 (os_setCells _ _ _ _).2.2 (fun k hk => heap_setCells_ne b zs _ w k hk)
        ⟨xs, rfl, hslen, rfl, rfl, fun b' cs2 e2 hB' hc2 => ?_⟩ rfl fun K => ?_).1
      · rw [hB] at hB'; cases hB'
        rw [hw] at hc2; cases hc2
        exact ⟨_, hw', layA_size _ _ _⟩
      · unfold RepOb
        simp only [hB]
        refine ⟨_, ec, hw', RowF.toRow ?_⟩
        have hX := (hrx.toF).imp (fun x c h => K.dat te x c h)
        have hY := hrow.imp (fun x c h => K.dat te x c h)
        have h1 := hX.window 0 (winLo win) (by omega)
        have h3 := hX.window (winLo win + m) (xs.length - (winLo win + m)) (by omega)
        simp only [List.drop_zero] at h1
        have hend : (xs.drop (winLo win + m)).take (xs.length - (winLo win + m)) = xs.drop (winLo win + m) := by
          rw [List.take_of_length_le]; rw [List.length_drop]; exact Nat.le_refl _
        rw [hend] at h3
        have hA := (h1.append hY).append h3
        unfold splice
        rw [hym]
        refine hA.congr fun k hk => ?_
        have htl : (xs.take (winLo win)).length = winLo win := by rw [List.length_take]; omega
        rw [List.length_append, htl, hym, Nat.add_mul]
        show (layA cs o zs)[A.O n + k]? = _
        rw [layA_get _ _ _ _ hle]
        rcases hlo with h0 | h0
        · have hm0 : m = 0 := by
            rw [hz1] at h0
            rcases Nat.mul_eq_zero.1 h0 with h | h
            · exact h
            · omega
          subst hm0
          rw [if_neg (by omega)]
          simp only [Nat.zero_mul, Nat.add_zero]
          by_cases hk1 : k < winLo win * nc E te
          · simp only [hk1, if_true]
            congr 1; omega
          · simp only [hk1, if_false]
            show cs[A.O n + k]? = cs[A.O n + (winLo win * nc E te + (k - winLo win * nc E te))]?
            congr 1; omega
        · by_cases hk1 : k < winLo win * nc E te
          · rw [if_neg (by omega), if_pos (by omega)]
            simp only [hk1, if_true]
            show cs[A.O n + k]? = cs[A.O n + (0 * nc E te + k)]?
            simp
          · by_cases hk2 : k < winLo win * nc E te + m * nc E te
            · rw [if_pos (by rw [hz1]; omega), if_pos hk2]
              simp only [hk1, if_false]
              congr 1; omega
            · rw [if_neg (by rw [hz1]; omega), if_neg hk2]
              congr 1; omega
end
end Go.Proofs.AM

namespace Go.Proofs.AM
open Go Go.RowKit
variable {E : Env}
section
variable {P : Program} {C : FC} {s : St E} {A : Asg} {okS : Nat → Nat → Prop} {a : Act} {w : World}
theorem SimpOk.mk {o : Oper} {c : CV E} {s' : St E} {Iv : Sem Value} (hrun : ∀ v w', Iv.run P w = .ok v w' → (execOp a.eval o).run P w = .ok (.value v) w')
    (h : ∃ v w' A' okS', Iv.run P w = .ok v w' ∧ Inv C s' A' okS' a.tmps w' ∧ RepCV w' okS' C.okP s'.ob A' c v) : SimpOk P C o a w (.c c) s' := by
  obtain ⟨v, w', A', okS', h1, h2, h3⟩ := h
  exact ⟨v, w', A', okS', .inl (hrun v w' h1), h2, h3⟩
theorem SimpOk.read {o : Oper} {sv : SV E} (I : Inv C s A okS a.tmps w) {Iv : Sem Value} (hrun : ∀ v w', Iv.run P w = .ok v w' → (execOp a.eval o).run P w = .ok (.value v) w')
    (h : ∃ v, Iv.run P w = .ok v w ∧ RepSV w okS C.okP s.ob A a.tmps sv v) : SimpOk P C o a w sv s := by
  obtain ⟨v, h1, h2⟩ := h
  exact SimpOk.same I (hrun v w h1) h2
theorem intTy_some {M : Mach E} (hT : TysOk E P M.tys) {T : TypeId} (h : intTy M T = true) : ∃ k, P.underlying T = some (.int k) := by
  unfold intTy at h
  split at h
  · rename_i ti hti
    split at h
    · rename_i k hk
      have := (hT T ti hti).kind
      rw [hk] at this
      exact ⟨k, kind_int this⟩
    · cases h
  · cases h
theorem simple_ok (hE : EnvOk E) {M : Mach E} (hT : TysOk E P M.tys) (I : Inv C s A okS a.tmps w) {ch : Chain} (hch : ∀ q b, inChain ch q b = true → a.tmps.getD q undef = .bool b) {grd : Bool} {d : Nat} (hpn : ¬ pinned d) {o : Oper} {sv : SV E} {s' : St E}
    (h : simple M s ch grd d o.op = some (sv, true, s')) : SimpOk P C o a w sv s' := by
  unfold simple at h
  split at h
  ·
    rename_i x ho
    split at h
    · cases h
    · rename_i v hne
      injection h with h; injection h with h1 h2; injection h2 with _ h3; subst h1; subst h3
      exact SimpOk.same I (v := a.eval x) (by unfold execOp; simp only [ho]; rfl) (ev_rep I hch x)
  · rename_i x ho
    split at h
    · cases h
    · rename_i v hne
      injection h with h; injection h with h1 h2; injection h2 with _ h3; subst h1; subst h3
      exact SimpOk.same I (v := a.eval x) (by unfold execOp; simp only [ho]; rfl) (ev_rep I hch x)
  ·
    rename_i c x y ho
    split at h
    · rename_i q p1 p2 hc hx hy
      injection h with h; injection h with h1 h2; injection h2 with _ h3; subst h1; subst h3
      have hcv := leaf_bool (RepSV.c_inv (ungl_rep hch (slot_rep I c)) hc)
      have hq : a.eval (.tmp c) = .bool q := hcv
      cases q with
      | true =>
        have hch' : ∀ q' b', inChain ((c, true) :: ch) q' b' = true → a.tmps.getD q' undef = .bool b' := by
          intro q' b' h
          simp only [inChain] at h
          cases hb : (Nat.beq c q' && (true == b')) with
          | false => rw [hb] at h; exact hch q' b' h
          | true =>
            simp only [Bool.and_eq_true, beq_iff_eq] at hb
            rw [← Nat.eq_of_beq_eq_true hb.1, ← hb.2]; exact hcv
        have hxv := leaf_bool (RepSV.c_inv (ev_rep I hch' x) hx)
        refine SimpOk.same I (v := a.eval x) ?_ (by rw [hxv]; exact RepD.bool _)
        unfold execOp; simp only [ho, Sem.run_bind, hq, asBool, Sem.run_pure, Result.andThen_ok, if_true]
      | false =>
        have hch' : ∀ q' b', inChain ((c, false) :: ch) q' b' = true → a.tmps.getD q' undef = .bool b' := by
          intro q' b' h
          simp only [inChain] at h
          cases hb : (Nat.beq c q' && (false == b')) with
          | false => rw [hb] at h; exact hch q' b' h
          | true =>
            simp only [Bool.and_eq_true, beq_iff_eq] at hb
            rw [← Nat.eq_of_beq_eq_true hb.1, ← hb.2]; exact hcv
        have hyv := leaf_bool (RepSV.c_inv (ev_rep I hch' y) hy)
        refine SimpOk.same I (v := a.eval y) ?_ (by rw [hyv]; exact RepD.bool _)
        unfold execOp; simp only [ho, Sem.run_bind, hq, asBool, Sem.run_pure, Result.andThen_ok, Bool.false_eq_true, if_false]
    · cases h
  ·
    rename_i t ho
    split at h
    · cases h
    · split at h
      · rename_i ti ht
        injection h with h; injection h with h1 h2; injection h2 with _ h3; subst h1; subst h3
        exact SimpOk.mk (fun v w' hv => by unfold execOp; simp only [ho, Sem.run_bind, hv, Result.andThen_ok]; rfl) (alloc_ok hT I ht hpn)
      · cases h
  ·
    rename_i t x ho
    split at h
    · cases h
    · split at h
      · rename_i ti cs ht hx
        split at h
        · injection h with h; injection h with h1 h2; injection h2 with _ h3; subst h1; subst h3
          exact SimpOk.mk (fun v w' hv => by unfold execOp; simp only [ho, Sem.run_bind, hv, Result.andThen_ok]; rfl) (box_ok I t (svCells_rep (ev_rep I hch x) hx) hpn)
        · cases h
      · cases h
  ·
    rename_i t parts ho
    split at h
    · rename_i ti ht
      split at h
      · rename_i fs hk
        split at h
        · rename_i cs hf
          injection h with h; injection h with h1 h2; injection h2 with _ h3; subst h1; subst h3
          obtain ⟨vs, h1, h2⟩ := build_ok hT I hch ht hk hf
          exact SimpOk.read I (fun v w' hv => by unfold execOp; simp only [ho, Sem.run_bind, hv, Result.andThen_ok]; rfl) ⟨_, h1, vs, rfl, h2⟩
        · cases h
      · rename_i n e size hk
        split at h
        · rename_i cs hf
          injection h with h; injection h with h1 h2; injection h2 with _ h3; subst h1; subst h3
          obtain ⟨vs, h1, h2⟩ := build_arr_ok hT I hch ht hk hf
          exact SimpOk.read I (fun v w' hv => by unfold execOp; simp only [ho, Sem.run_bind, hv, Result.andThen_ok]; rfl) ⟨_, h1, vs, rfl, h2⟩
        · cases h
      · cases h
    · cases h
  ·
    rename_i t len parts ho
    split at h
    · rename_i e te tie hs
      split at h
      · rename_i hsm
        split at h
        · rename_i xs hx
          have hb := buildSlice_ok hE hT I hch hs hsm hx hpn
          split at h
          · injection h with h; injection h with h1 h2; injection h2 with _ h3; subst h1; subst h3
            exact SimpOk.mk (fun v w' hv => by unfold execOp; simp only [ho, Sem.run_bind, hv, Result.andThen_ok]; rfl) hb.2
          · injection h with h; injection h with h1 h2; injection h2 with _ h3; subst h1; subst h3
            exact SimpOk.mk (fun v w' hv => by unfold execOp; simp only [ho, Sem.run_bind, hv, Result.andThen_ok]; rfl) hb.1
        · cases h
      · cases h
    · cases h
  ·
    rename_i t x ho
    split at h
    · rename_i ti p ht hp
      split at h
      · rename_i v hl
        injection h with h; injection h with h1 h2; injection h2 with _ h3; subst h1; subst h3
        exact SimpOk.read I (fun v w' hv => by unfold execOp; simp only [ho, Sem.run_bind, hv, Result.andThen_ok]; rfl) (load_ok hE hT I ht (RepSV.c_inv (ev_rep I hch x) hp) hl)
      · cases h
    · cases h
  ·
    rename_i t p x ho
    split at h
    · cases h
    · split at h
      · rename_i ti pc v ht hp hx
        split at h
        · rename_i s2 hst
          injection h with h; injection h with h1 h2; injection h2 with _ h3; subst h1; subst h3
          obtain ⟨w', A', ok', h1, h2⟩ := store_ok hE hT I ht (RepSV.c_inv (ev_rep I hch p) hp) (svCells_rep (ev_rep I hch x) hx) hst
          exact ⟨undef, w', A', ok', .inr ⟨by unfold execOp; simp only [ho, Sem.run_bind, h1, Result.andThen_ok]; rfl, rfl⟩, h2, trivial⟩
        · cases h
      · cases h
  ·
    rename_i x ho
    split at h
    · rename_i p hp
      split at h
      · rename_i hpt
        unfold ok1 at h
        injection h with h; injection h with h1 h2; injection h2 with _ h3; subst h1; subst h3
        have hr := RepSV.c_inv (ev_rep I hch x) hp
        obtain ⟨b, off, hv⟩ := points_ok I hr hpt
        refine SimpOk.same I (v := a.eval x) ?_ hr
        unfold execOp; simp only [ho, hv]; rfl
      · cases h
    · cases h
  ·
    rename_i op t x y pt ho
    split at h
    · rename_i cx cy hx hy
      split at h
      · rename_i hbt
        split at h
        · rename_i v c hb
          injection h with h; injection h with h1 h2; injection h2 with h2 h3; subst h1; subst h3; subst h2
          obtain ⟨z, hz, hr⟩ := binop_ok (P := P) (w := w) (ox := x) (oy := y) hE hT (RepSV.c_inv (ev_rep I hch x) hx) (RepSV.c_inv (ev_rep I hch y) hy) hbt hb
          exact SimpOk.read I (fun v w' hv => by unfold execOp; simp only [ho]; rw [Sem.run_bind, hv]; rfl) ⟨z, hz, hr⟩
        · cases h
      · cases h
    · rename_i cs ds hx hy
      split at h
      · rename_i het
        obtain ⟨xs, hxv, hxr⟩ := RepSV.agg_inv (ev_rep I hch x) hx
        obtain ⟨ys, hyv, hyr⟩ := RepSV.agg_inv (ev_rep I hch y) hy
        split at h
        · rename_i b he
          injection h with h; injection h with h1 h2; injection h2 with _ h3; subst h1; subst h3
          obtain ⟨g1, _⟩ := eqAgg_ok (P := P) (w := w) hT hxr hyr het he x y
          refine SimpOk.same I (v := .bool b) ?_ (RepD.bool _)
          unfold execOp; simp only [ho, hxv, hyv]; rw [Sem.run_bind, g1]; rfl
        · rename_i b he
          injection h with h; injection h with h1 h2; injection h2 with _ h3; subst h1; subst h3
          obtain ⟨_, g2⟩ := eqAgg_ok (P := P) (w := w) hT hxr hyr het he x y
          refine SimpOk.same I (v := .bool (!b)) ?_ (RepD.bool _)
          unfold execOp; simp only [ho, hxv, hyv]; rw [Sem.run_bind, g2]; rfl
        · cases h
      · cases h
    · cases h
  ·
    rename_i op t x ho
    split at h
    · rename_i cx hx
      split at h
      · rename_i v hu
        injection h with h; injection h with h1 h2; injection h2 with _ h3; subst h1; subst h3
        exact SimpOk.read I (fun v w' hv => by unfold execOp; simp only [ho, Sem.run_bind, hv, Result.andThen_ok]; rfl) (unop_ok (P := P) (w := w) (RepSV.c_inv (ev_rep I hch x) hx) hu)
      · cases h
    · cases h
  ·
    rename_i ta tb x ho
    split at h
    · rename_i tia tib j n hta htb hx
      split at h
      · rename_i k hk
        injection h with h; injection h with h1 h2; injection h2 with _ h3; subst h1; subst h3
        have hv := leaf_int (RepSV.c_inv (ev_rep I hch x) hx)
        have hkk := (hT tb tib htb).kind
        rw [hk] at hkk
        refine SimpOk.read (Iv := convert ta tb (a.eval x)) I (fun v w' hv => by unfold execOp; simp only [ho, Sem.run_bind, hv, Result.andThen_ok]; rfl) ⟨_, ?_, RepD.int _ _⟩
        rw [hv]; exact conv_int (hT ta tia hta).underlying (kind_int hkk)
      · cases h
    · rename_i tia tib b hta htb hx
      split at h
      · rename_i hk
        injection h with h; injection h with h1 h2; injection h2 with _ h3; subst h1; subst h3
        have hv := leaf_str (RepSV.c_inv (ev_rep I hch x) hx)
        have hkk := (hT tb tib htb).kind
        rw [hk] at hkk
        refine SimpOk.read (Iv := convert ta tb (a.eval x)) I (fun v w' hv => by unfold execOp; simp only [ho, Sem.run_bind, hv, Result.andThen_ok]; rfl) ⟨_, ?_, RepD.str _⟩
        rw [hv]; exact conv_str (hT ta tia hta).underlying (kind_str hkk)
      · cases h
    · cases h
  ·
    rename_i f first cap ho
    split at h
    · rename_i hf
      split at h
      · rename_i caps hm
        injection h with h; injection h with h1 h2; injection h2 with _ h3; subst h1; subst h3
        have hc := caps_ok I hch cap.toList caps hm
        have hf0 : first = #[] := Array.eq_empty_of_size_eq_zero hf
        refine SimpOk.same I (v := .func (.func f) #[] (cap.map a.eval)) ?_ ⟨cap.toList.map a.eval, by rw [← Array.toList_map], hc⟩
        unfold execOp; simp [ho, hf0, Instr.makeFunc]
      · cases h
    · cases h
  ·
    rename_i t x ho
    split at h
    · rename_i ti ht
      split at h
      · cases h
      · rename_i hk
        injection h with h; injection h with h1 h2; injection h2 with _ h3; subst h1; subst h3
        refine SimpOk.read (Iv := Instr.makeInterface t (a.eval x)) I (fun v w' hv => by unfold execOp; simp only [ho, Sem.run_bind, hv, Result.andThen_ok]; rfl) ⟨_, makeInterface_run (hT t ti ht) (fun y e hy => hk (e.trans hy)) _, trivial⟩
    · cases h
  ·
    rename_i t len cap ho
    split at h
    · cases h
    · split at h
      · rename_i e te tie n m hs hn hm
        injection h with h; injection h with h1 h2; injection h2 with h2 h3; subst h1; subst h3
        simp only [Bool.and_eq_true] at h2
        have hnv := leaf_int (RepSV.c_inv (ev_rep I hch len) hn)
        have hmv := leaf_int (RepSV.c_inv (ev_rep I hch cap) hm)
        refine SimpOk.mk (Iv := Instr.makeSlice t (a.eval len) (a.eval cap)) (fun v w' hv => by unfold execOp; simp only [ho, Sem.run_bind, hv, Result.andThen_ok]; rfl) ?_
        rw [hnv, hmv]
        exact makeSlice_ok hE hT I hs h2.1 h2.2 hpn
      · cases h
  ·
    rename_i t x lo hi ho
    split at h
    · rename_i cx hx
      have hr := RepSV.c_inv (ev_rep I hch x) hx
      split at h
      · rename_i e te tie hs
        split at h
        · rename_i v c hsl
          injection h with h; injection h with h1 h2; injection h2 with h2 h3; subst h1; subst h3; subst h2
          exact SimpOk.read I (fun v w' hv => by unfold execOp; simp only [ho, Option.map_none, Sem.run_bind, hv, Result.andThen_ok]; rfl) (sliceOf_ok hE hT I hch hs hr hsl)
        · cases h
      · split at h
        · rename_i ti ht
          split at h
          · rename_i hk
            have hkk := (hT t ti ht).kind
            rw [hk] at hkk
            split at h
            · rename_i v c hsl
              injection h with h; injection h with h1 h2; injection h2 with h2 h3; subst h1; subst h3; subst h2
              exact SimpOk.read I (fun v w' hv => by unfold execOp; simp only [ho, Option.map_none, Sem.run_bind, hv, Result.andThen_ok]; rfl) (sliceStr_ok I hch (kind_str hkk) hr hsl)
            · cases h
          · cases h
        · cases h
    · cases h
  ·
    rename_i t x f ho
    split at h
    · rename_i ti p ht hp
      split at h
      · rename_i fs hk
        split at h
        · rename_i off ft hf
          split at h
          · rename_i hpt
            split at h
            · rename_i q hq
              injection h with h; injection h with h1 h2; injection h2 with _ h3; subst h1; subst h3
              have hr := RepSV.c_inv (ev_rep I hch x) hp
              obtain ⟨b, o', hv⟩ := points_ok I hr hpt
              refine SimpOk.read (Iv := Instr.fieldAt t (a.eval x) f) I (fun v w' hv => by unfold execOp; simp only [ho, Sem.run_bind, hv, Result.andThen_ok]; rfl) ?_
              rw [hv] at hr ⊢
              exact ⟨_, run_fieldAt_of hT ht hk hf b o', advance_ok hr hq⟩
            · cases h
          · cases h
        · cases h
      · cases h
    · cases h
  ·
    rename_i t x f ho
    split at h
    · rename_i ti cs ht hx
      split at h
      · rename_i fs hk
        split at h
        · rename_i off ft hf
          split at h
          · rename_i tf htf
            split at h
            · rename_i r hr
              split at h
              · rename_i v hm
                injection h with h; injection h with h1 h2; injection h2 with _ h3; subst h1; subst h3
                obtain ⟨vs, hv, hrep⟩ := RepSV.agg_inv (ev_rep I hch x) hx
                refine SimpOk.read (Iv := Instr.field t (a.eval x) f) I (fun v w' hv => by unfold execOp; simp only [ho, Sem.run_bind, hv, Result.andThen_ok]; rfl) ?_
                rw [hv]
                exact field_ok hT ht hk hf htf hrep hr hm
              · cases h
            · cases h
          · cases h
        · cases h
      · cases h
    · cases h
  ·
    rename_i t x i ho
    split at h
    · rename_i e te tie hs
      split at h
      · rename_i cx ci hx hi
        split at h
        · rename_i v c hix
          injection h with h; injection h with h1 h2; injection h2 with h2 h3; subst h1; subst h3; subst h2
          exact SimpOk.read I (fun v w' hv => by unfold execOp; simp only [ho, Sem.run_bind, hv, Result.andThen_ok]; rfl) (indexAddr_ok hE hT I hs (RepSV.c_inv (ev_rep I hch x) hx) (RepSV.c_inv (ev_rep I hch i) hi) hix)
        · cases h
      · cases h
    · split at h
      · rename_i ti p k' i' ht hp hi
        split at h
        · rename_i n e size hk
          split at h
          · rename_i hpt
            split at h
            · rename_i q hq
              injection h with h; injection h with h1 h2; injection h2 with h2 h3; subst h1; subst h3
              obtain ⟨g0, g1⟩ := inB_iff.1 h2
              have hr := RepSV.c_inv (ev_rep I hch x) hp
              have hiv := leaf_int (RepSV.c_inv (ev_rep I hch i) hi)
              obtain ⟨b, o', hv⟩ := points_ok I hr hpt
              refine SimpOk.read (Iv := Instr.indexAt t (a.eval x) (a.eval i)) I (fun v w' hv => by unfold execOp; simp only [ho, Sem.run_bind, hv, Result.andThen_ok]; rfl) ?_
              rw [hv] at hr ⊢
              rw [hiv]
              exact ⟨_, run_indexAt_arr hT ht hk b o' _ g0 g1, advance_ok hr hq⟩
            · cases h
          · cases h
        · cases h
      · cases h
  ·
    rename_i t x i ho
    split at h
    · rename_i ti ht
      split at h
      · rename_i hk
        have hkk := (hT t ti ht).kind
        rw [hk] at hkk
        split at h
        · rename_i b k i' hx hi
          injection h with h; injection h with h1 h2; injection h2 with h2 h3; subst h1; subst h3
          have hv := leaf_str (RepSV.c_inv (ev_rep I hch x) hx)
          have hiv := leaf_int (RepSV.c_inv (ev_rep I hch i) hi)
          obtain ⟨g0, g1⟩ := inB_iff.1 h2
          refine SimpOk.read (Iv := Instr.index t (a.eval x) (a.eval i)) I (fun v w' hv => by unfold execOp; simp only [ho, Sem.run_bind, hv, Result.andThen_ok]; rfl) ⟨_, ?_, RepD.int _ _⟩
          rw [hv, hiv]
          have hlt : i'.toNat < b.size := by omega
          simp only [Instr.index, asIntOf, Sem.run_bind, Sem.run_pure, Result.andThen_ok, run_underlying (kind_str hkk), g0, if_true]
          have hb : b[i'.toNat]? = some b[i'.toNat] := getElem?_pos b i'.toNat hlt
          rw [hb]
          simp only [Sem.run_pure, bt]
          congr 2
          rw [List.getD_eq_getElem?_getD, Array.getElem?_toList, Array.getElem?_eq_getElem (by exact hlt)]
          rfl
        · cases h
      · rename_i n e size hk
        split at h
        · rename_i cs k' i' te hx hi hte
          split at h
          · rename_i r hr
            split at h
            · rename_i v hm
              injection h with h; injection h with h1 h2; injection h2 with h2 h3; subst h1; subst h3
              obtain ⟨g0, g1⟩ := inB_iff.1 h2
              have hiv := leaf_int (RepSV.c_inv (ev_rep I hch i) hi)
              obtain ⟨vs, hv, hrep⟩ := RepSV.agg_inv (ev_rep I hch x) hx
              refine SimpOk.read (Iv := Instr.index t (a.eval x) (a.eval i)) I (fun v w' hv => by unfold execOp; simp only [ho, Sem.run_bind, hv, Result.andThen_ok]; rfl) ?_
              rw [hv, hiv]
              exact index_arr_ok hT ht hk g0 g1 hte hrep hr hm
            · cases h
          · cases h
        · cases h
      · cases h
    · cases h
  ·
    rename_i x i ho
    split at h
    · rename_i vs hx
      split at h
      · rename_i ag cs hi
        split at h
        · rename_i v hm
          injection h with h; injection h with h1 h2; injection h2 with _ h3; subst h1; subst h3
          have hr := ev_rep I hch x
          rw [hx] at hr
          obtain ⟨us, hv, hall⟩ := hr
          obtain ⟨u, hu, hp⟩ := hall.get i _ hi
          refine SimpOk.read (Iv := Instr.extract (a.eval x) i) I (fun v w' hv => by unfold execOp; simp only [ho, Sem.run_bind, hv, Result.andThen_ok]; rfl) ⟨u, ?_, ?_⟩
          · rw [hv]; simp [Instr.extract, hu]
          · unfold RepPart at hp
            cases ag with
            | true =>
              obtain ⟨ws, hw, hr⟩ := hp
              rw [hw]
              exact (mkSV_rep (tmps := a.tmps) hr hm).1 rfl
            | false =>
              obtain ⟨c, hc, hr⟩ := hp
              simp only at hc
              subst hc
              simp [mkSV] at hm
              subst hm
              exact hr
        · cases h
      · cases h
    · cases h
  ·
    rename_i c ho
    split at h
    ·
      rename_i hcal
      split at h
      · rename_i x T hx hT'
        split at h
        · rename_i v hv
          split at h
          · rename_i hlt
            split at h
            · rename_i n hn
              injection h with h; injection h with h1 h2; injection h2 with _ h3; subst h1; subst h3
              have hr := RepSV.c_inv (ev_rep I hch x) hv
              have hrun := len_ok (P := P) hT hr hlt hn o.type
              refine SimpOk.same I (v := .int .i64 n) ?_ (RepD.int _ _)
              have e1 : c.args = #[x] := by rw [← Array.toArray_toList (xs := c.args), hx]
              have e2 : c.argTypes = #[T] := by rw [← Array.toArray_toList (xs := c.argTypes), hT']
              unfold execOp
              simp only [ho, resolve, hcal, e1, e2]
              simp [invoke, builtin, hrun]
            · cases h
          · cases h
        · cases h
      · cases h
    ·
      rename_i hcal
      split at h
      · cases h
      · split at h
        · rename_i x y T T' hx hT'
          split at h
          · rename_i cx cy hcx hcy
            split at h
            · rename_i hsome
              obtain ⟨p, hp⟩ := Option.isSome_iff_exists.1 hsome
              obtain ⟨e', te', ti'⟩ := p
              have hsv : ∃ cc, sv = .c cc := by
                unfold appendOp at h
                repeat' split at h
                all_goals first | (cases h; done) | (injection h with h; injection h with h1 _; exact ⟨_, h1.symm⟩)
              obtain ⟨cc, hcc⟩ := hsv
              subst hcc
              obtain ⟨z, w', A', ok', h1, h2, h3⟩ := append_ok (P := P) hE hT I (sliceTy_some hT hp).1 (RepSV.c_inv (ev_rep I hch x) hcx) (RepSV.c_inv (ev_rep I hch y) hcy) h hpn o.type
              have e1 : c.args = #[x, y] := by rw [← Array.toArray_toList (xs := c.args), hx]
              have e2 : c.argTypes = #[T, T'] := by rw [← Array.toArray_toList (xs := c.argTypes), hT']
              refine ⟨z, w', A', ok', .inl ?_, h2, h3⟩
              unfold execOp
              simp only [ho, resolve, hcal, e1, e2]
              simp [invoke, builtin, h1]
            · split at h
              · rename_i hint
                obtain ⟨k, hk⟩ := intTy_some hT hint
                have hsv : ∃ cc, sv = .c cc := by
                  unfold zerosOp appendOp at h
                  repeat' split at h
                  all_goals first
                    | (cases h; done)
                    | (rename_i hh
                       repeat' split at hh
                       all_goals first
                         | (cases hh; done)
                         | (injection hh with hh; injection hh with hh1 _; injection h with h; injection h with h1 _; exact ⟨_, by rw [← h1, ← hh1]⟩))
                obtain ⟨cc, hcc⟩ := hsv
                subst hcc
                obtain ⟨z, w', A', ok', h1, h2, h3⟩ := zeros_ok (P := P) hE hT I hk (RepSV.c_inv (ev_rep I hch x) hcx) (RepSV.c_inv (ev_rep I hch y) hcy) h hpn o.type
                have e1 : c.args = #[x, y] := by rw [← Array.toArray_toList (xs := c.args), hx]
                have e2 : c.argTypes = #[T, T'] := by rw [← Array.toArray_toList (xs := c.argTypes), hT']
                refine ⟨z, w', A', ok', .inl ?_, h2, h3⟩
                unfold execOp
                simp only [ho, resolve, hcal, e1, e2]
                simp [invoke, builtin, h1]
              · cases h
          · cases h
        · cases h
    ·
      rename_i hcal
      split at h
      · cases h
      · split at h
        · rename_i x y T more hx hT'
          split at h
          · rename_i n g win cy e te tie hcx hcy hs
            split at h
            · rename_i t xs hob
              split at h
              · rename_i htt; subst htt
                split at h
                · rename_i ys hcy2
                  injection h with h; injection h with h1 h2; injection h2 with _ h3; subst h1; subst h3
                  obtain ⟨w', A', ok', g1, g2⟩ := copy_ok (P := P) hT I hs (RepSV.c_inv (ev_rep I hch x) hcx) hob (RepSV.c_inv (ev_rep I hch y) hcy) hcy2 o.type more
                  have e1 : c.args = #[x, y] := by rw [← Array.toArray_toList (xs := c.args), hx]
                  have e2 : c.argTypes = (T :: more).toArray := by rw [← Array.toArray_toList (xs := c.argTypes), hT']
                  suffices H : SimpOk P C o a w (.c (.leaf (.int .i64) ((min ys.length (winLen xs.length win) : Nat) : Int))) (s.putOb n g (.tok t (splice xs (winLo win) (ys.take (min ys.length (winLen xs.length win)))))) by
                    cases win <;> exact H
                  refine ⟨_, w', A', ok', .inl ?_, g2, RepD.int _ _⟩
                  unfold execOp
                  simp only [ho, resolve, hcal, e1, e2]
                  simp [invoke, builtin] at g1 ⊢
                  simp [g1]
                · cases h
              · cases h
            · cases h
          · cases h
        · cases h
    ·
      rename_i hcal
      split at h
      · rename_i x y hx
        split at h
        · rename_i p q hp hq
          injection h with h; injection h with h1 h2; injection h2 with _ h3; subst h1; subst h3
          have hxv := leaf_int (RepSV.c_inv (ev_rep I hch x) hp)
          have hyv := leaf_int (RepSV.c_inv (ev_rep I hch y) hq)
          have e1 : c.args = #[x, y] := by rw [← Array.toArray_toList (xs := c.args), hx]
          refine SimpOk.same I (v := .int .i64 (cond (decide (q < p)) q p)) ?_ (RepD.int _ _)
          have := min_run (P := P) (w := w) p q c.argTypes o.type
          unfold execOp
          simp only [ho, resolve, hcal, e1]
          simp [invoke, builtin, hxv, hyv, this]
        · cases h
      · cases h
    ·
      rename_i hcal
      split at h
      · rename_i x y hx
        split at h
        · rename_i p q hp hq
          injection h with h; injection h with h1 h2; injection h2 with _ h3; subst h1; subst h3
          have hxv := leaf_int (RepSV.c_inv (ev_rep I hch x) hp)
          have hyv := leaf_int (RepSV.c_inv (ev_rep I hch y) hq)
          have e1 : c.args = #[x, y] := by rw [← Array.toArray_toList (xs := c.args), hx]
          refine SimpOk.same I (v := .int .i64 (cond (decide (p < q)) q p)) ?_ (RepD.int _ _)
          have := max_run (P := P) (w := w) p q c.argTypes o.type
          unfold execOp
          simp only [ho, resolve, hcal, e1]
          simp [invoke, builtin, hxv, hyv, this]
        · cases h
      · cases h
    · cases h
  · cases h
end
end Go.Proofs.AM

namespace Go.Proofs.AM
open Go Go.RowKit
variable {E : Env}
def noGl : SV E → Bool
  | .gl _ _ _ => false
  | _ => true
section
variable {P : Program} {C : FC} {s : St E} {A : Asg} {okS : Nat → Nat → Prop} {a : Act} {w : World}
theorem RepSV.tmps {tmps tmps' : Array Value} {okP : Nat → Prop} {ob : Obs E} {k : SV E} {v : Value} (hk : noGl k = true) (h : RepSV w okS okP ob A tmps k v) : RepSV w okS okP ob A tmps' k v := by
  cases k with
  | gl _ _ _ => cases hk
  | c _ => exact h
  | agg _ => exact h
  | tup _ => exact h
theorem Inv.put {tmps : Array Value} (I : Inv C s A okS tmps w) {d : Nat} (hd : d < s.n) {k : SV E} (hk : noGl k = true) {v : Value} (h : RepSV w okS C.okP s.ob A tmps k v) : Inv C (s.set d k) A okS (tmps.setIfInBounds d v) w :=
  I.set hd (h.tmps hk)
theorem getD_set_ne (tmps : Array Value) {d q : Nat} (h : d ≠ q) (v : Value) : (tmps.setIfInBounds d v).getD q undef = tmps.getD q undef := by
  simp [Array.getD_eq_getD_getElem?, Array.getElem?_setIfInBounds_ne h]
theorem Inv.putG {tmps : Array Value} (I : Inv C s A okS tmps w) {d : Nat} (hd : d < s.n) {q : Nat} (hq : q ≠ d) {b : Bool} {k : SV E} (hk : noGl k = true) {v : Value}
    (h1 : tmps.getD q undef = .bool b → RepSV w okS C.okP s.ob A tmps k v) (h2 : tmps.getD q undef ≠ .bool b → v = undef) : Inv C (s.set d (.gl q b k)) A okS (tmps.setIfInBounds d v) w := by
  refine I.set hd ?_
  simp only [RepSV, getD_set_ne tmps (Ne.symm hq)]
  exact ⟨fun h => (h1 h).tmps hk, h2⟩
theorem unpinned (I : Inv C s A okS a.tmps w) {dst : Option Nat} (hf : fits s.n dst = true) : ¬ pinned (dst.getD s.n) := by
  intro hp
  have := I.small
  cases dst with
  | none => exact absurd hp.1 (by simp; omega)
  | some d => have h1 := Nat.le_of_ble_eq_true hf; have h2 := hp.1; simp at h2; omega
theorem simple_noGl {M : Mach E} {ch : Chain} {grd : Bool} {d : Nat} {o : Op} {sv : SV E} {c : Bool} {s' : St E} (h : simple M s ch grd d o = some (sv, c, s')) : noGl sv = true := by
  have hm : ∀ {ag : Bool} {cs : List (CV E)} {k : SV E}, mkSV ag cs = some k → noGl k = true := by
    intro ag cs k hk
    cases ag with
    | true => simp [mkSV] at hk; subst hk; rfl
    | false =>
      cases cs with
      | nil => simp [mkSV] at hk
      | cons x r => cases r with
        | nil => simp [mkSV] at hk; subst hk; rfl
        | cons _ _ => simp [mkSV] at hk
  have hl : ∀ {ti : TI} {s : St E} {p : CV E} {k : SV E}, load ti s p = some k → noGl k = true := by
    intro ti s p k hk
    unfold load at hk
    split at hk
    · split at hk
      · exact hm hk
      · cases hk
    · cases hk
  have hap : ∀ {s : St E} {d : Nat} {T : TypeId} {x y : CV E} {r : SV E × Bool × St E}, appendOp M s d T x y = some r → noGl r.1 = true := by
    intro s d T x y r h
    unfold appendOp at h
    repeat' split at h
    all_goals first
      | (cases h; done)
      | (injection h with h; subst h; rfl)
  have hzo : ∀ {s : St E} {d : Nat} {T : TypeId} {x y : CV E} {r : SV E × Bool × St E}, zerosOp M s d T x y = some r → noGl r.1 = true := by
    intro s d T x y r h
    unfold zerosOp at h
    split at h
    · split at h
      · rename_i ha; injection h with h; rw [← h]; exact (hap ha :)
      · cases h
    · cases h
  unfold simple at h
  unfold ok1 at h
  repeat' split at h
  all_goals first
    | (cases h; done)
    | exact hap h
    | exact hzo h
    | (injection h with h; injection h with h1 _; subst h1; first | rfl | exact hm (by assumption) | exact hl (by assumption))
    | skip
  all_goals
    injection h with h; injection h with h1 h2; rw [← h1]; clear h1 h2
    rename_i x hne
    generalize ev s ch _ = k at *
    cases k with
    | gl a b c => exact absurd rfl (hne a b c)
    | _ => rfl
theorem simple_frz {M : Mach E} {ch : Chain} {d : Nat} {o : Op} {sv : SV E} {c : Bool} {s' : St E} (h : simple M s ch true d o = some (sv, c, s')) : ∃ l, s' = frzList s l := by
  unfold simple at h
  unfold ok1 at h
  simp only [if_true] at h
  repeat' split at h
  all_goals first
    | (cases h; done)
    | (injection h with h; injection h with _ h; injection h with _ h3; exact ⟨[], h3.symm⟩)
    | (injection h with h; injection h with _ h; injection h with _ h3; rw [← h3, frzOps_eq]; exact ⟨_, rfl⟩)
theorem undef_bool (b : Bool) : undef ≠ .bool b := by intro h; cases h
theorem gval_ok (I : Inv C s A okS a.tmps w) : ∀ (k q : Nat) (b : Bool) (g : Bool), gval k s q b = some g → (g = true ↔ a.tmps.getD q undef = .bool b)
  | 0, _, _, _, h => by simp [gval] at h
  | k + 1, q, b, g, h => by
    simp only [gval] at h
    have hr := slot_rep I q
    have hcond : ∀ x : Bool, (cond b x (!x) = true) ↔ x = b := by intro x; cases b <;> cases x <;> simp
    split at h
    · rename_i x hs
      injection h with h; subst h
      rw [hs] at hr
      rw [leaf_bool hr, hcond]
      constructor
      · intro e; rw [e]
      · intro e; injection e
    · rename_i q' b' x hs
      rw [hs] at hr
      split at h
      · rename_i g' hg
        injection h with h; subst h
        have ih := gval_ok I k q' b' g' hg
        cases g' with
        | true =>
          have := leaf_bool (hr.1 (ih.1 rfl))
          rw [this, Bool.true_and, hcond]
          constructor
          · intro e; rw [e]
          · intro e; injection e
        | false =>
          have hn : a.tmps.getD q' undef ≠ .bool b' := fun e => by have := ih.2 e; cases this
          have := hr.2 hn
          rw [this]
          simp only [Bool.false_and, Bool.false_eq_true, false_iff]
          exact undef_bool b
      · cases h
    · cases h
theorem gchain_ok (I : Inv C s A okS a.tmps w) : ∀ (k q : Nat) (b : Bool), gval k s q b = some true → ∀ q' b', inChain (gchain k s q b) q' b' = true → a.tmps.getD q' undef = .bool b'
  | 0, _, _, h => by simp [gval] at h
  | k + 1, q, b, h => by
    have h0 := (gval_ok I (k + 1) q b true h).1 rfl
    intro q' b' hin
    have head : ∀ rest, inChain ((q, b) :: rest) q' b' = true → (a.tmps.getD q' undef = .bool b') ∨ inChain rest q' b' = true := by
      intro rest hin
      simp only [inChain] at hin
      cases hb : (Nat.beq q q' && (b == b')) with
      | false => rw [hb] at hin; exact .inr hin
      | true =>
        simp only [Bool.and_eq_true, beq_iff_eq] at hb
        rw [← Nat.eq_of_beq_eq_true hb.1, ← hb.2]; exact .inl h0
    simp only [gchain] at hin
    simp only [gval] at h
    split at hin
    · rename_i d' w' x hs
      rcases head _ hin with hh | hh
      · exact hh
      · split at h
        · rename_i y hs2; rw [hs] at hs2; cases hs2
        · rename_i d2 w2 y hs2
          rw [hs] at hs2
          injection hs2 with e1 e2 e3; subst e1; subst e2
          split at h
          · rename_i g' hg
            injection h with h
            cases g' with
            | true => exact gchain_ok I k d' w' hg q' b' hh
            | false => simp at h
          · cases h
        · cases h
    · rcases head _ hin with hh | hh
      · exact hh
      · simp [inChain] at hh
def nilOk (n : Option Nat) (z : Bool) : Prop :=
  match n with
  | none => z = true
  | some n => 0 < n → z = false
theorem nilCmp_ok {M : Mach E} (hT : TysOk E P M.tys) (I : Inv C s A okS a.tmps w) {o : Oper} {n : Option Nat} {b : Bool} (h : nilCmp M s o.op = some (n, b)) :
    ∃ z : Bool, (execOp a.eval o).run P w = .ok (.value (.bool (if z then b else !b))) w ∧ nilOk n z := by
  unfold nilCmp at h
  split at h
  · rename_i op t x pt ho
    split at h
    · cases h
    · rename_i hbt
      have hbt : boolTy M t (.nilS : CV E) = true := by simpa using hbt
      obtain ⟨e, hu⟩ : ∃ e, P.underlying t = some (.slice e) := by
        simp only [boolTy] at hbt
        split at hbt
        · rename_i ti hti
          have := (hT t ti hti).kind
          split at hbt
          · rename_i e te hk; rw [hk] at this; exact ⟨e, (kind_slice this).1⟩
          · cases hbt
        · cases hbt
      have hev := ev_rep I (ch := []) (fun _ _ h => by simp [inChain] at h) x
      have key : ∀ (tt : Ty) (xs : List (den E.Γ tt)) (ok : Nat → Nat → Prop), RepD E w ok (.slice tt) xs [a.eval x] → ∃ p m c, a.eval x = .slice p m c ∧ nilOk (some xs.length) p.isNone := by
        intro tt xs ok hd
        rcases hd.rows with ⟨p, hv, hx⟩ | ⟨b, off, cap, hv, _⟩
        · subst hx; exact ⟨_, _, _, hv, fun h => absurd h (Nat.lt_irrefl 0)⟩
        · exact ⟨_, _, _, hv, fun _ => rfl⟩
      have keyR : ∀ (n' g : Nat) (win : Option (Nat × Nat)) (tt : Ty) (xs : List (den E.Γ tt)), ev s [] x = .c (.ref n' g win) → s.look (.ref n' g win) = .leaf (.slice tt) xs → ∃ p m c, a.eval x = .slice p m c ∧ nilOk (some xs.length) p.isNone := by
        intro n' g win tt xs hx hl
        rw [hx] at hev
        have := RepCV.look I hev
        rw [hl] at this
        exact key tt xs _ this
      have keyO : ∀ (tt : Ty) (o : Option (List (den E.Γ tt))) (ok : Nat → Nat → Prop), RepD E w ok (.opt tt) o [a.eval x] → ∃ p m c, a.eval x = .slice p m c ∧ nilOk (o.map List.length) p.isNone := by
        intro tt o ok hd
        rcases hd.opt_inv with ⟨h1, h2⟩ | ⟨xs, h1, h2⟩
        · subst h1; injection h2 with h2 _; exact ⟨none, 0, 0, h2, rfl⟩
        · subst h1; exact key tt xs ok h2
      have fin : ∀ (k : Option Nat), (∃ p m c, a.eval x = .slice p m c ∧ nilOk k p.isNone) →
          (op = .eql → ∃ z : Bool, (execOp a.eval o).run P w = .ok (.value (.bool (if z then true else !true))) w ∧ nilOk k z) ∧
          (op = .neq → ∃ z : Bool, (execOp a.eval o).run P w = .ok (.value (.bool (if z then false else !false))) w ∧ nilOk k z) := by
        intro k ⟨p, m, c, hv, hp⟩
        have hg : (eqGuard op t x (.const (.slice none 0 0)) (.slice p m c) (.slice none 0 0)).run P w = .ok () w := run_eqGuard_slice _ _ _ _ _ _ _ _
        refine ⟨fun e => ⟨p.isNone, ?_, hp⟩, fun e => ⟨p.isNone, ?_, hp⟩⟩
        · subst e
          have := run_eql_nilS (P := P) (w := w) hu p m c
          unfold execOp
          simp only [ho, hv, show a.eval (.const (.slice none 0 0)) = .slice none 0 0 from rfl, Sem.run_bind, hg, this, Result.andThen_ok]
          cases p.isNone <;> rfl
        · subst e
          have := run_neq_nilS (P := P) (w := w) hu p m c
          unfold execOp
          simp only [ho, hv, show a.eval (.const (.slice none 0 0)) = .slice none 0 0 from rfl, Sem.run_bind, hg, this, Result.andThen_ok]
          cases p.isNone <;> rfl
      split at h
      · rename_i tt xs hx
        injection h with h; injection h with h1 h2; subst h1; subst h2
        rw [hx] at hev
        exact (fin _ (key tt xs okS hev)).1 rfl
      · rename_i tt xs hx
        injection h with h; injection h with h1 h2; subst h1; subst h2
        rw [hx] at hev
        exact (fin _ (key tt xs okS hev)).2 rfl
      · rename_i tt xs hx
        injection h with h; injection h with h1 h2; subst h1; subst h2
        rw [hx] at hev
        exact (fin _ (keyO tt xs okS hev)).1 rfl
      · rename_i tt xs hx
        injection h with h; injection h with h1 h2; subst h1; subst h2
        rw [hx] at hev
        exact (fin _ (keyO tt xs okS hev)).2 rfl
      · rename_i n' g win hx
        split at h
        · rename_i tt xs hl
          injection h with h; injection h with h1 h2; subst h1; subst h2
          exact (fin _ (keyR n' g win tt xs hx hl)).1 rfl
        · cases h
      · rename_i n' g win hx
        split at h
        · rename_i tt xs hl
          injection h with h; injection h with h1 h2; subst h1; subst h2
          exact (fin _ (keyR n' g win tt xs hx hl)).2 rfl
        · cases h
      · cases h
  · cases h
theorem meet_some {x y : Res E} {r : Dt E} (h : meet E x y = some r) : x = some r ∧ y = some r := by
  unfold meet at h
  split at h
  · rename_i t u t' v
    split at h
    · rename_i htt
      subst htt
      split at h
      · rename_i he _
        injection h with h
        have he : u = v := he
        subst he
        exact ⟨by rw [h], by rw [h]⟩
      · cases h
    · cases h
  · cases h
def Holds (C : FC) (s : St E) (a : Act) (w : World) : Prop := a.defers = [] ∧ ∃ A okS, Inv C s A okS a.tmps w
structure CallStep (P : Program) (M : Mach E) (callF : FuncId → List (Arg E) → Res E) (C : FC) : Prop where
  exec : ∀ {s : St E} {A : Asg} {okS : Nat → Nat → Prop} {a : Act} {w : World} {ch : Chain} {g : Option Bool} {d : Nat} {o : Oper} {c : Call} {fin : SV E → St E → Res E} {r : Dt E} {Q : Exit → Act → World → Prop} {next : Act → World → Prop},
    o.op = .call c → isCall o.op = true → a.defers = [] → Inv C s A okS a.tmps w → (∀ q b, inChain ch q b = true → a.tmps.getD q undef = .bool b) → g ≠ some false → callOp M callF s ch g d o.type c fin = some r →
    (∀ v s' w' A' okS' sv, Inv C s' A' okS' a.tmps w' → RepSV w' okS' C.okP s'.ob A' a.tmps sv v → noGl sv = true → fin sv s' = some r → next (a.put o.dst v) w') → o.wp P a w next Q
  skip : ∀ {s : St E} {A : Asg} {okS : Nat → Nat → Prop} {a : Act} {w : World} {ch : Chain} {d : Nat} {ty : TypeId} {c : Call} {fin : SV E → St E → Res E} {r : Dt E},
    Inv C s A okS a.tmps w → callOp M callF s ch (some false) d ty c fin = some r → ∃ sv s' A' okS', Inv C s' A' okS' a.tmps w ∧ noGl sv = true ∧ fin sv s' = some r
theorem put_defers (a : Act) (d : Option Nat) (v : Value) : (a.put d v).defers = a.defers := by cases d <;> rfl
theorem Holds.setO (hd0 : a.defers = []) (I : Inv C s A okS a.tmps w) {dst : Option Nat} (hf : fits s.n dst = true) {k : SV E} (hk : noGl k = true) {v : Value} (h : RepSV w okS C.okP s.ob A a.tmps k v) : Holds C (s.setO dst k) (a.put dst v) w := by
  refine ⟨by rw [put_defers]; exact hd0, A, okS, ?_⟩
  cases dst with
  | none => exact I
  | some d => exact I.put (Nat.le_of_ble_eq_true hf) hk h
theorem wanted_iff {ops : Array Oper} {o : Oper} {j q : Nat} {b : Bool} (hg : o.guard = some (j, b)) (hq : (ops[j]?).bind (·.dst) = some q) (tmps : Array Value) : Region.wanted o (yielded ops tmps) = true ↔ tmps.getD q undef = .bool b := by
  simp only [Region.wanted, hg, yielded, hq, Option.bind_some]
  have hget : tmps.getD q undef = (tmps[q]?).getD undef := Array.getD_eq_getD_getElem? ..
  rw [hget]
  cases ht : tmps[q]? with
  | none => simp; exact undef_bool b
  | some v =>
    cases v <;> simp
theorem SimpOk.next {o : Oper} {sv : SV E} {s' : St E} (h : SimpOk P C o a w sv s') {K : Act → World → Prop} {Q : Exit → Act → World → Prop}
    (hK : ∀ v w' A' okS', Inv C s' A' okS' a.tmps w' → RepSV w' okS' C.okP s'.ob A' a.tmps sv v → K (a.put o.dst v) w') : o.wp P a w K Q := by
  obtain ⟨v, w', A', okS', hr, hI, hv⟩ := h
  unfold Oper.wp
  rcases hr with hr | ⟨hr, hu⟩
  · rw [hr]; exact hK v w' A' okS' hI hv
  · rw [hr]; subst hu; exact hK _ w' A' okS' hI hv
theorem stepOp_wp (hE : EnvOk E) {M : Mach E} (hT : TysOk E P M.tys) {callF : FuncId → List (Arg E) → Res E} (hC : CallStep P M callF C) {ops : Array Oper} {o : Oper} {k : St E → Res E} {r : Dt E} {Q : Exit → Act → World → Prop} {K : Act → World → Prop}
    (h : stepOp M callF ops o s k = some r) (hs : Holds C s a w) (hK' : ∀ s' a' w', Holds C s' a' w' → k s' = some r → K a' w') : if Region.wanted o (yielded ops a.tmps) then o.wp P a w K Q else K (a.put o.dst undef) w := by
  obtain ⟨hd0, A, okS, I⟩ := hs
  unfold stepOp at h
  split at h
  · rename_i hfits
    have hfits' : ∀ {s' : St E} {A' : Asg} {okS' : Nat → Nat → Prop} {w' : World}, Inv C s' A' okS' a.tmps w' → fits s'.n o.dst = true := by
      intro s' A' okS' w' I'
      rw [← I'.tmps, I.tmps]; exact hfits
    split at h
    · rename_i hg
      rw [if_pos (by simp [Region.wanted, hg])]
      split at h
      · rename_i hcall
        split at h
        · rename_i c ho
          exact hC.exec ho hcall hd0 I (ch := []) (fun _ _ h => by simp [inChain] at h) (by simp) h fun v s' w' A' okS' sv hI' hv hn hf => hK' _ _ _ (Holds.setO hd0 hI' (hfits' hI') hn hv) hf
        · cases h
      · split at h
        · rename_i n b hn
          obtain ⟨z, hrun, hz⟩ := nilCmp_ok hT I hn
          unfold Oper.wp
          rw [hrun]
          show K (a.put o.dst (.bool _)) w
          have hput : ∀ x : Bool, Holds C (s.setO o.dst (.c (.leaf .bool x))) (a.put o.dst (.bool x)) w := fun x => Holds.setO hd0 I hfits rfl (RepD.bool x)
          cases n with
          | none =>
            have hz : z = true := hz
            subst hz
            exact hK' _ _ _ (hput b) h
          | some n =>
            simp only [nilBr] at h
            cases hc : decide (0 < n) with
            | true =>
              rw [hc] at h
              have hz := hz (of_decide_eq_true hc)
              subst hz
              exact hK' _ _ _ (hput (!b)) h
            | false =>
              rw [hc] at h
              obtain ⟨h1, h2⟩ := meet_some h
              cases z with
              | true => exact hK' _ _ _ (hput b) h1
              | false => exact hK' _ _ _ (hput (!b)) h2
        · split at h
          · rename_i v c s' hsim
            cases c with
            | false => cases h
            | true =>
              exact (simple_ok hE hT I (fun _ _ h => by simp [inChain] at h) (unpinned I hfits) hsim).next fun u w' A' okS' hI' hv => hK' _ _ _ (Holds.setO hd0 hI' (hfits' hI') (simple_noGl hsim) hv) h
          · cases h
    · rename_i j b hg
      split at h
      · rename_i q d hq hd
        split at h
        · cases h
        · rename_i hne
          split at h
          · rename_i g hgv
            have hw := wanted_iff hg hq a.tmps
            have hgi := gval_ok I 6 q b g hgv
            rw [hd] at hfits hfits'
            have hdl : ∀ {s' : St E} {A' : Asg} {okS' : Nat → Nat → Prop} {w' : World}, Inv C s' A' okS' a.tmps w' → d < s'.n := fun I' => Nat.le_of_ble_eq_true (hfits' I')
            have hputT : ∀ {s' : St E} {A' : Asg} {okS' : Nat → Nat → Prop} {w' : World} {sv : SV E} {v : Value}, a.tmps.getD q undef = .bool b → Inv C s' A' okS' a.tmps w' → noGl sv = true → RepSV w' okS' C.okP s'.ob A' a.tmps sv v → Holds C (s'.set d (.gl q b sv)) (a.put (some d) v) w' :=
              fun hb I' hn hv => ⟨by rw [put_defers]; exact hd0, _, _, I'.putG (hdl I') hne hn (fun _ => hv) (fun h => absurd hb h)⟩
            have hputF : ∀ {s' : St E} {A' : Asg} {okS' : Nat → Nat → Prop} {w' : World} {sv : SV E}, a.tmps.getD q undef ≠ .bool b → Inv C s' A' okS' a.tmps w' → noGl sv = true → Holds C (s'.set d (.gl q b sv)) (a.put (some d) undef) w' :=
              fun hb I' hn => ⟨by rw [put_defers]; exact hd0, _, _, I'.putG (hdl I') hne hn (fun h => absurd h hb) (fun _ => rfl)⟩
            rw [hd]
            split at h
            · rename_i hcall
              split at h
              · rename_i c ho
                cases g with
                | true =>
                  have hb := hgi.1 rfl
                  rw [if_pos (hw.2 hb)]
                  refine hC.exec ho hcall hd0 I (gchain_ok I 6 q b hgv) (by simp) h fun v s' w' A' okS' sv hI' hv hn hf => ?_
                  rw [hd]
                  exact hK' _ _ _ (hputT hb hI' hn hv) hf
                | false =>
                  have hb : a.tmps.getD q undef ≠ .bool b := fun e => by have := hgi.2 e; cases this
                  rw [if_neg (fun e => hb (hw.1 e))]
                  obtain ⟨sv, s', A', okS', hI', hn, hf⟩ := hC.skip I h
                  exact hK' _ _ _ (hputF hb hI' hn) hf
              · cases h
            · split at h
              · rename_i v c s' hsim
                cases g with
                | true =>
                  have hb := hgi.1 rfl
                  rw [if_pos (hw.2 hb)]
                  cases c with
                  | false => cases h
                  | true =>
                    refine (simple_ok hE hT I (gchain_ok I 6 q b hgv) (unpinned (dst := some d) I hfits) hsim).next fun u w' A' okS' hI' hv => ?_
                    rw [hd]
                    exact hK' _ _ _ (hputT hb hI' (simple_noGl hsim) hv) h
                | false =>
                  have hb : a.tmps.getD q undef ≠ .bool b := fun e => by have := hgi.2 e; cases this
                  rw [if_neg (fun e => hb (hw.1 e))]
                  simp only [Bool.not_false, Bool.or_true, cond_true] at h
                  obtain ⟨l, hl⟩ := simple_frz hsim
                  subst hl
                  obtain ⟨ok2, I2, _⟩ := I.frzList l
                  exact hK' _ _ _ (hputF hb I2 (simple_noGl hsim)) h
              · cases h
          · cases h
      · cases h
  · cases h
theorem stepOp_ok (hE : EnvOk E) {M : Mach E} (hT : TysOk E P M.tys) {callF : FuncId → List (Arg E) → Res E} (hC : CallStep P M callF C) {ops : Array Oper} {o : Oper} {rest : List Oper} {k : St E → Res E} {r : Dt E} {Q : Exit → Act → World → Prop}
    (h : stepOp M callF ops o s k = some r) (hs : Holds C s a w) (hk : ∀ s' a' w', Holds C s' a' w' → k s' = some r → wpList P ops Q rest a' w') : wpList P ops Q (o :: rest) a w :=
  wpList_step fun K hK => stepOp_wp hE hT hC h hs fun s' a' w' h1 h2 => hK _ _ (hk s' a' w' h1 h2)
theorem stepOps_ok (hE : EnvOk E) {M : Mach E} (hT : TysOk E P M.tys) {callF : FuncId → List (Arg E) → Res E} (hC : CallStep P M callF C) {ops : Array Oper} {k : St E → Res E} {r : Dt E} {Q : Exit → Act → World → Prop} (hk : ∀ s' a' w', Holds C s' a' w' → k s' = some r → Q .normal a' w') :
    ∀ (l : List Oper) (s : St E) (a : Act) (w : World), stepOps M callF ops l s k = some r → Holds C s a w → wpList P ops Q l a w
  | [], s, a, w, h, hs => hk s a w hs h
  | o :: l, s, a, w, h, hs => stepOp_ok hE hT hC (k := fun s' => stepOps M callF ops l s' k) h hs fun s' a' w' hs' h' => stepOps_ok hE hT hC hk l s' a' w' h' hs'
end
end Go.Proofs.AM

namespace Go.Proofs.AM
open Go Go.RowKit
variable {E : Env}
section
variable {C : FC} {s : St E} {A : Asg} {okS : Nat → Nat → Prop} {tmps : Array Value} {w : World}
theorem set_self (tmps : Array Value) (d : Nat) : tmps.setIfInBounds d (tmps.getD d undef) = tmps := by
  by_cases h : d < tmps.size
  · apply Array.ext
    · simp
    · intro i h1 h2
      by_cases hi : i = d
      · subst hi; simp [Array.getD_eq_getD_getElem?, h]
      · rw [Array.getElem_setIfInBounds_ne _ (fun e => hi e.symm)]
  · rw [Array.setIfInBounds, dif_neg h]
def locVal (A : Asg) (tmps : Array Value) (w : World) (l : Loc) (v : Value) : Prop :=
  match l with
  | .slot n => v = tmps.getD n undef
  | .cell b i => ∃ k cs e, A.B b = some k ∧ w.heap[k]? = some (.cells cs e (0, 0)) ∧ cs[i]? = some v
theorem getLoc_ok (I : Inv C s A okS tmps w) {l : Loc} {c : CV E} (h : getLoc s l = some c) : ∃ v, locVal A tmps w l v ∧ RepCV w okS C.okP s.ob A c v := by
  cases l with
  | slot n =>
    simp only [getLoc] at h
    split at h
    · rename_i v hv
      injection h with h; subst h
      have := slot_rep I n
      rw [hv] at this
      exact ⟨_, rfl, this⟩
    · cases h
  | cell b i =>
    simp only [getLoc, findBox] at h
    split at h
    · rename_i g cs hf
      split at hf
      · rename_i g' cs' hl
        injection hf with hf; injection hf with e1 e2; subst e1; subst e2
        obtain ⟨k, vs, e, hB, hw, hr⟩ := I.obj b g' _ hl
        obtain ⟨v, hv, hrv⟩ := hr.get i c h
        exact ⟨v, ⟨k, vs.toArray, e, hB, hw, by simpa using hv⟩, hrv⟩
      · cases hf
    · cases h
theorem setLoc_ok (I : Inv C s A okS tmps w) {l : Loc} {c : CV E} {v : Value} (hl : locOk s l = true) (hv : locVal A tmps w l v) (hr : RepCV w okS C.okP s.ob A c v) : Inv C (setLoc s c l) A okS tmps w := by
  cases l with
  | slot n =>
    simp only [setLoc]
    simp only [locVal] at hv
    have := I.put (d := n) (Nat.le_of_ble_eq_true hl) (k := .c c) (v := v) rfl hr
    rw [hv, set_self] at this
    exact this
  | cell b i =>
    simp only [setLoc]
    split
    · rename_i g cs hf
      simp only [findBox] at hf
      split at hf
      · rename_i g' cs' hlk
        injection hf with hf; injection hf with e1 e2; subst e1; subst e2
        obtain ⟨k, vs, e, hB, hw, hrr⟩ := I.obj b g' _ hlk
        obtain ⟨k', cs2, e', hB', hw', hv'⟩ := hv
        rw [hB] at hB'; cases hB'
        rw [hw] at hw'; cases hw'
        refine (I.write (o' := .box (cs'.set i c)) hlk rfl rfl hB rfl rfl rfl rfl (fun _ _ => rfl) ⟨⟨cs', rfl⟩, rfl⟩ rfl fun K => ?_).1
        refine ⟨k, vs, e, hB, hw, ?_⟩
        have h1 := (hrr.imp fun c v h => K.cv c v h).set i c v (K.cv c v hr)
        have : vs.set i v = vs := by
          apply List.ext_getElem?
          intro j
          by_cases hj : j = i
          · subst hj
            have hv2 : vs[j]? = some v := by simpa using hv'
            rw [hv2]
            have hlt : j < vs.length := by
              rcases Nat.lt_or_ge j vs.length with h | h
              · exact h
              · rw [List.getElem?_eq_none h] at hv2; cases hv2
            simp [hlt]
          · rw [List.getElem?_set_ne (Ne.symm hj)]
        rwa [this] at h1
      · cases hf
    · exact I
theorem locVal_A {A' : Asg} {l : Loc} {v : Value} (h : locVal A tmps w l v) (hA : ∀ b i, l = .cell b i → A'.B b = A.B b) : locVal A' tmps w l v := by
  cases l with
  | slot n => exact h
  | cell b i => obtain ⟨k, cs, e, h1, h2⟩ := h; exact ⟨k, cs, e, by rw [hA b i rfl]; exact h1, h2⟩
theorem setLoc_nobox {l : Loc} {c : CV E} {b i : Nat} (hl : l = .cell b i) (h : findBox s b = none) : setLoc s c l = s := by subst hl; simp [setLoc, h]
theorem rename_ok (I : Inv C s A okS tmps w) {n g : Nat} {t : Ty} {xs : List (den E.Γ t)} {win : Option (Nat × Nat)} {v : Value} (ho : s.obj n g = some (.tok t xs)) (hr : RepCV w okS C.okP s.ob A (.ref n g win) v) {nm : Nat} (hpn : ¬ pinned nm) :
    ∃ A', (∀ m, m ≠ nm → A'.B m = A.B m) ∧ Inv C ((s.kill n g).fresh nm (.tok t (winOf xs win))) A' okS tmps w ∧ RepCV w okS C.okP ((s.kill n g).fresh nm (.tok t (winOf xs win))).ob A' (.ref nm ((s.kill n g).gen nm) none) v := by
  have hl := lk_of_obj (ob := s.ob) ho
  obtain ⟨I1, K1⟩ := I.kill hl
  have hrr := hr.2.1 t xs ho
  have hob := I.obj n g _ hl
  unfold RepRef at hrr
  unfold RepOb at hob
  have hone := hr.1.2
  cases hB : A.B n with
  | none =>
    simp only [hB] at hrr hob
    subst hob
    have hw : winOf ([] : List (den E.Γ t)) win = [] := by cases win <;> simp [winOf]
    rw [hw]
    obtain ⟨hv, _⟩ := hrr
    refine ⟨_, fun m hm => (Asg.at_ne _ _ _ hm).1, (I1.freshNil hpn t).1, ⟨Known.put _ _ _ _, hone⟩, fun t' xs' ho2 => ?_, fun t' xs' ho2 => ?_⟩
    · have := obj_put (s.kill n g) nm ((s.kill n g).gen nm) (.tok t [])
      unfold St.fresh at ho2
      rw [this] at ho2; injection ho2 with ho2; injection ho2 with e1 e2; subst e1; cases e2
      unfold RepRef
      simp [winLen, hv]
    · have := obj_put (s.kill n g) nm ((s.kill n g).gen nm) (.tok t [])
      unfold St.fresh at ho2
      rw [this] at ho2; cases ho2
  | some b =>
    simp only [hB] at hrr hob
    obtain ⟨o, cap, cs, e, hv, hw, hwin, hcap, ho', hsp⟩ := hrr
    obtain ⟨cs', e', hw2, hrow⟩ := hob
    rw [hw] at hw2; injection hw2 with hw2; injection hw2 with e1 e2; subst e1; subst e2
    have hlen := winOf_length xs win hwin
    have hown := I.own n g _ b hl rfl hB
    have hwd : winOf xs win = (xs.drop (winLo win)).take (winLen xs.length win) := by
      cases win with
      | none => simp [winOf, winLo, winLen]
      | some p => rfl
    have hrow2 : RowF E w okS t (winOf xs win) (fun k => cs[A.O n + winLo win * nc E t + k]?) := by
      rw [hwd]
      refine (hrow.toF.window (winLo win) (winLen xs.length win) hwin).congr fun k _ => ?_
      show cs[A.O n + winLo win * nc E t + k]? = cs[A.O n + (winLo win * nc E t + k)]?
      rw [Nat.add_assoc]
    have h2 := Inv.upd I1 (n := nm) (g := (s.kill n g).gen nm) (o' := .tok t (winOf xs win)) (A' := A.at nm (some b) (A.O n + winLo win * nc E t)) (okS' := okS) (w' := w) (fun m hm => Asg.at_ne _ _ _ hm) (fun h => absurd h hpn) (fun h o hl => by rw [St.gen_gt hl]; omega)
      (Nat.le_refl _) rfl rfl rfl (fun _ _ _ => rfl) (fun _ _ _ _ => rfl) (fun _ _ h => h) I1.okLt I1.okSub (fun b k h1 h2 => absurd h1 h2) (fun o hl => by have := St.gen_gt hl; omega) (fun K => by
        unfold RepOb
        simp only [Asg.at_B, Asg.at_O]
        exact ⟨_, e, hw, hrow2.toRow⟩) (fun _ b' hb' => by
        simp at hb'; subst hb'
        refine ⟨fun k _ => hown.1 k (Nat.zero_le _), hown.2.1, hown.2.2.1, hown.2.2.2, fun m h o' hm hl2 hlv2 hB2 => ?_⟩
        change lk (s.putOb n g .gone).ob m = _ at hl2
        rw [St.lk_putOb] at hl2
        by_cases hmn : m = n
        · subst hmn; simp only [if_true] at hl2; cases hl2; cases hlv2
        · simp only [hmn, if_false] at hl2
          exact hmn (I.inj m n h g o' _ b hl2 hl hlv2 rfl hB2 hB))
    refine ⟨_, fun m hm => (Asg.at_ne _ _ _ hm).1, h2.1, ⟨Known.put _ _ _ _, hone⟩, fun t' xs' ho2 => ?_, fun t' xs' ho2 => ?_⟩
    · have := obj_put (s.kill n g) nm ((s.kill n g).gen nm) (.tok t (winOf xs win))
      unfold St.fresh at ho2
      rw [this] at ho2; injection ho2 with ho2; injection ho2 with e1 e2; subst e1; cases e2
      unfold RepRef
      simp only [Asg.at_B, Asg.at_O]
      refine ⟨o, cap, cs, e, by simp [winLen, hlen, hv], hw, by simp [winLo, winLen], by simp only [winLen, hlen]; exact hcap, ?_, hsp⟩
      simpa [winLo] using ho'
    · have := obj_put (s.kill n g) nm ((s.kill n g).gen nm) (.tok t (winOf xs win))
      unfold St.fresh at ho2
      rw [this] at ho2; cases ho2
theorem hint_own (I : Inv C s A okS tmps w) {l : Loc} {nm : Nat} {t : Ty} {s' : St E} (h : hint s (.own l nm t) = some s') : ∃ A' okS', Inv C s' A' okS' tmps w := by
  simp only [hint] at h
  split at h
  · rename_i hlok
    have fin : ∀ {s1 : St E} {A1 : Asg} {c : CV E} {v : Value}, s1.n = s.n → Inv C s1 A1 okS tmps w → (∀ m, m ≠ nm → A1.B m = A.B m) → locVal A tmps w l v → RepCV w okS C.okP s1.ob A1 c v → (∀ m g o, lk s1.ob m = some (g, o) → m = nm → ∃ t xs, o = .tok t xs) → ∃ A' okS', Inv C (setLoc s1 c l) A' okS' tmps w := by
      intro s1 A1 c v hn I1 hA hv hr htok
      refine ⟨A1, okS, ?_⟩
      by_cases hb : ∃ i, l = .cell nm i
      · obtain ⟨i, hli⟩ := hb
        have : findBox s1 nm = none := by
          unfold findBox
          split
          · rename_i g cs hlk; obtain ⟨t, xs, he⟩ := htok nm g _ hlk rfl; cases he
          · rfl
        rw [setLoc_nobox hli this]; exact I1
      · refine setLoc_ok I1 ?_ (locVal_A hv fun b i hli => hA b fun e => hb ⟨i, e ▸ hli⟩) hr
        cases l with
        | slot m => simp only [locOk] at hlok ⊢; rw [hn]; exact hlok
        | cell _ _ => rfl
    split at h
    · rename_i hg
      split at h
      · cases h
      rename_i hnm
      have hpn : ¬ pinned nm := fun hp => hnm hp.2
      injection h with h; subst h
      obtain ⟨v, hv, hr⟩ := getLoc_ok I hg
      have hv0 : v = .slice none 0 0 := hr
      subst hv0
      refine fin (s1 := s.fresh nm (.tok t [])) (A1 := A.at nm none 0) rfl (I.freshNil hpn t).1 (fun m hm => (Asg.at_ne _ _ _ hm).1) hv ⟨⟨Known.put _ _ _ _, rfl⟩, fun t' xs' ho => ?_, fun t' xs' ho => ?_⟩ (fun m g o hlk he => ?_)
      · have := obj_put s nm (s.gen nm) (.tok t [])
        unfold St.fresh at ho
        rw [this] at ho; injection ho with ho; injection ho with e1 e2; subst e1; cases e2
        unfold RepRef
        simp [winLen]
      · have := obj_put s nm (s.gen nm) (.tok t [])
        unfold St.fresh at ho
        rw [this] at ho; cases ho
      · subst he
        unfold St.fresh at hlk
        rw [St.lk_putOb] at hlk
        simp at hlk
        exact ⟨_, _, hlk.2.symm⟩
    · rename_i n g win hg
      obtain ⟨v, hv, hr⟩ := getLoc_ok I hg
      split at h
      · rename_i t' xs ho
        split at h
        · rename_i htt; subst htt
          split at h
          · injection h with h; subst h; exact ⟨A, okS, I⟩
          · split at h
            · cases h
            rename_i hnm
            have hpn : ¬ pinned nm := fun hp => hnm hp.2
            injection h with h; subst h
            obtain ⟨A', hA, I', hr'⟩ := rename_ok I ho hr hpn
            refine fin rfl I' hA hv hr' (fun m g' o hlk he => ?_)
            subst he
            unfold St.fresh at hlk
            rw [St.lk_putOb] at hlk
            simp at hlk
            exact ⟨_, _, hlk.2.symm⟩
        · cases h
      · cases h
    · cases h
  · cases h
theorem hint_imm (I : Inv C s A okS tmps w) {l : Loc} {t : Ty} {s' : St E} (h : hint s (.imm l t) = some s') : ∃ A' okS', Inv C s' A' okS' tmps w := by
  simp only [hint] at h
  split at h
  · rename_i hlok
    split at h
    · rename_i hg
      injection h with h; subst h
      obtain ⟨v, hv, hr⟩ := getLoc_ok I hg
      have hv0 : v = .slice none 0 0 := hr
      subst hv0
      exact ⟨A, okS, setLoc_ok I hlok hv (c := .leaf (.slice t) []) (RepD.nil none)⟩
    · rename_i n g win hg
      obtain ⟨v, hv, hr⟩ := getLoc_ok I hg
      obtain ⟨ok2, I2, K2, L2⟩ := I.freeze n g
      split at h
      · rename_i t' x hl
        injection h with h; subst h
        rw [look_freeze] at hl
        have := L2 win v hr
        rw [hl] at this
        refine ⟨A, ok2, setLoc_ok I2 ?_ hv (c := .leaf t' x) this⟩
        have hn : (s.freeze n g).n = s.n := by unfold St.freeze; split <;> rfl
        cases l with
        | slot m => simp only [locOk] at hlok ⊢; rw [hn]; exact hlok
        | cell _ _ => rfl
      · cases h
    · injection h with h; subst h; exact ⟨A, okS, I⟩
    · cases h
  · cases h
theorem hint_fnv (I : Inv C s A okS tmps w) {l : Loc} {s' : St E} (h : hint s (.fnv l) = some s') : ∃ A' okS', Inv C s' A' okS' tmps w := by
  simp only [hint] at h
  split at h
  · rename_i hlok
    split at h
    · rename_i f hg
      split at h
      · rename_i hone
        injection h with h; subst h
        obtain ⟨v, hv, hr⟩ := getLoc_ok I hg
        obtain ⟨vs, e1, e2⟩ := hr
        cases e2
        exact ⟨A, okS, setLoc_ok I hlok hv (c := .fnd f []) ⟨[], ⟨e1, hone⟩, .nil⟩⟩
      · cases h
    · injection h with h; subst h; exact ⟨A, okS, I⟩
    · cases h
  · cases h
end
end Go.Proofs.AM

namespace Go.Proofs.AM
open Go Go.RowKit
variable {E : Env}
theorem any_beq {l : List Nat} {n : Nat} : l.any (Nat.beq n) = true ↔ n ∈ l := by
  rw [List.any_eq_true]
  constructor
  · rintro ⟨m, hm, he⟩; rw [Nat.eq_of_beq_eq_true he]; exact hm
  · intro h; exact ⟨n, h, Nat.beq_refl n⟩
theorem lk_keepOb (s : St E) (ob : List Nat) : ∀ (l : List Nat) (n : Nat) (g' : Nat) (o' : Ob E), lk (keepOb s ob l) n = some (g', o') → ∃ g o, lk s.ob n = some (g, o) ∧ (∀ x, o = x → x ≠ .gone) ∧ g' = 0 ∧ o' = mapOb (renew s ob) o
  | [], n, g', o', h => by simp [keepOb, lk] at h
  | m :: l, n, g', o', h => by
    simp only [keepOb] at h
    split at h
    · exact lk_keepOb s ob l n g' o' h
    · rename_i g o hng hm
      by_cases hn : m = n
      · subst hn
        rw [lk_cons_same] at h
        injection h with h; injection h with h1 h2
        exact ⟨g, o, hm, fun x hx e => by subst hx; exact hng e, h1.symm, h2.symm⟩
      · rw [lk_cons_ne _ _ _ _ (Ne.symm hn)] at h
        exact lk_keepOb s ob l n g' o' h
    · exact lk_keepOb s ob l n g' o' h
theorem keepOb_lk (s : St E) (ob : List Nat) {n g : Nat} {o : Ob E} (hl : lk s.ob n = some (g, o)) (hg : ∀ x, o = x → x ≠ .gone) : ∀ (l : List Nat), n ∈ l → lk (keepOb s ob l) n = some (0, mapOb (renew s ob) o)
  | [], h => by cases h
  | m :: l, h => by
    simp only [keepOb]
    by_cases hn : m = n
    · subst hn
      rw [hl]
      split
      · rename_i g' he; injection he with he; injection he with _ he; exact absurd he (hg _ rfl)
      · rename_i g' o' _ he
        injection he with he; injection he with e1 e2; subst e2
        rw [lk_cons_same]
      · rename_i he; cases he
    · have hm : n ∈ l := by
        rcases List.mem_cons.1 h with e | h
        · exact absurd e.symm hn
        · exact h
      have ih := keepOb_lk s ob hl hg l hm
      split
      · exact ih
      · rw [lk_cons_ne _ _ _ _ (Ne.symm hn)]; exact ih
      · exact ih
theorem lk_keepSl (s : St E) (ob : List Nat) : ∀ (l : List Nat) (n : Nat) (v : SV E), lk (keepSl s ob l) n = some v → ∃ u, lk s.sl n = some u ∧ v = mapSV (renew s ob) u
  | [], n, v, h => by simp [keepSl, lk] at h
  | m :: l, n, v, h => by
    simp only [keepSl] at h
    split at h
    · rename_i u hm
      by_cases hn : m = n
      · subst hn
        rw [lk_cons_same] at h
        injection h with h
        exact ⟨u, hm, h.symm⟩
      · rw [lk_cons_ne _ _ _ _ (Ne.symm hn)] at h
        exact lk_keepSl s ob l n v h
    · exact lk_keepSl s ob l n v h
theorem live_obj {s : St E} {n g : Nat} (h : live s n g = true) : ∃ o, lk s.ob n = some (g, o) ∧ ∀ x, o = x → x ≠ .gone := by
  unfold live at h
  split at h
  · cases h
  · rename_i o hng ho
    exact ⟨o, lk_of_obj ho, fun x hx e => by subst hx; exact hng e⟩
  · cases h
section
variable {C : FC} {s : St E} {A : Asg} {okS : Nat → Nat → Prop} {okP : Nat → Prop} {tmps : Array Value} {w : World}
theorem kept_known {ob : List Nat} {n g : Nat} (h : (ob.any (Nat.beq n) && live s n g) = true) : ∃ o, lk s.ob n = some (g, o) ∧ lk (keepOb s ob ob) n = some (0, mapOb (renew s ob) o) := by
  simp only [Bool.and_eq_true] at h
  obtain ⟨o, h1, h2⟩ := live_obj h.2
  exact ⟨o, h1, keepOb_lk s ob h1 h2 ob (any_beq.1 h.1)⟩
theorem mapOb_box {f : CV E → CV E} {o : Ob E} {cs : List (CV E)} (h : mapOb f o = .box cs) : ∃ cs', o = .box cs' := by cases o <;> simp [mapOb] at h <;> exact ⟨_, rfl⟩
theorem mapOb_tok {f : CV E → CV E} {o : Ob E} {t : Ty} {xs : List (den E.Γ t)} (h : mapOb f o = .tok t xs) : o = .tok t xs := by cases o <;> simp [mapOb] at h; obtain ⟨h1, h2⟩ := h; subst h1; cases h2; rfl
theorem mapOb_frz {f : CV E → CV E} {o : Ob E} {t : Ty} {xs : List (den E.Γ t)} (h : mapOb f o = .frz t xs) : o = .frz t xs := by cases o <;> simp [mapOb] at h; obtain ⟨h1, h2⟩ := h; subst h1; cases h2; rfl
theorem renew_cap {ob : List Nat} {k : Cap E} {v : Value} : (match k with | .box n g => ob.any (Nat.beq n) && live s n g | .ro _ _ => true) = true → RepCap w okS okP s.ob A k v →
    RepCap w okS okP (keepOb s ob ob) A (match k with | .box n _ => .box n 0 | c => c) v := by
  intro hk h
  cases k with
  | ro t x => exact h
  | box n g =>
    obtain ⟨o, h1, h2⟩ := kept_known hk
    refine ⟨⟨0, _, h2, Nat.le_refl _⟩, fun cs ho => ?_⟩
    have := lk_of_obj ho
    rw [h2] at this
    injection this with this; injection this with _ he
    obtain ⟨cs', hc⟩ := mapOb_box he
    subst hc
    exact h.2 cs' (obj_of_lk h1)
theorem renew_rep {ob : List Nat} {c : CV E} {v : Value} (h : RepCV w okS okP s.ob A c v) : RepCV w okS okP (keepOb s ob ob) A (renew s ob c) v := by
  cases c with
  | ptr n g off =>
    simp only [renew]
    cases hk : (ob.any (Nat.beq n) && live s n g) with
    | false => trivial
    | true =>
      obtain ⟨o, h1, h2⟩ := kept_known hk
      refine ⟨⟨0, _, h2, Nat.le_refl _⟩, h.2.1, fun cs ho => ?_⟩
      have := lk_of_obj ho
      rw [h2] at this
      injection this with this; injection this with _ he
      obtain ⟨cs', hc⟩ := mapOb_box he
      subst hc
      exact h.2.2 cs' (obj_of_lk h1)
  | ref n g win =>
    simp only [renew]
    cases hk : (ob.any (Nat.beq n) && live s n g) with
    | false => trivial
    | true =>
      obtain ⟨o, h1, h2⟩ := kept_known hk
      refine ⟨⟨⟨0, _, h2, Nat.le_refl _⟩, h.1.2⟩, fun t xs ho => ?_, fun t xs ho => ?_⟩
      · have := lk_of_obj ho
        rw [h2] at this
        injection this with this; injection this with _ he
        have := mapOb_tok he
        subst this
        exact h.2.1 t xs (obj_of_lk h1)
      · have := lk_of_obj ho
        rw [h2] at this
        injection this with this; injection this with _ he
        have := mapOb_frz he
        subst this
        exact h.2.2 t xs (obj_of_lk h1)
  | optr n g i off =>
    simp only [renew]
    cases hk : (ob.any (Nat.beq n) && live s n g) with
    | false => trivial
    | true =>
      obtain ⟨o, h1, h2⟩ := kept_known hk
      refine ⟨⟨0, _, h2, Nat.le_refl _⟩, h.2.1, fun t xs ho => ?_⟩
      have := lk_of_obj ho
      rw [h2] at this
      injection this with this; injection this with _ he
      have := mapOb_tok he
      subst this
      exact h.2.2 t xs (obj_of_lk h1)
  | fn f caps =>
    simp only [renew]
    cases hk : (caps.all (fun c => match c with | .box n g => ob.any (Nat.beq n) && live s n g | .ro _ _ => true)) with
    | false => trivial
    | true =>
      obtain ⟨vs, hv, hr⟩ := h
      refine ⟨vs, hv, ?_⟩
      clear hv
      rw [List.all_eq_true] at hk
      refine All2.map_left _ ((hr.imp_mem fun c v hc hrc => ?_))
      exact renew_cap (hk c hc) hrc
  | dead => trivial
  | leaf t x => exact h
  | nilS => exact h
  | nilP => exact h
  | ro t x off => exact h
  | fnd f l => exact h
theorem renew_all {ob : List Nat} {cs : List (CV E)} {vs : List Value} (h : All2 (RepCV w okS okP s.ob A) cs vs) : All2 (RepCV w okS okP (keepOb s ob ob) A) (cs.map (renew s ob)) vs := by
  induction h with
  | nil => exact .nil
  | cons r _ ih => exact .cons (renew_rep r) ih
theorem renew_sv {ob : List Nat} {k : SV E} : ∀ {v : Value}, RepSV w okS okP s.ob A tmps k v → RepSV w okS okP (keepOb s ob ob) A tmps (mapSV (renew s ob) k) v := by
  induction k with
  | c c => intro v h; exact renew_rep h
  | agg cs => intro v h; obtain ⟨vs, hv, h⟩ := h; exact ⟨vs, hv, renew_all h⟩
  | tup ps =>
    intro v h
    obtain ⟨vs, hv, h⟩ := h
    refine ⟨vs, hv, ?_⟩
    clear hv
    induction h with
    | nil => exact .nil
    | cons r _ ih =>
      refine .cons ?_ ih
      rename_i p u _ _ _
      obtain ⟨ag, cs⟩ := p
      cases ag with
      | true => obtain ⟨us, hu, h⟩ := r; exact ⟨us, hu, renew_all h⟩
      | false => obtain ⟨c, hc, h⟩ := r; simp only at hc; subst hc; exact ⟨_, rfl, renew_rep h⟩
  | gl q b x ih => intro v h; exact ⟨fun hq => ih (h.1 hq), h.2⟩
theorem lim_mapOb {f : CV E → CV E} {A : Asg} {n : Nat} {o : Ob E} : lim A n (mapOb f o) = lim A n o := by cases o <;> rfl
theorem isLive_mapOb {f : CV E → CV E} {o : Ob E} : isLive (mapOb f o) = isLive o := by cases o <;> rfl
theorem pin_mapOb {f : CV E → CV E} {A : Asg} {n : Nat} {o : Ob E} (h : Pin C A w n o) : Pin C A w n (mapOb f o) := by cases o <;> exact h
theorem keep_ok (I : Inv C s A okS tmps w) (sl ob : List Nat) : Inv C { n := s.n, sl := keepSl s ob sl, ob := keepOb s ob ob } A okS tmps w where
  os := I.os
  tape := I.tape
  output := I.output
  size := I.size
  block := I.block
  okLt := I.okLt
  okSub := I.okSub
  okPLt := I.okPLt
  obj := fun n g o hl => by
    obtain ⟨g0, o0, h1, h2, h3, h4⟩ := lk_keepOb s ob ob n g o hl
    have := I.obj n g0 o0 h1
    rw [h4]
    cases o0 with
    | box cs => obtain ⟨b, vs, e, hB, hw, hr⟩ := this; exact ⟨b, vs, e, hB, hw, renew_all hr⟩
    | tok t xs => exact this
    | frz _ _ => exact this
    | gone => trivial
  own := fun n g o b hl hlv hB => by
    obtain ⟨g0, o0, h1, h2, h3, h4⟩ := lk_keepOb s ob ob n g o hl
    rw [h4, isLive_mapOb] at hlv
    rw [h4, lim_mapOb]
    exact I.own n g0 o0 b h1 hlv hB
  inj := fun n m g h o p b hl hl' hlv hlv' hB hB' => by
    obtain ⟨g0, o0, h1, _, _, h4⟩ := lk_keepOb s ob ob n g o hl
    obtain ⟨g1, o1, k1, _, _, k4⟩ := lk_keepOb s ob ob m h p hl'
    rw [h4, isLive_mapOb] at hlv
    rw [k4, isLive_mapOb] at hlv'
    exact I.inj n m g0 g1 o0 o1 b h1 k1 hlv hlv' hB hB'
  sl := fun n v hv => by
    obtain ⟨u, h1, h2⟩ := lk_keepSl s ob sl n v hv
    rw [h2]; exact renew_sv (I.sl n u h1)
  tmps := I.tmps
  small := I.small
  pin := fun n g o hp hl => by
    obtain ⟨g0, o0, h1, _, h3, h4⟩ := lk_keepOb s ob ob n g o hl
    rw [h4]
    exact ⟨h3, pin_mapOb (I.pin n g0 o0 hp h1).2⟩
theorem hint_ok (I : Inv C s A okS tmps w) {h : Hint} {s' : St E} (hh : hint s h = some s') : ∃ A' okS', Inv C s' A' okS' tmps w := by
  cases h with
  | own l nm t => exact hint_own I hh
  | imm l t => exact hint_imm I hh
  | fnv l => exact hint_fnv I hh
  | keep sl ob => simp only [hint] at hh; injection hh with hh; subst hh; exact ⟨A, okS, keep_ok I sl ob⟩
end
theorem norm_ok {C : FC} {tmps : Array Value} {w : World} : ∀ (l : List Hint) {s s' : St E} {A : Asg} {okS : Nat → Nat → Prop}, Inv C s A okS tmps w → norm s l = some s' → ∃ A' okS', Inv C s' A' okS' tmps w
  | [], s, s', A, okS, I, h => by simp only [norm] at h; injection h with h; subst h; exact ⟨A, okS, I⟩
  | hd :: l, s, s', A, okS, I, h => by
    simp only [norm] at h
    split at h
    · rename_i s1 h1
      obtain ⟨A1, ok1, I1⟩ := hint_ok I h1
      exact norm_ok l I1 h
    · cases h
end Go.Proofs.AM

namespace Go.Proofs.AM
open Go Go.RowKit
variable {E : Env}
def exOf : Ex → Exit
  | .normal => .normal
  | .exit i => .exit i
  | .ret => .ret
section
variable {P : Program} {C : FC}
def KGood (C : FC) (K : Kont E) (r : Dt E) (Q : Exit → Act → World → Prop) : Prop := ∀ e s a w, Holds C s a w → K e s = some r → Q (exOf e) a w
def RecOk (P : Program) (C : FC) (rec : Nat → Code → St E → Kont E → Res E) (r : Dt E) (n : Nat) : Prop :=
  ∀ b c s a w K Q, rec b c s K = some r → Holds C s a w → KGood C K r Q → Code.rounds P c Q n a w
def DrawOk (P : Program) (M : Mach E) (callF : FuncId → List (Arg E) → Res E) (C : FC) : Prop :=
  ∀ (id : Nat) (ops : Array Oper) (s : St E) (a : Act) (w : World) (k : St E → Res E) (r : Dt E) (Q : Exit → Act → World → Prop), edgesOk ops = true → entryOk ops s = true → stepOpsD M callF ops ops.toList 0 [] s k = some r → Holds C s a w →
    (∀ s' a' w', Holds C s' a' w' → k s' = some r → Q .normal a' w') → (Code.region id ops true).wp P Q a w
theorem again_ok {X : Cx E} {b : Nat} {s : St E} {g : St E → Res E} {r : Dt E} {a : Act} {w : World} (h : again X b s g = some r) (hs : Holds C s a w) : ∃ s', Holds C s' a w ∧ g s' = some r := by
  unfold again at h
  split at h
  · split at h
    · rename_i s' hn
      obtain ⟨hd, A, okS, I⟩ := hs
      obtain ⟨A', ok', I'⟩ := norm_ok _ I hn
      exact ⟨s', ⟨hd, A', ok', I'⟩, h⟩
    · cases h
  · cases h
theorem execA_ok (hE : EnvOk E) {X : Cx E} (hT : TysOk E P X.M.tys) (hC : CallStep P X.M X.callF C) (hD : DrawOk P X.M X.callF C) {rec : Nat → Code → St E → Kont E → Res E} {r : Dt E} {n : Nat} (hrec : RecOk P C rec r n) :
    ∀ (c : Code) (b : Nat) (s : St E) (a : Act) (w : World) (K : Kont E) (Q : Exit → Act → World → Prop), execA X rec b c s K = some r → Holds C s a w → KGood C K r Q → c.wp P Q a w
  | .skip, b, s, a, w, K, Q, h, hs, hK => by
    simp only [execA] at h
    exact wp_skip (hK .normal s a w hs h)
  | .region id ops draw, b, s, a, w, K, Q, h, hs, hK => by
    simp only [execA] at h
    cases draw with
    | false => exact wp_region_list (stepOps_ok hE hT hC (fun s' a' w' hs' h' => hK .normal s' a' w' hs' h') _ _ _ _ h hs)
    | true =>
      simp only [cond_true] at h
      cases he : (edgesOk ops && entryOk ops s) with
      | false => rw [he] at h; cases h
      | true =>
        rw [he] at h
        simp only [Bool.and_eq_true] at he
        exact hD id ops s a w _ r Q he.1 he.2 h hs fun s' a' w' hs' h' => hK .normal s' a' w' hs' h'
  | .seq x y, b, s, a, w, K, Q, h, hs, hK => by
    simp only [execA] at h
    refine wp_seq (execA_ok hE hT hC hD hrec x b s a w _ _ h hs fun e s' a' w' hs' h' => ?_)
    cases e with
    | normal => exact execA_ok hE hT hC hD hrec y b s' a' w' K Q h' hs' hK
    | exit i => exact hK _ _ _ _ hs' h'
    | ret => exact hK _ _ _ _ hs' h'
  | .cond c x y, b, s, a, w, K, Q, h, hs, hK => by
    simp only [execA] at h
    split at h
    · rename_i t hc
      obtain ⟨hd, A, okS, I⟩ := hs
      have hv := ev_rep I (ch := []) (fun _ _ h => by simp [inChain] at h) c
      rw [hc] at hv
      refine wp_cond (leaf_bool hv) ?_
      cases t with
      | true => exact execA_ok hE hT hC hD hrec x b s a w K Q h ⟨hd, A, okS, I⟩ hK
      | false => exact execA_ok hE hT hC hD hrec y b s a w K Q h ⟨hd, A, okS, I⟩ hK
    · cases h
  | .block id c, b, s, a, w, K, Q, h, hs, hK => by
    simp only [execA] at h
    refine wp_block (execA_ok hE hT hC hD hrec c id s a w _ _ h hs fun e s' a' w' hs' h' => ?_)
    cases e with
    | normal => exact hK _ _ _ _ hs' h'
    | ret => exact hK _ _ _ _ hs' h'
    | exit i =>
      simp only [blockK] at h'
      show Exit.inBlock id Q (.exit i) a' w'
      simp only [Exit.inBlock]
      cases hb : Nat.beq i id with
      | true => rw [hb] at h'; rw [if_pos (Nat.eq_of_beq_eq_true hb)]; exact hK _ _ _ _ hs' h'
      | false =>
        rw [hb] at h'
        rw [if_neg (fun e => by subst e; rw [Nat.beq_refl] at hb; cases hb)]
        exact hK _ _ _ _ hs' h'
  | .loop c, b, s, a, w, K, Q, h, hs, hK => by
    simp only [execA] at h
    obtain ⟨s', hs', h'⟩ := again_ok h hs
    exact wp_loop_rounds n (hrec b c s' a w K Q h' hs' hK)
  | .exit id, b, s, a, w, K, Q, h, hs, hK => by
    simp only [execA] at h
    exact wp_exit (hK (.exit id) s a w hs h)
  | .ret, b, s, a, w, K, Q, h, hs, hK => by
    simp only [execA] at h
    exact wp_ret (hK .ret s a w hs h)
theorem exec_ok (hE : EnvOk E) {X : Cx E} (hT : TysOk E P X.M.tys) (hC : CallStep P X.M X.callF C) (hD : DrawOk P X.M X.callF C) (r : Dt E) : ∀ k, RecOk P C (exec X k) r k
  | 0 => fun b c s a w K Q h _ _ => by simp [exec] at h
  | k + 1 => fun b c s a w K Q h hs hK => by
    simp only [exec] at h
    rw [rounds_succ]
    refine execA_ok hE hT hC hD (exec_ok hE hT hC hD r k) c b s a w _ _ h hs fun e s' a' w' hs' h' => ?_
    cases e with
    | normal =>
      obtain ⟨s2, hs2, h2⟩ := again_ok h' hs'
      exact exec_ok hE hT hC hD r k b c s2 a' w' K Q h2 hs2 hK
    | exit i => exact hK _ _ _ _ hs' h'
    | ret => exact hK _ _ _ _ hs' h'
end
end Go.Proofs.AM

namespace Go.Proofs.AM
open Go Go.RowKit
variable {E : Env}
def OwnV (E : Env) (w : World) (ok : Nat → Nat → Prop) (t : Ty) (xs : List (den E.Γ t)) (v : Value) : Option Nat → Prop
  | none => v = .slice none 0 0 ∧ xs = []
  | some b => ∃ o cap cs e, v = .slice (some ⟨b, o, none⟩) xs.length cap ∧ w.heap[b]? = some (.cells cs e (0, 0)) ∧ xs.length ≤ cap ∧ o + cap * nc E t ≤ cs.size ∧ RowF E w ok t xs (fun k => cs[o + k]?)
inductive Pieces (E : Env) (w : World) (ok : Nat → Nat → Prop) : List (Ty × Bool) → List (Dt E) → List Value → List (Option Nat) → Prop where
  | nil : Pieces E w ok [] [] [] []
  | imm {t : Ty} {x : den E.Γ t} {cs : List Value} {ps ds vs bs} : RepD E w ok t x cs → Pieces E w ok ps ds vs bs → Pieces E w ok ((t, false) :: ps) (⟨t, x⟩ :: ds) (cs ++ vs) bs
  | own {t : Ty} {xs : List (den E.Γ t)} {v : Value} {b : Option Nat} {ps ds vs bs} : OwnV E w ok t xs v b → Pieces E w ok ps ds vs bs → Pieces E w ok ((.slice t, true) :: ps) (⟨.slice t, xs⟩ :: ds) (v :: vs) (b :: bs)
def PartV (a : Bool) (vs : List Value) (v : Value) : Prop :=
  match a with
  | true => v = .agg vs.toArray
  | false => vs = [v]
def ResV : List (Bool × List Value) → Value → Prop
  | [p], v => PartV p.1 p.2 v
  | l, v => ∃ us : List Value, v = .tuple us.toArray ∧ All2 (fun p u => PartV p.1 p.2 u) l us
inductive ResP (E : Env) (w : World) (ok : Nat → Nat → Prop) : List (Bool × List (Ty × Bool)) → List (Dt E) → List (Bool × List Value) → List (Option Nat) → Prop where
  | nil : ResP E w ok [] [] [] []
  | cons {a : Bool} {ps ds vs bs rs ds' l bs'} : Pieces E w ok ps ds vs bs → ResP E w ok rs ds' l bs' → ResP E w ok ((a, ps) :: rs) (ds ++ ds') ((a, vs) :: l) (bs ++ bs')
def OwnAt (E : Env) (w0 w : World) (ok : Nat → Nat → Prop) (t : Ty) (x : List (den E.Γ t)) (O : Nat) : Option Nat → Prop
  | none => x = []
  | some b => ∃ cs e, w.heap[b]? = some (.cells cs e (0, 0)) ∧ RepRow E w ok t x O cs ∧ ∀ cs0 e0, w0.heap[b]? = some (.cells cs0 e0 (0, 0)) → e0 = e ∧ cs0.size = cs.size
inductive OutsR (E : Env) (w0 w : World) (ok : Nat → Nat → Prop) (A : Asg) : List OutP → List (Dt E) → List (Option Nat) → List (Option Nat) → Prop where
  | nil : OutsR E w0 w ok A [] [] [] []
  | rw {p : Nat} {cs : List (Ty × Bool)} {b : Nat} {vs : List Value} {e : TypeId} {ds1 bs1 r ds hs bs} : A.B (nameP p) = some b → w.heap[b]? = some (.cells vs.toArray e (0, 0)) → Pieces E w ok cs ds1 vs bs1 →
      OutsR E w0 w ok A r ds hs bs → OutsR E w0 w ok A (.rw p cs :: r) (ds1 ++ ds) (some b :: hs) (bs1 ++ bs)
  | own {p : Nat} {t : Ty} {x : List (den E.Γ t)} {r ds hs bs} : OwnAt E w0 w ok t x (A.O (nameP p)) (A.B (nameP p)) → OutsR E w0 w ok A r ds hs bs → OutsR E w0 w ok A (.own p t :: r) (⟨.slice t, x⟩ :: ds) (A.B (nameP p) :: hs) bs
def Dist (bs : List (Option Nat)) : Prop := bs.Pairwise fun a b => ∀ x, a = some x → b ≠ some x
structure Fr (C : FC) (ok : Nat → Nat → Prop) (bs : List (Option Nat)) (w' : World) : Prop where
  os : w'.os = C.w0.os
  tape : w'.tape = C.w0.tape
  output : w'.output = C.w0.output
  size : C.w0.heap.size ≤ w'.heap.size
  block : ∀ b, b < C.w0.heap.size → ¬ C.rw b → w'.heap[b]? = C.w0.heap[b]?
  okLt : ∀ b k, ok b k → b < w'.heap.size
  okSub : ∀ b k, ok b k → C.okS b k ∨ C.w0.heap.size ≤ b ∨ C.rw b
  dist : Dist bs
  free : ∀ b, some b ∈ bs → (∀ k, ¬ ok b k) ∧ b < w'.heap.size ∧ (C.w0.heap.size ≤ b ∨ C.rw b)
def Post (C : FC) (A : Asg) (rs : List (Bool × List (Ty × Bool))) (os : List OutP) (ds : List (Dt E)) (v : Value) (w' : World) : Prop :=
  ∃ ok ds1 ds2 l bs1 hs bs2, ds = ds1 ++ ds2 ∧ ResP E w' ok rs ds1 l bs1 ∧ ResV l v ∧ OutsR E C.w0 w' ok A os ds2 hs bs2 ∧ Fr C ok (bs1 ++ (bs2 ++ hs)) w'
def outsPs (os : List OutP) : List (Ty × Bool) := os.flatMap fun o => match o with
  | .rw _ cs => cs
  | .own _ t => [(.slice t, true)]
def CallsF (P : Program) (f : FuncId) (args : Array Value) (w : World) (R : Value → World → Prop) : Prop :=
  match (callFunc f args).run P w with
  | .ok (.value v) w' => R v w'
  | .ok (.enter g args') w' => Calls P g args' w' fun e w'' => ∃ v, e = .returned v ∧ R v w''
  | _ => False
def pad (vals : List Value) (n : Nat) : Array Value := vals.toArray ++ Array.replicate (n - vals.length) undef
def FnOk1 (P : Program) (M : Mach E) (f : FuncId) (as : List (Arg E)) (r : Dt E) : Prop := ∃ sg, M.sigs.find f = some sg ∧
    ∀ (C : FC) (A : Asg) sl ob (vals : List Value), enter 0 as = some (sl, ob) → vals.length = as.length → C.A0 = A →
      (∀ n, vals.length ≤ n → n < 100000 → Inv C { n := n, sl := sl, ob := ob } A C.okS (pad vals n) C.w0) →
      CallsF P f vals.toArray C.w0 fun v w' => ∃ x, r = ⟨tyL (piecesTy (resPieces sg.rs ++ outsPs (outsOf 0 as))), x⟩ ∧ Post C A sg.rs (outsOf 0 as) (unL E _ x) v w'
def FnOk (P : Program) (M : Mach E) (callF : FuncId → List (Arg E) → Res E) : Prop :=
  ∀ f as r, callF f as = some r → FnOk1 P M f as r
def OneOk (M : Mach E) : Prop := ∀ f sg, E.one f = true → M.sigs.find f = some sg → ∃ a ps, sg.rs = [(a, ps)] ∧ (a == Nat.beq (sizeOfPs E ps) 1) = false
end Go.Proofs.AM

namespace Go.Proofs.AM
open Go Go.RowKit
variable {E : Env}
def Taken (s0 s : St E) (n : Nat) : Prop :=
  (∃ g t xs, lk s0.ob n = some (g, .tok t xs) ∧ lk s.ob n = some (g, .gone)) ∨
  (∃ g cs, cs ≠ [] ∧ lk s0.ob n = some (g, .box cs) ∧ lk s.ob n = some (g, .box (cs.map fun _ => .dead)))
structure Less (s0 s : St E) : Prop where
  n : s.n = s0.n
  sl : s.sl = s0.sl
  ob : ∀ m, lk s.ob m = lk s0.ob m ∨ Taken s0 s m
theorem Less.refl (s : St E) : Less s s := ⟨rfl, rfl, fun _ => .inl rfl⟩
theorem Less.tok {s0 s : St E} (L : Less s0 s) {n g : Nat} {t : Ty} {xs : List (den E.Γ t)} (h : s.obj n g = some (.tok t xs)) : s0.obj n g = some (.tok t xs) := by
  have hl := lk_of_obj (ob := s.ob) h
  rcases L.ob n with e | ⟨_, _, _, _, e⟩ | ⟨_, _, _, _, e⟩
  · exact obj_of_lk (by rw [← e]; exact hl)
  · rw [e] at hl; cases hl
  · rw [e] at hl; cases hl
theorem Less.frz {s0 s : St E} (L : Less s0 s) {n g : Nat} {t : Ty} {xs : List (den E.Γ t)} (h : s.obj n g = some (.frz t xs)) : s0.obj n g = some (.frz t xs) := by
  have hl := lk_of_obj (ob := s.ob) h
  rcases L.ob n with e | ⟨_, _, _, _, e⟩ | ⟨_, _, _, _, e⟩
  · exact obj_of_lk (by rw [← e]; exact hl)
  · rw [e] at hl; cases hl
  · rw [e] at hl; cases hl
theorem Less.box {s0 s : St E} (L : Less s0 s) {n g : Nat} {cs : List (CV E)} (h : s.obj n g = some (.box cs)) : lk s0.ob n = some (g, .box cs) ∨ (cs ≠ [] ∧ ∀ c ∈ cs, c = .dead) := by
  have hl := lk_of_obj (ob := s.ob) h
  rcases L.ob n with e | ⟨_, _, _, _, e⟩ | ⟨g', cs', hne, e0, e⟩
  · exact .inl (by rw [← e]; exact hl)
  · rw [e] at hl; cases hl
  · rw [e] at hl; injection hl with hl; injection hl with h1 h2; injection h2 with h2; subst h2
    exact .inr ⟨by simpa using hne, fun c hc => by simp only [List.mem_map] at hc; obtain ⟨_, _, e⟩ := hc; exact e.symm⟩
theorem Less.look {s0 s : St E} (L : Less s0 s) (c : CV E) : s.look c = s0.look c ∨ s.look c = .dead := by
  cases c with
  | ref n g w =>
    simp only [St.look]
    split
    · rename_i t xs h; rw [L.tok h]; exact .inl rfl
    · rename_i t xs h; rw [L.frz h]; exact .inl rfl
    · exact .inr rfl
  | _ => exact .inl rfl
theorem Less.live {s0 s : St E} (L : Less s0 s) {n g : Nat} {o : Ob E} (h : lk s.ob n = some (g, o)) (hlv : isLive o = true) : ∃ o0, lk s0.ob n = some (g, o0) ∧ isLive o0 = true ∧ (∀ A, lim A n o0 = lim A n o) := by
  rcases L.ob n with e | ⟨_, _, _, _, e⟩ | ⟨g', cs', hne, e0, e⟩
  · exact ⟨o, by rw [← e]; exact h, hlv, fun _ => rfl⟩
  · rw [e] at h; cases h; cases hlv
  · rw [e] at h; injection h with h; injection h with h1 h2; subst h1; subst h2; exact ⟨_, e0, rfl, fun _ => rfl⟩
theorem leafOf_dead (t : Ty) : leafOf (E := E) t .dead = none := by cases t <;> rfl
def isDat : CV E → Bool
  | .leaf _ _ => true
  | .nilS => true
  | _ => false
theorem leafOf_dat {t : Ty} {c : CV E} {x : den E.Γ t} (h : leafOf t c = some x) : isDat c = true := by
  cases c <;> first | rfl | (cases t <;> simp [leafOf] at h)
theorem one_dat {t : Ty} {cs : List (CV E)} {x : den E.Γ t} (h : one E t cs = some x) : cs.all isDat = true := by
  match cs, h with
  | [c], h => simp [leafOf_dat (t := t) (c := c) h]
theorem packF_dat : ∀ (t : Ty) (cs : List (CV E)) (x : den E.Γ t), packF E t cs = some x → cs.all isDat = true := by
  intro t
  induction t with
  | unit => intro cs x h; cases cs with
    | nil => rfl
    | cons _ _ => simp [packF] at h
  | pair a b iha ihb =>
    intro cs x h
    simp only [packF] at h
    split at h
    · rename_i y z hy hz
      have := iha _ _ hy
      have h2 := ihb _ _ hz
      rw [← List.take_append_drop (ncF a) cs, List.all_append, this, h2]; rfl
    · cases h
  | nom n => intro cs x h; simp [packF] at h
  | int k => intro cs x h; exact one_dat h
  | bool => intro cs x h; exact one_dat h
  | str => intro cs x h; exact one_dat h
  | slice t _ => intro cs x h; exact one_dat h
  | opt t _ => intro cs x h; exact one_dat h
theorem pack_dat : ∀ (t : Ty) (cs : List (CV E)) (x : den E.Γ t), pack E t cs = some x → cs.all isDat = true := by
  intro t
  induction t with
  | unit => intro cs x h; cases cs with
    | nil => rfl
    | cons _ _ => simp [pack] at h
  | pair a b iha ihb =>
    intro cs x h
    simp only [pack] at h
    split at h
    · rename_i y z hy hz
      have := iha _ _ hy
      have h2 := ihb _ _ hz
      rw [← List.take_append_drop (nc E a) cs, List.all_append, this, h2]; rfl
    · cases h
  | nom n =>
    intro cs x h
    simp only [pack] at h
    cases hp : packF E (E.row n) cs with
    | none => rw [hp] at h; cases h
    | some r => exact packF_dat _ _ _ hp
  | int k => intro cs x h; exact one_dat h
  | bool => intro cs x h; exact one_dat h
  | str => intro cs x h; exact one_dat h
  | slice t _ => intro cs x h; exact one_dat h
  | opt t _ => intro cs x h; exact one_dat h
theorem Less.box_pack {s0 s : St E} (L : Less s0 s) {n g : Nat} {cs : List (CV E)} (h : s.obj n g = some (.box cs)) {t : Ty} {x : den E.Γ t} (hp : pack E t (cs.map s.look) = some x) : lk s0.ob n = some (g, .box cs) := by
  rcases L.box h with h1 | ⟨hne, hd⟩
  · exact h1
  · have := pack_dat _ _ _ hp
    cases cs with
    | nil => exact absurd rfl hne
    | cons c r =>
      have hc := hd c (by simp)
      subst hc
      simp [St.look, isDat] at this
structure Ent (E : Env) where
  m : Nat
  o : Ob E
  B : Option Nat
  O : Nat
  src : Option Nat
def Ent.row (e : Ent E) : Nat × Nat × Ob E := (e.m, 0, e.o)
def Sees (A' : Asg) (ob' : Obs E) (es : List (Ent E)) : Prop := ∀ e ∈ es, A'.B e.m = e.B ∧ A'.O e.m = e.O ∧ lk ob' e.m = some (0, e.o)
def ent1 (p : Nat) : Arg E → Option (SV E × List (Nat × Nat × Ob E))
  | .val t x => some (svOf t x, [])
  | .fn f l => some (.c (.fnd f l), [])
  | .ro t x => some (.c (.ro t x 0), [])
  | .rw cs x => match ownCells (nameP p + 1) cs (unL E (cs.map (·.1)) x) with
    | some (vs, os) => some (.c (.ptr (nameP p) 0 0), (nameP p, 0, .box vs) :: os)
    | none => none
  | .own t xs => some (.c (.ref (nameP p) 0 none), [(nameP p, 0, .tok t xs)])
  | .take t xs => some (.c (.ref (nameP p) 0 none), [(nameP p, 0, .tok t xs)])
theorem enter_cons {p : Nat} {a : Arg E} {r : List (Arg E)} {sl ob sv os} (h : enter (p + 1) r = some (sl, ob)) (h1 : ent1 p a = some (sv, os)) : enter p (a :: r) = some ((p, sv) :: sl, os ++ ob) := by
  cases a with
  | rw cs x =>
    simp only [ent1] at h1
    simp only [enter, h]
    cases ho : ownCells (nameP p + 1) cs (unL E (cs.map (·.1)) x) with
    | none => rw [ho] at h1; cases h1
    | some q =>
      obtain ⟨vs, os'⟩ := q
      rw [ho] at h1; injection h1 with h1; injection h1 with e1 e2; subst e1; subst e2
      rfl
  | _ => simp only [ent1] at h1; injection h1 with h1; injection h1 with e1 e2; subst e1; subst e2; simp [enter, h]
def szP (E : Env) : List (Ty × Bool) → Nat
  | [] => 0
  | p :: r => nc E p.1 + szP E r
def OutRel (A A' : Asg) (s0 : St E) (p : Nat) : Arg E → List (Back E) → Prop
  | .rw cs _, o => ∃ n g xs, o = [.box n g cs] ∧ A'.B (nameP p) = A.B n ∧ lk s0.ob n = some (g, .box xs) ∧ xs.length = szP E cs
  | .own t xs, o => ∃ n g, o = [.own n g t xs] ∧ A'.B (nameP p) = A.B n ∧ A'.O (nameP p) = A.O n ∧ lk s0.ob n = some (g, .tok t xs)
  | _, o => o = []
structure ArgOk (w : World) (okS' : Nat → Nat → Prop) (okP' : Nat → Prop) (p : Nat) (a : Arg E) (v : Value) (es : List (Ent E)) : Prop where
  ent : ∃ sv, ent1 p a = some (sv, es.map Ent.row) ∧ ∀ A' ob', Sees A' ob' es → ∀ tmps, RepSV w okS' okP' ob' A' tmps sv v
  obs : ∀ A' ob', Sees A' ob' es → ∀ e ∈ es, RepOb w okS' okP' ob' A' e.m e.o
  lo : ∀ e ∈ es, nameP p ≤ e.m ∧ e.m < nameP (p + 1)
  dis : es.Pairwise fun a b => a.m ≠ b.m
def Src (s0 : St E) (A : Asg) (e : Ent E) : Prop :=
  match e.src with
  | none => e.B = none
  | some n => e.B = A.B n ∧ ∃ g o, lk s0.ob n = some (g, o) ∧ ((∃ t xs, o = .tok t xs) ∨ ∃ cs, o = .box cs)
theorem RepRef.sub {w : World} {A A' : Asg} {n j size len : Nat} {win : Option (Nat × Nat)} {v : Value} (h : RepRef w A n size len win v) (hB : A'.B j = A.B n) (hO : A'.O j = A.O n + winLo win * size) : RepRef w A' j size (winLen len win) none v := by
  unfold RepRef at h ⊢
  rw [hB]
  cases hb : A.B n with
  | none => simp only [hb] at h ⊢; exact ⟨h.1, by simpa [winLen] using h.2⟩
  | some b =>
    simp only [hb] at h ⊢
    obtain ⟨o, cap, cs, e, hv, hw, h1, h2, h3, h4⟩ := h
    exact ⟨o, cap, cs, e, by simpa [winLen] using hv, hw, by simp [winLo, winLen], by simpa [winLen] using h2, by rw [hO]; simpa [winLo] using h3, h4⟩
theorem RepD.up {w : World} {ok ok' : Nat → Nat → Prop} (h : ∀ b k, ok b k → ok' b k) {t : Ty} {x : den E.Γ t} {cs : List Value} (r : RepD E w ok t x cs) : RepD E w ok' t x cs :=
  r.mono h (Nat.le_refl _) fun _ _ _ => rfl
theorem RepRow.up {w : World} {ok ok' : Nat → Nat → Prop} (h : ∀ b k, ok b k → ok' b k) {t : Ty} {xs : List (den E.Γ t)} {off : Nat} {cs : Array Value} (r : RepRow E w ok t xs off cs) : RepRow E w ok' t xs off cs := by
  obtain ⟨f, h'⟩ := r
  exact ⟨f, fun i hi => ⟨(h' i hi).1, (h' i hi).2.1, (h' i hi).2.2.up h⟩⟩
theorem RepL.up {w : World} {ok ok' : Nat → Nat → Prop} (h : ∀ b k, ok b k → ok' b k) {c : CV E} {v : Value} (r : RepL E w ok c v) : RepL E w ok' c v := by
  cases c with
  | leaf t x => exact RepD.up h r
  | nilS => exact r
  | _ => trivial
theorem tok_sub {C : FC} {s0 : St E} {A : Asg} {ok0 : Nat → Nat → Prop} {tmps : Array Value} {w : World} (I0 : Inv C s0 A ok0 tmps w) {n g : Nat} {t : Ty} {xs : List (den E.Γ t)} {win : Option (Nat × Nat)} {v : Value}
    (ho : s0.obj n g = some (.tok t xs)) (hr : RepCV w ok0 C.okP s0.ob A (.ref n g win) v) {okS' : Nat → Nat → Prop} {okP' : Nat → Prop} (hS : ∀ b k, ok0 b k → okS' b k) {A' : Asg} {ob' : Obs E} {j : Nat}
    (hB : A'.B j = A.B n) (hO : A'.O j = A.O n + winLo win * nc E t) (hl' : lk ob' j = some (0, .tok t (winOf xs win))) :
    RepCV w okS' okP' ob' A' (.ref j 0 none) v ∧ RepOb w okS' okP' ob' A' j (.tok t (winOf xs win)) := by
  have hl := lk_of_obj (ob := s0.ob) ho
  have hrr := hr.2.1 t xs ho
  have hob := I0.obj n g _ hl
  constructor
  · refine ⟨⟨⟨0, _, hl', Nat.le_refl _⟩, hr.1.2⟩, fun t' xs' ho2 => ?_, fun t' xs' ho2 => ?_⟩
    · have h2 := lk_of_obj ho2
      rw [hl'] at h2; injection h2 with h2; injection h2 with _ h2; injection h2 with e1 e2; subst e1; cases e2
      have := hrr.sub hB hO
      unfold RepRef at hrr
      cases hb : A.B n with
      | none =>
        simp only [hb] at hrr
        unfold RepOb at hob
        simp only [hb] at hob
        subst hob
        have : winOf ([] : List (den E.Γ t)) win = [] := by cases win <;> simp [winOf]
        rw [this]
        unfold RepRef
        rw [hB, hb]
        exact ⟨hrr.1, by simp [winLen]⟩
      | some b =>
        simp only [hb] at hrr
        obtain ⟨o, cap, cs, e, _, _, hwin, _⟩ := hrr
        rw [winOf_length xs win hwin]; exact this
    · have h2 := lk_of_obj ho2
      rw [hl'] at h2; cases h2
  · unfold RepRef at hrr
    unfold RepOb at hob ⊢
    rw [hB, hO]
    cases hb : A.B n with
    | none => simp only [hb] at hob ⊢; subst hob; cases win <;> simp [winOf]
    | some b =>
      simp only [hb] at hob hrr ⊢
      obtain ⟨o, cap, cs, e, hv, hw, hwin, hcap, ho', hsp⟩ := hrr
      obtain ⟨cs', e', hw2, hrow⟩ := hob
      rw [hw] at hw2; injection hw2 with hw2; injection hw2 with e1 e2; subst e1; subst e2
      refine ⟨cs, e, hw, ?_⟩
      have hwd : winOf xs win = (xs.drop (winLo win)).take (winLen xs.length win) := by
        cases win with
        | none => simp [winOf, winLo, winLen]
        | some p => rfl
      have hrow2 : RowF E w ok0 t (winOf xs win) (fun k => cs[A.O n + winLo win * nc E t + k]?) := by
        rw [hwd]
        refine (hrow.toF.window (winLo win) (winLen xs.length win) hwin).congr fun k _ => ?_
        show cs[A.O n + winLo win * nc E t + k]? = cs[A.O n + (winLo win * nc E t + k)]?
        rw [Nat.add_assoc]
      exact hrow2.toRow.up hS
end Go.Proofs.AM

namespace Go.Proofs.AM
open Go Go.RowKit
variable {E : Env}
theorem mkL_unL : ∀ (ts : List Ty) (ds : List (Dt E)) (x : den E.Γ (tyL ts)), mkL E ts ds = some x → unL E ts x = ds
  | [], ds, x, h => by
    cases ds with
    | nil => rfl
    | cons _ _ => simp [mkL] at h
  | [a], ds, x, h => by
    match ds, h with
    | [⟨t, y⟩], h =>
      simp only [mkL] at h
      split at h
      · rename_i e; subst e; injection h with h; subst h; rfl
      · cases h
  | a :: b :: r, ds, x, h => by
    match ds, h with
    | ⟨t, y⟩ :: l, h =>
      simp only [mkL] at h
      split at h
      · rename_i e; subst e
        cases hm : mkL E (b :: r) l with
        | none => rw [hm] at h; cases h
        | some z =>
          rw [hm] at h; injection h with h; subst h
          simp only [unL, castD]
          rw [mkL_unL (b :: r) l z hm]
      · cases h
theorem nodup_cons {n : Nat} {l : List Nat} (h : nodup (n :: l) = true) : n ∉ l ∧ nodup l = true := by
  simp only [nodup, Bool.and_eq_true, Bool.not_eq_true', List.any_eq_false] at h
  refine ⟨fun hm => ?_, h.2⟩
  have := h.1 n hm
  simp at this
theorem RepCV.lookS {w : World} {okS : Nat → Nat → Prop} {okP : Nat → Prop} {s : St E} {A : Asg} {c : CV E} {v : Value} (hn : ∀ n g win t xs, c = .ref n g win → s.obj n g ≠ some (.tok t xs)) (h : RepCV w okS okP s.ob A c v) : RepL E w okS (s.look c) v := by
  cases c with
  | ref n g win =>
    simp only [St.look]
    split
    · rename_i t xs ho; exact absurd ho (hn n g win t xs rfl)
    · rename_i t xs ho; exact (h.2.2 t xs ho).1
    · trivial
  | leaf t x => exact h
  | nilS => exact h
  | _ => trivial
section
variable {C : FC} {s0 s : St E} {A : Asg} {ok0 : Nat → Nat → Prop} {tmps : Array Value} {w : World}
theorem Sees.tail {A' : Asg} {ob' : Obs E} {e : Ent E} {es : List (Ent E)} (h : Sees A' ob' (e :: es)) : Sees A' ob' es := fun x hx => h x (by simp [hx])
theorem Sees.head {A' : Asg} {ob' : Obs E} {e : Ent E} {es : List (Ent E)} (h : Sees A' ob' (e :: es)) : A'.B e.m = e.B ∧ A'.O e.m = e.O ∧ lk ob' e.m = some (0, e.o) := h e (by simp)
theorem cells_hand (I0 : Inv C s0 A ok0 tmps w) (L : Less s0 s) : ∀ (cs : List (Ty × Bool)) (vs : List (CV E)) (vals : List Value) (l : List (Nat × Nat)) (ds : List (Dt E)) (j : Nat),
    All2 (RepCV w ok0 C.okP s0.ob A) vs vals → ownNames cs vs = some l → l.all (fun p => isTok s p.1 p.2) = true → rwCells s cs vs = some ds →
    (∀ c ∈ immRefs cs vs, ∀ v, RepCV w ok0 C.okP s0.ob A c v → RepL E w ok0 (s0.look c) v) →
    ∃ (es : List (Ent E)) (cvs : List (CV E)), ownCells j cs ds = some (cvs, es.map Ent.row) ∧ cs.length = vs.length ∧ (∀ e ∈ es, j ≤ e.m ∧ e.m < j + cs.length) ∧ es.Pairwise (fun a b => a.m ≠ b.m) ∧
      (∀ e ∈ es, Src s0 A e ∧ ∀ n, e.src = some n → ∃ g t xs, (n, g) ∈ l ∧ s.obj n g = some (.tok t xs)) ∧
      (nodup (l.map (·.1)) = true → es.Pairwise fun a b => ∀ n, a.src = some n → b.src ≠ some n) ∧ (∀ n g, (n, g) ∈ l → ∃ e ∈ es, e.src = some n) ∧
      ∀ (okS' : Nat → Nat → Prop) (okP' : Nat → Prop) A' ob', (∀ b k, ok0 b k → okS' b k) → Sees A' ob' es → All2 (RepCV w okS' okP' ob' A') cvs vals ∧ ∀ e ∈ es, RepOb w okS' okP' ob' A' e.m e.o
  | [], vs, vals, l, ds, j, hr, hn, ht, hd, hi => by
    cases vs with
    | nil =>
      cases hr
      simp only [ownNames] at hn; injection hn with hn; subst hn
      simp only [rwCells] at hd; injection hd with hd; subst hd
      exact ⟨[], [], rfl, rfl, by simp, .nil, by simp, fun _ => .nil, by simp, fun _ _ _ _ _ _ => ⟨.nil, by simp⟩⟩
    | cons _ _ => simp [ownNames] at hn
  | (t, b) :: cs, vs, vals, l, ds, j, hr, hn, ht, hd, hi => by
    cases hr with
    | nil => cases b <;> simp [ownNames] at hn
    | cons hc hr =>
      rename_i c val vs vals
      simp only [rwCells] at hd
      cases hx : leafOf t (s.look c) with
      | none => rw [hx] at hd; cases hd
      | some x =>
        rw [hx] at hd
        simp only at hd
        cases hrd : rwCells s cs vs with
        | none => rw [hrd] at hd; cases hd
        | some ds2 =>
          rw [hrd] at hd; injection hd with hd; subst hd
          cases b with
          | false =>
            have hn2 : ownNames cs vs = some l := by simpa [ownNames] using hn
            obtain ⟨es, cvs, h1, h2, h3, h4, h5, h6, h8, h7⟩ := cells_hand I0 L cs vs vals l ds2 j hr hn2 ht hrd (fun c hc => hi c (by simp [immRefs, hc]))
            refine ⟨es, .leaf t x :: cvs, by simp [ownCells, h1], by simp [h2], fun e he => ⟨(h3 e he).1, by have := (h3 e he).2; simp; omega⟩, h4, h5, h6, h8, fun okS' okP' A' ob' hS hsee => ?_⟩
            obtain ⟨g1, g2⟩ := h7 okS' okP' A' ob' hS hsee
            refine ⟨.cons ?_ g1, g2⟩
            have hl : RepL E w ok0 (s0.look c) val := hi c (by simp [immRefs]) val hc
            have hl2 : RepL E w ok0 (s.look c) val := by
              rcases L.look c with e | e
              · rw [e]; exact hl
              · rw [e]; trivial
            exact (leafOf_rep hl2 hx).up hS
          | true =>
            have hsl : ∃ t2, t = .slice t2 := by
              cases t <;> first | exact ⟨_, rfl⟩ | (cases c <;> simp [ownNames] at hn)
            obtain ⟨tt, rfl⟩ := hsl
            have hcase : (∃ n g win, c = .ref n g win) ∨ c = .nilS := by
              cases c <;> first | exact .inl ⟨_, _, _, rfl⟩ | exact .inr rfl | simp [ownNames] at hn
            rcases hcase with ⟨n, g, win, rfl⟩ | rfl
            · simp only [ownNames] at hn
              cases hn2 : ownNames cs vs with
              | none => rw [hn2] at hn; cases hn
              | some l2 =>
                rw [hn2] at hn; injection hn with hn; subst hn
                simp only [List.all_cons, Bool.and_eq_true] at ht
                obtain ⟨htok, ht2⟩ := ht
                obtain ⟨es, cvs, h1, h2, h3, h4, h5, h6, h8, h7⟩ := cells_hand I0 L cs vs vals l2 ds2 (j + 1) hr hn2 ht2 hrd (fun c hc => hi c (by simpa [immRefs] using hc))
                simp only [isTok] at htok
                split at htok
                · rename_i t2 xs ho
                  simp only [St.look, ho, leafOf] at hx
                  split at hx
                  · rename_i htt
                    injection htt with htt; subst htt
                    injection hx with hx; subst hx
                    have ho0 := L.tok ho
                    have hl0 := lk_of_obj (ob := s0.ob) ho0
                    refine ⟨⟨j, .tok t2 (winOf xs win), A.B n, A.O n + winLo win * nc E t2, some n⟩ :: es, .ref j 0 none :: cvs, ?_, by simp [h2], ?_, ?_, ?_, ?_, ?_, ?_⟩
                    · simp only [castD, ownCells, h1]; rfl
                    · intro e he
                      rcases List.mem_cons.1 he with he | he
                      · subst he; simp
                      · have := h3 e he; simp; omega
                    · refine .cons (fun e he => ?_) h4
                      have := (h3 e he).1
                      simp; omega
                    · intro e he
                      rcases List.mem_cons.1 he with he | he
                      · subst he
                        refine ⟨⟨rfl, g, _, hl0, .inl ⟨_, _, rfl⟩⟩, fun n' hn' => ?_⟩
                        injection hn' with hn'; subst hn'
                        exact ⟨g, t2, xs, by simp, ho⟩
                      · refine ⟨(h5 e he).1, fun n' hn' => ?_⟩
                        obtain ⟨g', t', xs', a1, a2⟩ := (h5 e he).2 n' hn'
                        exact ⟨g', t', xs', by simp [a1], a2⟩
                    · intro hnd
                      obtain ⟨b1, b2⟩ := nodup_cons hnd
                      refine .cons (fun e he n' hn' hn2' => ?_) (h6 b2)
                      injection hn' with hn'; subst hn'
                      obtain ⟨g', t', xs', a1, a2⟩ := (h5 e he).2 _ hn2'
                      exact b1 (List.mem_map.2 ⟨_, a1, rfl⟩)
                    · intro n' g' hm
                      rcases List.mem_cons.1 hm with e | hm
                      · injection e with e1 e2; subst e1; exact ⟨_, List.mem_cons_self, rfl⟩
                      · obtain ⟨e, a1, a2⟩ := h8 n' g' hm
                        exact ⟨e, by simp [a1], a2⟩
                    · intro okS' okP' A' ob' hS hsee
                      obtain ⟨g1, g2⟩ := h7 okS' okP' A' ob' hS hsee.tail
                      obtain ⟨k1, k2, k3⟩ := hsee.head
                      obtain ⟨m1, m2⟩ := tok_sub I0 ho0 hc (okP' := okP') hS k1 k2 k3
                      refine ⟨.cons m1 g1, fun e he => ?_⟩
                      rcases List.mem_cons.1 he with he | he
                      · subst he; exact m2
                      · exact g2 e he
                  · simp [asSl] at hx
                · cases htok
            · simp only [ownNames] at hn
              obtain ⟨es, cvs, h1, h2, h3, h4, h5, h6, h8, h7⟩ := cells_hand I0 L cs vs vals l ds2 (j + 1) hr hn ht hrd (fun c hc => hi c (by simpa [immRefs] using hc))
              simp only [St.look, leafOf] at hx
              injection hx with hx; subst hx
              have hv : val = .slice none 0 0 := hc
              subst hv
              refine ⟨⟨j, .tok tt [], none, 0, none⟩ :: es, .ref j 0 none :: cvs, ?_, by simp [h2], ?_, ?_, ?_, ?_, ?_, ?_⟩
              · simp only [ownCells, h1]; rfl
              · intro e he
                rcases List.mem_cons.1 he with he | he
                · subst he; simp
                · have := h3 e he; simp; omega
              · refine .cons (fun e he => ?_) h4
                have := (h3 e he).1
                simp; omega
              · intro e he
                rcases List.mem_cons.1 he with he | he
                · subst he; exact ⟨rfl, fun n' hn' => by cases hn'⟩
                · exact h5 e he
              · intro hnd
                refine .cons (fun e he n' hn' => by cases hn') (h6 hnd)
              · intro n' g' hm
                obtain ⟨e, a1, a2⟩ := h8 n' g' hm
                exact ⟨e, by simp [a1], a2⟩
              · intro okS' okP' A' ob' hS hsee
                obtain ⟨g1, g2⟩ := h7 okS' okP' A' ob' hS hsee.tail
                obtain ⟨k1, k2, k3⟩ := hsee.head
                have hl : ∀ {o : Ob E}, objOf ob' j 0 = some o → o = .tok tt [] := fun h => by
                  have := lk_of_obj h
                  rw [k3] at this; injection this with this; injection this with _ this; exact this.symm
                refine ⟨.cons ⟨⟨⟨0, _, k3, Nat.le_refl _⟩, rfl⟩, fun t' xs' ho2 => ?_, fun t' xs' ho2 => ?_⟩ g1, fun e he => ?_⟩
                · have := hl ho2
                  injection this with e1 e2; subst e1; cases e2
                  unfold RepRef
                  rw [k1]
                  exact ⟨rfl, rfl⟩
                · have := hl ho2; cases this
                · rcases List.mem_cons.1 he with he | he
                  · subst he
                    unfold RepOb
                    rw [k1]
                  · exact g2 e he
end
end Go.Proofs.AM

namespace Go.Proofs.AM
open Go Go.RowKit
variable {E : Env}
theorem lk_kill (s : St E) (n g m : Nat) : lk (s.kill n g).ob m = if m = n then some (g, .gone) else lk s.ob m := St.lk_putOb _ _ _ _ _
theorem lk_killAll : ∀ (l : List (Nat × Nat)) (s : St E) (m : Nat), (∀ g, (m, g) ∉ l) → lk (killAll s l).ob m = lk s.ob m
  | [], s, m, _ => rfl
  | (n, g) :: r, s, m, h => by
    simp only [killAll]
    rw [lk_killAll r _ m fun g' hg => h g' (by simp [hg]), lk_kill, if_neg]
    intro e; subst e; exact h g (by simp)
theorem lk_killAll_mem : ∀ (l : List (Nat × Nat)) (s : St E) (m g : Nat), nodup (l.map (·.1)) = true → (m, g) ∈ l → lk (killAll s l).ob m = some (g, .gone)
  | [], s, m, g, _, h => by simp at h
  | (n, g') :: r, s, m, g, hn, h => by
    obtain ⟨h1, h2⟩ := nodup_cons hn
    simp only [killAll]
    rcases List.mem_cons.1 h with e | hm
    · injection e with e1 e2; subst e1; subst e2
      rw [lk_killAll r _ m fun g' hg => h1 (List.mem_map.2 ⟨_, hg, rfl⟩), lk_kill, if_pos rfl]
    · exact lk_killAll_mem r _ m g h2 hm
theorem killAll_sl : ∀ (l : List (Nat × Nat)) (s : St E), (killAll s l).sl = s.sl ∧ (killAll s l).n = s.n
  | [], _ => ⟨rfl, rfl⟩
  | (n, g) :: r, s => by simp only [killAll]; exact killAll_sl r _
section
variable {C : FC} {s0 s : St E} {A : Asg} {ok0 : Nat → Nat → Prop} {tmps : Array Value} {w : World}
structure Moved (s0 s s' : St E) (A : Asg) (es : List (Ent E)) : Prop where
  less : Less s0 s'
  mono : ∀ n, Taken s0 s n → Taken s0 s' n
  src : ∀ e ∈ es, Src s0 A e ∧ ∀ n, e.src = some n → ¬ Taken s0 s n ∧ Taken s0 s' n
  dis : es.Pairwise fun a b => ∀ n, a.src = some n → b.src ≠ some n
  back : ∀ n, Taken s0 s' n → Taken s0 s n ∨ ∃ e ∈ es, e.src = some n
theorem not_taken_tok {n g : Nat} {t : Ty} {xs : List (den E.Γ t)} (h : lk s.ob n = some (g, .tok t xs)) : ¬ Taken s0 s n := by
  rintro (⟨_, _, _, _, e⟩ | ⟨_, _, _, _, e⟩) <;> (rw [e] at h; cases h)
theorem Less.putGone (L : Less s0 s) {n g : Nat} {t : Ty} {xs : List (den E.Γ t)} (h : s.obj n g = some (.tok t xs)) : Less s0 (s.kill n g) ∧ Taken s0 (s.kill n g) n ∧ (∀ m, Taken s0 s m → Taken s0 (s.kill n g) m) ∧ (∀ m, Taken s0 (s.kill n g) m → Taken s0 s m ∨ m = n) := by
  have h0 := lk_of_obj (ob := s0.ob) (L.tok h)
  have hT : Taken s0 (s.kill n g) n := .inl ⟨g, t, xs, h0, by rw [lk_kill]; simp⟩
  have hne : ∀ m, m ≠ n → lk (s.kill n g).ob m = lk s.ob m := fun m hm => by rw [lk_kill, if_neg hm]
  have hmono : ∀ m, m ≠ n → Taken s0 s m → Taken s0 (s.kill n g) m := by
    intro m hm ht
    rcases ht with ⟨g', t', xs', a, b⟩ | ⟨g', cs, hc, a, b⟩
    · exact .inl ⟨g', t', xs', a, by rw [hne m hm]; exact b⟩
    · exact .inr ⟨g', cs, hc, a, by rw [hne m hm]; exact b⟩
  refine ⟨⟨L.n, L.sl, fun m => ?_⟩, hT, fun m hm => ?_, fun m hm => ?_⟩
  · by_cases e : m = n
    · subst e; exact .inr hT
    · rw [hne m e]; exact (L.ob m).imp id (hmono m e)
  · by_cases e : m = n
    · subst e; exact hT
    · exact hmono m e hm
  · by_cases e : m = n
    · exact .inr e
    · refine .inl ?_
      rcases hm with ⟨g', t', xs', a, b⟩ | ⟨g', cs, hc, a, b⟩
      · exact .inl ⟨g', t', xs', a, by rw [← hne m e]; exact b⟩
      · exact .inr ⟨g', cs, hc, a, by rw [← hne m e]; exact b⟩
theorem tok_arg (I0 : Inv C s0 A ok0 tmps w) (L : Less s0 s) {n g : Nat} {t : Ty} {xs : List (den E.Γ t)} {val : Value} (ho : s.obj n g = some (.tok t xs)) (hr : RepCV w ok0 C.okP s0.ob A (.ref n g none) val) (q : Nat) {arg : Arg E}
    (hq : ent1 q arg = some (.c (.ref (nameP q) 0 none), [(nameP q, 0, .tok t xs)])) {okS' : Nat → Nat → Prop} {okP' : Nat → Prop} (hS : ∀ b k, ok0 b k → okS' b k) :
    ArgOk w okS' okP' q arg val [⟨nameP q, .tok t xs, A.B n, A.O n, some n⟩] := by
  have h0 := L.tok ho
  have key : ∀ A' ob', Sees A' ob' [(⟨nameP q, .tok t xs, A.B n, A.O n, some n⟩ : Ent E)] → RepCV w okS' okP' ob' A' (.ref (nameP q) 0 none) val ∧ RepOb w okS' okP' ob' A' (nameP q) (.tok t xs) := by
    intro A' ob' hs
    obtain ⟨k1, k2, k3⟩ := hs.head
    exact tok_sub I0 h0 hr hS k1 (by rw [k2]; simp [winLo]) (by exact k3)
  refine ⟨⟨_, hq, fun A' ob' hs _ => (key A' ob' hs).1⟩, fun A' ob' hs e he => ?_, fun e he => ?_, by simp⟩
  · simp at he; subst he; exact (key A' ob' hs).2
  · simp at he; subst he; simp [nameP]
theorem nameP_room (q : Nat) : nameP q + 61 ≤ nameP (q + 1) := by simp [nameP]; omega
theorem rwCells_sz (hE : EnvOk E) (I0 : Inv C s0 A ok0 tmps w) (L : Less s0 s) : ∀ (cs : List (Ty × Bool)) (vs : List (CV E)) (vals : List Value) (ds : List (Dt E)), All2 (RepCV w ok0 C.okP s0.ob A) vs vals → rwCells s cs vs = some ds → szP E cs = vs.length
  | [], vs, vals, ds, _, h => by cases vs with
    | nil => rfl
    | cons _ _ => simp [rwCells] at h
  | (t, b) :: cs, vs, vals, ds, hr, h => by
    cases hr with
    | nil => simp [rwCells] at h
    | cons hc hr =>
      rename_i v val vs vals
      simp only [rwCells] at h
      cases hx : leafOf t (s.look v) with
      | none => rw [hx] at h; cases h
      | some x =>
        rw [hx] at h
        simp only at h
        cases hrr : rwCells s cs vs with
        | none => rw [hrr] at h; cases h
        | some ds2 =>
          have := rwCells_sz hE I0 L cs vs vals ds2 hr hrr
          have h1 : nc E t = 1 := by
            have hl := RepCV.look I0 hc
            have hl2 : RepL E w (okAll s0.ob A ok0) (s.look v) val := by
              rcases L.look v with e | e
              · rw [e]; exact hl
              · rw [e]; trivial
            have := (leafOf_rep hl2 hx).len hE
            simpa using this.symm
          simp [szP, this, h1]; omega
theorem hand_ok (hE : EnvOk E) (I0 : Inv C s0 A ok0 tmps w) (L : Less s0 s) {p : PM} {sv : SV E} {val : Value} {a : Option (Arg E)} {s' : St E} {o : List (Back E)} (h : hand s p sv = some (a, s', o)) (hr : RepSV w ok0 C.okP s0.ob A tmps sv val)
    (himm : ∀ cs n g xs, p = .rw cs → sv = .c (.ptr n g 0) → lk s0.ob n = some (g, .box xs) → ∀ c ∈ immRefs cs xs, ∀ v, RepCV w ok0 C.okP s0.ob A c v → RepL E w ok0 (s0.look c) v) (q : Nat) :
    (a = none ∧ s' = s ∧ o = []) ∨ ∃ arg es, a = some arg ∧ Moved s0 s s' A es ∧ (∀ okS' okP', (∀ b k, ok0 b k → okS' b k) → ArgOk w okS' okP' q arg val es) ∧ (∀ A' ob', Sees A' ob' es → OutRel A A' s0 q arg o) ∧
      (∀ e ∈ es, ∀ n g xs, e.src = some n → lk s0.ob n = some (g, .box xs) → ∃ cs, Back.box n g cs ∈ o) := by
  unfold hand at h
  split at h
  · injection h with h; injection h with h1 h2; injection h2 with h2 h3; exact .inl ⟨h1.symm, h2.symm, h3.symm⟩
  · injection h with h; injection h with h1 h2; injection h2 with h2 h3; exact .inl ⟨h1.symm, h2.symm, h3.symm⟩
  · injection h with h; injection h with h1 h2; injection h2 with h2 h3; exact .inl ⟨h1.symm, h2.symm, h3.symm⟩
  ·
    rename_i cs
    split at h
    · rename_i n g
      split at h
      · rename_i vs ho
        split at h
        · rename_i l hl
          split at h
          · rename_i hchk
            split at h
            · rename_i ds hds
              split at h
              · rename_i x hx
                injection h with h; injection h with h1 h2; injection h2 with h2 h3
                subst h1; subst h2; subst h3
                simp only [Bool.and_eq_true] at hchk
                obtain ⟨hnd, hall, hlen1, hlen2⟩ := hchk
                have hlen1 := Nat.le_of_ble_eq_true hlen1
                have hlen2 := Nat.le_of_ble_eq_true hlen2
                have hb0 : lk s0.ob n = some (g, .box vs) := by
                  rcases L.box ho with e | ⟨hne, hd⟩
                  · exact e
                  · cases vs with
                    | nil => exact absurd rfl hne
                    | cons c r =>
                      have hc := hd c (by simp)
                      subst hc
                      cases cs with
                      | nil => simp [rwCells] at hds
                      | cons p cs =>
                        obtain ⟨t, b⟩ := p
                        simp [rwCells, St.look, leafOf_dead] at hds
                obtain ⟨b, vals, e, hB, hw, hrr⟩ := I0.obj n g _ hb0
                obtain ⟨es, cvs, k1, k2, k3, k4, k5, k6, k8, k7⟩ := cells_hand I0 L cs vs vals l ds (nameP q + 1) hrr hl hall hds (himm cs n g vs rfl rfl hb0)
                have hsz := rwCells_sz hE I0 L cs vs vals ds hrr hds
                have hul := mkL_unL _ _ _ hx
                have hbs : lk s.ob n = some (g, .box vs) := lk_of_obj (ob := s.ob) ho
                have hnl : ∀ g', (n, g') ∉ l := by
                  intro g' hm
                  have := List.all_eq_true.1 hall _ hm
                  simp only [isTok] at this
                  split at this
                  · rename_i t xs ho2
                    have := lk_of_obj (ob := s.ob) ho2
                    rw [hbs] at this; cases this
                  · cases this
                have hlk : ∀ m, lk ((killAll s l).putOb n g (.box (vs.map fun _ => .dead))).ob m = if m = n then some (g, .box (vs.map fun _ => .dead)) else lk (killAll s l).ob m := fun m => St.lk_putOb _ _ _ _ _
                have hTn : Taken s0 ((killAll s l).putOb n g (.box (vs.map fun _ => .dead))) n := .inr ⟨g, vs, fun e => by subst e; simp at hlen1, hb0, by rw [hlk]; simp⟩
                have hmem : ∀ m g', (m, g') ∈ l → ∃ t xs, s.obj m g' = some (.tok t xs) ∧ lk s0.ob m = some (g', .tok t xs) ∧ lk ((killAll s l).putOb n g (.box (vs.map fun _ => .dead))).ob m = some (g', .gone) := by
                  intro m g' hm
                  have := List.all_eq_true.1 hall _ hm
                  simp only [isTok] at this
                  split at this
                  · rename_i t xs ho2
                    refine ⟨t, xs, ho2, lk_of_obj (ob := s0.ob) (L.tok ho2), ?_⟩
                    rw [hlk, if_neg (fun e => by subst e; exact hnl g' hm)]
                    exact lk_killAll_mem l s m g' hnd hm
                  · cases this
                have hout : ∀ m, m ≠ n → (∀ g', (m, g') ∉ l) → lk ((killAll s l).putOb n g (.box (vs.map fun _ => .dead))).ob m = lk s.ob m := by
                  intro m h1 h2
                  rw [hlk, if_neg h1, lk_killAll l s m h2]
                have hmono : ∀ m, Taken s0 s m → Taken s0 ((killAll s l).putOb n g (.box (vs.map fun _ => .dead))) m := by
                  intro m ht
                  by_cases e : m = n
                  · subst e; exact hTn
                  · by_cases hin : ∃ g', (m, g') ∈ l
                    · obtain ⟨g', hin⟩ := hin
                      obtain ⟨t, xs, _, a2, a3⟩ := hmem m g' hin
                      exact .inl ⟨g', t, xs, a2, a3⟩
                    · have hin : ∀ g', (m, g') ∉ l := fun g' h => hin ⟨g', h⟩
                      rcases ht with ⟨g', t', xs', a, b⟩ | ⟨g', cs, hc, a, b⟩
                      · exact .inl ⟨g', t', xs', a, by rw [hout m e hin]; exact b⟩
                      · exact .inr ⟨g', cs, hc, a, by rw [hout m e hin]; exact b⟩
                have hL' : Less s0 ((killAll s l).putOb n g (.box (vs.map fun _ => .dead))) := by
                  refine ⟨(killAll_sl l s).2.trans L.n, (killAll_sl l s).1.trans L.sl, fun m => ?_⟩
                  by_cases e : m = n
                  · subst e; exact .inr hTn
                  · by_cases hin : ∃ g', (m, g') ∈ l
                    · obtain ⟨g', hin⟩ := hin
                      obtain ⟨t, xs, _, a2, a3⟩ := hmem m g' hin
                      exact .inr (.inl ⟨g', t, xs, a2, a3⟩)
                    · have hin : ∀ g', (m, g') ∉ l := fun g' h => hin ⟨g', h⟩
                      rw [hout m e hin]
                      exact (L.ob m).imp id (hmono m)
                right
                refine ⟨_, ⟨nameP q, .box cvs, A.B n, 0, some n⟩ :: es, rfl, ⟨hL', hmono, ?_, ?_, ?_⟩, fun okS' okP' hS => ⟨⟨.c (.ptr (nameP q) 0 0), ?_, ?_⟩, ?_, ?_, ?_⟩, fun A' ob' hs => ⟨n, g, vs, rfl, hs.head.1, hb0, hsz.symm⟩, ?_⟩
                · intro e he
                  rcases List.mem_cons.1 he with he | he
                  · subst he
                    refine ⟨⟨rfl, g, _, hb0, .inr ⟨_, rfl⟩⟩, fun m hm => ?_⟩
                    injection hm with hm; subst hm
                    refine ⟨?_, hTn⟩
                    rintro (⟨_, _, _, a, _⟩ | ⟨g', cs', hc, a, b⟩)
                    · rw [hb0] at a; cases a
                    · rw [hb0] at a; injection a with a; injection a with a1 a2; injection a2 with a2; subst a2
                      rw [hbs] at b; injection b with b; injection b with b1 b2; injection b2 with b2
                      cases vs with
                      | nil => exact hc rfl
                      | cons c r =>
                        simp only [List.map_cons, List.cons.injEq] at b2
                        have hc := b2.1
                        subst hc
                        cases cs with
                        | nil => simp [rwCells] at hds
                        | cons p cs =>
                          obtain ⟨t, b⟩ := p
                          simp [rwCells, St.look, leafOf_dead] at hds
                  · refine ⟨(k5 e he).1, fun m hm => ?_⟩
                    obtain ⟨g', t, xs, a1, a2⟩ := (k5 e he).2 m hm
                    refine ⟨not_taken_tok (lk_of_obj (ob := s.ob) a2), ?_⟩
                    obtain ⟨t, xs, _, a3, a4⟩ := hmem m g' a1
                    exact .inl ⟨g', t, xs, a3, a4⟩
                · refine .cons (fun e he m hm hm2 => ?_) (k6 hnd)
                  injection hm with hm; subst hm
                  obtain ⟨g', t, xs, a1, a2⟩ := (k5 e he).2 _ hm2
                  exact hnl g' a1
                · intro m hm
                  by_cases e : m = n
                  · subst e; exact .inr ⟨_, List.mem_cons_self, rfl⟩
                  · by_cases hin : ∃ g', (m, g') ∈ l
                    · refine .inr ?_
                      obtain ⟨g', hin⟩ := hin
                      obtain ⟨e, a1, a2⟩ := k8 m g' hin
                      exact ⟨e, by simp [a1], a2⟩
                    · have hin : ∀ g', (m, g') ∉ l := fun g' h => hin ⟨g', h⟩
                      refine .inl ?_
                      rcases hm with ⟨g', t', xs', a, b⟩ | ⟨g', cs, hc, a, b⟩
                      · exact .inl ⟨g', t', xs', a, by rw [← hout m e hin]; exact b⟩
                      · exact .inr ⟨g', cs, hc, a, by rw [← hout m e hin]; exact b⟩
                · simp only [ent1]
                  rw [hul, k1]; rfl
                · intro A' ob' hs tm
                  obtain ⟨j1, j2, j3⟩ := hs.head
                  refine ⟨⟨0, _, j3, Nat.le_refl _⟩, hr.2.1, fun cs' hcs' => ?_⟩
                  obtain ⟨b', hb1, hb2⟩ := hr.2.2 vs (obj_of_lk hb0)
                  exact ⟨b', by rw [j1]; exact hb1, hb2⟩
                · intro A' ob' hs e he
                  obtain ⟨g1, g2⟩ := k7 okS' okP' A' ob' hS hs.tail
                  rcases List.mem_cons.1 he with he | he
                  · subst he
                    exact ⟨b, vals, e, by rw [hs.head.1]; exact hB, hw, g1⟩
                  · exact g2 e he
                · have hroom := nameP_room q
                  intro e he
                  rcases List.mem_cons.1 he with he | he
                  · subst he; simp; omega
                  · have := k3 e he
                    rw [k2] at this
                    omega
                · refine .cons (fun e he => ?_) k4
                  have := (k3 e he).1
                  simp; omega
                · intro e he n' g' xs' hs' hl'
                  rcases List.mem_cons.1 he with he | he
                  · subst he
                    injection hs' with hs'; subst hs'
                    rw [hb0] at hl'; injection hl' with hl'; injection hl' with e1 _; subst e1
                    exact ⟨cs, by simp⟩
                  · obtain ⟨g2, t, xs, a1, a2⟩ := (k5 e he).2 n' hs'
                    obtain ⟨_, _, _, a3, _⟩ := hmem n' g2 a1
                    rw [a3] at hl'; cases hl'
              · cases h
            · cases h
          · cases h
        · cases h
      · cases h
    · cases h
  ·
    rename_i t
    split at h
    · rename_i n g
      split at h
      · rename_i t' xs ho
        split at h
        · rename_i htt; subst htt
          injection h with h; injection h with h1 h2; injection h2 with h2 h3
          subst h1; subst h2; subst h3
          obtain ⟨a1, a2, a3, a4⟩ := L.putGone ho
          have h0 := lk_of_obj (ob := s0.ob) (L.tok ho)
          right
          refine ⟨_, [⟨nameP q, .tok t' xs, A.B n, A.O n, some n⟩], rfl, ⟨a1, a3, ?_, by simp, fun m hm => ?_⟩, fun okS' okP' hS => tok_arg I0 L ho hr q rfl hS, fun A' ob' hs => ⟨n, g, rfl, hs.head.1, hs.head.2.1, h0⟩, fun e he n' g' xs' hs' hl' => by
            simp at he; subst he
            injection hs' with hs'; subst hs'
            rw [h0] at hl'; cases hl'⟩
          · intro e he
            simp at he; subst he
            refine ⟨⟨rfl, g, _, h0, .inl ⟨_, _, rfl⟩⟩, fun m hm => ?_⟩
            injection hm with hm; subst hm
            exact ⟨not_taken_tok (lk_of_obj (ob := s.ob) ho), a2⟩
          · rcases a4 m hm with e | e
            · exact .inl e
            · subst e; exact .inr ⟨_, List.mem_cons_self, rfl⟩
        · cases h
      · cases h
    · cases h
  ·
    rename_i t
    split at h
    · rename_i n g
      split at h
      · rename_i t' xs ho
        split at h
        · rename_i htt; subst htt
          injection h with h; injection h with h1 h2; injection h2 with h2 h3
          subst h1; subst h2; subst h3
          obtain ⟨a1, a2, a3, a4⟩ := L.putGone ho
          have h0 := lk_of_obj (ob := s0.ob) (L.tok ho)
          right
          refine ⟨_, [⟨nameP q, .tok t' xs, A.B n, A.O n, some n⟩], rfl, ⟨a1, a3, ?_, by simp, fun m hm => ?_⟩, fun okS' okP' hS => tok_arg I0 L ho hr q rfl hS, fun A' ob' hs => rfl, fun e he n' g' xs' hs' hl' => by
            simp at he; subst he
            injection hs' with hs'; subst hs'
            rw [h0] at hl'; cases hl'⟩
          · intro e he
            simp at he; subst he
            refine ⟨⟨rfl, g, _, h0, .inl ⟨_, _, rfl⟩⟩, fun m hm => ?_⟩
            injection hm with hm; subst hm
            exact ⟨not_taken_tok (lk_of_obj (ob := s.ob) ho), a2⟩
          · rcases a4 m hm with e | e
            · exact .inl e
            · subst e; exact .inr ⟨_, List.mem_cons_self, rfl⟩
        · cases h
      · cases h
    · injection h with h; injection h with h1 h2; injection h2 with h2 h3
      subst h1; subst h2; subst h3
      have hv : val = .slice none 0 0 := hr
      subst hv
      right
      refine ⟨_, [⟨nameP q, .tok t [], none, 0, none⟩], rfl, ⟨L, fun _ h => h, ?_, by simp, fun m hm => .inl hm⟩, fun okS' okP' hS => ⟨⟨_, rfl, fun A' ob' hs tm => ?_⟩, fun A' ob' hs e he => ?_, fun e he => ?_, by simp⟩, fun A' ob' hs => rfl, fun e he n' g' xs' hs' hl' => by
        simp at he; subst he
        cases hs'⟩
      · intro e he
        simp at he; subst he
        exact ⟨rfl, fun m hm => by cases hm⟩
      · obtain ⟨k1, k2, k3⟩ := hs.head
        have hl : ∀ {o : Ob E}, objOf ob' (nameP q) 0 = some o → o = .tok t [] := fun h => by
          have := lk_of_obj h
          rw [k3] at this; injection this with this; injection this with _ this; exact this.symm
        refine ⟨⟨⟨0, _, k3, Nat.le_refl _⟩, rfl⟩, fun t' xs' ho2 => ?_, fun t' xs' ho2 => ?_⟩
        · have := hl ho2
          injection this with e1 e2; subst e1; cases e2
          unfold RepRef
          rw [k1]
          exact ⟨rfl, rfl⟩
        · have := hl ho2; cases this
      · simp at he; subst he
        unfold RepOb
        rw [hs.head.1]
      · simp at he; subst he; simp [nameP]
    · cases h
end
end Go.Proofs.AM

namespace Go.Proofs.AM
open Go Go.RowKit
variable {E : Env}
section
variable {C : FC} {s0 s : St E} {A : Asg} {ok0 : Nat → Nat → Prop} {tmps : Array Value} {w : World}
theorem Moved.trans {s1 s2 : St E} {es1 es2 : List (Ent E)} (h : Moved s0 s s1 A es1) (k : Moved s0 s1 s2 A es2) : Moved s0 s s2 A (es1 ++ es2) where
  less := k.less
  mono := fun n hn => k.mono n (h.mono n hn)
  src := fun e he => by
    rcases List.mem_append.1 he with he | he
    · exact ⟨(h.src e he).1, fun n hn => ⟨((h.src e he).2 n hn).1, k.mono n ((h.src e he).2 n hn).2⟩⟩
    · exact ⟨(k.src e he).1, fun n hn => ⟨fun ht => ((k.src e he).2 n hn).1 (h.mono n ht), ((k.src e he).2 n hn).2⟩⟩
  dis := List.pairwise_append.2 ⟨h.dis, k.dis, fun a ha b hb n h1 h2 => ((k.src b hb).2 n h2).1 ((h.src a ha).2 n h1).2⟩
  back := fun n hn => by
    rcases k.back n hn with h1 | ⟨e, he, h1⟩
    · rcases h.back n h1 with h2 | ⟨e, he, h2⟩
      · exact .inl h2
      · exact .inr ⟨e, by simp [he], h2⟩
    · exact .inr ⟨e, by simp [he], h1⟩
theorem Moved.refl (L : Less s0 s) : Moved s0 s s A [] := ⟨L, fun _ h => h, by simp, .nil, fun _ h => .inl h⟩
inductive HandsOk (s0 : St E) (A : Asg) (w : World) (ok0 : Nat → Nat → Prop) : Nat → List (Option (Arg E)) → List Value → List (List (Ent E)) → List (Back E) → Prop where
  | nil (q : Nat) : HandsOk s0 A w ok0 q [] [] [] []
  | none {q v hs vals ess outs} : HandsOk s0 A w ok0 (q + 1) hs vals ess outs → HandsOk s0 A w ok0 q (none :: hs) (v :: vals) ([] :: ess) outs
  | some {q arg es v o hs vals ess outs} : (∀ okS' okP', (∀ b k, ok0 b k → okS' b k) → ArgOk w okS' okP' q arg v es) → (∀ A' ob', Sees A' ob' es → OutRel A A' s0 q arg o) →
      (∀ e ∈ es, ∀ n g xs, e.src = some n → lk s0.ob n = some (g, .box xs) → ∃ cs, Back.box n g cs ∈ o) → HandsOk s0 A w ok0 (q + 1) hs vals ess outs →
      HandsOk s0 A w ok0 q (some arg :: hs) (v :: vals) (es :: ess) (o ++ outs)
def ImmOk (C : FC) (s0 : St E) (A : Asg) (ok0 : Nat → Nat → Prop) (w : World) (ps : List PM) (svs : List (SV E)) : Prop :=
  ∀ p sv, (p, sv) ∈ ps.zip svs → ∀ cs n g xs, p = .rw cs → sv = .c (.ptr n g 0) → lk s0.ob n = some (g, .box xs) → ∀ c ∈ immRefs cs xs, ∀ v, RepCV w ok0 C.okP s0.ob A c v → RepL E w ok0 (s0.look c) v
theorem hands_ok (hE : EnvOk E) (I0 : Inv C s0 A ok0 tmps w) : ∀ (ps : List PM) (svs : List (SV E)) (vals : List Value) (s : St E) (hs : List (Option (Arg E))) (sK : St E) (outs : List (Back E)) (q : Nat),
    Less s0 s → hands s ps svs = some (hs, sK, outs) → All2 (RepSV w ok0 C.okP s0.ob A tmps) svs vals → ImmOk C s0 A ok0 w ps svs →
    ∃ ess, HandsOk s0 A w ok0 q hs vals ess outs ∧ Moved s0 s sK A ess.flatten
  | [], svs, vals, s, hs, sK, outs, q, L, h, hr, hi => by
    cases svs with
    | nil =>
      cases hr
      simp only [hands] at h
      injection h with h; injection h with h1 h2; injection h2 with h2 h3; subst h1; subst h2; subst h3
      exact ⟨[], .nil q, Moved.refl L⟩
    | cons _ _ => simp [hands] at h
  | p :: ps, svs, vals, s, hs, sK, outs, q, L, h, hr, hi => by
    cases hr with
    | nil => simp [hands] at h
    | cons hv hr =>
      rename_i sv val svs vals
      simp only [hands] at h
      split at h
      · rename_i a s' o hh
        split at h
        · rename_i as s2 o2 hhs
          injection h with h; injection h with h1 h2; injection h2 with h2 h3; subst h1; subst h2; subst h3
          rcases hand_ok hE I0 L hh hv (hi p sv (by simp)) q with ⟨e1, e2, e3⟩ | ⟨arg, es, e1, hM, hA, hO, hX⟩
          · subst e1; subst e2; subst e3
            obtain ⟨ess, g1, g2⟩ := hands_ok hE I0 ps svs vals s' as s2 o2 (q + 1) L hhs hr (fun p sv hm => hi p sv (by simp [hm]))
            exact ⟨[] :: ess, .none g1, by simpa using g2⟩
          · subst e1
            obtain ⟨ess, g1, g2⟩ := hands_ok hE I0 ps svs vals s' as s2 o2 (q + 1) hM.less hhs hr (fun p sv hm => hi p sv (by simp [hm]))
            exact ⟨es :: ess, .some hA hO hX g1, by simpa using hM.trans g2⟩
        · cases h
      · cases h
structure OkR (C : FC) (s0 sK : St E) (A : Asg) (ok0 : Nat → Nat → Prop) (frz : Bool) (okS' : Nat → Nat → Prop) (okP' : Nat → Prop) : Prop where
  S : ∀ b k, ok0 b k → okS' b k
  all : frz = false → ∀ b k, okAll sK.ob A ok0 b k → okS' b k
  P : ∀ b, C.okP b → okP' b
  B : ∀ n g cs b, lk s0.ob n = some (g, .box cs) → ¬ Taken s0 sK n → A.B n = some b → okP' b
variable {sK : St E} {frz : Bool} {okS' : Nat → Nat → Prop} {okP' : Nat → Prop}
theorem lookK (I0 : Inv C s0 A ok0 tmps w) (L : Less s0 sK) (O : OkR C s0 sK A ok0 frz okS' okP') {c : CV E} {v : Value} (h : RepCV w ok0 C.okP s0.ob A c v) (hf : frz = true → ∀ n g win, c = .ref n g win → isTok sK n g = false) : RepL E w okS' (sK.look c) v := by
  cases c with
  | ref n g win =>
    simp only [St.look]
    split
    · rename_i t xs ho
      cases frz with
      | true =>
        have := hf rfl n g win rfl
        simp [isTok, ho] at this
      | false =>
        have h0 := L.tok ho
        have hl := lk_of_obj (ob := s0.ob) h0
        have hk := lk_of_obj (ob := sK.ob) ho
        exact ((h.2.1 t xs h0).data (I0.obj n g _ hl) (fun b k hb => .inl hb) (fun b hb k _ _ => .inr ⟨n, g, t, xs, hk, hb⟩) : RepD E w (okAll sK.ob A ok0) _ _ _).up (O.all rfl)
    · rename_i t xs ho
      have h0 := L.frz ho
      exact ((h.2.2 t xs h0).1).up O.S
    · trivial
  | leaf t x => exact RepD.up O.S h
  | nilS => exact h
  | _ => trivial
theorem RepP.up {w : World} {ok ok' : Nat → Nat → Prop} {okP okP' : Nat → Prop} (h : ∀ b k, ok b k → ok' b k) (hP : ∀ b, okP b → okP' b) {t : Ty} {x : den E.Γ t} {off : Nat} {v : Value} (r : RepP E w ok okP t x off v) : RepP E w ok' okP' t x off v := by
  obtain ⟨b, o, cs, h1, h2, h3, h4, h5, h6⟩ := r
  exact ⟨b, o, cs, h1, h2.imp (fun g j hj => h _ _ (g j hj)) (hP b), h3, h4, h5, h6.up h⟩
theorem anyTok_ref {cs : List (CV E)} (h : anyTok s cs = false) {n g : Nat} {win : Option (Nat × Nat)} (hm : CV.ref n g win ∈ cs) : isTok s n g = false := by
  simp only [anyTok, List.any_eq_false] at h
  have := h _ hm
  simpa using this
theorem box_RepP (hE : EnvOk E) (I0 : Inv C s0 A ok0 tmps w) (L : Less s0 sK) (O : OkR C s0 sK A ok0 frz okS' okP') {n g : Nat} {cs : List (CV E)} (ho : sK.obj n g = some (.box cs)) {t : Ty} {x : den E.Γ t} (hp : pack E t (cs.map sK.look) = some x)
    (hf : frz = true → anyTok sK cs = false) {v : Value} (hv : ∀ cs, objOf s0.ob n g = some (.box cs) → ∃ b, A.B n = some b ∧ v = .pointer (some ⟨b, 0, none⟩)) : RepP E w okS' okP' t x 0 v := by
  have h0 := L.box_pack ho hp
  obtain ⟨b, vals, e, hB, hw, hr⟩ := I0.obj n g _ h0
  obtain ⟨b', hB', hv⟩ := hv cs (obj_of_lk h0)
  rw [hB] at hB'; injection hB' with hB'; subst hB'
  have hall : All2 (RepL E w okS') (cs.map sK.look) vals := by
    refine All2.map_left _ (hr.imp_mem fun c v hm h => lookK I0 L O h fun hfr n' g' win hc => ?_)
    subst hc
    exact anyTok_ref (hf hfr) hm
  have hd := pack_rep t hall hp
  have hnt : ¬ Taken s0 sK n := by
    have hk := lk_of_obj (ob := sK.ob) ho
    rintro (⟨_, _, _, _, b⟩ | ⟨g', cs', hne, a, b⟩)
    · rw [hk] at b; cases b
    · rw [h0] at a; injection a with a; injection a with _ a; injection a with a; subst a
      rw [hk] at b; injection b with b; injection b with _ b; injection b with b
      have hdat := pack_dat _ _ _ hp
      cases cs with
      | nil => exact hne rfl
      | cons c r =>
        simp only [List.map_cons, List.cons.injEq] at b
        have hc := b.1
        subst hc
        simp [St.look, isDat] at hdat
  refine ⟨b, 0, vals, hv, .inr (O.B n g cs b h0 hnt hB), heap_lt hw, hd.len hE, fun j hj => ?_, hd⟩
  rw [cell?_of_heap hw]; simp
theorem capsOf_ok (hE : EnvOk E) (I0 : Inv C s0 A ok0 tmps w) (L : Less s0 sK) (O : OkR C s0 sK A ok0 frz okS' okP') : ∀ (caps : List (Cap E)) (ps : List PM) (l : List (Dt E)) (vs : List Value),
    capsOf sK ps caps = some l → All2 (RepCap w ok0 C.okP s0.ob A) caps vs → (frz = true → capRefs sK caps = false) → All2 (fun (d : Dt E) v => RepP E w okS' okP' d.1 d.2 0 v) l vs
  | [], ps, l, vs, h, hr, hf => by
    cases hr
    have : l = [] := by cases ps <;> (simp only [capsOf] at h; injection h with h; exact h.symm)
    subst this; exact .nil
  | c :: r, ps, l, vs, h, hr, hf => by
    cases hr with
    | cons hc hr =>
      rename_i v vs
      have hf2 : frz = true → capRefs sK r = false := fun e => by
        have := hf e
        simp only [capRefs, List.any_cons, Bool.or_eq_false_iff] at this
        exact this.2
      cases c with
      | ro t x =>
        have h1 : ∃ ps', capsOf sK ps (.ro t x :: r) = (capsOf sK ps' r).map (fun l => ⟨t, x⟩ :: l) ∨ capsOf sK ps (.ro t x :: r) = none := by
          cases ps with
          | nil => exact ⟨[], .inl rfl⟩
          | cons p ps => cases p <;> first | exact ⟨ps, .inl rfl⟩ | exact ⟨ps, .inr rfl⟩
        obtain ⟨ps', h1 | h1⟩ := h1
        · rw [h1] at h
          cases hcr : capsOf sK ps' r with
          | none => rw [hcr] at h; cases h
          | some l2 =>
            rw [hcr] at h; injection h with h; subst h
            exact .cons (RepP.up O.S O.P hc) (capsOf_ok hE I0 L O r ps' l2 vs hcr hr hf2)
        · rw [h1] at h; cases h
      | box n g =>
        cases ps with
        | nil => simp [capsOf] at h
        | cons p ps =>
          cases p with
          | ro t =>
            simp only [capsOf] at h
            split at h
            · rename_i cs ho
              split at h
              · rename_i x hx
                cases hcr : capsOf sK ps r with
                | none => rw [hcr] at h; cases h
                | some l2 =>
                  rw [hcr] at h; injection h with h; subst h
                  refine .cons (box_RepP hE I0 L O ho hx (fun e => ?_) hc.2) (capsOf_ok hE I0 L O r ps l2 vs hcr hr hf2)
                  have := hf e
                  simp only [capRefs, List.any_cons, Bool.or_eq_false_iff, ho] at this
                  exact this.1
              · cases h
            · cases h
          | _ => simp [capsOf] at h
theorem fnArg_ok (hE : EnvOk E) (I0 : Inv C s0 A ok0 tmps w) (L : Less s0 sK) (O : OkR C s0 sK A ok0 frz okS' okP') {M : Mach E} {f : FuncId} {caps : List (Cap E)} {l : List (Dt E)} {vs : List Value}
    (h : fnArg M sK f caps = some l) (hr : All2 (RepCap w ok0 C.okP s0.ob A) caps vs) (hf : frz = true → capRefs sK caps = false) : All2 (fun (d : Dt E) v => RepP E w okS' okP' d.1 d.2 0 v) l vs := by
  unfold fnArg at h
  split at h
  · injection h with h; subst h; cases hr; exact .nil
  · split at h
    · exact capsOf_ok hE I0 L O _ _ _ _ h hr hf
    · exact capsOf_ok hE I0 L O _ _ _ _ h hr hf
theorem svOf_rep (hE : EnvOk E) {okS' : Nat → Nat → Prop} {okP' : Nat → Prop} {ob' : Obs E} {A' : Asg} {tm : Array Value} {t : Ty} {x : den E.Γ t} {v : Value} (h : RepD E w okS' t x v.cells.toList)
    (hs : (∃ vs : List Value, v = .agg vs.toArray ∧ vs.length ≠ 1) ∨ v.oneCell' = true) : RepSV w okS' okP' ob' A' tm (svOf t x) v := by
  have hx := exp_rep hE (okP := okP') (ob := ob') (A := A') h
  unfold svOf
  split
  · rename_i c he
    rw [he] at hx
    rcases hs with ⟨vs, hv, hl⟩ | hs
    · subst hv
      have := hx.length
      simp [Value.cells] at this
      omega
    · rw [cells_one hs] at hx
      cases hx with
      | cons h _ => exact h
  · rename_i hne
    rcases hs with ⟨vs, hv, hl⟩ | hs
    · subst hv
      exact ⟨vs, rfl, by simpa [Value.cells] using hx⟩
    · rw [cells_one hs] at hx
      cases he : exp E t x with
      | nil => rw [he] at hx; cases hx
      | cons c r =>
        rw [he] at hx
        cases hx with
        | cons h1 h2 => cases h2; exact absurd he (hne c)
theorem read_ok (hE : EnvOk E) (I0 : Inv C s0 A ok0 tmps w) (L : Less s0 sK) (O : OkR C s0 sK A ok0 frz okS' okP') {M : Mach E} {p : PM} {sv : SV E} {v : Value} {a : Arg E} (h : readArg frz M sK p sv = some a)
    (hr : RepSV w ok0 C.okP s0.ob A tmps sv v) (hf : frz = true → ∀ t cs, p = .val t → svCells sv = some cs → ∀ n g win, CV.ref n g win ∈ cs → isTok sK n g = false) (q : Nat) :
    ArgOk w okS' okP' q a v [] ∧ ∀ A', OutRel A A' s0 q a [] := by
  have fin : ∀ sv', ent1 q a = some (sv', []) → (∀ A' ob' tm, RepSV w okS' okP' ob' A' tm sv' v) → ArgOk w okS' okP' q a v [] := fun sv' h1 h2 => ⟨⟨sv', h1, fun A' ob' _ tm => h2 A' ob' tm⟩, by simp, by simp, .nil⟩
  unfold readArg at h
  split at h
  ·
    rename_i t
    split at h
    · cases h
    · rename_i hone
      split at h
      · rename_i cs hc
        split at h
        · rename_i x hx
          injection h with h; subst h
          refine ⟨fin _ rfl fun A' ob' tm => ?_, fun _ => rfl⟩
          have hall := svCells_rep hr hc
          have hl : All2 (RepL E w okS') (cs.map sK.look) v.cells.toList := All2.map_left _ (hall.imp_mem fun c u hm h => lookK I0 L O h fun hfr n g win e => hf hfr t cs rfl hc n g win (e ▸ hm))
          refine svOf_rep hE (pack_rep t hl hx) ?_
          cases sv with
          | c k =>
            refine .inr (RepCV.one hr fun e => ?_)
            subst e; simp [svCells] at hc
          | agg ks =>
            obtain ⟨vs, hv, hall2⟩ := hr
            refine .inl ⟨vs, hv, fun e => ?_⟩
            have := hall2.length
            rw [e] at this
            match ks, this with
            | [k], _ => simp [oneAgg] at hone
          | tup _ => simp [svCells] at hc
          | gl _ _ _ => simp [svCells] at hc
        · cases h
      · cases h
  ·
    split at h
    · rename_i f caps
      split at h
      · cases h
      · rename_i hchk
        split at h
        · rename_i l hl
          injection h with h; subst h
          simp only [Bool.or_eq_true, Bool.and_eq_true, Bool.not_eq_true', not_or, not_and, Bool.not_eq_true, Bool.not_eq_false] at hchk
          obtain ⟨vs, hv, hc⟩ := hr
          refine ⟨fin _ rfl fun A' ob' tm => ⟨vs, ⟨hv, hchk.2⟩, fnArg_ok hE I0 L O hl hc hchk.1⟩, fun _ => rfl⟩
        · cases h
    · rename_i f l
      injection h with h; subst h
      obtain ⟨vs, hv, hc⟩ := hr
      exact ⟨fin _ rfl fun A' ob' tm => ⟨vs, hv, hc.imp fun _ _ r => r.up O.S O.P⟩, fun _ => rfl⟩
    · cases h
  ·
    rename_i t
    split at h
    · rename_i n g
      split at h
      · rename_i cs ho
        split at h
        · cases h
        · rename_i hchk
          split at h
          · rename_i x hx
            injection h with h; subst h
            have hp := box_RepP hE I0 L O ho hx (fun e => by subst e; simpa using hchk) hr.2.2
            exact ⟨fin _ rfl fun A' ob' tm => hp, fun _ => rfl⟩
          · cases h
      · cases h
    · rename_i t' x
      split at h
      · rename_i htt; subst htt
        injection h with h; subst h
        exact ⟨fin _ rfl fun A' ob' tm => RepP.up O.S O.P hr, fun _ => rfl⟩
      · cases h
    · cases h
  · cases h
inductive ArgsOk (s0 : St E) (A : Asg) (w : World) (okS' : Nat → Nat → Prop) (okP' : Nat → Prop) : Nat → List (Arg E) → List Value → List (List (Ent E)) → List (Back E) → Prop where
  | nil (q : Nat) : ArgsOk s0 A w okS' okP' q [] [] [] []
  | cons {q a es v o as vals ess outs} : ArgOk w okS' okP' q a v es → (∀ A' ob', Sees A' ob' es → OutRel A A' s0 q a o) →
      (∀ e ∈ es, ∀ n g xs, e.src = some n → lk s0.ob n = some (g, .box xs) → ∃ cs, Back.box n g cs ∈ o) → ArgsOk s0 A w okS' okP' (q + 1) as vals ess outs → ArgsOk s0 A w okS' okP' q (a :: as) (v :: vals) (es :: ess) (o ++ outs)
theorem reads_ok (hE : EnvOk E) (I0 : Inv C s0 A ok0 tmps w) (L : Less s0 sK) (O : OkR C s0 sK A ok0 frz okS' okP') {M : Mach E} : ∀ (ps : List PM) (svs : List (SV E)) (hs : List (Option (Arg E))) (vals : List Value) (ess : List (List (Ent E))) (outs : List (Back E)) (as : List (Arg E)) (q : Nat),
    HandsOk s0 A w ok0 q hs vals ess outs → reads frz M sK ps svs hs = some as → All2 (RepSV w ok0 C.okP s0.ob A tmps) svs vals →
    (frz = true → ∀ t sv cs, (PM.val t, sv) ∈ ps.zip svs → svCells sv = some cs → ∀ n g win, CV.ref n g win ∈ cs → isTok sK n g = false) → ArgsOk s0 A w okS' okP' q as vals ess outs
  | ps, svs, _, _, _, _, as, q, .nil _, h, hr, hf => by
    cases hr
    cases ps with
    | nil => simp only [reads] at h; injection h with h; subst h; exact .nil q
    | cons _ _ => simp [reads] at h
  | ps, svs, _, _, _, _, as, q, .none (v := v) (hs := hs) H, h, hr, hf => by
    cases hr with
    | cons hv hr =>
      rename_i sv svs
      cases ps with
      | nil => simp [reads] at h
      | cons p ps =>
        simp only [reads] at h
        split at h
        · rename_i b hb
          split at h
          · rename_i bs hbs
            injection h with h; subst h
            obtain ⟨g1, g2⟩ := read_ok hE I0 L O hb hv (fun e t cs hp hc => hf e t sv cs (by simp [hp]) hc) q
            have := ArgsOk.cons g1 (o := []) (fun A' _ _ => g2 A') (by simp) (reads_ok hE I0 L O ps svs _ _ _ _ bs (q + 1) H hbs hr (fun e t sv cs hm => hf e t sv cs (by simp [hm])))
            simpa using this
          · cases h
        · cases h
  | ps, svs, _, _, _, _, as, q, .some hA hO hX H, h, hr, hf => by
    cases hr with
    | cons hv hr =>
      rename_i sv svs
      cases ps with
      | nil => simp [reads] at h
      | cons p ps =>
        simp only [reads] at h
        split at h
        · rename_i bs hbs
          injection h with h; subst h
          exact .cons (hA okS' okP' O.S) hO hX (reads_ok hE I0 L O ps svs _ _ _ _ bs (q + 1) H hbs hr (fun e t sv cs hm => hf e t sv cs (by simp [hm])))
        · cases h
end
end Go.Proofs.AM

namespace Go.Proofs.AM
open Go Go.RowKit
variable {E : Env}
section
variable {C : FC} {s0 sK : St E} {A : Asg} {ok0 : Nat → Nat → Prop} {tmps : Array Value} {w : World} {okS' : Nat → Nat → Prop} {okP' : Nat → Prop}
theorem lk_cons {α : Type} (k n : Nat) (v : α) (r : List (Nat × α)) : lk ((k, v) :: r) n = if k = n then some v else lk r n := by
  simp only [lk]
  by_cases h : k = n
  · subst h; simp
  · rw [beq_ne h]; simp [h]
theorem lk_rows : ∀ (es : List (Ent E)) (m g : Nat) (o : Ob E), lk (es.map Ent.row) m = some (g, o) → ∃ e ∈ es, e.m = m ∧ g = 0 ∧ o = e.o
  | [], m, g, o, h => by simp [lk] at h
  | e :: es, m, g, o, h => by
    simp only [List.map_cons, Ent.row] at h
    rw [lk_cons] at h
    split at h
    · rename_i he; injection h with h; injection h with h1 h2
      exact ⟨e, by simp, he, h1.symm, h2.symm⟩
    · obtain ⟨e', h1, h2⟩ := lk_rows es m g o h
      exact ⟨e', by simp [h1], h2⟩
theorem rows_lk : ∀ (es : List (Ent E)), es.Pairwise (fun a b => a.m ≠ b.m) → ∀ e ∈ es, lk (es.map Ent.row) e.m = some (0, e.o)
  | [], _, e, he => by simp at he
  | e' :: es, hp, e, he => by
    simp only [List.map_cons, Ent.row]
    rw [lk_cons]
    rcases List.mem_cons.1 he with he | he
    · subst he; simp
    · rw [if_neg ((List.pairwise_cons.1 hp).1 e he)]
      exact rows_lk es (List.pairwise_cons.1 hp).2 e he
def asgOf (es : List (Ent E)) : Asg := ⟨fun m => (es.find? fun e => e.m == m).bind (·.B), fun m => ((es.find? fun e => e.m == m).map (·.O)).getD 0⟩
theorem find_ent : ∀ (es : List (Ent E)), es.Pairwise (fun a b => a.m ≠ b.m) → ∀ e ∈ es, es.find? (fun x => x.m == e.m) = some e
  | [], _, e, he => by simp at he
  | e' :: es, hp, e, he => by
    rcases List.mem_cons.1 he with he | he
    · subst he; simp
    · rw [List.find?_cons]
      have : (e'.m == e.m) = false := by simpa using (List.pairwise_cons.1 hp).1 e he
      rw [this]
      exact find_ent es (List.pairwise_cons.1 hp).2 e he
theorem sees_asgOf (es : List (Ent E)) (hp : es.Pairwise (fun a b => a.m ≠ b.m)) : Sees (asgOf es) (es.map Ent.row) es := fun e he => by
  refine ⟨?_, ?_, rows_lk es hp e he⟩
  · simp [asgOf, find_ent es hp e he]
  · simp [asgOf, find_ent es hp e he]
theorem pair_eq {R : Ent E → Option Nat} : ∀ (es : List (Ent E)), es.Pairwise (fun a b => ∀ n, R a = some n → R b ≠ some n) → ∀ a ∈ es, ∀ b ∈ es, ∀ n, R a = some n → R b = some n → a = b
  | [], _, a, ha, _, _, _, _, _ => by simp at ha
  | e :: es, hp, a, ha, b, hb, n, h1, h2 => by
    obtain ⟨k1, k2⟩ := List.pairwise_cons.1 hp
    rcases List.mem_cons.1 ha with ha' | ha'
    · rcases List.mem_cons.1 hb with hb' | hb'
      · rw [ha', hb']
      · rw [ha'] at h1; exact absurd h2 (k1 b hb' n h1)
    · rcases List.mem_cons.1 hb with hb' | hb'
      · rw [hb'] at h2; exact absurd h1 (k1 a ha' n h2)
      · exact pair_eq es k2 a ha' b hb' n h1 h2
structure Ents (w : World) (okS' : Nat → Nat → Prop) (okP' : Nat → Prop) (q : Nat) (vals : List Value) (es : List (Ent E)) (sl : List (Nat × SV E)) : Prop where
  sl : ∀ i sv, lk sl i = some sv → q ≤ i ∧ ∃ v, vals[i - q]? = some v ∧ ∀ A' ob', Sees A' ob' es → ∀ tm, RepSV w okS' okP' ob' A' tm sv v
  lo : ∀ e ∈ es, nameP q ≤ e.m
  dis : es.Pairwise fun a b => a.m ≠ b.m
  obs : ∀ A' ob', Sees A' ob' es → ∀ e ∈ es, RepOb w okS' okP' ob' A' e.m e.o
theorem Sees.left {A' : Asg} {ob' : Obs E} {es fs : List (Ent E)} (h : Sees A' ob' (es ++ fs)) : Sees A' ob' es := fun e he => h e (by simp [he])
theorem Sees.right {A' : Asg} {ob' : Obs E} {es fs : List (Ent E)} (h : Sees A' ob' (es ++ fs)) : Sees A' ob' fs := fun e he => h e (by simp [he])
theorem args_ents : ∀ (as : List (Arg E)) (vals : List Value) (ess : List (List (Ent E))) (outs : List (Back E)) (q : Nat), ArgsOk s0 A w okS' okP' q as vals ess outs →
    ∃ sl, enter q as = some (sl, ess.flatten.map Ent.row) ∧ Ents w okS' okP' q vals ess.flatten sl ∧ vals.length = as.length
  | _, _, _, _, q, .nil _ => ⟨[], rfl, ⟨fun i sv h => by simp [lk] at h, by simp, .nil, by simp⟩, rfl⟩
  | _, _, _, _, q, .cons (a := a) (es := es) (v := v) (as := as) (vals := vals) (ess := ess) (outs := outs) hA hO hX H => by
    obtain ⟨sl, h1, h2, h3⟩ := args_ents as vals ess outs (q + 1) H
    obtain ⟨sv, k1, k2⟩ := hA.ent
    refine ⟨(q, sv) :: sl, by rw [enter_cons h1 k1]; simp, ⟨fun i x hx => ?_, fun e he => ?_, ?_, fun A' ob' hs e he => ?_⟩, by simp [h3]⟩
    · rw [lk_cons] at hx
      split at hx
      · rename_i hi
        subst hi
        injection hx with hx; subst hx
        exact ⟨Nat.le_refl _, v, by simp, fun A' ob' hs tm => k2 A' ob' (by simp only [List.flatten_cons] at hs; exact hs.left) tm⟩
      · obtain ⟨g1, u, g2, g3⟩ := h2.sl i x hx
        refine ⟨by omega, u, ?_, fun A' ob' hs tm => g3 A' ob' (by simp only [List.flatten_cons] at hs; exact hs.right) tm⟩
        have : i - q = (i - (q + 1)) + 1 := by omega
        rw [this]; simpa using g2
    · simp only [List.flatten_cons, List.mem_append] at he
      rcases he with he | he
      · exact (hA.lo e he).1
      · have := h2.lo e he
        simp [nameP] at this ⊢; omega
    · simp only [List.flatten_cons]
      refine List.pairwise_append.2 ⟨hA.dis, h2.dis, fun a ha b hb e => ?_⟩
      have := (hA.lo a ha).2
      have := h2.lo b hb
      omega
    · simp only [List.flatten_cons] at hs he
      rcases List.mem_append.1 he with he | he
      · exact hA.obs A' ob' hs.left e he
      · exact h2.obs A' ob' hs.right e he
theorem args_more : ∀ (as : List (Arg E)) (vals : List Value) (ess : List (List (Ent E))) (outs : List (Back E)) (q : Nat), ArgsOk s0 A w okS' okP' q as vals ess outs → ∀ (l : List (Dt E)) (vs : List Value),
    All2 (fun (d : Dt E) v => RepP E w okS' okP' d.1 d.2 0 v) l vs → ∃ ess', ArgsOk s0 A w okS' okP' q (as ++ capArgs l) (vals ++ vs) ess' outs ∧ ess'.flatten = ess.flatten
  | _, _, _, _, q, .nil _, l, vs, hl => by
    induction hl generalizing q with
    | nil => exact ⟨[], .nil q, rfl⟩
    | cons h _ ih =>
      rename_i d v l vs _
      obtain ⟨ess', h1, h2⟩ := ih (q + 1)
      refine ⟨[] :: ess', ?_, by simpa using h2⟩
      have := ArgsOk.cons (s0 := s0) (A := A) (w := w) (okS' := okS') (okP' := okP') (q := q) (a := .ro d.1 d.2) (es := []) (v := v) (o := []) ⟨⟨.c (.ro d.1 d.2 0), rfl, fun A' ob' _ tm => h⟩, by simp, by simp, .nil⟩ (fun _ _ _ => rfl) (by simp) h1
      simpa [capArgs] using this
  | _, _, _, _, q, .cons hA hO hX H, l, vs, hl => by
    obtain ⟨ess', h1, h2⟩ := args_more _ _ _ _ (q + 1) H l vs hl
    exact ⟨_ :: ess', .cons hA hO hX h1, by simp [h2]⟩
def calleeFC (w : World) (es : List (Ent E)) (okS' : Nat → Nat → Prop) (okP' : Nat → Prop) : FC := ⟨w, fun b => ∃ e ∈ es, e.B = some b, okS', okP', asgOf es⟩
def okP2 (C : FC) (s0 sK : St E) (A : Asg) (es : List (Ent E)) (b : Nat) : Prop :=
  (C.okP b ∨ ∃ n g cs, lk s0.ob n = some (g, Ob.box cs) ∧ ¬ Taken s0 sK n ∧ A.B n = some b) ∧ ¬ ∃ e ∈ es, e.B = some b
def okS2 (s0 sK : St E) (A : Asg) (ok0 : Nat → Nat → Prop) (frz : Bool) (b k : Nat) : Prop := ok0 b k ∨ (frz = false ∧ okAll sK.ob A ok0 b k)
theorem rw_src (I0 : Inv C s0 A ok0 tmps w) {es : List (Ent E)} (hM : Moved s0 s0 sK A es) {b : Nat} (h : ∃ e ∈ es, e.B = some b) :
    ∃ n g o, (∃ e ∈ es, e.src = some n) ∧ lk s0.ob n = some (g, o) ∧ isLive o = true ∧ lim A n o = 0 ∧ A.B n = some b ∧ Taken s0 sK n := by
  obtain ⟨e, he, hb⟩ := h
  have hs := (hM.src e he).1
  unfold Src at hs
  cases hn : e.src with
  | none => rw [hn] at hs; rw [hs] at hb; cases hb
  | some n =>
    rw [hn] at hs
    obtain ⟨hB, g, o, hl, ho⟩ := hs
    refine ⟨n, g, o, ⟨e, he, hn⟩, hl, ?_, ?_, by rw [← hB]; exact hb, ((hM.src e he).2 n hn).2⟩
    · rcases ho with ⟨t, xs, rfl⟩ | ⟨cs, rfl⟩ <;> rfl
    · rcases ho with ⟨t, xs, rfl⟩ | ⟨cs, rfl⟩ <;> rfl
theorem taken_untouched {n : Nat} {es : List (Ent E)} (hL : Less s0 sK) (hb : ∀ n, Taken s0 sK n → Taken s0 s0 n ∨ ∃ e ∈ es, e.src = some n) (hn : ¬ ∃ e ∈ es, e.src = some n) : lk sK.ob n = lk s0.ob n := by
  rcases hL.ob n with h | h
  · exact h
  · rcases hb n h with h1 | h1
    · rcases h1 with ⟨g, t, xs, a, b⟩ | ⟨g, cs, hc, a, b⟩
      · rw [a] at b; cases b
      · rcases h with ⟨g', t, xs, a', b'⟩ | ⟨g', cs', hc', a', b'⟩
        · rw [a] at a'; cases a'
        · rw [a] at a'; injection a' with a'; injection a' with e1 e2; injection e2 with e2; subst e1; subst e2
          rw [b', ← b]
    · exact absurd h1 hn
theorem okR_ok (I0 : Inv C s0 A ok0 tmps w) {es : List (Ent E)} (hM : Moved s0 s0 sK A es) (frz : Bool) : OkR C s0 sK A ok0 frz (okS2 s0 sK A ok0 frz) (okP2 C s0 sK A es) where
  S := fun b k h => .inl h
  all := fun hf b k h => .inr ⟨hf, h⟩
  P := fun b h => ⟨.inl h, fun hr => by
    obtain ⟨n, g, o, _, hl, hlv, _, hB, _⟩ := rw_src I0 hM hr
    exact (I0.own n g o b hl hlv hB).2.1 h⟩
  B := fun n g cs b hl hnt hB => ⟨.inr ⟨n, g, cs, hl, hnt, hB⟩, fun hr => by
    obtain ⟨n', g', o', _, hl', hlv', _, hB', hT⟩ := rw_src I0 hM hr
    have := I0.inj n' n g' g o' _ b hl' hl hlv' rfl hB' hB
    subst this
    exact hnt hT⟩
theorem callee_inv (I0 : Inv C s0 A ok0 tmps w) {es : List (Ent E)} (hM : Moved s0 s0 sK A es) (frz : Bool) {vals : List Value} {sl : List (Nat × SV E)} (hE : Ents w (okS2 s0 sK A ok0 frz) (okP2 C s0 sK A es) 0 vals es sl) (n : Nat) (hn : vals.length ≤ n) (hn2 : n < 100000) :
    Inv (calleeFC w es (okS2 s0 sK A ok0 frz) (okP2 C s0 sK A es)) { n := n, sl := sl, ob := es.map Ent.row } (asgOf es) (okS2 s0 sK A ok0 frz) (pad vals n) w := by
  have hsee := sees_asgOf es hE.dis
  have hnS : ∀ b k, (∃ e ∈ es, e.B = some b) → ¬ okS2 s0 sK A ok0 frz b k := by
    intro b k hr hk
    obtain ⟨n, g, o, _, hl, hlv, hlim, hB, hT⟩ := rw_src I0 hM hr
    have h1 := (I0.own n g o b hl hlv hB).1
    rw [hlim] at h1
    have h1 := h1 k (Nat.zero_le _)
    rcases hk with hk | ⟨_, hk | ⟨m, h, t, xs, hm, hBm⟩⟩
    · exact h1 hk
    · exact h1 hk
    · have hm0 := lk_of_obj (ob := s0.ob) (hM.less.tok (n := m) (g := h) (obj_of_lk hm))
      have := I0.inj n m g h o _ b hl hm0 hlv rfl hB hBm
      subst this
      rcases hT with ⟨_, _, _, _, e⟩ | ⟨_, _, _, _, e⟩ <;> (rw [hm] at e; cases e)
  refine ⟨rfl, rfl, rfl, Nat.le_refl _, fun _ _ _ => rfl, fun b k hk => ?_, fun b k hk => .inl hk, fun b hb => ⟨?_, hb.2⟩, fun m g o hl => ?_, fun m g o b hl hlv hB => ?_, fun m1 m2 g1 g2 o1 o2 b hl1 hl2 hv1 hv2 hB1 hB2 => ?_, fun i sv hi => ?_, ?_, hn2, fun m g o hp hl => ?_⟩
  · show b < w.heap.size
    rcases hk with hk | ⟨_, hk | ⟨m, h, t, xs, hm, hBm⟩⟩
    · exact I0.okLt b k hk
    · exact I0.okLt b k hk
    · have hm0 := lk_of_obj (ob := s0.ob) (hM.less.tok (n := m) (g := h) (obj_of_lk hm))
      exact (I0.own m h _ b hm0 rfl hBm).2.2.1
  · show b < w.heap.size
    rcases hb.1 with h | ⟨m, g, cs, hm, _, hBm⟩
    · exact Nat.lt_of_lt_of_le (I0.okPLt b h).1 I0.size
    · exact (I0.own m g _ b hm rfl hBm).2.2.1
  · obtain ⟨e, he, h1, h2, h3⟩ := lk_rows es m g o hl
    subst h1; subst h3
    exact hE.obs _ _ hsee e he
  · obtain ⟨e, he, h1, h2, h3⟩ := lk_rows es m g o hl
    subst h1
    rw [(hsee e he).1] at hB
    have hr : ∃ e ∈ es, e.B = some b := ⟨e, he, hB⟩
    refine ⟨fun k _ => hnS b k hr, fun hp => hp.2 hr, ?_, .inr hr⟩
    obtain ⟨n, g, o, _, hl, hlv, hlim, hB, hT⟩ := rw_src I0 hM hr
    exact (I0.own n g o b hl hlv hB).2.2.1
  · obtain ⟨e1, he1, k1, _, _⟩ := lk_rows es m1 g1 o1 hl1
    obtain ⟨e2, he2, k2, _, _⟩ := lk_rows es m2 g2 o2 hl2
    subst k1; subst k2
    rw [(hsee e1 he1).1] at hB1
    rw [(hsee e2 he2).1] at hB2
    have hs1 := (hM.src e1 he1).1
    have hs2 := (hM.src e2 he2).1
    unfold Src at hs1 hs2
    cases hn1 : e1.src with
    | none => rw [hn1] at hs1; rw [hs1] at hB1; cases hB1
    | some n1 =>
      cases hn2' : e2.src with
      | none => rw [hn2'] at hs2; rw [hs2] at hB2; cases hB2
      | some n2 =>
        rw [hn1] at hs1; rw [hn2'] at hs2
        obtain ⟨a1, a2, a3, a4, a5⟩ := hs1
        obtain ⟨b1, b2, b3, b4, b5⟩ := hs2
        have l1 : isLive a3 = true := by rcases a5 with ⟨t, xs, rfl⟩ | ⟨cs, rfl⟩ <;> rfl
        have l2 : isLive b3 = true := by rcases b5 with ⟨t, xs, rfl⟩ | ⟨cs, rfl⟩ <;> rfl
        have := I0.inj n1 n2 a2 b2 a3 b3 b a4 b4 l1 l2 (by rw [← a1]; exact hB1) (by rw [← b1]; exact hB2)
        subst this
        rw [pair_eq (R := Ent.src) es hM.dis e1 he1 e2 he2 n1 hn1 hn2']
  · obtain ⟨_, v, h1, h2⟩ := hE.sl i sv hi
    have hv : (pad vals n).getD i undef = v := by
      have hlt : i < vals.length := by
        rcases Nat.lt_or_ge i vals.length with h | h
        · exact h
        · rw [List.getElem?_eq_none (by simpa using h)] at h1; cases h1
      simp only [Nat.sub_zero] at h1
      rw [Array.getD_eq_getD_getElem?, pad, Array.getElem?_append_left (by simpa using hlt)]
      simp [h1]
    show RepSV w (okS2 s0 sK A ok0 frz) (okP2 C s0 sK A es) (es.map Ent.row) (asgOf es) (pad vals n) sv ((pad vals n).getD i undef)
    rw [hv]
    exact h2 _ _ hsee _
  · simp [pad]; omega
  · obtain ⟨e, he, h1, h2, h3⟩ := lk_rows es m g o hl
    refine ⟨h2, ?_⟩
    cases o with
    | gone => trivial
    | box cs => rfl
    | tok t xs => exact ⟨rfl, rfl, fun b cs e _ hc => ⟨cs, hc, rfl⟩⟩
    | frz t xs => exact ⟨rfl, rfl, fun b cs e _ hc => ⟨cs, hc, rfl⟩⟩
inductive OutsM (A A' : Asg) (s0 : St E) : List OutP → List (Back E) → Prop where
  | nil : OutsM A A' s0 [] []
  | rw {p cs n g xs r r'} : A'.B (nameP p) = A.B n → lk s0.ob n = some (g, .box xs) → xs.length = szP E cs → OutsM A A' s0 r r' → OutsM A A' s0 (.rw p cs :: r) (.box n g cs :: r')
  | own {p n g t xs r r'} : A'.B (nameP p) = A.B n → A'.O (nameP p) = A.O n → lk s0.ob n = some (g, .tok t xs) → OutsM A A' s0 r r' → OutsM A A' s0 (.own p t :: r) (.own n g t xs :: r')
theorem args_outs {A' : Asg} {ob' : Obs E} : ∀ (as : List (Arg E)) (vals : List Value) (ess : List (List (Ent E))) (outs : List (Back E)) (q : Nat), ArgsOk s0 A w okS' okP' q as vals ess outs → Sees A' ob' ess.flatten →
    OutsM A A' s0 (outsOf q as) outs ∧ (∀ e ∈ ess.flatten, ∀ n g xs, e.src = some n → lk s0.ob n = some (g, .box xs) → ∃ cs, Back.box n g cs ∈ outs)
  | _, _, _, _, q, .nil _, _ => ⟨.nil, by simp⟩
  | _, _, _, _, q, .cons (a := a) (es := es) (o := o) (ess := ess) hA hO hX H, hs => by
    simp only [List.flatten_cons] at hs
    obtain ⟨h1, h2⟩ := args_outs _ _ _ _ (q + 1) H hs.right
    have hr := hO A' ob' hs.left
    constructor
    · cases a with
      | rw cs x => obtain ⟨n, g, xs, e, k1, k2, k3⟩ := hr; subst e; exact .rw k1 k2 k3 h1
      | own t xs => obtain ⟨n, g, e, k1, k2, k3⟩ := hr; subst e; exact .own k1 k2 k3 h1
      | val t x => have : o = [] := hr; subst this; exact h1
      | fn f l => have : o = [] := hr; subst this; exact h1
      | ro t x => have : o = [] := hr; subst this; exact h1
      | take t x => have : o = [] := hr; subst this; exact h1
    · intro e he n g xs hn hl
      simp only [List.flatten_cons] at he
      rcases List.mem_append.1 he with he | he
      · obtain ⟨cs, hc⟩ := hX e he n g xs hn hl; exact ⟨cs, by simp [hc]⟩
      · obtain ⟨cs, hc⟩ := h2 e he n g xs hn hl; exact ⟨cs, by simp [hc]⟩
theorem outsPs_eq {A' : Asg} {os : List OutP} {outs : List (Back E)} (h : OutsM A A' s0 os outs) : outsPs os = outPieces outs := by
  induction h with
  | nil => rfl
  | rw _ _ _ _ ih => simp only [outsPs, outPieces, List.flatMap_cons] at ih ⊢; rw [ih]
  | own _ _ _ _ ih => simp only [outsPs, outPieces, List.flatMap_cons] at ih ⊢; rw [ih]
end
end Go.Proofs.AM
