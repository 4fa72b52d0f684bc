/- Helpers of this claim: an abstract machine over the model, proved sound; what it computes. Part 3. -/
import Derived.Test.YthdbgkfinpbggaaGreatSAm2
import Derived.Test.YthdbgkfinpbggaaGreatSAm0
import Derived.DataReads
import Derived.ChangeReads
import GoSem.ClaimJoined
import Derived.SizedLaws
import Derived.ChangeStays
import Derived.Handed
import Derived.WideShapes
import Derived.ChangeShapes
import Derived.OpenShut
import Derived.Lib.Bytealg
import Derived.Lib.SlicesCompact
import Derived.Lib.ItoaNum
import Derived.Sort.Grow
import Derived.Laws.Externs
set_option linter.unusedVariables false
set_option linter.unusedSimpArgs false
namespace Go.Proofs.AM
open Go Go.RowKit
variable {E : Env}
section
variable {M : Mach E} {callF : FuncId → List (Arg E) → Res E} {ops : Array Oper} {s t : St E}
def Kept (s s' : St E) : Prop := s'.sl = s.sl ∧ s'.n = s.n
theorem Kept.refl (s : St E) : Kept s s := ⟨rfl, rfl⟩
theorem Kept.trans {s s' s'' : St E} (h : Kept s s') (k : Kept s' s'') : Kept s s'' := ⟨k.1.trans h.1, k.2.trans h.2⟩
theorem Kept.put (s : St E) (n g : Nat) (o : Ob E) : Kept s (s.putOb n g o) := ⟨rfl, rfl⟩
theorem Kept.fresh (s : St E) (n : Nat) (o : Ob E) : Kept s (s.fresh n o) := ⟨rfl, rfl⟩
theorem Kept.frz (l : List (CV E)) (s : St E) : Kept s (frzList s l) := frzList_sl l s
theorem store_kept {ti : TI} {p : CV E} {v : List (CV E)} {s' : St E} (h : store ti s p v = some s') : Kept s s' := by
  unfold store at h
  split at h
  · split at h
    · repeat' split at h
      all_goals first | (cases h; done) | (injection h with h; subst h; exact Kept.put _ _ _ _)
    · simp only at h
      repeat' split at h
      all_goals first | (cases h; done) | (injection h with h; subst h; exact (Kept.frz _ _).trans (Kept.put _ _ _ _))
    · cases h
  · cases h
theorem simple_kept {ch : Chain} {grd : Bool} {d : Nat} {o : Op} {r : SV E × Bool × St E} (h : simple M s ch grd d o = some r) : Kept s r.2.2 := by
  have hap : ∀ {d : Nat} {T : TypeId} {x y : CV E} {r : SV E × Bool × St E}, appendOp M s d T x y = some r → Kept s r.2.2 := by
    intro d T x y r h
    unfold appendOp at h
    repeat' split at h
    all_goals first
      | (cases h; done)
      | (injection h with h; subst h; exact Kept.fresh _ _ _)
      | (injection h with h; subst h; exact (Kept.put _ _ _ _).trans (Kept.fresh _ _ _))
  have hzo : ∀ {d : Nat} {T : TypeId} {x y : CV E} {r : SV E × Bool × St E}, zerosOp M s d T x y = some r → Kept s r.2.2 := by
    intro d T x y r h
    unfold zerosOp at h
    split at h
    · split at h
      · rename_i ha; injection h with h; rw [← h]; exact (hap ha :)
      · cases h
    · cases h
  unfold simple at h
  unfold ok1 at h
  simp only [frzOps_eq] at h
  repeat' split at h
  all_goals first
    | (cases h; done)
    | exact hap h
    | exact hzo h
    | (injection h with h; subst h; exact Kept.refl _)
    | (injection h with h; subst h; exact Kept.fresh _ _ _)
    | (injection h with h; subst h; exact Kept.put _ _ _ _)
    | (injection h with h; subst h; exact Kept.frz _ _)
    | (injection h with h; subst h; exact (Kept.frz _ _).trans (Kept.fresh _ _ _))
    | (injection h with h; subst h; exact store_kept (by assumption))
theorem hand_kept {p : PM} {v : SV E} {r} (h : hand s p v = some r) : Kept s r.2.1 := by
  unfold hand at h
  repeat' split at h
  all_goals first
    | (cases h; done)
    | (injection h with h; subst h; exact Kept.refl _)
    | (injection h with h; subst h; exact Kept.put _ _ _ _)
    | (injection h with h; subst h; exact ⟨(killAll_sl _ _).1, (killAll_sl _ _).2⟩)
theorem hands_kept : ∀ (ps : List PM) (svs : List (SV E)) (s : St E) r, hands s ps svs = some r → Kept s r.2.1
  | [], [], s, r, h => by simp only [hands] at h; injection h with h; subst h; exact Kept.refl _
  | [], _ :: _, s, r, h => by simp [hands] at h
  | _ :: _, [], s, r, h => by simp [hands] at h
  | p :: ps, v :: svs, s, r, h => by
    simp only [hands] at h
    split at h
    · rename_i h1
      split at h
      · rename_i h2
        injection h with h; subst h
        have k := hands_kept ps svs _ _ h2
        exact (hand_kept h1).trans k
      · cases h
    · cases h
theorem unOwns_kept : ∀ (outs : List (Back E)) (s : St E) (ds : List (Dt E)) r, unOwns s outs ds = some r → Kept s r.2
  | [], s, ds, r, h => by simp only [unOwns] at h; injection h with h; subst h; exact Kept.refl _
  | .box _ _ cs :: o, s, ds, r, h => by simp only [unOwns] at h; exact unOwns_kept o s _ r h
  | .own n g t xs :: o, s, ds, r, h => by
    match ds, h with
    | ⟨.slice t', x⟩ :: ds, h =>
      simp only [unOwns] at h
      split at h
      · split at h
        · rename_i h2
          injection h with h; subst h
          have k := unOwns_kept o _ _ _ h2
          exact (Kept.put s n g _).trans k
        · cases h
      · cases h
theorem unOuts_kept : ∀ (outs : List (Back E)) (b : Nat) (s : St E) (ds : List (Dt E)) r, unOuts b s outs ds = some r → Kept s r
  | [], b, s, ds, r, h => by
    cases ds with
    | nil => simp only [unOuts] at h; injection h with h; subst h; exact Kept.refl _
    | cons _ _ => simp [unOuts] at h
  | .box n g cs :: o, b, s, ds, r, h => by
    simp only [unOuts] at h
    split at h
    · rename_i h1
      obtain ⟨_, _, _, a4, a5⟩ := unRes_mod _ _ _ _ _ h1
      split at h
      · exact (Kept.trans ⟨a4, a5⟩ (Kept.put _ _ _ _)).trans (unOuts_kept o _ _ _ r h)
      · cases h
    · cases h
  | .own n g t xs :: o, b, s, ds, r, h => by
    cases ds with
    | nil => simp [unOuts] at h
    | cons d ds => simp only [unOuts] at h; exact unOuts_kept o b s ds r h
theorem after_kept {d : Nat} {rs : List (Bool × List (Ty × Bool))} {outs : List (Back E)} {ds : List (Dt E)} {fin : SV E → St E → Res E} {r : Dt E} (h : afterCall d s rs outs ds fin = some r) :
    ∃ v s', Kept s s' ∧ fin v s' = some r ∧ ∀ fin' : SV E → St E → Res E, afterCall d s rs outs ds fin' = fin' v s' := by
  unfold afterCall at h
  split at h
  · rename_i c s1 h1
    split at h
    · rename_i l b s2 ds2 h2
      split at h
      · rename_i s3 h3
        split at h
        · rename_i v h4
          cases c with
          | false => cases h
          | true =>
            obtain ⟨_, _, _, a4, a5⟩ := unResults_mod _ _ _ _ _ h2
            exact ⟨v, s3, ((unOwns_kept _ _ _ _ h1).trans ⟨a4, a5⟩).trans (unOuts_kept _ _ _ _ _ h3), h, fun fin' => by simp only [afterCall, h1, h2, h3, h4]; rfl⟩
        · cases h
      · cases h
    · cases h
  · cases h
theorem callWith_kept {g : Option Bool} {d : Nat} {f : FuncId} {ps : List PM} {more : List (Arg E)} {rs : List (Bool × List (Ty × Bool))} {svs : List (SV E)} {fin : SV E → St E → Res E} {r : Dt E}
    (h : callWith M callF g d s f ps more rs svs fin = some r) : ∃ v s', Kept s s' ∧ ∀ fin' : SV E → St E → Res E, callWith M callF g d s f ps more rs svs fin' = fin' v s' := by
  unfold callWith at h
  split at h
  · rename_i as sK outs hmk
    have hk : Kept s sK := by
      unfold mkArgs at hmk
      split at hmk
      · rename_i h1
        split at hmk
        · injection hmk with hmk; injection hmk with _ hmk; injection hmk with e _
          subst e
          exact (Kept.frz _ _).trans (hands_kept _ _ _ _ h1)
        · cases hmk
      · cases hmk
    cases g with
    | none =>
      simp only at h
      cases hy : res (tyL (piecesTy (resPieces rs ++ outPieces outs))) (callF f (as ++ more)) with
      | none => rw [hy] at h; cases h
      | some y =>
        rw [hy] at h
        obtain ⟨v, s', h1, _, h3⟩ := after_kept h
        exact ⟨v, s', hk.trans h1, fun fin' => by simp only [callWith, hmk, hy]; exact h3 fin'⟩
    | some b =>
      cases outs with
      | cons _ _ => cases h
      | nil =>
        simp only at h
        cases hy : (cond b (res (tyL (piecesTy (resPieces rs ++ outPieces ([] : List (Back E))))) (callF f (as ++ more))) (some (dflt E (tyL (piecesTy (resPieces rs ++ outPieces ([] : List (Back E)))))))) with
        | none => rw [hy] at h; cases h
        | some y =>
          rw [hy] at h
          have h : afterCall d sK (rs.map (fun p => (p.1, p.2.map (fun q => (q.1, false))))) [] (unL E _ y) fin = some r := h
          obtain ⟨v, s', h1, _, h3⟩ := after_kept h
          exact ⟨v, s', hk.trans h1, fun fin' => by simp only [callWith, hmk, hy]; exact h3 fin'⟩
  · cases h
theorem callOp_kept {ch : Chain} {g : Option Bool} {d : Nat} {ty : TypeId} {c : Call} {fin : SV E → St E → Res E} {r : Dt E} (h : callOp M callF s ch g d ty c fin = some r) :
    ∃ v s', Kept s s' ∧ ∀ fin' : SV E → St E → Res E, callOp M callF s ch g d ty c fin' = fin' v s' := by
  unfold callOp at h ⊢
  split at h
  · rename_i fop hc
    split at h
    · rename_i f caps hev
      split at h
      · exact callWith_kept h
      · split at h
        · rename_i l hl
          split at h
          · split at h
            · cases h
            · rename_i hchk
              obtain ⟨v, s', h1, h3⟩ := callWith_kept h
              exact ⟨v, s', h1, fun fin' => by rw [if_neg hchk]; exact h3 fin'⟩
          split at h
          · rename_i ti ps hti hps
            split at h
            · cases h
            · rename_i hchk
              obtain ⟨v, s', h1, h3⟩ := callWith_kept h
              exact ⟨v, s', h1, fun fin' => by rw [if_neg hchk]; exact h3 fin'⟩
          · cases h
        · cases h
    · split at h
      · split at h
        · cases h
        · rename_i hchk
          obtain ⟨v, s', h1, h3⟩ := callWith_kept h
          exact ⟨v, s', h1, fun fin' => by rw [if_neg hchk]; exact h3 fin'⟩
      · cases h
    · cases h
  · cases h
theorem OpEff.kept {ch : Chain} {g : Option Bool} {d : Nat} {o : Oper} {v : SV E} {s' : St E} (h : OpEff M callF s ch g d o v s') : Kept s s' := by
  rcases h with ⟨hn, h⟩
  rcases h with ⟨a1, c, a2, a3⟩ | ⟨a1, c, a2, a3⟩
  · exact simple_kept a2
  · obtain ⟨v0, s0, h1, h2⟩ := callOp_kept (a3 (fun _ _ => some ⟨.unit, ()⟩))
    obtain ⟨_, q2⟩ := call_same a3 h2
    rw [q2]; exact h1
inductive Run (M : Mach E) (callF : FuncId → List (Arg E) → Res E) (ops : Array Oper) : List (Nat × Foot) → St E → St E → Prop where
  | nil (s : St E) : Run M callF ops [] s s
  | cons {i : Nat} {f : Foot} {s s1 t : St E} {r : List (Nat × Foot)} : Step M callF ops i f s s1 → Run M callF ops r s1 t → Run M callF ops ((i, f) :: r) s t
theorem run_of {k : St E → Res E} {r : Dt E} : ∀ (l : List Oper) (i : Nat) (acc : List (Nat × Foot)) (s : St E), (∀ j, l[j]? = ops[i + j]?) → stepOpsD M callF ops l i acc s k = some r →
    ∃ φ t, Run M callF ops φ s t ∧ φ.map (·.1) = List.range' i l.length ∧ pairsOk ops (acc ++ φ) = true ∧ k t = some r
  | [], i, acc, s, hl, h => by
    simp only [stepOpsD] at h
    cases hp : pairsOk ops acc with
    | false => rw [hp] at h; cases h
    | true => rw [hp] at h; exact ⟨[], s, .nil s, rfl, by simpa using hp, h⟩
  | o :: l, i, acc, s, hl, h => by
    simp only [stepOpsD] at h
    split at h
    · rename_i f hf
      have hoi : ops[i]? = some o := by have := hl 0; simpa using this.symm
      obtain ⟨ch, g, wq, v, s', he, hk⟩ := eff_of_step h (fun hg hc => by
        obtain ⟨_, _, _, _, _, _, _, h4⟩ := footOf_inv hf
        rcases h4 with ⟨_, _, _, _, h5⟩ | ⟨j, b, q, g1, _⟩
        · exact h5 hc
        · rw [hg] at g1; cases g1)
      obtain ⟨φ, t, h1, h2, h3, h4⟩ := run_of l (i + 1) (acc ++ [(i, f)]) _ (fun j => by have := hl (j + 1); rw [← Nat.add_assoc, Nat.add_right_comm] at this; simpa using this) hk
      refine ⟨(i, f) :: φ, t, .cons ⟨o, ch, g, wq, v, s', hoi, hf, he, rfl⟩ h1, ?_, by simpa using h3, h4⟩
      simp [h2, List.range'_succ]
    · cases h
def Clean (s : St E) (T : List (Nat × Foot)) : Prop := ∀ p ∈ T, NoG s p.2.dst
theorem glDeps_drop {d q : Nat} : ∀ {v : SV E}, q ∈ glDeps (dropG d v) → q ∈ glDeps v
  | .gl q' w v, h => by
    simp only [dropG] at h
    by_cases hd : q' = d
    · subst hd; simp [glDeps] at h
    · rw [beq_ne hd] at h
      simp only [cond_false, glDeps, List.mem_cons] at h ⊢
      exact h.imp id glDeps_drop
  | .c _, h => h
  | .agg _, h => h
  | .tup _, h => h
theorem glDeps_noGl {v : SV E} (h : noGl v = true) : glDeps v = [] := by cases v <;> first | rfl | simp [noGl] at h
def Feet (ops : Array Oper) (T : List (Nat × Foot)) : Prop := ∀ p ∈ T, ∃ o, ops[p.1]? = some o ∧ p.2.dst = o.dst
theorem Step.feet {i : Nat} {f : Foot} {s1 : St E} (h : Step M callF ops i f s s1) : ∃ o, ops[i]? = some o ∧ f.dst = o.dst := by
  obtain ⟨o, ch, g, wq, v, s', h1, h2, h3, h4⟩ := h
  obtain ⟨xs, gd, _, e, _⟩ := foot_ctx h2 h3.ctx
  exact ⟨o, h1, e⟩
theorem Run.feet {T : List (Nat × Foot)} (h : Run M callF ops T s t) : Feet ops T := by
  induction h with
  | nil => intro p hp; simp at hp
  | cons hs _ ih =>
    intro p hp
    rcases List.mem_cons.1 hp with e | hp
    · subst e; exact hs.feet
    · exact ih p hp
theorem nodup_filterMap {ops : Array Oper} (h : edgesOk ops = true) {i j : Nat} {a b : Oper} {d : Nat} (ha : ops[i]? = some a) (hb : ops[j]? = some b) (hda : a.dst = some d) (hdb : b.dst = some d) : i = j := by
  simp only [edgesOk, Bool.and_eq_true] at h
  have hn := nodup_list h.1
  have ha' : ops.toList[i]? = some a := by simpa using ha
  have hb' : ops.toList[j]? = some b := by simpa using hb
  generalize ops.toList = l at hn ha' hb'
  clear h ha hb
  induction l generalizing i j with
  | nil => simp at ha'
  | cons x l ih =>
    have tail : ∀ {k : Nat} {y : Oper}, l[k]? = some y → y.dst = some d → d ∈ l.filterMap (·.dst) := fun hk hd => List.mem_filterMap.2 ⟨_, List.mem_of_getElem? hk, hd⟩
    cases i with
    | zero =>
      simp at ha'; subst ha'
      cases j with
      | zero => rfl
      | succ j =>
        simp at hb'
        rw [List.filterMap_cons, hda] at hn
        exact absurd (tail hb' hdb) (List.nodup_cons.1 hn).1
    | succ i =>
      simp at ha'
      cases j with
      | zero =>
        simp at hb'; subst hb'
        rw [List.filterMap_cons, hdb] at hn
        exact absurd (tail ha' hda) (List.nodup_cons.1 hn).1
      | succ j =>
        simp at hb'
        have hn2 : (l.filterMap (·.dst)).Nodup := by
          rw [List.filterMap_cons] at hn
          split at hn
          · exact hn
          · exact (List.nodup_cons.1 hn).2
        rw [ih hn2 ha' hb']
theorem guard_ahead (he : edgesOk ops = true) {i j : Nat} {b : Bool} {o : Oper} (ho : ops[i]? = some o) (hg : o.guard = some (j, b)) : j < i ∧ ∃ e ∈ o.after.toList, Region.binds .any e = true ∧ e.on = j := by
  simp only [edgesOk, Bool.and_eq_true] at he
  have hi : i < ops.size := by
    rcases Nat.lt_or_ge i ops.size with h | h
    · exact h
    · rw [Array.getElem?_eq_none h] at ho; cases ho
  have := List.all_eq_true.1 he.2 i (List.mem_range.2 hi)
  rw [ho] at this
  simp only [hg, Bool.and_eq_true] at this
  obtain ⟨h1, h2⟩ := this
  obtain ⟨e, h3, h4⟩ := List.any_eq_true.1 h2
  simp only [Bool.and_eq_true] at h4
  have h5 := Nat.eq_of_beq_eq_true h4.2
  have h6 := List.all_eq_true.1 h1 e h3
  rw [h4.1] at h6
  simp only [Bool.not_true, Bool.false_or] at h6
  have := Nat.le_of_ble_eq_true h6
  exact ⟨by omega, e, h3, h4.1, h5⟩
theorem Clean.step (he : edgesOk ops = true) {i : Nat} {f : Foot} {s1 : St E} (h : Step M callF ops i f s s1) {T : List (Nat × Foot)} (hf : Feet ops T) (hc : Clean s T) (hg : ∀ o j b, ops[i]? = some o → o.guard = some (j, b) → ∀ p ∈ T, p.1 ≠ j) : Clean s1 T ∧ s1.n = s.n := by
  obtain ⟨o, ch, g, wq, v, s', h1, h2, h3, h4⟩ := h
  have hk := h3.eff.kept
  refine ⟨fun p hp x q hq e => ?_, by rw [h4, setO_n]; exact hk.2⟩
  have hs : ∀ x, s'.slot x = s.slot x := fun x => by simp [St.slot, hk.1]
  rw [h4] at hq
  have old : q ∈ glDeps (s.slot x) → False := fun h => hc p hp x q h e
  cases hd : o.dst with
  | none =>
    rw [hd] at hq
    change q ∈ glDeps (s'.slot x) at hq
    rw [hs] at hq; exact old hq
  | some d =>
    rw [hd] at hq
    change q ∈ glDeps ((s'.set d (wrapG wq v)).slot x) at hq
    rw [slot_set] at hq
    split at hq
    · cases hwq : wq with
      | none =>
        rw [hwq] at hq
        simp only [wrapG] at hq
        rw [glDeps_noGl h3.eff.1] at hq
        simp at hq
      | some pq =>
        obtain ⟨q', w⟩ := pq
        rw [hwq] at hq
        simp only [wrapG, glDeps] at hq
        rw [glDeps_noGl h3.eff.1] at hq
        have hq' : q = q' := by simpa using hq
        subst hq'
        have hctx := h3.ctx
        rw [hwq] at hctx
        unfold gctx at hctx
        split at hctx
        · injection hctx with hctx; injection hctx with _ hctx; injection hctx with _ e3; cases e3
        · rename_i j w' hgd
          split at hctx
          · rename_i q2 d2 hq2 hd2
            split at hctx
            · cases hctx
            · split at hctx
              · injection hctx with hctx; injection hctx with _ hctx; injection hctx with _ e3
                injection e3 with e3; injection e3 with e4 _; subst e4
                obtain ⟨oj, hoj, hdj⟩ := Option.bind_eq_some_iff.1 hq2
                obtain ⟨op, hop, hpd⟩ := hf p hp
                rw [hpd] at e
                have := nodup_filterMap he hoj hop hdj e
                exact hg o j w' h1 hgd p hp this.symm
              · cases hctx
          · cases hctx
    · rw [hs] at hq
      exact old (glDeps_drop hq)
theorem move (he : edgesOk ops = true) : ∀ (A B : List (Nat × Foot)) (i : Nat) (f : Foot) (s t : St E), Run M callF ops (A ++ (i, f) :: B) s t → (A ++ (i, f) :: B).Pairwise (fun a b => a.1 < b.1) → Clean s (A ++ (i, f) :: B) → (∀ p ∈ A, indep p.2 f = true) → s.n < 100000 →
    ∃ s2, Step M callF ops i f s s2 ∧ Run M callF ops (A ++ B) s2 t
  | [], B, i, f, s, t, h, hp, hc, hi, hn => by
    cases h with
    | cons h1 h2 => exact ⟨_, h1, h2⟩
  | (a, fa) :: A, B, i, f, s, t, h, hp, hc, hi, hn => by
    cases h with
    | cons h1 h2 =>
      rename_i s1
      obtain ⟨hp1, hp2⟩ := List.pairwise_cons.1 hp
      have hcl := Clean.step he h1 h2.feet (fun p hp => hc p (List.mem_cons_of_mem _ hp)) (fun o j b ho hg p hp e => by
        have h3 := (guard_ahead he ho hg).1
        have h4 : a < p.1 := hp1 p hp
        omega)
      obtain ⟨s12, k1, k2⟩ := move he A B i f s1 t h2 hp2 hcl.1 (fun p hp => hi p (by simp [hp])) (by rw [hcl.2]; exact hn)
      obtain ⟨s2, m1, m2⟩ := swap h1 k1 (hi (a, fa) (by simp)) (hc (a, fa) (by simp)) (hc (i, f) (by simp)) hn
      exact ⟨s2, m1, .cons m2 k2⟩
end
section
variable {P : Program} {C : FC} {M : Mach E} {callF : FuncId → List (Arg E) → Res E} {ops : Array Oper}
theorem step_wp (hE : EnvOk E) (hT : TysOk E P M.tys) (hC : CallStep P M callF C) {i : Nat} {f : Foot} {s s2 : St E} (h : Step M callF ops i f s s2) {a : Act} {w : World} (hs : Holds C s a w) {Q : Exit → Act → World → Prop} {K : Act → World → Prop}
    (hK : ∀ a' w', Holds C s2 a' w' → K a' w') : wpOp P ops Q i K a w := by
  classical
  obtain ⟨o, ch, g, wq, v, s', h1, h2, h3, h4⟩ := h
  have hst : stepOp M callF ops o s (fun x => if x = s2 then some (⟨.unit, ()⟩ : Dt E) else none) = some ⟨.unit, ()⟩ := by
    rw [h3.step, ← h4]; simp
  have := stepOp_wp (Q := Q) (K := K) hE hT hC hst hs fun s' a' w' hs' hk => by
    by_cases e : s' = s2
    · subst e; exact hK a' w' hs'
    · rw [if_neg e] at hk; cases hk
  unfold wpOp
  rw [h1]
  simp only
  split at this
  · rename_i hw
    rw [if_pos hw]; exact .inl this
  · rename_i hw
    rw [if_neg hw]; exact this
def Down (ops : Array Oper) (listed : Array Bool) : Prop := ∀ i o, ops[i]? = some o → listed.getD i true = true → ∀ e ∈ o.after.toList, Region.binds .any e = true → listed.getD e.on true = true
theorem anc_listed {listed : Array Bool} (hd : Down ops listed) : ∀ (k i j : Nat), (∀ o, ops[i]? = some o → ∀ e ∈ o.after.toList, Region.binds .any e = true → listed.getD e.on true = true) → anc ops k i j = true → listed.getD j true = true
  | 0, i, j, _, h => by simp [anc] at h
  | k + 1, i, j, hi, h => by
    simp only [anc] at h
    split at h
    · rename_i o ho
      obtain ⟨e, h1, h2⟩ := List.any_eq_true.1 h
      simp only [Bool.and_eq_true, Bool.or_eq_true] at h2
      obtain ⟨h3, h4⟩ := h2
      have hl := hi o ho e h1 h3
      rcases h4 with h4 | h4
      · rw [← Nat.eq_of_beq_eq_true h4]; exact hl
      · exact anc_listed hd k e.on j (fun o' ho' => hd e.on o' ho' hl) h4
    · cases h
theorem pairs_split (ops : Array Oper) : ∀ (A : List (Nat × Foot)) (i : Nat) (f : Foot) (B : List (Nat × Foot)), pairsOk ops (A ++ (i, f) :: B) = true → (∀ p ∈ A, anc ops ops.size i p.1 = true ∨ indep p.2 f = true) ∧ pairsOk ops (A ++ B) = true
  | [], i, f, B, h => by
    simp only [List.nil_append, pairsOk, Bool.and_eq_true] at h
    exact ⟨by simp, h.2⟩
  | (a, fa) :: A, i, f, B, h => by
    simp only [List.cons_append, pairsOk, Bool.and_eq_true] at h
    obtain ⟨h1, h2⟩ := h
    obtain ⟨k1, k2⟩ := pairs_split ops A i f B h2
    refine ⟨fun p hp => ?_, ?_⟩
    · rcases List.mem_cons.1 hp with e | hp
      · subst e
        have := List.all_eq_true.1 h1 (i, f) (by simp)
        simpa using this
      · exact k1 p hp
    · simp only [List.cons_append, pairsOk, Bool.and_eq_true]
      refine ⟨List.all_eq_true.2 fun p hp => List.all_eq_true.1 h1 p ?_, k2⟩
      rcases List.mem_append.1 hp with hp | hp
      · exact List.mem_append.2 (.inl hp)
      · exact List.mem_append.2 (.inr (List.mem_cons_of_mem _ hp))
theorem edge_back (he : edgesOk ops = true) {i : Nat} {o : Oper} (ho : ops[i]? = some o) {e : Edge} (hm : e ∈ o.after.toList) (hb : Region.binds .any e = true) : e.on < i := by
  simp only [edgesOk, Bool.and_eq_true] at he
  have hi : i < ops.size := by
    rcases Nat.lt_or_ge i ops.size with h | h
    · exact h
    · rw [Array.getElem?_eq_none h] at ho; cases ho
  have := List.all_eq_true.1 he.2 i (List.mem_range.2 hi)
  rw [ho] at this
  simp only [Bool.and_eq_true] at this
  have h6 := List.all_eq_true.1 this.1 e hm
  rw [hb] at h6
  simp only [Bool.not_true, Bool.false_or] at h6
  have := Nat.le_of_ble_eq_true h6
  omega
theorem ready_iff {listed : Array Bool} {i : Nat} : i ∈ Region.ready .any ops listed ↔ i < ops.size ∧ listed.getD i true = false ∧ ∃ o, ops[i]? = some o ∧ ∀ e ∈ o.after.toList, Region.binds .any e = true → listed.getD e.on false = true := by
  unfold Region.ready
  rw [List.mem_filter, List.mem_range]
  constructor
  · rintro ⟨h1, h2⟩
    simp only [Bool.and_eq_true, Bool.not_eq_true'] at h2
    refine ⟨h1, h2.1, ?_⟩
    cases ho : ops[i]? with
    | none => rw [ho] at h2; simp at h2
    | some o =>
      rw [ho] at h2
      refine ⟨o, rfl, fun e he hb => ?_⟩
      have h3 : (o.after.all fun e => !Region.binds .any e || listed.getD e.on false) = true := by simpa using h2.2
      rw [← Array.all_toList] at h3
      have := List.all_eq_true.1 h3 e he
      rw [hb] at this
      simpa using this
  · rintro ⟨h1, h2, o, h3, h4⟩
    refine ⟨h1, ?_⟩
    simp only [h2, Bool.not_false, Bool.true_and, h3, Option.map_some, Option.getD_some]
    rw [← Array.all_toList]
    refine List.all_eq_true.2 fun e he => ?_
    cases hb : Region.binds .any e with
    | false => rfl
    | true => simpa using h4 e he hb
theorem getD_agree {listed : Array Bool} {i : Nat} (h : i < listed.size) (a b : Bool) : listed.getD i a = listed.getD i b := by simp [Array.getD, h]
theorem any_ok (hE : EnvOk E) (hT : TysOk E P M.tys) (hC : CallStep P M callF C) (he : edgesOk ops = true) {t : St E} {Q : Exit → Act → World → Prop} (hQ : ∀ a' w', Holds C t a' w' → Q .normal a' w') :
    ∀ (fuel : Nat) (T : List (Nat × Foot)) (listed : Array Bool) (s : St E) (a : Act) (w : World), T.length ≤ fuel → listed.size = ops.size → (∀ i, i < ops.size → (listed.getD i true = false ↔ ∃ f, (i, f) ∈ T)) → (∀ p ∈ T, p.1 < ops.size) → T.Pairwise (fun a b => a.1 < b.1) →
      Down ops listed → pairsOk ops T = true → Clean s T → s.n < 100000 → Run M callF ops T s t → Holds C s a w → wpAny P .any ops Q fuel listed a w := by
  intro fuel
  induction fuel with
  | zero =>
    intro T listed s a w hlen hsz hT1 hT2 hsort hdown hpair hcl hn hrun hs
    have hTn : T = [] := by cases T with
      | nil => rfl
      | cons _ _ => simp at hlen
    subst hTn
    cases hrun
    refine ⟨?_, hQ a w hs⟩
    cases hr : Region.ready .any ops listed with
    | nil => rfl
    | cons i l =>
      have : i ∈ Region.ready .any ops listed := by rw [hr]; simp
      obtain ⟨h1, h2, _⟩ := ready_iff.1 this
      obtain ⟨f, hf⟩ := (hT1 i h1).1 h2
      simp at hf
  | succ fuel ih =>
    intro T listed s a w hlen hsz hT1 hT2 hsort hdown hpair hcl hn hrun hs
    refine ⟨fun hr => ?_, fun i hi => ?_⟩
    · cases T with
      | nil => cases hrun; exact hQ a w hs
      | cons p T =>
        exfalso
        obtain ⟨i, f⟩ := p
        have hi := hT2 (i, f) (by simp)
        have hl : listed.getD i true = false := (hT1 i hi).2 ⟨f, by simp⟩
        have : i ∈ Region.ready .any ops listed := by
          refine ready_iff.2 ⟨hi, hl, ops[i], by simp [hi], fun e hm hb => ?_⟩
          have hlt := edge_back he (by simp [hi] : ops[i]? = some ops[i]) hm hb
          have hsz2 : e.on < ops.size := by omega
          rw [getD_agree (by omega) false true]
          cases hh : listed.getD e.on true with
          | true => rfl
          | false =>
            obtain ⟨f', hf'⟩ := (hT1 e.on hsz2).1 hh
            rcases List.mem_cons.1 hf' with e' | hf'
            · injection e' with e1 _; omega
            · have := (List.pairwise_cons.1 hsort).1 _ hf'; simp at this; omega
        rw [hr] at this; simp at this
    · obtain ⟨h1, h2, o, ho, h4⟩ := ready_iff.1 hi
      obtain ⟨f, hf⟩ := (hT1 i h1).1 h2
      obtain ⟨A, B, hAB⟩ := List.append_of_mem hf
      subst hAB
      obtain ⟨p1, p2⟩ := pairs_split ops A i f B hpair
      have h4' : ∀ e ∈ o.after.toList, Region.binds .any e = true → listed.getD e.on true = true := fun e hm hb => by
        have := h4 e hm hb
        have hlt := edge_back he ho hm hb
        rw [getD_agree (by omega) true false]; exact this
      have hind : ∀ p ∈ A, indep p.2 f = true := by
        intro p hp
        rcases p1 p hp with h | h
        · exfalso
          have := anc_listed hdown ops.size i p.1 (fun o' ho' => by rw [ho] at ho'; injection ho' with e; subst e; exact h4') h
          have h5 := (hT1 p.1 (hT2 p (by simp [hp]))).2 ⟨p.2, by simp [hp]⟩
          rw [h5] at this; cases this
        · exact h
      obtain ⟨s2, m1, m2⟩ := move he A B i f s t hrun hsort hcl hind hn
      have hsub : ∀ p ∈ A ++ B, p ∈ A ++ (i, f) :: B := fun p hp => by
        rcases List.mem_append.1 hp with hp | hp
        · simp [hp]
        · simp [hp]
      have hclean := Clean.step he m1 m2.feet (fun p hp => hcl p (hsub p hp)) (fun o' j b ho' hg p hp e => by
        rw [ho] at ho'; injection ho' with e1; subst e1
        obtain ⟨_, e2, q1, q2, q3⟩ := guard_ahead he ho hg
        have h5 := h4' e2 q1 q2
        have h6 := (hT1 p.1 (hT2 p (hsub p hp))).2 ⟨p.2, hsub p hp⟩
        rw [e, ← q3, h5] at h6; cases h6)
      obtain ⟨so1, so2, so3⟩ := List.pairwise_append.1 hsort
      obtain ⟨so4, so5⟩ := List.pairwise_cons.1 so2
      refine step_wp hE hT hC m1 hs fun a' w' hs' => ?_
      refine ih (A ++ B) (listed.setIfInBounds i true) s2 a' w' (by simp at hlen ⊢; omega) (by simpa using hsz) (fun j hj => ?_) (fun p hp => hT2 p (hsub p hp)) (List.pairwise_append.2 ⟨so1, so5, fun x hx y hy => so3 x hx y (by simp [hy])⟩) (fun j o' ho' hl e hm hb => ?_) p2 hclean.1 (by rw [hclean.2]; exact hn) m2 hs'
      · by_cases hji : j = i
        · subst hji
          constructor
          · intro h
            exfalso
            rw [Array.getD_eq_getD_getElem?, Array.getElem?_setIfInBounds_self_of_lt (by omega)] at h
            simp at h
          · rintro ⟨f', hf'⟩
            exfalso
            rcases List.mem_append.1 hf' with hf' | hf'
            · have := so3 _ hf' (j, f) (by simp); simp at this
            · have := so4 _ hf'; simp at this
        · have hgd : (listed.setIfInBounds i true).getD j true = listed.getD j true := by
            simp [Array.getD_eq_getD_getElem?, Array.getElem?_setIfInBounds_ne (show i ≠ j from fun e => hji e.symm)]
          rw [hgd, hT1 j hj]
          constructor
          · rintro ⟨f', hf'⟩
            refine ⟨f', ?_⟩
            rcases List.mem_append.1 hf' with hf' | hf'
            · exact List.mem_append.2 (.inl hf')
            · rcases List.mem_cons.1 hf' with e | hf'
              · injection e with e1 _; exact absurd e1 hji
              · exact List.mem_append.2 (.inr hf')
          · rintro ⟨f', hf'⟩
            exact ⟨f', hsub _ hf'⟩
      · have key : ∀ k, listed.getD k true = true → (listed.setIfInBounds i true).getD k true = true := by
          intro k hk
          by_cases hki : k = i
          · subst hki
            rw [Array.getD_eq_getD_getElem?, Array.getElem?_setIfInBounds_self_of_lt (by omega)]; rfl
          · rw [Array.getD_eq_getD_getElem?, Array.getElem?_setIfInBounds_ne (fun e => hki e.symm), ← Array.getD_eq_getD_getElem?]; exact hk
        refine key _ ?_
        by_cases hji : j = i
        · subst hji
          rw [ho] at ho'; injection ho' with e1; subst e1
          exact h4' e hm hb
        · refine hdown j o' ho' ?_ e hm hb
          rw [Array.getD_eq_getD_getElem?, Array.getElem?_setIfInBounds_ne (fun e => hji e.symm), ← Array.getD_eq_getD_getElem?] at hl
          exact hl
theorem lk_mem {α : Type} : ∀ (l : List (Nat × α)) (n : Nat) (v : α), lk l n = some v → (n, v) ∈ l
  | [], n, v, h => by simp [lk] at h
  | (k, u) :: r, n, v, h => by
    rw [lk_cons] at h
    split at h
    · rename_i e; subst e; injection h with h; subst h; simp
    · exact List.mem_cons_of_mem _ (lk_mem r n v h)
theorem drawOk (hE : EnvOk E) (hT : TysOk E P M.tys) (hC : CallStep P M callF C) (hm : P.follows .mixedOrders = true) : DrawOk P M callF C := by
  intro id ops s a w k r Q he hen h hs hk
  obtain ⟨φ, t, h1, h2, h3, h4⟩ := run_of (ops := ops) ops.toList 0 [] s (fun j => by simp) h
  simp only [List.nil_append] at h3
  refine wp_region_any hm ?_
  have hidx : ∀ p ∈ φ, p.1 < ops.size := by
    intro p hp
    have : p.1 ∈ φ.map (·.1) := List.mem_map.2 ⟨p, hp, rfl⟩
    rw [h2, List.mem_range'] at this
    obtain ⟨q, hq, e⟩ := this
    simp at hq; omega
  obtain ⟨hd, A, okS, I⟩ := hs
  have I' := (I.world (w' := { w with drawn := w.drawn + 1 }) rfl rfl rfl rfl).1
  refine any_ok hE hT hC he (fun a' w' hs' => hk t a' w' hs' h4) ops.size φ _ s a _ ?_ (by simp) (fun i hi => ?_) hidx ?_ (fun i o ho hl => ?_) h3 (fun p hp x q hq e => ?_) I.small h1 ⟨hd, A, okS, I'⟩
  · have : (φ.map (·.1)).length = ops.toList.length := by rw [h2]; simp
    simpa using Nat.le_of_eq this
  · constructor
    · intro _
      have : i ∈ φ.map (·.1) := by rw [h2, List.mem_range']; exact ⟨i, by simpa using hi, by omega⟩
      obtain ⟨p, hp, e⟩ := List.mem_map.1 this
      exact ⟨p.2, by rw [← e]; exact hp⟩
    · intro _
      simp [Array.getD, hi]
  · have : (φ.map (·.1)).Pairwise (· < ·) := by rw [h2]; exact List.pairwise_lt_range'
    exact List.pairwise_map.1 this
  · exfalso
    have hi : i < ops.size := by
      rcases Nat.lt_or_ge i ops.size with h | h
      · exact h
      · rw [Array.getElem?_eq_none h] at ho; cases ho
    simp [Array.getD, hi] at hl
  · obtain ⟨o, ho, hdo⟩ := h1.feet p hp
    rw [hdo] at e
    have hslot : ∃ v, lk s.sl x = some v ∧ s.slot x = v := by
      unfold St.slot at hq ⊢
      cases hl : lk s.sl x with
      | none => rw [hl] at hq; simp [glDeps] at hq
      | some v => exact ⟨v, rfl, rfl⟩
    obtain ⟨v, hl, hv⟩ := hslot
    rw [hv] at hq
    have h5 := List.all_eq_true.1 hen _ (lk_mem _ _ _ hl)
    have h6 := List.all_eq_true.1 h5 q hq
    have h7 := List.all_eq_true.1 h6 o (List.mem_of_getElem? (i := p.1) (by simpa using ho))
    rw [e] at h7
    simp at h7
end
end Go.Proofs.AM

namespace Go.Proofs.AM
open Go Go.RowKit
variable {E : Env}
inductive Tr.AllP {α : Type} (f : Nat → α → Prop) : Tr α → Prop where
  | leaf : Tr.AllP f .leaf
  | node {k : Nat} {v : α} {l r : Tr α} : f k v → Tr.AllP f l → Tr.AllP f r → Tr.AllP f (.node k v l r)
theorem Tr.AllP.find {α : Type} {f : Nat → α → Prop} : ∀ {t : Tr α} {n : Nat} {v : α}, t.AllP f → t.find n = some v → f n v := by
  intro t
  induction t with
  | leaf => intro n v _ h; cases h
  | node k w l r ihl ihr =>
    intro n v ha h
    cases ha with
    | node h0 h1 h2 =>
      simp only [Tr.find] at h
      cases hb : Nat.beq n k with
      | true =>
        rw [hb] at h; simp at h; subst h
        rw [Nat.eq_of_beq_eq_true hb]; exact h0
      | false =>
        rw [hb] at h
        simp only [cond_false] at h
        cases hc : Nat.ble n k with
        | true => rw [hc] at h; exact ihl h1 h
        | false => rw [hc] at h; exact ihr h2 h
theorem mOk {P : Program} {M : Mach E} (hE : EnvOk E) (hT : Tr.all (tiOk E P M.tys) M.tys = true)
    (hone : Tr.all (fun f sg => !E.one f || (match sg.rs with | [(a, ps)] => !(a == Nat.beq (sizeOfPs E ps) 1) | _ => false)) M.sigs = true)
    (hf : Tr.AllP (fun f fn => P.funcs[f]? = some fn) M.fns) (hn : Tr.all (fun _ fn => !(fn.name == "runtime.NumGoroutine")) M.fns = true)
    (hx : ∀ f g, M.ext.find f = some g → ∀ as r, g as = some r → FnOk1 P M f as r) (hm : P.follows .mixedOrders = true) : MOk P M := by
  have h1 : OneOk M := by
    intro f sg ho hs
    have := Tr.all_find hone hs
    simp only [ho, Bool.not_true, Bool.false_or] at this
    split at this
    · rename_i a ps he; exact ⟨a, ps, he, by simpa using this⟩
    · cases this
  exact {
    tys := tysOk_of hT
    one := h1
    fns := fun f fn h => ⟨hf.find h, by have := Tr.all_find hn h; simpa using this⟩
    ext := hx
    draw := fun k C hF => drawOk hE (tysOk_of hT) (callStep hE h1 hF) hm }
end Go.Proofs.AM

namespace Go.Proofs.AM
open Go Go.RowKit
variable {E : Env}
inductive Good (E : Env) : (t : Ty) → den E.Γ t → Prop where
  | unit : Good E .unit ()
  | int {k : IntKind} {n : Int} : (Lit.int k n).wf = true → Good E (.int k) n
  | bool {b : Bool} : Good E .bool b
  | str {s : ByteArray} : s.size ≤ reachBytes → Good E .str s
  | slice {t : Ty} {xs : List (den E.Γ t)} : xs.length ≤ reachBytes → (∀ i (h : i < xs.length), Good E t xs[i]) → Good E (.slice t) xs
  | pair {a b : Ty} {x : den E.Γ a} {y : den E.Γ b} : Good E a x → Good E b y → Good E (.pair a b) (x, y)
  | nom {n : Nat} {x : E.Γ n} : Good E (E.row n) (E.op n x) → Good E (.nom n) x
def tysL (E : Env) (P : Program) (tys : Tr TI) : List (Nat × TypeId) → Nat → Option (List Ty)
  | [], _ => some []
  | f :: r, off => match tys.find f.2 with
    | some tf => cond (f.1 == off && (!(tf.ty == .unit) && P.cellsOf f.2 == nc E tf.ty)) ((tysL E P tys r (off + nc E tf.ty)).map (tf.ty :: ·)) none
    | none => none
def rowTy (E : Env) : Ty → Ty
  | .nom n => E.row n
  | t => t
def partsOk (E : Env) (P : Program) (tys : Tr TI) (t : TypeId) (ti : TI) (l : List (Nat × TypeId)) : Bool :=
  P.cellsOf t == nc E ti.ty && (match tysL E P tys l 0 with | some ts => rowTy E ti.ty == tyL ts | none => false)
def tyKind (E : Env) (P : Program) (tys : Tr TI) (t : TypeId) (ti : TI) : Bool :=
  ti.ty == .unit || (match P.underlying t with
    | some (.int k) => ti.ty == .int k
    | some .bool => ti.ty == .bool
    | some .string => ti.ty == .str
    | some (.slice e) => (match tys.find e with | some te => ti.ty == .slice te.ty && (!(te.ty == .unit) && (P.cellsOf e == nc E te.ty && (!(nc E te.ty == 0) && !(P.bytesOf e == 0)))) | none => false)
    | some (.struct fs) => partsOk E P tys t ti (fs.toList.map fun f => (f.offset, f.type))
    | some (.array n e) => partsOk E P tys t ti ((List.range n).map fun i => (i * P.cellsOf e, e))
    | _ => false)
section
variable {H : Type} {enc : TypeId × Value → H} {P : Program} {W : World} {tys : Tr TI}
theorem mapM_map_pair {α β γ : Type} (g : α → β) (f : β → Option γ) (l : List α) : (l.map g).mapM f = l.mapM fun x => f (g x) := by
  induction l with
  | nil => rfl
  | cons a r ih => simp only [List.map_cons, List.mapM_cons, ih]
theorem weightsAll_mem {e : TypeId} : ∀ {l : List (DataW H)} {d : DataW H}, d ∈ l → ∀ n ∈ d.weights P e, n ∈ DataW.weightsAll P e l
  | a :: l, d, hd, n, hn => by
    simp only [DataW.weightsAll, List.mem_append]
    rcases List.mem_cons.1 hd with h | h
    · subst h; exact .inl hn
    · exact .inr (weightsAll_mem h n hn)
def Light (P : Program) (l : List (Nat × TypeId)) (xs : List (DataW H × List MemPlace)) : Prop := ∀ p ∈ l.zip xs, ∀ n ∈ p.2.1.weights P p.1.2, n ≤ reachBytes
theorem light_each : ∀ (l : List (Nat × TypeId)) (xs : List (DataW H × List MemPlace)), (∀ n ∈ DataW.weightsEach P (l.map (·.2)) (xs.map (·.1)), n ≤ reachBytes) → Light P l xs
  | [], _, _ => by intro p hp; simp at hp
  | _ :: _, [], _ => by intro p hp; simp at hp
  | f :: l, x :: xs, h => by
    intro p hp n hn
    simp only [List.map_cons, DataW.weightsEach, List.mem_append] at h
    simp only [List.zip_cons_cons, List.mem_cons] at hp
    rcases hp with hp | hp
    · subst hp; exact h n (.inl hn)
    · exact light_each l xs (fun n hn => h n (.inr hn)) p hp n hn
theorem light_all {e : TypeId} : ∀ (l : List (Nat × TypeId)) (xs : List (DataW H × List MemPlace)), (∀ f ∈ l, f.2 = e) → (∀ n ∈ DataW.weightsAll P e (xs.map (·.1)), n ≤ reachBytes) → Light P l xs := by
  intro l xs hl h p hp n hn
  obtain ⟨h1, h2⟩ := List.of_mem_zip hp
  refine h n (weightsAll_mem (List.mem_map.2 ⟨p.2, h2, rfl⟩) n ?_)
  rw [← hl _ h1]; exact hn
abbrev Read (E : Env) (W : World) (ty : Ty) (cs : List Value) : Prop :=
  cs.length = nc E ty ∧ ∃ x, RepD E W (fun b _ => b < W.heap.size) ty x cs ∧ Good E ty x
theorem parts_read {fuel : Nat} (ih : ∀ t ti cs x, tys.find t = some ti → ti.ty ≠ .unit → DataW.trod enc P W 0 (fun _ => true) true fuel t cs = some x → (∀ n ∈ x.1.weights P t, n ≤ reachBytes) → Read E W ti.ty cs) :
    ∀ (l : List (Nat × TypeId)) (off : Nat) (ts : List Ty) (cs : List Value) (xs : List (DataW H × List MemPlace)), tysL E P tys l off = some ts → cs.length = off + nc E (tyL ts) →
      (l.mapM fun f => DataW.trod enc P W 0 (fun _ => true) true fuel f.2 ((cs.drop f.1).take (P.cellsOf f.2))) = some xs → Light P l xs →
      ∃ x, RepD E W (fun b _ => b < W.heap.size) (tyL ts) x (cs.drop off) ∧ Good E (tyL ts) x
  | [], off, ts, cs, xs, h, hl, hx, _ => by
    simp only [tysL] at h; injection h with h; subst h
    have : cs.drop off = [] := List.drop_eq_nil_of_le (by simp only [tyL, nc] at hl; omega)
    rw [this]
    exact ⟨(), .unit, .unit⟩
  | f :: r, off, ts, cs, xs, h, hl, hx, hw => by
    simp only [tysL] at h
    split at h
    · rename_i tf hf
      cases hc : (f.1 == off && (!(tf.ty == .unit) && P.cellsOf f.2 == nc E tf.ty)) with
      | false => rw [hc] at h; cases h
      | true =>
        rw [hc] at h
        simp only [cond_true, Option.map_eq_some_iff] at h
        obtain ⟨ts', h1, h2⟩ := h
        subst h2
        simp only [Bool.and_eq_true, beq_iff_eq, Bool.not_eq_true', beq_eq_false_iff_ne] at hc
        obtain ⟨c1, c2, c3⟩ := hc
        rw [List.mapM_cons] at hx
        cases hy : DataW.trod enc P W 0 (fun _ => true) true fuel f.2 ((cs.drop f.1).take (P.cellsOf f.2)) with
        | none => simp [hy] at hx
        | some y =>
          rw [hy] at hx
          cases hz : r.mapM (fun f => DataW.trod enc P W 0 (fun _ => true) true fuel f.2 ((cs.drop f.1).take (P.cellsOf f.2))) with
          | none => simp [hz] at hx
          | some zs =>
            rw [hz] at hx
            have hx : y :: zs = xs := Option.some.inj hx
            subst hx
            obtain ⟨e1, x, e2, e3⟩ := ih f.2 tf _ y hf c2 hy (hw (f, y) (by simp))
            rw [c1, c3] at e1 e2
            cases ts' with
            | nil =>
              simp only [tyL] at hl ⊢
              rw [List.take_of_length_le (by rw [List.length_drop]; omega)] at e2
              exact ⟨x, e2, e3⟩
            | cons t2 r2 =>
              have hl' : cs.length = off + nc E tf.ty + nc E (tyL (t2 :: r2)) := by simp only [tyL, nc] at hl ⊢; omega
              obtain ⟨z, z1, z2⟩ := parts_read ih r (off + nc E tf.ty) (t2 :: r2) cs zs h1 hl' hz (fun p hp => hw p (by simp [hp]))
              refine ⟨(x, z), ?_, .pair e3 z2⟩
              have := RepD.pair e2 z1
              rw [← List.drop_drop, List.take_append_drop] at this
              exact this
    · cases h
theorem of_row {ty tt : Ty} {cs : List Value} (h : rowTy E ty = tt) (hx : ∃ y, RepD E W (fun b _ => b < W.heap.size) tt y cs ∧ Good E tt y) : ∃ x, RepD E W (fun b _ => b < W.heap.size) ty x cs ∧ Good E ty x := by
  subst h
  obtain ⟨y, h1, h2⟩ := hx
  cases ty with
  | nom n =>
    have key : ∀ z : den E.Γ (E.row n), RepD E W (fun b _ => b < W.heap.size) (E.row n) z cs → Good E (E.row n) z → ∃ x, RepD E W (fun b _ => b < W.heap.size) (.nom n) x cs ∧ Good E (.nom n) x :=
      fun z z1 z2 => ⟨E.cl n z, .nom (by rw [E.opcl]; exact z1), .nom (by rw [E.opcl]; exact z2)⟩
    exact key y h1 h2
  | _ => exact ⟨y, h1, h2⟩
theorem slice_read {fuel : Nat} (ih : ∀ t ti cs x, tys.find t = some ti → ti.ty ≠ .unit → DataW.trod enc P W 0 (fun _ => true) true fuel t cs = some x → (∀ n ∈ x.1.weights P t, n ≤ reachBytes) → Read E W ti.ty cs)
    {e : TypeId} {te : TI} (hte : tys.find e = some te) (hun : te.ty ≠ .unit) (hc : P.cellsOf e = nc E te.ty) (hne : nc E te.ty ≠ 0) (hby : P.bytesOf e ≠ 0) {t : TypeId} (hu : P.underlying t = some (.slice e)) {a : Addr} {len cap : Nat} (hcap : len ≤ cap) (hmax : cap ≤ maxLen) {x : DataW H × List MemPlace}
    (h : (((List.range len).mapM fun i => (W.cells? 0 (a.add (i * P.cellsOf e)) (P.cellsOf e)).bind (DataW.trod enc P W 0 (fun _ => true) true fuel e)).bind fun elems =>
          (if (true = true) then (List.range (cap - len)).mapM fun j => (W.cells? 0 (a.add ((len + j) * P.cellsOf e)) (P.cellsOf e)).bind (DataW.trod enc P W 0 (fun _ => true) true fuel e) else some []).map fun rest =>
            (DataW.slice (elems.map (·.1)) (rest.map (·.1)), MemPlace.row a ((elems.length + rest.length) * P.cellsOf e) ++ (elems ++ rest).flatMap (·.2))) = some x) (hw : ∀ n ∈ x.1.weights P t, n ≤ reachBytes) :
    ∃ x, RepD E W (fun b _ => b < W.heap.size) (.slice te.ty) x [.slice (some a) len cap] ∧ Good E (.slice te.ty) x := by
  rw [Option.bind_eq_some_iff] at h
  obtain ⟨elems, h1, h2⟩ := h
  simp only [if_true, Option.map_eq_some_iff] at h2
  obtain ⟨rest, h2, hxe⟩ := h2
  subst hxe
  have hlen1 := mapM_some_length h1
  rw [List.length_range] at hlen1
  simp only [DataW.weights, hu, List.mem_cons, List.mem_append] at hw
  have hsz : len ≤ reachBytes := by
    have := hw _ (.inl rfl)
    simp only [List.length_map] at this
    rw [hlen1] at this
    exact Nat.le_trans (Nat.le_trans (Nat.le_add_right _ _) (Nat.le_mul_of_pos_right _ (Nat.pos_of_ne_zero hby))) this
  have hwe : ∀ y ∈ elems, ∀ n ∈ y.1.weights P e, n ≤ reachBytes := fun y hy n hn => hw n (.inr (.inl (weightsAll_mem (List.mem_map.2 ⟨y, hy, rfl⟩) n hn)))
  have hone : ∀ i, (i < len ∨ (len ≤ i ∧ i < cap)) → ∃ (cs : List Value) (y : DataW H × List MemPlace), W.cells? 0 (a.add (i * P.cellsOf e)) (P.cellsOf e) = some cs ∧ DataW.trod enc P W 0 (fun _ => true) true fuel e cs = some y ∧ (i < len → y ∈ elems) := by
    intro i hi
    rcases hi with hi | ⟨hi, hi2⟩
    · have := mapM_some_get h1 i i (by simp [hi])
      have hl := mapM_some_length h1
      rw [List.length_range] at hl
      rw [List.getElem?_eq_getElem (by omega), Option.bind_eq_some_iff] at this
      obtain ⟨cs, c1, c2⟩ := this
      exact ⟨cs, _, c1, c2, fun _ => List.getElem_mem _⟩
    · have := mapM_some_get h2 (i - len) (i - len) (by rw [List.getElem?_range (by omega)])
      have hl := mapM_some_length h2
      rw [List.length_range] at hl
      rw [List.getElem?_eq_getElem (by omega), Option.bind_eq_some_iff] at this
      obtain ⟨cs, c1, c2⟩ := this
      rw [show len + (i - len) = i by omega] at c1
      exact ⟨cs, _, c1, c2, fun h => by omega⟩
  rw [hc] at hone
  by_cases hz : cap = 0
  · have : len = 0 := by omega
    subst this; subst hz
    exact ⟨[], .nil (some a), .slice (by simp) (fun i hi => by simp at hi)⟩
  ·
    obtain ⟨cs0, y0, h0, _⟩ := hone 0 (by omega)
    obtain ⟨_, l0, l1⟩ := World.cells?_some h0
    have l2 := l1 0 (by omega)
    rw [List.getElem?_eq_getElem (by omega)] at l2
    have hp : a.spot = none := by
      have := World.cell?_spot l2
      simpa [Addr.add] using this
    obtain ⟨b, off, sp⟩ := a
    simp only at hp; subst hp
    have hb : b < W.heap.size := by
      simp only [Nat.zero_mul, add_plain] at l2
      unfold World.cell? at l2
      split at l2
      · rename_i hb
        exact (Array.getElem?_eq_some_iff.1 hb).1
      · cases l2
    have hall : ∀ i : Nat, ∃ p : List Value × den E.Γ te.ty, i < len → p.1.length = nc E te.ty ∧ (∀ j, j < nc E te.ty → W.cell? ⟨b, off + i * nc E te.ty + j, none⟩ = p.1[j]?) ∧ RepD E W (fun b _ => b < W.heap.size) te.ty p.2 p.1 ∧ Good E te.ty p.2 := by
      intro i
      by_cases hi : i < len
      · obtain ⟨cs, y, c1, c2, c3⟩ := hone i (.inl hi)
        obtain ⟨e1, z, e2, e3⟩ := ih e te cs y hte hun c2 (hwe y (c3 hi))
        obtain ⟨_, _, f2⟩ := World.cells?_some c1
        refine ⟨(cs, z), fun _ => ⟨e1, fun j hj => ?_, e2, e3⟩⟩
        have := f2 j hj
        rw [add_plain, add_plain] at this
        exact this
      · exact ⟨([], dflt E te.ty), fun h => absurd h hi⟩
    obtain ⟨g, hg⟩ := Classical.axiomOfChoice hall
    have hlen : ((List.range len).map fun i => (g i).2).length = len := by simp
    refine ⟨(List.range len).map fun i => (g i).2, ?_, .slice (by rw [hlen]; exact hsz) (fun i hi => ?_)⟩
    · have := RepD.slice (E := E) (w := W) (ok := fun b _ => b < W.heap.size) (t := te.ty) b off cap ((List.range len).map fun i => (g i).2) (fun i => (g i).1) (fun _ _ => hb) (by rw [hlen]; exact hcap) hb
        (fun i hi => ⟨(hg i (by rw [hlen] at hi; exact hi)).1, (hg i (by rw [hlen] at hi; exact hi)).2.1⟩)
        (fun i hi => by simp only [List.getElem_map, List.getElem_range]; exact (hg i (by rw [hlen] at hi; exact hi)).2.2.1)
      rw [hlen] at this
      exact this
    · simp only [List.getElem_map, List.getElem_range]
      exact (hg i (by rw [hlen] at hi; exact hi)).2.2.2
theorem trod_read (hE : EnvOk E) (hT : Tr.all (tyKind E P tys) tys = true) : ∀ (fuel : Nat) (t : TypeId) (ti : TI) (cs : List Value) (x : DataW H × List MemPlace),
    tys.find t = some ti → ti.ty ≠ .unit → DataW.trod enc P W 0 (fun _ => true) true fuel t cs = some x → (∀ n ∈ x.1.weights P t, n ≤ reachBytes) → Read E W ti.ty cs
  | 0, _, _, _, _, _, _, h, _ => by simp [DataW.trod] at h
  | fuel + 1, t, ti, cs, x, hf, hu, h, hw => by
    have ih := trod_read hE hT fuel
    have hk := Tr.all_find hT hf
    unfold tyKind at hk
    simp only [Bool.or_eq_true, beq_iff_eq, hu, false_or] at hk
    have fin : ∀ l : List (Nat × TypeId), partsOk E P tys t ti l = true → cs.length = P.cellsOf t → (∃ xs, (l.mapM fun f => DataW.trod enc P W 0 (fun _ => true) true fuel f.2 ((cs.drop f.1).take (P.cellsOf f.2))) = some xs ∧ Light P l xs) → Read E W ti.ty cs := by
      intro l hp hl ⟨xs, hx, hlt⟩
      unfold partsOk at hp
      simp only [Bool.and_eq_true, beq_iff_eq] at hp
      obtain ⟨p1, p2⟩ := hp
      split at p2
      · rename_i ts hts
        simp only [beq_iff_eq] at p2
        have hn : nc E ti.ty = nc E (rowTy E ti.ty) := by
          cases ti.ty with
          | nom n => exact (hE.flat n).symm
          | _ => rfl
        rw [p2] at hn
        obtain ⟨y, y1, y2⟩ := parts_read ih l 0 ts cs xs hts (by rw [hl, p1, hn]; omega) hx hlt
        rw [List.drop_zero] at y1
        exact ⟨by rw [hl, p1], of_row p2 ⟨y, y1, y2⟩⟩
      · cases p2
    rw [DataW.trod_step] at h
    unfold DataW.trodStep at h
    split at h
    case h_1 hT' => simp only [hT', beq_iff_eq] at hk; rw [hk]; exact ⟨rfl, _, .bool _, .bool⟩
    case h_2 hT' =>
      simp only [hT', beq_iff_eq] at hk; rw [hk]
      split at h
      · rename_i hc; obtain ⟨hc1, hc2⟩ := hc; subst hc1; exact ⟨rfl, _, .int _ _, .int hc2⟩
      · cases h
    case h_4 hT' =>
      simp only [hT', beq_iff_eq] at hk; rw [hk]
      split at h
      · rename_i hc
        injection h with h; subst h
        exact ⟨rfl, _, .str _, .str (by
          have := hw _ (List.mem_singleton.2 rfl)
          rw [Array.length_toList] at this
          exact this)⟩
      · cases h
    case h_7 hT' =>
      simp only [hT'] at hk
      split at hk
      · rename_i te hte
        simp only [Bool.and_eq_true, beq_iff_eq] at hk
        rw [hk.1]
        exact ⟨rfl, _, .nil none, .slice (by simp) (fun i hi => by simp at hi)⟩
      · cases hk
    case h_8 e a len cap hT' =>
      simp only [hT'] at hk
      split at hk
      · rename_i te hte
        simp only [Bool.and_eq_true, beq_iff_eq, Bool.not_eq_true', beq_eq_false_iff_ne] at hk
        obtain ⟨k1, k2, k3, k4, k5⟩ := hk
        rw [k1]
        refine ⟨rfl, ?_⟩
        simp only at h
        split at h
        · rename_i hc
          exact slice_read ih hte k2 k3 k4 k5 hT' hc.2.1 hc.2.2 h hw
        · cases h
      · cases hk
    case h_9 hT' =>
      simp only [hT'] at hk
      split at h
      · rename_i hl
        simp only [Option.map_eq_some_iff] at h
        obtain ⟨xs, hx, he⟩ := h
        subst he
        simp only [DataW.weights, hT'] at hw
        exact fin _ hk hl ⟨xs, by rw [mapM_map_pair]; exact hx, light_each _ _ (by simpa [List.map_map, Function.comp_def] using hw)⟩
      · cases h
    case h_10 hT' =>
      simp only [hT'] at hk
      split at h
      · rename_i hl
        simp only [Option.map_eq_some_iff] at h
        obtain ⟨xs, hx, he⟩ := h
        subst he
        simp only [DataW.weights, hT'] at hw
        exact fin _ hk hl ⟨xs, by rw [mapM_map_pair]; exact hx, light_all _ _ (fun f hf => by obtain ⟨i, _, rfl⟩ := List.mem_map.1 hf; rfl) hw⟩
      · cases h
    all_goals first | (cases h; done) | (exfalso; rename P.underlying t = _ => hT'; simp [hT'] at hk)
end
end Go.Proofs.AM

namespace Go.Proofs.AM
open Go Go.RowKit Go.ChangeShapes Go.WideShapes
variable {E : Env}
def entV : Nat → List (Dt E) → List (Nat × SV E)
  | _, [] => []
  | q, d :: r => (q, svOf d.1 d.2) :: entV (q + 1) r
theorem enter_vals : ∀ (as : List (Dt E)) (q : Nat), enter q (as.map fun d => Arg.val d.1 d.2) = some (entV q as, [])
  | [], _ => rfl
  | d :: r, q => by simp only [List.map_cons, enter, enter_vals r (q + 1), entV]
theorem outsOf_vals : ∀ (as : List (Dt E)) (q : Nat), outsOf q (as.map fun d => Arg.val d.1 d.2) = []
  | [], _ => rfl
  | d :: r, q => by simp only [List.map_cons, outsOf, outsOf_vals r (q + 1)]
def ArgR (E : Env) (W : World) (d : Dt E) (v : Value) : Prop :=
  RepD E W (fun b _ => b < W.heap.size) d.1 d.2 v.cells.toList ∧ ((∃ vs : List Value, v = .agg vs.toArray ∧ vs.length ≠ 1) ∨ v.oneCell' = true)
def fcOf (W : World) : FC := { w0 := W, rw := fun _ => False, okS := fun b _ => b < W.heap.size, okP := fun _ => False, A0 := ⟨fun _ => none, fun _ => 0⟩ }
structure Same (W W' : World) : Prop where
  os : W'.os = W.os
  output : W'.output = W.output
  size : W.heap.size ≤ W'.heap.size
  heap : ∀ b, b < W.heap.size → W'.heap[b]? = W.heap[b]?
theorem entV_lk (hE : EnvOk E) {W : World} {A : Asg} {ob : Obs E} {tm : Array Value} : ∀ (as : List (Dt E)) (vs : List Value) (q : Nat), All2 (ArgR E W) as vs → ∀ (n : Nat) (sv : SV E), lk (entV q as) n = some sv →
    ∃ v, q ≤ n ∧ vs[n - q]? = some v ∧ RepSV W (fun b _ => b < W.heap.size) (fun _ => False) ob A tm sv v
  | [], vs, q, _, n, sv, h => by simp [entV, lk] at h
  | d :: r, vs, q, hA, n, sv, h => by
    cases hA with
    | cons hd hr =>
      rename_i v vs
      simp only [entV] at h
      rw [lk_cons] at h
      split at h
      · rename_i hi
        subst hi
        injection h with h; subst h
        exact ⟨v, Nat.le_refl _, by simp, svOf_rep hE hd.1 hd.2⟩
      · obtain ⟨u, h1, h2, h3⟩ := entV_lk hE r vs (q + 1) hr n sv h
        refine ⟨u, by omega, ?_, h3⟩
        have : n - q = (n - (q + 1)) + 1 := by omega
        rw [this]; simpa using h2
theorem inv_start (hE : EnvOk E) {W : World} {as : List (Dt E)} {vs : List Value} (hA : All2 (ArgR E W) as vs) (n : Nat) (hn : vs.length ≤ n) (hs : n < 100000) :
    Inv (fcOf W) ({ n := n, sl := entV 0 as, ob := [] } : St E) (fcOf W).A0 (fcOf W).okS (pad vs n) W where
  os := rfl
  tape := rfl
  output := rfl
  size := Nat.le_refl _
  block := fun _ _ _ => rfl
  okLt := fun _ _ h => h
  okSub := fun _ _ h => .inl h
  okPLt := fun _ h => h.elim
  obj := fun n g o h => by simp [lk] at h
  own := fun n g o b h => by simp [lk] at h
  inj := fun n m g h o p b h1 => by simp [lk] at h1
  sl := fun i sv h => by
    obtain ⟨v, _, h2, h3⟩ := entV_lk (A := (fcOf W).A0) (ob := []) (tm := pad vs n) hE as vs 0 hA i sv h
    have : (pad vs n).getD i undef = v := by
      rw [Nat.sub_zero] at h2
      have hi : i < vs.length := by
        rcases Nat.lt_or_ge i vs.length with h | h
        · exact h
        · rw [List.getElem?_eq_none h] at h2; cases h2
      rw [List.getElem?_eq_getElem hi] at h2
      injection h2 with h2
      unfold pad
      rw [Array.getD_eq_getD_getElem?, Array.getElem?_append_left (by simpa using hi)]
      simp [hi, h2]
    rw [this]; exact h3
  tmps := by simp [pad]; omega
  small := hs
  pin := fun n g o _ h => by simp [lk] at h
theorem bool_post {C : FC} {A : Asg} {W' : World} {v : Value} {b : Bool} {rs : List (Bool × List (Ty × Bool))} {os : List OutP} (hrs : rs = [(false, [(Ty.bool, false)])]) (hos : os = [])
    {x : den E.Γ (tyL (piecesTy (resPieces rs ++ outsPs os)))} (hx : (⟨.bool, b⟩ : Dt E) = ⟨tyL (piecesTy (resPieces rs ++ outsPs os)), x⟩)
    (hp : Post C A rs os (unL E _ x) v W') : v = .bool b ∧ ∃ ok bs, Fr C ok bs W' := by
  subst hrs; subst hos
  have hx : (⟨.bool, b⟩ : Dt E) = ⟨.bool, x⟩ := hx
  injection hx with _ hx
  subst hx
  obtain ⟨ok, ds1, ds2, l, bs1, hs, bs2, hds, hR, hV, hO, hF⟩ := hp
  have hds : [(⟨.bool, b⟩ : Dt E)] = ds1 ++ ds2 := hds
  refine ⟨?_, _, _, hF⟩
  cases hO
  rw [List.append_nil] at hds
  subst hds
  generalize hD : [(⟨.bool, b⟩ : Dt E)] = D at hR
  cases hR with
  | cons hP hR' =>
    cases hR'
    cases hP with
    | imm hd hP' =>
      cases hP'
      rw [List.append_nil] at hD
      injection hD with hD _
      injection hD with _ hD
      subst hD
      cases hd
      have hV : [Value.bool b] = [v] := hV
      injection hV with hV _
      exact hV.symm
theorem law_calls (hE : EnvOk E) {P : Program} {M : Mach E} (hM : MOk P M) {f : FuncId} {fn : Func} {c : Code} (hf : P.funcs[f]? = some fn) (hn : (fn.name == "runtime.NumGoroutine") = false) (hb : fn.body = some c)
    {sg : Sig} (hsg : M.sigs.find f = some sg) (hrs : sg.rs = [(false, [(.bool, false)])]) {W : World} {as : List (Dt E)} {vs : List Value} (hA : All2 (ArgR E W) as vs) {k : Nat} {b : Bool}
    (h : run M k f (as.map fun d => Arg.val d.1 d.2) = some ⟨.bool, b⟩) :
    Calls P f vs.toArray W fun e W' => ∃ v, e = .returned v ∧ v = .bool b ∧ Same W W' := by
  obtain ⟨sg', hsg', H⟩ := fnOk hE hM k f _ _ h
  rw [hsg] at hsg'; injection hsg' with hsg'; subst hsg'
  have hlen : vs.length = (as.map fun d => Arg.val (E := E) d.1 d.2).length := by simp [hA.length]
  have := H (fcOf W) (fcOf W).A0 _ _ vs (enter_vals as 0) hlen rfl (fun n h1 h2 => inv_start hE hA n h1 h2)
  unfold CallsF at this
  rw [show (fcOf W).w0 = W from rfl, run_callF hf hn hb] at this
  refine this.mono fun e w' ⟨v, he, x, hx, hp⟩ => ⟨v, he, ?_⟩
  obtain ⟨h1, ok, bs, hF⟩ := bool_post hrs (outsOf_vals as 0) hx hp
  exact ⟨h1, hF.os, hF.output, hF.size, fun b hb => hF.block b hb (fun h => h)⟩
section
variable {H : Type} {enc : TypeId × Value → H} {P : Program}
def argTy (P : Program) (tys : Tr TI) (t : TypeId) : Bool :=
  (match tys.find t with | some ti => !(ti.ty == .unit) | none => false) && (match P.underlying t with | some (.struct _) => !(P.cellsOf t == 1) | some (.array _ _) => !(P.cellsOf t == 1) | _ => true)
theorem arg_read (hE : EnvOk E) {tys : Tr TI} (hT : Tr.all (tyKind E P tys) tys = true) {W : World} {base : Nat} {t : TypeId} {v : Value} {d : DataW H} {p : List MemPlace}
    (ht : argTy P tys t = true) (hok : Value.okWide P W .any base t v) (h : DataW.Trod enc P W 0 (fun _ => true) true t v d p) (hw : ∀ n ∈ d.weights P t, n ≤ reachBytes) :
    ∃ a : Dt E, ArgR E W a v ∧ (∃ ti, tys.find t = some ti ∧ a.1 = ti.ty) ∧ Good E a.1 a.2 := by
  obtain ⟨fuel, h⟩ := h
  unfold argTy at ht
  simp only [Bool.and_eq_true] at ht
  obtain ⟨h1, h2⟩ := ht
  split at h1
  · rename_i ti hti
    have hu : ti.ty ≠ .unit := by simpa using h1
    obtain ⟨hl, x, hr, hg⟩ := trod_read hE hT fuel t ti _ _ hti hu h hw
    refine ⟨⟨ti.ty, x⟩, ⟨hr, ?_⟩, ⟨ti, hti, rfl⟩, hg⟩
    have hk := Tr.all_find hT hti
    unfold tyKind at hk
    simp only [Bool.or_eq_true, beq_iff_eq, hu, false_or] at hk
    split at hk
    · rename_i k hk'; obtain ⟨n, rfl⟩ := okWide_int hk' hok; exact .inr rfl
    · rename_i hk'; obtain ⟨n, rfl⟩ := okWide_bool hk' hok; exact .inr rfl
    · rename_i hk'; obtain ⟨n, rfl⟩ := okWide_string hk' hok; exact .inr rfl
    · rename_i e hk'; obtain ⟨a, l, c, rfl⟩ := okWide_slice hk' hok; exact .inr rfl
    · rename_i fs hk'
      obtain ⟨cs, rfl, hc⟩ := okWide_struct hk' hok
      rw [hk'] at h2
      simp only [Bool.not_eq_true', beq_eq_false_iff_ne] at h2
      exact .inl ⟨cs.toList, by simp, by rw [Array.length_toList, hc]; exact h2⟩
    · rename_i n e hk'
      simp only [Value.okWide, hk'] at hok
      obtain ⟨cs, rfl, hc, _⟩ := hok
      rw [hk'] at h2
      simp only [Bool.not_eq_true', beq_eq_false_iff_ne] at h2
      exact .inl ⟨cs.toList, by simp, by rw [Array.length_toList, hc]; exact h2⟩
    · cases hk
  · cases h1
theorem args_read (hE : EnvOk E) {tys : Tr TI} (hT : Tr.all (tyKind E P tys) tys = true) {W : World} {base : Nat} : ∀ (ts : List TypeId) (vs : List Value) (ds : List (DataW H)) (p : List MemPlace),
    ts.all (argTy P tys) = true → (∀ (j : Nat) t v, ts[j]? = some t → vs[j]? = some v → Value.okWide P W .any base t v) → DataW.TrodAll enc P W 0 (fun _ => true) true ts vs ds p → (∀ n ∈ DataW.weightsEach P ts ds, n ≤ reachBytes) →
    ∃ as : List (Dt E), All2 (ArgR E W) as vs ∧ All2 (fun t (a : Dt E) => (∃ ti, tys.find t = some ti ∧ a.1 = ti.ty) ∧ Good E a.1 a.2) ts as
  | [], vs, ds, p, _, _, h, _ => by
    obtain ⟨rfl, _, _⟩ := trodAll_nil h
    exact ⟨[], .nil, .nil⟩
  | t :: ts, vs, ds, p, hts, hok, h, hw => by
    obtain ⟨v, vs', d, ds', p1, p2, rfl, rfl, rfl, h1, h2⟩ := trodAll_cons h
    simp only [List.all_cons, Bool.and_eq_true] at hts
    simp only [DataW.weightsEach, List.mem_append] at hw
    obtain ⟨a, a1, a2⟩ := arg_read hE hT hts.1 (hok 0 t v rfl rfl) h1 (fun n hn => hw n (.inl hn))
    obtain ⟨as, b1, b2⟩ := args_read hE hT ts vs' ds' p2 hts.2 (fun j t v h1 h2 => hok (j + 1) t v (by simpa using h1) (by simpa using h2)) h2 (fun n hn => hw n (.inr hn))
    exact ⟨a :: as, .cons a1 b1, .cons a2 b2⟩
theorem trodAll_stays {sp' : Nat → Bool} {W W' : World} (K : Kids P (· < P.types.size)) (hsz : ∀ {t e : TypeId}, t < P.types.size → P.underlying t = some (.slice e) → 0 < P.cellsOf e) :
    ∀ (ts : List TypeId) (vs : List Value) (ds : List (DataW H)) (p : List MemPlace), (∀ t ∈ ts, t < P.types.size) → DataW.TrodAll enc P W 0 (fun _ => true) true ts vs ds p →
      (∀ q ∈ p, W.sameAt W' q) → (∀ q ∈ p, sp' q.block = true) → DataW.TrodAll enc P W' 0 sp' true ts vs ds p
  | [], vs, ds, p, _, h, _, _ => by
    obtain ⟨rfl, rfl, rfl⟩ := trodAll_nil h
    rfl
  | t :: ts, vs, ds, p, hts, h, hs, hp => by
    obtain ⟨v, vs', d, ds', p1, p2, rfl, rfl, rfl, ⟨n, h1⟩, h2⟩ := trodAll_cons h
    refine trodAll_cons_mk ⟨n, ?_⟩ (trodAll_stays K hsz ts vs' ds' p2 (fun t ht => hts t (by simp [ht])) h2 (fun q hq => hs q (by simp [hq])) (fun q hq => hp q (by simp [hq])))
    exact DataW.trod_stays K hsz (fun h => by cases h) (hts t (by simp)) h1 (fun q hq => hs q (by simp [hq])) (fun q hq => hp q (by simp [hq]))
theorem Same.kept {W W' : World} (h : Same W W') (may : MemPlace → Prop) : W.keptBut W' may := by
  refine ⟨h.os, h.output, fun i hi => ?_⟩
  rw [h.heap i hi]
  have : W.heap[i]? = some W.heap[i] := Array.getElem?_eq_getElem hi
  rw [this]
  cases W.heap[i] with
  | cells c t fr => exact ⟨rfl, rfl, rfl, fun _ _ => rfl⟩
  | map es clock => exact .inr ⟨rfl, rfl⟩
  | _ => rfl
theorem law_row (hE : EnvOk E) {M : Mach E} (hM : MOk P M) (hT : Tr.all (tyKind E P M.tys) M.tys = true) {f : FuncId} {fn : Func} {c : Code} (hf : P.funcs[f]? = some fn) (hn : (fn.name == "runtime.NumGoroutine") = false) (hb : fn.body = some c)
    {sg : Sig} (hsg : M.sigs.find f = some sg) (hrs : sg.rs = [(false, [(.bool, false)])]) {tb : TypeId} (hres : fn.resultTypes = #[tb]) (hbt : P.underlying tb = some .bool)
    (K : Kids P (· < P.types.size)) (hsz : ((List.range P.types.size).all fun t => match P.underlying t with | some (.slice e) => decide (0 < P.cellsOf e) | _ => true) = true)
    (hprm : fn.params.toList.all (argTy P M.tys) = true) (hlt : (fn.params.toList.all fun t => decide (t < P.types.size)) = true)
    {s : ChangeSpec} (hvars : s.vars = []) {apart fresh handsOn : Bool}
    (hs : ∀ ds : List (DataW H), ds.length = fn.params.toList.length → s.fn H (ds ++ []) = { results := [.lit (.bool true)], args := ds })
    (law : ∀ as : List (Dt E), All2 (fun t (a : Dt E) => (∃ ti, M.tys.find t = some ti ∧ a.1 = ti.ty) ∧ Good E a.1 a.2) fn.params.toList as → ∃ k, run M k f (as.map fun d => Arg.val d.1 d.2) = some ⟨.bool, true⟩)
    {W : World} {base : Nat} {args : Array Value} {ds gs : List (DataW H)} {before : List MemPlace}
    (hval : ∀ (j : Nat) t v, fn.params[j]? = some t → args[j]? = some v → Value.okWide P W .any base t v)
    (hW : DataW.Whole enc P fn.params.toList s.vars apart W args.toList ds gs before) (hwt : (DataW.weightsEach P (fn.params.toList ++ s.plain.varTypes P) (ds ++ gs)).all (· ≤ reachBytes) = true) :
    Calls P f args W fun e W' => ∃ v, e = .returned v ∧ s.post enc P fn apart fresh handsOn false W args v W' := by
  have hW' := hW
  obtain ⟨p, q, hA, hV, hbf, hfz, hnd⟩ := hW
  rw [hvars] at hV
  obtain ⟨rfl, rfl⟩ : gs = [] ∧ q = [] := by
    cases gs with
    | nil => exact ⟨rfl, hV⟩
    | cons g r => exact absurd hV (by intro h; cases h)
  rw [List.append_nil] at hbf
  subst hbf
  have hlen : ds.length = fn.params.toList.length := by
    have : ∀ (ts : List TypeId) (vs : List Value) (ds : List (DataW H)) (p : List MemPlace), DataW.TrodAll enc P W 0 (fun _ => true) true ts vs ds p → ds.length = ts.length := by
      intro ts
      induction ts with
      | nil => intro vs ds p h; obtain ⟨_, rfl, _⟩ := trodAll_nil h; rfl
      | cons t ts ih =>
        intro vs ds p h
        obtain ⟨v, vs', d, ds', p1, p2, rfl, rfl, rfl, h1, h2⟩ := trodAll_cons h
        simp [ih _ _ _ h2]
    exact this _ _ _ _ hA
  have hw : ∀ n ∈ DataW.weightsEach P fn.params.toList ds, n ≤ reachBytes := by
    intro n hn
    have h0 := List.all_eq_true.1 hwt n
    refine of_decide_eq_true (h0 ?_)
    have hg : ∀ (ts us : List TypeId) (l : List (DataW H)), l.length = ts.length → DataW.weightsEach P (ts ++ us) (l ++ []) = DataW.weightsEach P ts l := by
      intro ts
      induction ts with
      | nil => intro us l h; cases l with
        | nil => cases us <;> simp [DataW.weightsEach]
        | cons _ _ => simp at h
      | cons t ts ih => intro us l h; cases l with
        | nil => simp at h
        | cons d l => simp only [List.cons_append, DataW.weightsEach]; rw [ih us l (by simpa using h)]
    rw [hg _ _ _ hlen]; exact hn
  obtain ⟨as, a1, a2⟩ := args_read hE hT fn.params.toList args.toList ds before hprm (fun j t v h1 h2 => hval j t v (by simpa using h1) (by simpa using h2)) hA hw
  obtain ⟨k, hk⟩ := law as a2
  have hc := law_calls hE hM hf hn hb hsg hrs a1 hk
  rw [Array.toArray_toList] at hc
  refine hc.mono fun e W' ⟨v, he, hv, hS⟩ => ⟨v, he, ?_⟩
  subst hv
  have hp : ∀ q ∈ before, q.block < W.heap.size := fun q hq => hW'.lt q hq
  have hsame : ∀ q ∈ before, W.sameAt W' q := by
    intro q hq
    have hb := hp q hq
    cases q with
    | cell b off =>
      show W'.cell? ⟨b, off, none⟩ = W.cell? ⟨b, off, none⟩
      unfold World.cell?
      rw [show W'.heap[b]? = W.heap[b]? from hS.heap b hb]
    | map b => exact hS.heap b hb
  refine ⟨ds, [], before, [], before, [], hW', ?_, ?_, ?_, hS.kept _, fun h => by cases h⟩
  · rw [hs ds hlen, hres]
    exact trodAll_mk1 ⟨1, by simp [DataW.trod, hbt, Value.cells]⟩
  · rw [hs ds hlen]
    refine trodAll_stays K (fun {t e} ht he => ?_) _ _ _ _ (fun t ht => of_decide_eq_true (List.all_eq_true.1 hlt t ht)) hA hsame (fun q hq => by simpa using hp q hq)
    have := List.all_eq_true.1 hsz t (List.mem_range.2 ht)
    rw [he] at this
    exact of_decide_eq_true this
  · rw [hs ds hlen, hvars]; rfl
end
end Go.Proofs.AM

namespace Go.Proofs.AM
open Go
variable {E : Env}
def insertI (x : Int) : List Int → List Int
  | [] => [x]
  | y :: r => cond (decide (x ≤ y)) (x :: y :: r) (y :: insertI x r)
def isortI : List Int → List Int
  | [] => []
  | x :: r => insertI x (isortI r)
def extIndexByte : List (Arg E) → Res E
  | [.val .str s, .val (.int .u8) x] => some ⟨.int .i64, Lib.indexByte (ByteArray.data s).toList (Int.toNat x).toUInt8⟩
  | _ => none
def extSort : List (Arg E) → Res E
  | [.own (.int .i64) xs] => cond (Nat.blt (List.length xs) 4611686018427387904) (some ⟨.slice (.int .i64), isortI xs⟩) none
  | _ => none
def extCompact : List (Arg E) → Res E
  | [.take (.int .i64) xs] => cond (Nat.blt (List.length xs) 9223372036854775808) (some ⟨.slice (.int .i64), Lib.compact (α := Int) xs⟩) none
  | _ => none
def extAdd64 : List (Arg E) → Res E
  | [.val (.int .u64) x, .val (.int .u64) y, .val (.int .u64) c] =>
    cond (decide ((0 : Int) ≤ x) && (decide ((0 : Int) ≤ y) && (decide ((0 : Int) ≤ c) && decide ((c : Int) ≤ 1))))
      (some ⟨.pair (.int .u64) (.int .u64), ((Int.emod (Int.add (Int.add x y) c) 18446744073709551616, Int.ediv (Int.add (Int.add x y) c) 18446744073709551616) : Int × Int)⟩) none
  | _ => none
def extTwice : List (Arg E) → Res E
  | [.val (.slice (.int .i64)) xs] => cond (Nat.blt (List.length (α := Int) xs) 1000000000000) (some ⟨.bool, decide ((Lib.compact (α := Int) (isortI xs)).length < List.length (α := Int) xs)⟩) none
  | _ => none
end Go.Proofs.AM

namespace Go.Proofs.AM
open Go Go.RowKit Go.Sort
variable {E : Env}
theorem insertI_perm (x : Int) : ∀ l : List Int, (insertI x l).Perm (x :: l)
  | [] => .refl _
  | y :: r => by
    unfold insertI
    cases decide (x ≤ y) with
    | true => exact .refl _
    | false => exact (List.Perm.cons y (insertI_perm x r)).trans (List.Perm.swap x y r)
theorem isortI_perm : ∀ l : List Int, (isortI l).Perm l
  | [] => .refl _
  | x :: r => (insertI_perm x _).trans (.cons x (isortI_perm r))
theorem isortI_length (l : List Int) : (isortI l).length = l.length := (isortI_perm l).length_eq
theorem insertI_sorted (x : Int) : ∀ l : List Int, l.Pairwise (· ≤ ·) → (insertI x l).Pairwise (· ≤ ·)
  | [], _ => by simp [insertI]
  | y :: r, h => by
    have h' := List.pairwise_cons.1 h
    unfold insertI
    cases hd : decide (x ≤ y) with
    | true =>
      have hxy := of_decide_eq_true hd
      refine List.pairwise_cons.2 ⟨fun z hz => ?_, h⟩
      rcases List.mem_cons.1 hz with rfl | hz
      · exact hxy
      · exact Int.le_trans hxy (h'.1 z hz)
    | false =>
      have hxy : y ≤ x := by have := of_decide_eq_false hd; omega
      refine List.pairwise_cons.2 ⟨fun z hz => ?_, insertI_sorted x r h'.2⟩
      rcases List.mem_cons.1 ((insertI_perm x r).mem_iff.1 hz) with rfl | hz
      · exact hxy
      · exact h'.1 z hz
theorem isortI_sorted : ∀ l : List Int, (isortI l).Pairwise (· ≤ ·)
  | [] => .nil
  | x :: r => insertI_sorted x _ (isortI_sorted r)
theorem sorted_unique : ∀ {l m : List Int}, l.Pairwise (· ≤ ·) → m.Pairwise (· ≤ ·) → l.Perm m → l = m
  | [], m, _, _, h => (List.Perm.nil_eq h)
  | x :: r, [], _, _, h => absurd h.length_eq (by simp)
  | x :: r, y :: s, h1, h2, h => by
    have p1 := List.pairwise_cons.1 h1
    have p2 := List.pairwise_cons.1 h2
    have hxy : x = y := by
      have a : x ∈ y :: s := h.mem_iff.1 (by simp)
      have b : y ∈ x :: r := h.mem_iff.2 (by simp)
      rcases List.mem_cons.1 a with a | a
      · exact a
      · rcases List.mem_cons.1 b with b | b
        · exact b.symm
        · have := p1.1 y b; have := p2.1 x a; omega
    subst hxy
    rw [sorted_unique p1.2 p2.2 ((List.perm_cons x).1 h)]
theorem isortI_merge (l : List Int) : (l.mergeSort fun x y => decide (x ≤ y)) = isortI l := by
  refine sorted_unique ?_ (isortI_sorted l) ((List.mergeSort_perm l _).trans (isortI_perm l).symm)
  have := List.pairwise_mergeSort (le := fun x y : Int => decide (x ≤ y)) (fun a b c h1 h2 => by simp at *; omega) (fun a b => by simp; omega) l
  exact this.imp fun h => by simpa using h
section
variable {P : Program} {M : Mach E} {f : FuncId} {fn : Func} {c : Code}
theorem callsF_of (hf : P.funcs[f]? = some fn) (hn : (fn.name == "runtime.NumGoroutine") = false) (hb : fn.body = some c) {args : Array Value} {w : World} {R : Value → World → Prop}
    (h : Calls P f args w fun e w' => ∃ v, e = .returned v ∧ R v w') : CallsF P f args w R := by
  unfold CallsF
  rw [run_callF hf hn hb]
  exact h
theorem one_val {vals : List Value} (h : vals.length = 1) : ∃ v, vals = [v] := by
  match vals, h with
  | [v], _ => exact ⟨v, rfl⟩
theorem two_vals {vals : List Value} (h : vals.length = 2) : ∃ v u, vals = [v, u] := by
  match vals, h with
  | [v, u], _ => exact ⟨v, u, rfl⟩
theorem Fr.same {C : FC} {s : St E} {A : Asg} {tm : Array Value} (I : Inv C s A C.okS tm C.w0) : Fr C C.okS [] C.w0 where
  os := rfl
  tape := rfl
  output := rfl
  size := Nat.le_refl _
  block := fun _ _ _ => rfl
  okLt := I.okLt
  okSub := fun _ _ h => .inl h
  dist := .nil
  free := fun b h => by simp at h
theorem indexByte_ok (hf : P.funcs[f]? = some fn) (hn : (fn.name == "runtime.NumGoroutine") = false) (hb : fn.body = some c) (hsg : M.sigs.find f = some ⟨[.val .str, .val (.int .u8)], [(false, [(.int .i64, false)])]⟩)
    (hc : ∀ (s : ByteArray) (x : Int) (w : World), Calls P f #[.string s, .int .u8 x] w fun e w' => e = .returned (.int .i64 (Lib.indexByte s.data.toList x.toNat.toUInt8)) ∧ w' = w) (xs : List (Arg E)) (r : Dt E) (h : extIndexByte xs = some r) : FnOk1 P M f xs r := by
  unfold extIndexByte at h
  split at h
  · rename_i s x
    injection h with h; subst h
    refine ⟨_, hsg, fun C A sl ob vals hent hlen hA hInv => ?_⟩
    obtain ⟨v, u, rfl⟩ := two_vals hlen
    have hent : some ([(0, SV.c (.leaf .str s)), (1, SV.c (.leaf (.int .u8) x))], []) = some (sl, ob) := hent
    injection hent with hent; injection hent with e1 e2; subst e1; subst e2
    have I := hInv 2 (by simp) (by omega)
    have hv : RepD E C.w0 C.okS .str s [v] := I.sl 0 _ rfl
    have hu : RepD E C.w0 C.okS (.int .u8) x [u] := I.sl 1 _ rfl
    cases hv; cases hu
    refine callsF_of hf hn hb ?_
    refine (hc s x C.w0).mono fun e w' ⟨h1, h2⟩ => ⟨_, h1, ?_⟩
    subst h2
    exact ⟨_, rfl, C.okS, [⟨.int .i64, _⟩], [], _, [], [], [], rfl, .cons (.imm (.int _ _) .nil) .nil, rfl, .nil, Fr.same I⟩
  · cases h
theorem holds_row {w : World} {ok : Nat → Nat → Prop} {xs : List Int} {o b : Nat} {cs : Array Value} {e : TypeId} (hb : w.heap[b]? = some (.cells cs e (0, 0))) (h : RepRow E w ok (.int .i64) xs o cs) : Go.Sort.Holds (Value.int .i64) w b o xs.toArray := by
  obtain ⟨f, hf⟩ := h
  intro j hj
  have hj' : j < xs.length := by simpa using hj
  obtain ⟨h1, h2, h3⟩ := hf j hj'
  refine ⟨?_, by simp [World.frozen?, hb]⟩
  have h2 := h2 0 (by simp [nc])
  have hx : f j = [Value.int .i64 xs[j]] := by
    generalize hg : f j = g at h3
    generalize hy : xs[j] = y at h3 ⊢
    cases h3; rfl
  rw [hx] at h2
  simp only [nc, Nat.mul_one, Nat.add_zero] at h2
  rw [cell?_of_heap hb, h2]
  simp [hj']
theorem row_put {w : World} {ok : Nat → Nat → Prop} {xs : List Int} {o : Nat} {cs : Array Value} (h : o + xs.length ≤ cs.size) : RepRow E w ok (.int .i64) xs o (putCells (Value.int .i64) o xs.toArray cs) := by
  refine ⟨fun i => [Value.int .i64 (xs.getD i 0)], fun i hi => ⟨rfl, fun j hj => ?_, ?_⟩⟩
  · have hj : j = 0 := by simp only [nc] at hj; omega
    subst hj
    simp only [nc, Nat.mul_one, Nat.add_zero]
    have : o + i < cs.size := by omega
    simp [putCells, this, hi]
  · have : xs.getD i 0 = xs[i] := by simp [hi]
    show RepD E w ok (.int .i64) xs[i] [Value.int .i64 (xs.getD i 0)]
    rw [this]; exact .int _ _
theorem put_size {enc : Int → Value} {o : Nat} {d : Array Int} {cs : Array Value} : (putCells enc o d cs).size = cs.size := by simp [putCells]
theorem heap_put {w : World} {b n : Nat} {os : Array Obj} {o : Nat} {d : Array Int} {cs : Array Value} {e : TypeId} {fr : Nat × Nat} (hb : w.heap[b]? = some (.cells cs e fr)) :
    (grow (putRow (Value.int .i64) (Sort.ahead w n) b o d) os).heap[b]? = some (.cells (putCells (Value.int .i64) o d cs) e fr) := by
  have hg : b < w.heap.size := (Array.getElem?_eq_some_iff.1 hb).1
  unfold grow
  rw [Array.getElem?_append_left (by simpa [putRow, mapBlock, Sort.ahead] using hg)]
  simp [putRow, mapBlock, Sort.ahead, Array.getElem?_modify, hb, onCells]
theorem heap_put_other {w : World} {b n k : Nat} {os : Array Obj} {o : Nat} {d : Array Int} (hk : k < w.heap.size) (hne : b ≠ k) :
    (grow (putRow (Value.int .i64) (Sort.ahead w n) b o d) os).heap[k]? = w.heap[k]? := by
  unfold grow
  rw [Array.getElem?_append_left (by simpa [putRow, mapBlock, Sort.ahead] using hk)]
  simp [putRow, mapBlock, Sort.ahead, Array.getElem?_modify, hne]
theorem Fr.put {C : FC} {s : St E} {A : Asg} {tm : Array Value} (I : Inv C s A C.okS tm C.w0) {b n : Nat} {os : Array Obj} {o : Nat} {d : Array Int} (hb1 : ∀ k, ¬ C.okS b k) (hb2 : b < C.w0.heap.size) (hb3 : C.rw b) :
    Fr C C.okS [some b] (grow (putRow (Value.int .i64) (Sort.ahead C.w0 n) b o d) os) where
  os := rfl
  tape := rfl
  output := rfl
  size := by simp [grow, putRow, mapBlock, Sort.ahead]
  block := fun k hk hr => heap_put_other hk (fun e => hr (e ▸ hb3))
  okLt := fun b k h => Nat.lt_of_lt_of_le (I.okLt b k h) (by simp [grow, putRow, mapBlock, Sort.ahead])
  okSub := fun _ _ h => .inl h
  dist := List.pairwise_singleton _ _
  free := fun x h => by
    simp only [List.mem_singleton, Option.some.injEq] at h; subst h
    exact ⟨hb1, Nat.lt_of_lt_of_le hb2 (by simp [grow, putRow, mapBlock, Sort.ahead]), .inr hb3⟩
theorem Fr.keep {C : FC} {s : St E} {A : Asg} {tm : Array Value} (I : Inv C s A C.okS tm C.w0) {ob : Option Nat} (h : ∀ b, ob = some b → (∀ k, ¬ C.okS b k) ∧ b < C.w0.heap.size ∧ C.rw b) : Fr C C.okS [ob] C.w0 where
  os := rfl
  tape := rfl
  output := rfl
  size := Nat.le_refl _
  block := fun _ _ _ => rfl
  okLt := I.okLt
  okSub := fun _ _ h => .inl h
  dist := List.pairwise_singleton _ _
  free := fun x hx => by
    simp only [List.mem_singleton] at hx
    obtain ⟨h1, h2, h3⟩ := h x hx.symm
    exact ⟨h1, h2, .inr h3⟩
theorem own_start {C : FC} {A : Asg} {xs : List Int} {v : Value} {n : Nat} {tm : Array Value} (I : Inv C ({ n := n, sl := [(0, SV.c (.ref (nameP 0) 0 none))], ob := [(nameP 0, 0, .tok (.int .i64) xs)] } : St E) A C.okS tm C.w0) (htm : tm.getD 0 undef = v) :
    (A.B (nameP 0) = none ∧ v = .slice none 0 0 ∧ xs = []) ∨
    ∃ b o cap cs e, A.B (nameP 0) = some b ∧ v = .slice (some ⟨b, o, none⟩) xs.length cap ∧ C.w0.heap[b]? = some (.cells cs e (0, 0)) ∧ xs.length ≤ cap ∧ (cap = 0 ∨ o = A.O (nameP 0)) ∧ o + cap ≤ cs.size ∧ RepRow E C.w0 C.okS (.int .i64) xs (A.O (nameP 0)) cs ∧
      (∀ k, ¬ C.okS b k) ∧ b < C.w0.heap.size ∧ C.rw b := by
  have hlk : lk ([(nameP 0, 0, Ob.tok (.int .i64) xs)] : Obs E) (nameP 0) = some (0, .tok (.int .i64) xs) := rfl
  have hsl : RepSV C.w0 C.okS C.okP [(nameP 0, 0, Ob.tok (.int .i64) xs)] A tm (SV.c (.ref (nameP 0) 0 none)) (tm.getD 0 undef) := I.sl 0 _ rfl
  rw [htm] at hsl
  have hr := hsl.2.1 (.int .i64) xs rfl
  have ho := I.obj _ _ _ hlk
  unfold RepRef at hr
  unfold RepOb at ho
  cases hB : A.B (nameP 0) with
  | none => simp only [hB] at hr ho; exact .inl ⟨rfl, hr.1, ho⟩
  | some b =>
    simp only [hB] at hr ho
    obtain ⟨o, cap, cs, e, h1, h2, h3, h4, h5, h6⟩ := hr
    obtain ⟨cs', e', h7, h8⟩ := ho
    rw [h2] at h7; injection h7 with h7; injection h7 with e1 e2; subst e1
    have hw := I.own _ _ _ b hlk rfl hB
    have hb : b < C.w0.heap.size := hw.2.2.1
    refine .inr ⟨b, o, cap, cs, e, rfl, h1, h2, h4, ?_, ?_, h8, fun k => hw.1 k (Nat.zero_le _), hb, ?_⟩
    · rcases h5 with h | h
      · exact .inl h
      · exact .inr (by simpa [winLo] using h)
    · simpa [nc] using h6
    · rcases hw.2.2.2 with h | h
      · omega
      · exact h
theorem sort_ok (hf : P.funcs[f]? = some fn) (hn : (fn.name == "runtime.NumGoroutine") = false) (hb : fn.body = some c) (hsg : M.sigs.find f = some ⟨[.own (.int .i64)], []⟩)
    (hc : ∀ (blk off cap : Nat) (zs : List Int) (w : World), Go.Sort.Holds (Value.int .i64) w blk off zs.toArray → blk < w.heap.size → zs.length < 4611686018427387904 →
      Calls P f #[.slice (some ⟨blk, off, none⟩) zs.length cap] w fun e w' => e = .returned (.tuple #[]) ∧ ∃ n os, w' = grow (putRow (Value.int .i64) (Sort.ahead w n) blk off (zs.mergeSort fun x y => decide (x ≤ y)).toArray) os)
    (hc0 : ∀ (p : Option Addr) (cap : Nat) (w : World), Calls P f #[.slice p 0 cap] w fun e w' => e = .returned (.tuple #[]) ∧ w' = w) (ys : List (Arg E)) (r : Dt E) (h : extSort ys = some r) : FnOk1 P M f ys r := by
  unfold extSort at h
  split at h
  · rename_i xs
    have key : ∀ xs : List Int, cond (Nat.blt (List.length xs) 4611686018427387904) (some (⟨.slice (.int .i64), isortI xs⟩ : Dt E)) none = some r → FnOk1 P M f [.own (.int .i64) xs] r := by
      intro xs h
      cases hd : Nat.blt (List.length xs) 4611686018427387904 with
      | false => rw [hd] at h; cases h
      | true =>
        rw [hd] at h
        injection h with h; subst h
        rw [Nat.blt_eq] at hd
        refine ⟨_, hsg, fun C A sl ob vals hent hlen hA hInv => ?_⟩
        obtain ⟨v, rfl⟩ := one_val hlen
        have hent : some ([(0, SV.c (.ref (nameP 0) 0 none))], [(nameP 0, 0, Ob.tok (.int .i64) xs)]) = some (sl, ob) := hent
        injection hent with hent; injection hent with e1 e2; subst e1; subst e2
        have I := hInv 1 (by simp) (by omega)
        refine callsF_of hf hn hb ?_
        have hsame : ∀ e w', e = Ending.returned (.tuple #[]) ∧ w' = C.w0 → xs = [] → (∀ b, A.B (nameP 0) = some b → (∀ k, ¬ C.okS b k) ∧ b < C.w0.heap.size ∧ C.rw b) → OwnAt E C.w0 C.w0 C.okS (.int .i64) [] (A.O (nameP 0)) (A.B (nameP 0)) →
            ∃ v, e = .returned v ∧ ∃ x, (⟨.slice (.int .i64), isortI xs⟩ : Dt E) = ⟨tyL (piecesTy (resPieces [] ++ outsPs (outsOf 0 [Arg.own (E := E) (.int .i64) xs]))), x⟩ ∧ Post C A [] (outsOf 0 [Arg.own (E := E) (.int .i64) xs]) (unL E _ x) v w' := by
          intro e w' ⟨h1, h2⟩ hx hfr hat
          subst h2; subst hx
          exact ⟨_, h1, ([] : List Int), rfl, C.okS, [], [⟨.slice (.int .i64), ([] : List Int)⟩], [], [], [A.B (nameP 0)], [], rfl, .nil, ⟨[], rfl, .nil⟩, .own hat .nil, Fr.keep I hfr⟩
        rcases own_start I rfl with ⟨hB, hv, hx⟩ | ⟨b, o, cap, cs, e, hB, hv, hh, hcap, ho, hsz, hrow, f1, f2, f3⟩
        · have hv : v = .slice none 0 0 := hv
          subst hv
          refine (hc0 none 0 C.w0).mono fun e w' hq => hsame e w' hq hx (fun b h => by rw [hB] at h; cases h) (by rw [hB]; rfl)
        · have hv : v = .slice (some ⟨b, o, none⟩) xs.length cap := hv
          subst hv
          have hfr : ∀ b', A.B (nameP 0) = some b' → (∀ k, ¬ C.okS b' k) ∧ b' < C.w0.heap.size ∧ C.rw b' := fun b' h => by rw [hB] at h; injection h with h; subst h; exact ⟨f1, f2, f3⟩
          by_cases hx : xs = []
          · subst hx
            refine (hc0 _ cap C.w0).mono fun e' w' hq => hsame e' w' hq rfl hfr ?_
            rw [hB]
            exact ⟨cs, e, hh, hrow, fun cs0 e0 h0 => by rw [hh] at h0; injection h0 with h0; injection h0 with a b; subst a; subst b; exact ⟨rfl, rfl⟩⟩
          · have hl : 0 < xs.length := List.length_pos_iff.2 hx
            have ho' : o = A.O (nameP 0) := ho.resolve_left (by omega)
            rw [← ho'] at hrow
            refine (hc b o cap xs C.w0 (holds_row hh hrow) f2 hd).mono fun e' w' ⟨h1, n, os, h2⟩ => ⟨_, h1, isortI xs, rfl, ?_⟩
            subst h2
            rw [isortI_merge]
            refine ⟨C.okS, [], [⟨.slice (.int .i64), isortI xs⟩], [], [], [A.B (nameP 0)], [], rfl, .nil, ⟨[], rfl, .nil⟩, .own ?_ .nil, ?_⟩
            · rw [hB, ← ho']
              refine ⟨_, e, heap_put hh, row_put (by rw [isortI_length]; omega), fun cs0 e0 h0 => ?_⟩
              rw [hh] at h0; injection h0 with h0; injection h0 with a b; subst a; subst b
              exact ⟨rfl, put_size.symm⟩
            · rw [hB]; exact Fr.put I f1 f2 f3
    exact key xs h
  · cases h
theorem compact_le (xs : List Int) : (Lib.compact xs).length ≤ xs.length := by
  unfold Lib.compact Lib.compactUpTo
  rw [List.length_map]
  have := List.length_filter_le (Lib.keeps xs.toArray) (List.range xs.length)
  simpa using this
theorem compact_ok (hf : P.funcs[f]? = some fn) (hn : (fn.name == "runtime.NumGoroutine") = false) (hb : fn.body = some c) (hsg : M.sigs.find f = some ⟨[.take (.int .i64)], [(false, [(.slice (.int .i64), true)])]⟩)
    (hc : ∀ (blk off cap : Nat) (zs : List Int) (w : World), Go.Sort.Holds (Value.int .i64) w blk off zs.toArray → zs.length ≤ 9223372036854775807 → zs.length ≤ cap →
      Calls P f #[.slice (some ⟨blk, off, none⟩) zs.length cap] w fun e w' => e = .returned (.slice (some ⟨blk, off, none⟩) (Lib.compact zs).length cap) ∧ ∃ q, w' = putRow (Value.int .i64) (Sort.ahead w q) blk off (Lib.compact zs ++ List.replicate (zs.length - (Lib.compact zs).length) 0).toArray)
    (hc0 : ∀ (p : Option Addr) (cap : Nat) (w : World), Calls P f #[.slice p 0 cap] w fun e w' => e = .returned (.slice p 0 cap) ∧ w' = w) (ys : List (Arg E)) (r : Dt E) (h : extCompact ys = some r) : FnOk1 P M f ys r := by
  unfold extCompact at h
  split at h
  · rename_i xs
    have key : ∀ xs : List Int, cond (Nat.blt (List.length xs) 9223372036854775808) (some (⟨.slice (.int .i64), Lib.compact xs⟩ : Dt E)) none = some r → FnOk1 P M f [.take (.int .i64) xs] r := by
      intro xs h
      cases hd : Nat.blt (List.length xs) 9223372036854775808 with
      | false => rw [hd] at h; cases h
      | true =>
        rw [hd] at h
        injection h with h; subst h
        rw [Nat.blt_eq] at hd
        refine ⟨_, hsg, fun C A sl ob vals hent hlen hA hInv => ?_⟩
        obtain ⟨v, rfl⟩ := one_val hlen
        have hent : some ([(0, SV.c (.ref (nameP 0) 0 none))], [(nameP 0, 0, Ob.tok (.int .i64) xs)]) = some (sl, ob) := hent
        injection hent with hent; injection hent with e1 e2; subst e1; subst e2
        have I := hInv 1 (by simp) (by omega)
        refine callsF_of hf hn hb ?_
        have fin : ∀ (ob : Option Nat) (v : Value) (w' : World), OwnV E w' C.okS (.int .i64) (Lib.compact xs) v ob → Fr C C.okS [ob] w' →
            ∃ x, (⟨.slice (.int .i64), Lib.compact xs⟩ : Dt E) = ⟨tyL (piecesTy (resPieces [(false, [(Ty.slice (.int .i64), true)])] ++ outsPs (outsOf 0 [Arg.take (E := E) (.int .i64) xs]))), x⟩ ∧ Post C A [(false, [(Ty.slice (.int .i64), true)])] (outsOf 0 [Arg.take (E := E) (.int .i64) xs]) (unL E _ x) v w' := by
          intro ob v w' ho hF
          exact ⟨Lib.compact xs, rfl, C.okS, [⟨.slice (.int .i64), Lib.compact xs⟩], [], [(false, [v])], [ob], [], [], rfl, .cons (.own ho .nil) .nil, rfl, .nil, hF⟩
        rcases own_start I rfl with ⟨hB, hv, hx⟩ | ⟨b, o, cap, cs, e, hB, hv, hh, hcap, ho, hsz, hrow, f1, f2, f3⟩
        · have hv : v = .slice none 0 0 := hv
          subst hv; subst hx
          refine (hc0 none 0 C.w0).mono fun e w' ⟨h1, h2⟩ => ⟨_, h1, ?_⟩
          subst h2
          exact fin none _ _ ⟨rfl, rfl⟩ (Fr.keep I fun b h => by cases h)
        · have hv : v = .slice (some ⟨b, o, none⟩) xs.length cap := hv
          subst hv
          by_cases hx : xs = []
          · subst hx
            refine (hc0 _ cap C.w0).mono fun e' w' ⟨h1, h2⟩ => ⟨_, h1, ?_⟩
            subst h2
            exact fin (some b) _ _ ⟨o, cap, cs, e, rfl, hh, Nat.zero_le _, by simpa [nc] using hsz, RowF.nil _⟩ (Fr.keep I fun b' h => by injection h with h; subst h; exact ⟨f1, f2, f3⟩)
          · have hl : 0 < xs.length := List.length_pos_iff.2 hx
            have ho' : o = A.O (nameP 0) := ho.resolve_left (by omega)
            rw [← ho'] at hrow
            refine (hc b o cap xs C.w0 (holds_row hh hrow) (by omega) hcap).mono fun e' w' ⟨h1, n, h2⟩ => ⟨_, h1, ?_⟩
            have h2 : w' = grow (putRow (Value.int .i64) (Sort.ahead C.w0 n) b o (Lib.compact xs ++ List.replicate (xs.length - (Lib.compact xs).length) 0).toArray) #[] := by rw [grow_empty]; exact h2
            subst h2
            have hle := compact_le xs
            refine fin (some b) _ _ ⟨o, cap, _, e, rfl, heap_put hh, by omega, by rw [put_size]; simpa [nc] using hsz, ?_⟩ (Fr.put I f1 f2 f3)
            have hr := (row_put (E := E) (w := grow (putRow (Value.int .i64) (Sort.ahead C.w0 n) b o (Lib.compact xs ++ List.replicate (xs.length - (Lib.compact xs).length) 0).toArray) #[]) (ok := C.okS) (xs := Lib.compact xs ++ List.replicate (xs.length - (Lib.compact xs).length) 0) (o := o) (cs := cs) (by simp; omega)).toF
            have := hr.window 0 (Lib.compact xs).length (by simp)
            simp only [List.drop_zero, List.take_left'] at this
            refine this.congr fun k hk => ?_
            simp
    exact key xs h
  · cases h
end
end Go.Proofs.AM

namespace Go.Proofs.AM
open Go Go.RowKit Go.Sort
variable {E : Env} {P : Program} {M : Mach E} {f : FuncId} {fn : Func} {c : Code}
theorem three_vals {vals : List Value} (h : vals.length = 3) : ∃ v u x, vals = [v, u, x] := by
  match vals, h with
  | [v, u, x], _ => exact ⟨v, u, x, rfl⟩
theorem add64_ok {ent : Array Value → Sem Value} (hf : P.funcs[f]? = some fn) (hn : (fn.name == "runtime.NumGoroutine") = false) (hb : fn.body.isNone = true) (hx : Extern.findNext fn = none) (he : Extern.find fn = some ent)
    (hr : ∀ (x y c : Int) (w : World), 0 ≤ x → 0 ≤ y → 0 ≤ c → c ≤ 1 → (ent #[.int .u64 x, .int .u64 y, .int .u64 c]).run P w = .ok (.tuple #[.int .u64 ((x + y + c) % 18446744073709551616), .int .u64 ((x + y + c) / 18446744073709551616)]) w)
    (hsg : M.sigs.find f = some ⟨[.val (.int .u64), .val (.int .u64), .val (.int .u64)], [(false, [(.int .u64, false)]), (false, [(.int .u64, false)])]⟩) (xs : List (Arg E)) (r : Dt E) (h : extAdd64 xs = some r) : FnOk1 P M f xs r := by
  unfold extAdd64 at h
  split at h
  · rename_i x0 y z
    cases hd : (decide ((0 : Int) ≤ x0) && (decide ((0 : Int) ≤ y) && (decide ((0 : Int) ≤ z) && decide ((z : Int) ≤ 1)))) with
    | false => rw [hd] at h; cases h
    | true =>
      rw [hd] at h
      injection h with h; subst h
      simp only [Bool.and_eq_true, decide_eq_true_eq] at hd
      obtain ⟨g1, g2, g3, g4⟩ := hd
      refine ⟨_, hsg, fun C A sl ob vals hent hlen hA hInv => ?_⟩
      obtain ⟨v, u, t, rfl⟩ := three_vals hlen
      have hent : some ([(0, SV.c (.leaf (.int .u64) x0)), (1, SV.c (.leaf (.int .u64) y)), (2, SV.c (.leaf (.int .u64) z))], []) = some (sl, ob) := hent
      injection hent with hent; injection hent with e1 e2; subst e1; subst e2
      have I := hInv 3 (by simp) (by omega)
      have hv : RepD E C.w0 C.okS (.int .u64) x0 [v] := I.sl 0 _ rfl
      have hu : RepD E C.w0 C.okS (.int .u64) y [u] := I.sl 1 _ rfl
      have ht : RepD E C.w0 C.okS (.int .u64) z [t] := I.sl 2 _ rfl
      cases hv; cases hu; cases ht
      have hb' : fn.body = none := by simpa using hb
      have hcall : (callFunc f #[.int .u64 x0, .int .u64 y, .int .u64 z]).run P C.w0 = .ok (.value (.tuple #[.int .u64 ((x0 + y + z) % 18446744073709551616), .int .u64 ((x0 + y + z) / 18446744073709551616)])) C.w0 := by
        rw [run_callFunc_extern hf hn (by rw [hb']; rfl) hx he, hr x0 y z C.w0 g1 g2 g3 g4]; rfl
      unfold CallsF
      rw [hcall]
      exact ⟨((x0 + y + z) % 18446744073709551616, (x0 + y + z) / 18446744073709551616), rfl, C.okS, [⟨.int .u64, _⟩, ⟨.int .u64, _⟩], [], _, [], [], [], rfl, .cons (.imm (.int _ _) .nil) (.cons (.imm (.int _ _) .nil) .nil), ⟨_, rfl, .cons rfl (.cons rfl .nil)⟩, .nil, Fr.same I⟩
  · cases h
theorem twice_ok (hf : P.funcs[f]? = some fn) (hn : (fn.name == "runtime.NumGoroutine") = false) (hb : fn.body = some c) (hsg : M.sigs.find f = some ⟨[.val (.slice (.int .i64))], [(false, [(.bool, false)])]⟩)
    (hc : ∀ (a : Option Addr) (cap : Nat) (zs : List Int) (w : World), zs.length * 8 ≤ 140737488355328 → (zs = [] ∨ ∃ b off, a = some ⟨b, off, none⟩ ∧ b < w.heap.size ∧ ∀ j, j < zs.length → w.cell? ⟨b, off + j, none⟩ = some (.int .i64 (zs[j]?.getD 0))) →
      Calls P f #[.slice a zs.length cap] w fun e w' => e = .returned (.bool (decide ((Lib.compact (zs.mergeSort fun x y => decide (x ≤ y))).length < zs.length))) ∧ Below w.heap.size w w') (xs : List (Arg E)) (r : Dt E) (h : extTwice xs = some r) : FnOk1 P M f xs r := by
  unfold extTwice at h
  split at h
  · rename_i zs
    have key : ∀ zs : List Int, cond (Nat.blt zs.length 1000000000000) (some (⟨.bool, decide ((Lib.compact (isortI zs)).length < zs.length)⟩ : Dt E)) none = some r → FnOk1 P M f [.val (.slice (.int .i64)) zs] r := by
      intro zs h
      cases hd : Nat.blt zs.length 1000000000000 with
      | false => rw [hd] at h; cases h
      | true =>
        rw [hd] at h
        injection h with h; subst h
        rw [Nat.blt_eq] at hd
        refine ⟨_, hsg, fun C A sl ob vals hent hlen hA hInv => ?_⟩
        obtain ⟨v, rfl⟩ := one_val hlen
        have hent : some ([(0, SV.c (.leaf (.slice (.int .i64)) zs))], []) = some (sl, ob) := hent
        injection hent with hent; injection hent with e1 e2; subst e1; subst e2
        have I := hInv 1 (by simp) (by omega)
        have hv : RepD E C.w0 C.okS (.slice (.int .i64)) zs [v] := I.sl 0 _ rfl
        refine callsF_of hf hn hb ?_
        have hz : ∃ a cap, v = .slice a zs.length cap ∧ (zs = [] ∨ ∃ b off, a = some ⟨b, off, none⟩ ∧ b < C.w0.heap.size ∧ ∀ j, j < zs.length → C.w0.cell? ⟨b, off + j, none⟩ = some (.int .i64 (zs[j]?.getD 0))) := by
          rcases hv.slice_inv with ⟨p, h1, h2⟩ | ⟨b, off, cap, f, h1, h2, h3, h4, h5, h6⟩
          · injection h1 with h1
            have h2 : zs = [] := h2
            subst h2
            exact ⟨p, 0, h1, .inl rfl⟩
          · injection h1 with h1
            have h1 : v = .slice (some ⟨b, off, none⟩) zs.length cap := h1
            refine ⟨_, cap, h1, .inr ⟨b, off, rfl, h4, fun j hj => ?_⟩⟩
            have q1 := (h5 j hj).2 0 (by simp [nc])
            have q2 : RepD E C.w0 C.okS (.int .i64) zs[j] (f j) := h6 j hj
            have hx : f j = [Value.int .i64 zs[j]] := by
              generalize hg : f j = g at q2
              generalize hy : zs[j] = y at q2 ⊢
              cases q2; rfl
            rw [hx] at q1
            simp only [nc, Nat.mul_one, Nat.add_zero] at q1
            rw [q1]
            simp [hj]
        obtain ⟨a, cap, rfl, hz⟩ := hz
        refine (hc a cap zs C.w0 (by omega) hz).mono fun e w' ⟨h1, h2⟩ => ⟨_, h1, ?_⟩
        rw [isortI_merge]
        exact ⟨_, rfl, C.okS, [⟨.bool, _⟩], [], _, [], [], [], rfl, .cons (.imm (.bool _) .nil) .nil, rfl, .nil,
          { os := h2.os, tape := h2.tape, output := h2.output, size := h2.size, block := fun b hb _ => h2.block b hb, okLt := fun b k h => Nat.lt_of_lt_of_le (I.okLt b k h) h2.size, okSub := fun _ _ h => .inl h, dist := .nil, free := fun b h => by simp at h }⟩
    exact key zs h
  · cases h
end Go.Proofs.AM
