/- Helpers of this claim: an abstract machine over the model, proved sound; what it computes. Part 2. -/
import Derived.Test.YthdbgkfinpbggaaGreatSAm1
set_option linter.unusedVariables false
set_option linter.unusedSimpArgs false
namespace Go.Proofs.AM
open Go Go.RowKit
variable {E : Env}
theorem Pieces.lens {w : World} {ok : Nat → Nat → Prop} (hE : EnvOk E) {ps : List (Ty × Bool)} {ds : List (Dt E)} {vs : List Value} {bs : List (Option Nat)} (h : Pieces E w ok ps ds vs bs) : ds.length = ps.length ∧ vs.length = szP E ps := by
  induction h with
  | nil => exact ⟨rfl, rfl⟩
  | imm hd _ ih => exact ⟨by simp [ih.1], by simp [szP, ih.2, hd.len hE]⟩
  | own _ _ ih => exact ⟨by simp [ih.1], by simp [szP, ih.2, nc]; omega⟩
theorem ResP.lens {w : World} {ok : Nat → Nat → Prop} (hE : EnvOk E) {rs : List (Bool × List (Ty × Bool))} {ds : List (Dt E)} {l : List (Bool × List Value)} {bs : List (Option Nat)} (h : ResP E w ok rs ds l bs) : ds.length = (resPieces rs).length := by
  induction h with
  | nil => rfl
  | cons hp _ ih => simp only [resPieces, List.flatMap_cons, List.length_append] at ih ⊢; rw [ih, (hp.lens hE).1]
section
variable {C : FC} {s0 sK : St E} {A A' : Asg} {ok0 okx : Nat → Nat → Prop} {tmps : Array Value} {w w' : World}
theorem outs_box {os : List OutP} {outs : List (Back E)} (h : OutsM A A' s0 os outs) : ∀ {ds : List (Dt E)} {hs bs}, OutsR E w w' okx A' os ds hs bs → ∀ {n g cs}, Back.box n g cs ∈ outs →
    ∃ b vs e ds1 bs1 xs, A.B n = some b ∧ w'.heap[b]? = some (.cells (vs : List Value).toArray e (0, 0)) ∧ Pieces E w' okx cs ds1 vs bs1 ∧ some b ∈ hs ∧ lk s0.ob n = some (g, .box xs) ∧ xs.length = szP E cs := by
  induction h with
  | nil => intro ds hs bs _ n g cs hm; simp at hm
  | rw h1 h2 h3 _ ih =>
    intro ds hs bs hr n g cs hm
    cases hr with
    | rw k1 k2 k3 k4 =>
      rcases List.mem_cons.1 hm with e | hm
      · injection e with e1 e2 e3; subst e1; subst e2; subst e3
        exact ⟨_, _, _, _, _, _, by rw [← h1]; exact k1, k2, k3, by simp, h2, h3⟩
      · obtain ⟨b, vs, e, ds1, bs1, xs, a1, a2, a3, a4, a5, a6⟩ := ih k4 hm
        exact ⟨b, vs, e, ds1, bs1, xs, a1, a2, a3, by simp [a4], a5, a6⟩
  | own h1 h2 h3 _ ih =>
    intro ds hs bs hr n g cs hm
    cases hr with
    | own k1 k2 =>
      rcases List.mem_cons.1 hm with e | hm
      · cases e
      · obtain ⟨b, vs, e, ds1, bs1, xs, a1, a2, a3, a4, a5, a6⟩ := ih k2 hm
        exact ⟨b, vs, e, ds1, bs1, xs, a1, a2, a3, by simp [a4], a5, a6⟩
theorem unOwns_ok (hE : EnvOk E) {os : List OutP} {outs : List (Back E)} (h : OutsM A A' s0 os outs) : ∀ {ds : List (Dt E)} {hs bs}, OutsR E w w' okx A' os ds hs bs → ∀ {s s1 : St E}, unOwns s outs ds = some (true, s1) →
    s1.sl = s.sl ∧ s1.n = s.n ∧ ∀ m, lk s1.ob m = lk s.ob m ∨ ∃ g t xs x, lk s1.ob m = some (g, .tok t x) ∧ lk s0.ob m = some (g, .tok t xs) ∧ x.length = xs.length ∧ OwnAt E w w' okx t x (A.O m) (A.B m) ∧ A.B m ∈ hs := by
  induction h with
  | nil =>
    intro ds hs bs _ s s1 hu
    simp only [unOwns] at hu
    injection hu with hu; injection hu with _ hu; subst hu
    exact ⟨rfl, rfl, fun _ => .inl rfl⟩
  | rw h1 h2 h3 _ ih =>
    intro ds hs bs hr s s1 hu
    cases hr with
    | rw k1 k2 k3 k4 =>
      simp only [unOwns] at hu
      rw [← (k3.lens hE).1, List.drop_left] at hu
      obtain ⟨a1, a2, a3⟩ := ih k4 hu
      refine ⟨a1, a2, fun m => (a3 m).imp id fun ⟨g, t, xs, x, b1, b2, b3, b4, b5⟩ => ⟨g, t, xs, x, b1, b2, b3, b4, by simp [b5]⟩⟩
  | own h1 h2 h3 _ ih =>
    rename_i p n g t xs r r' _
    intro ds hs bs hr s s1 hu
    cases hr with
    | own k1 k2 =>
      skip
      simp only [unOwns, if_true] at hu
      split at hu
      · rename_i c s2 hu2
        injection hu with hu; injection hu with e1 e2; subst e2
        simp only [Bool.and_eq_true, decide_eq_true_eq] at e1
        obtain ⟨e1, e2⟩ := e1
        subst e1
        obtain ⟨a1, a2, a3⟩ := ih k2 hu2
        refine ⟨a1, a2, fun m => ?_⟩
        rcases a3 m with b | ⟨g, t, xs, x, b1, b2, b3, b4, b5⟩
        · rw [St.lk_putOb] at b
          by_cases hm : m = n
          · subst hm
            rw [if_pos rfl] at b
            exact .inr ⟨g, t, xs, _, b, h3, e2, by rw [← h1, ← h2]; exact k1, by rw [← h1]; simp⟩
          · rw [if_neg hm] at b; exact .inl b
        · exact .inr ⟨g, t, xs, x, b1, b2, b3, b4, by simp [b5]⟩
      · cases hu
structure Chg (w w' : World) (es : List (Ent E)) (ok0 okx : Nat → Nat → Prop) (hs : List (Option Nat)) : Prop where
  os : w'.os = w.os
  tape : w'.tape = w.tape
  output : w'.output = w.output
  size : w.heap.size ≤ w'.heap.size
  block : ∀ b, b < w.heap.size → ¬ (∃ e ∈ es, e.B = some b) → w'.heap[b]? = w.heap[b]?
  lt : ∀ b k, okx b k → b < w'.heap.size
  sub : ∀ b k, okx b k → ok0 b k ∨ w.heap.size ≤ b ∨ ∃ e ∈ es, e.B = some b
  out : ∀ b, some b ∈ hs → ∀ k, ¬ okx b k
theorem havoc_ok (hE : EnvOk E) (I0 : Inv C s0 A ok0 tmps w) {es : List (Ent E)} (hM : Moved s0 s0 sK A es) {os : List OutP} {outs : List (Back E)} (hOM : OutsM A A' s0 os outs)
    (hX : ∀ e ∈ es, ∀ n g xs, e.src = some n → lk s0.ob n = some (g, .box xs) → ∃ cs, Back.box n g cs ∈ outs) {ds : List (Dt E)} {hs bs} (hOR : OutsR E w w' okx A' os ds hs bs) (hC : Chg w w' es ok0 okx hs)
    {s1 : St E} (hu : unOwns sK outs ds = some (true, s1)) :
    Inv C s1 A (fun b k => ok0 b k ∨ okx b k) tmps w' ∧ Keeps C.okP s0.ob A ok0 w s1.ob A (fun b k => ok0 b k ∨ okx b k) w' ∧ (∀ m h o, lk s1.ob m = some (h, o) → isLive o = true → ∀ b, A.B m = some b → b < w.heap.size ∧ ((∃ e ∈ es, e.B = some b) → some b ∈ hs)) := by
  obtain ⟨u1, u2, u3⟩ := unOwns_ok hE hOM hOR hu
  have H0 : ∀ m, (¬ ∃ e ∈ es, e.src = some m) → lk sK.ob m = lk s0.ob m := fun m hm => taken_untouched hM.less (fun n hn => hM.back n hn) hm
  have HT : ∀ m, (∃ e ∈ es, e.src = some m) → Taken s0 sK m := fun m ⟨e, he, hn⟩ => ((hM.src e he).2 m hn).2
  have cls : ∀ m g o, lk s1.ob m = some (g, o) → (lk s0.ob m = some (g, o) ∧ ¬ ∃ e ∈ es, e.src = some m) ∨
      (∃ t xs x, o = .tok t x ∧ lk s0.ob m = some (g, .tok t xs) ∧ x.length = xs.length ∧ OwnAt E w w' okx t x (A.O m) (A.B m) ∧ A.B m ∈ hs) ∨ (o = .gone) ∨
      (∃ cs b vs e, o = .box (cs.map fun _ => .dead) ∧ lk s0.ob m = some (g, .box cs) ∧ A.B m = some b ∧ w'.heap[b]? = some (.cells (vs : List Value).toArray e (0, 0)) ∧ vs.length = cs.length ∧ some b ∈ hs) := by
    intro m g o hl
    rcases u3 m with h | ⟨g', t, xs, x, b1, b2, b3, b4, b5⟩
    · by_cases hm : ∃ e ∈ es, e.src = some m
      · rcases HT m hm with ⟨g', t, xs, a, b⟩ | ⟨g', cs, hne, a, b⟩
        · rw [h, b] at hl; cases hl; exact .inr (.inr (.inl rfl))
        · rw [h, b] at hl; injection hl with hl; injection hl with e1 e2; subst e1; subst e2
          obtain ⟨e, he, hn⟩ := hm
          obtain ⟨cs', hc⟩ := hX e he m g' cs hn a
          obtain ⟨b, vs, e, ds1, bs1, xs, a1, a2, a3, a4, a5, a6⟩ := outs_box hOM hOR hc
          rw [a] at a5; injection a5 with a5; injection a5 with _ a5; injection a5 with a5; subst a5
          exact .inr (.inr (.inr ⟨cs, b, vs, e, rfl, a, a1, a2, by rw [(a3.lens hE).2, a6], a4⟩))
      · rw [h, H0 m hm] at hl; exact .inl ⟨hl, hm⟩
    · rw [b1] at hl; injection hl with hl; injection hl with e1 e2; subst e1; subst e2
      exact .inr (.inl ⟨t, xs, x, rfl, b2, b3, b4, b5⟩)
  have live0 : ∀ m g o, lk s1.ob m = some (g, o) → isLive o = true → ∃ o0, lk s0.ob m = some (g, o0) ∧ isLive o0 = true := by
    intro m g o hl hlv
    rcases cls m g o hl with ⟨h, _⟩ | ⟨t, xs, x, e, h, _⟩ | e | ⟨cs, b, vs, e', e, h, _⟩
    · exact ⟨o, h, hlv⟩
    · exact ⟨_, h, rfl⟩
    · subst e; cases hlv
    · exact ⟨_, h, rfl⟩
  have nrw : ∀ m g o b, lk s0.ob m = some (g, o) → isLive o = true → (¬ ∃ e ∈ es, e.src = some m) → A.B m = some b → ¬ ∃ e ∈ es, e.B = some b := by
    intro m g o b hl hlv hm hB hr
    obtain ⟨n, g', o', hn, hl', hlv', _, hB', _⟩ := rw_src I0 hM hr
    have := I0.inj n m g' g o' o b hl' hl hlv' hlv hB' hB
    subst this
    exact hm hn
  have same : ∀ m g o b, lk s0.ob m = some (g, o) → isLive o = true → (¬ ∃ e ∈ es, e.src = some m) → A.B m = some b → w'.heap[b]? = w.heap[b]? :=
    fun m g o b hl hlv hm hB => hC.block b (I0.own m g o b hl hlv hB).2.2.1 (nrw m g o b hl hlv hm hB)
  have nok : ∀ b k, ok0 b k → ¬ ∃ e ∈ es, e.B = some b := by
    intro b k hk hr
    obtain ⟨n, g', o', hn, hl', hlv', hlim, hB', _⟩ := rw_src I0 hM hr
    have := (I0.own n g' o' b hl' hlv' hB').1
    rw [hlim] at this
    exact this k (Nat.zero_le _) hk
  have nokP : ∀ b, C.okP b → ¬ ∃ e ∈ es, e.B = some b := by
    intro b hb hr
    obtain ⟨n, g', o', hn, hl', hlv', hlim, hB', _⟩ := rw_src I0 hM hr
    exact (I0.own n g' o' b hl' hlv' hB').2.1 hb
  have okB : ∀ b k, ok0 b k → w'.heap[b]? = w.heap[b]? := fun b k hk => hC.block b (I0.okLt b k hk) (nok b k hk)
  have car : Car C.okP s0.ob A ok0 w s1.ob A (fun b k => ok0 b k ∨ okx b k) w' := by
    refine ⟨hC.size, fun b k h => .inl h, fun b k hk => World.cell?_of_block (w := w) (w' := w') (okB b k hk), fun b hb hp => hC.block b hb (nokP b hp), fun n h o hl => ?_, fun n g cs' _ ho => ?_, fun n g t xs' _ ho => ?_, fun n g t xs _ ho => ?_⟩
    · rcases u3 n with e | ⟨g', t, xs, x, b1, b2, _⟩
      · by_cases hm : ∃ e ∈ es, e.src = some n
        · rcases HT n hm with ⟨g', t, xs, a, b⟩ | ⟨g', cs, hne, a, b⟩
          · rw [hl] at a; injection a with a; injection a with a1 _; subst a1
            exact ⟨h, _, by rw [e, b], Nat.le_refl _⟩
          · rw [hl] at a; injection a with a; injection a with a1 _; subst a1
            exact ⟨h, _, by rw [e, b], Nat.le_refl _⟩
        · exact ⟨h, o, by rw [e, H0 n hm]; exact hl, Nat.le_refl _⟩
      · rw [hl] at b2; injection b2 with b2; injection b2 with b2 _; subst b2
        exact ⟨h, _, b1, Nat.le_refl _⟩
    · rcases cls n g _ (lk_of_obj ho) with ⟨h, _⟩ | ⟨t, xs, x, e, _⟩ | e | ⟨cs, b, vs, e', e, h, _⟩
      · exact ⟨cs', obj_of_lk h, rfl⟩
      · cases e
      · cases e
      · exact ⟨cs, obj_of_lk h, rfl⟩
    · rcases cls n g _ (lk_of_obj ho) with ⟨h, hm⟩ | ⟨t', xs, x, e, h, hlen, hat, _⟩ | e | ⟨cs, b, vs, e', e, h, _⟩
      · refine ⟨xs', obj_of_lk h, rfl, rfl, rfl, fun b cs e hB hc => ⟨cs, ?_, rfl⟩⟩
        rw [same n g _ b h rfl hm hB]; exact hc
      · injection e with e1 e2; subst e1; cases e2
        refine ⟨xs, obj_of_lk h, hlen, rfl, rfl, fun b cs e hB hc => ?_⟩
        rw [hB] at hat
        obtain ⟨cs', e', h1, _, h3⟩ := hat
        obtain ⟨k1, k2⟩ := h3 cs e hc
        subst k1
        exact ⟨cs', h1, k2.symm⟩
      · cases e
      · cases e
    · rcases cls n g _ (lk_of_obj ho) with ⟨h, hm⟩ | ⟨t', xs, x, e, _⟩ | e | ⟨cs, b, vs, e', e, h, _⟩
      · refine ⟨.inl (obj_of_lk h), rfl, rfl, fun b cs e hB hc => ⟨cs, ?_, rfl⟩⟩
        rw [same n g _ b h rfl hm hB]; exact hc
      · cases e
      · cases e
      · cases e
  have notokx : ∀ m g o b, lk s0.ob m = some (g, o) → isLive o = true → (¬ ∃ e ∈ es, e.src = some m) → A.B m = some b → ∀ k, lim A m o ≤ k → ¬ okx b k := by
    intro m g o b hl hlv hm hB k hk hx
    rcases hC.sub b k hx with h | h | h
    · exact (I0.own m g o b hl hlv hB).1 k hk h
    · have := (I0.own m g o b hl hlv hB).2.2.1; omega
    · exact nrw m g o b hl hlv hm hB h
  refine ⟨I0.next car (u1.trans hM.less.sl) (u2.trans hM.less.n) hC.os hC.tape hC.output (fun b hb hr => ?_) (fun b k hk => ?_) (fun b k hk => ?_) (fun m g o hl => ?_) (fun m g o b hl hlv hB => ?_) (fun n m g h o p b hl hl' hlv hlv' hB hB' => ?_) (fun m g o hp hl => ?_), car.keeps I0.okLt, fun m h o hl hlv b hB => ?_⟩
  · refine hC.block b (Nat.lt_of_lt_of_le hb I0.size) fun h => ?_
    obtain ⟨n, g', o', hn, hl', hlv', hlim, hB', _⟩ := rw_src I0 hM h
    rcases (I0.own n g' o' b hl' hlv' hB').2.2.2 with h | h
    · omega
    · exact hr h
  · exact hk.elim (fun h => Nat.lt_of_lt_of_le (I0.okLt b k h) hC.size) (hC.lt b k)
  · rcases hk with h | h
    · exact I0.okSub b k h
    · rcases hC.sub b k h with h | h | h
      · exact I0.okSub b k h
      · exact .inr (.inl (Nat.le_trans I0.size h))
      · obtain ⟨n, g', o', hn, hl', hlv', hlim, hB', _⟩ := rw_src I0 hM h
        exact .inr (I0.own n g' o' b hl' hlv' hB').2.2.2
  · rcases cls m g o hl with ⟨h, hm⟩ | ⟨t, xs, x, e, h, hlen, hat, _⟩ | e | ⟨cs, b, vs, e', e, h, hB, hw, hlen, _⟩
    · exact (I0.obj m g o h).car car I0.okLt rfl rfl fun b hB hlv => same m g o b h hlv hm hB
    · subst e
      unfold RepOb
      cases hB : A.B m with
      | none => rw [hB] at hat; exact hat
      | some b => rw [hB] at hat; obtain ⟨cs, e, h1, h2, _⟩ := hat; exact ⟨cs, e, h1, h2.up fun b k h => .inr h⟩
    · subst e; trivial
    · subst e
      refine ⟨b, vs, e', hB, hw, ?_⟩
      clear hw hl h
      induction cs generalizing vs with
      | nil => cases vs with
        | nil => exact .nil
        | cons _ _ => simp at hlen
      | cons c r ih => cases vs with
        | nil => simp at hlen
        | cons v vs => exact .cons trivial (ih vs (by simpa using hlen))
  · rcases cls m g o hl with ⟨h, hm⟩ | ⟨t, xs, x, e, h, hlen, hat, hin⟩ | e | ⟨cs, b', vs, e', e, h, hB', hw, hlen, hin⟩
    · obtain ⟨a1, a2, a3, a4⟩ := I0.own m g o b h hlv hB
      exact ⟨fun k hk hh => hh.elim (a1 k hk) (notokx m g o b h hlv hm hB k hk), a2, Nat.lt_of_lt_of_le a3 hC.size, a4⟩
    · obtain ⟨a1, a2, a3, a4⟩ := I0.own m g _ b h rfl hB
      rw [hB] at hin
      exact ⟨fun k _ hh => hh.elim (a1 k (Nat.zero_le _)) (hC.out b hin k), a2, Nat.lt_of_lt_of_le a3 hC.size, a4⟩
    · subst e; cases hlv
    · obtain ⟨a1, a2, a3, a4⟩ := I0.own m g _ b h rfl hB
      rw [hB] at hB'; injection hB' with hB'; subst hB'
      exact ⟨fun k _ hh => hh.elim (a1 k (Nat.zero_le _)) (hC.out b hin k), a2, Nat.lt_of_lt_of_le a3 hC.size, a4⟩
  · obtain ⟨o0, k1, k2⟩ := live0 n g o hl hlv
    obtain ⟨p0, l1, l2⟩ := live0 m h p hl' hlv'
    exact I0.inj n m g h o0 p0 b k1 l1 k2 l2 hB hB'
  · rcases cls m g o hl with ⟨h, hm⟩ | ⟨t, xs, x, e, h, hlen, hat, hin⟩ | e | ⟨cs, b', vs, e', e, h, hB', hw, hlen, hin⟩
    · obtain ⟨hg, hP⟩ := I0.pin m g o hp h
      refine ⟨hg, ?_⟩
      have key : isLive o = true → (∀ b cs e, A.B m = some b → C.w0.heap[b]? = some (.cells cs e (0, 0)) → ∃ cs', w.heap[b]? = some (.cells cs' e (0, 0)) ∧ cs'.size = cs.size) → ∀ b cs e, A.B m = some b → C.w0.heap[b]? = some (.cells cs e (0, 0)) → ∃ cs', w'.heap[b]? = some (.cells cs' e (0, 0)) ∧ cs'.size = cs.size := by
        intro hlv hk b cs e hB hc
        obtain ⟨cs', h1, h2⟩ := hk b cs e hB hc
        exact ⟨cs', by rw [same m g o b h hlv hm hB]; exact h1, h2⟩
      cases o with
      | gone => trivial
      | box cs => exact hP
      | tok t xs => exact ⟨hP.1, hP.2.1, key rfl hP.2.2⟩
      | frz t xs => exact ⟨hP.1, hP.2.1, key rfl hP.2.2⟩
    · subst e
      obtain ⟨hg, hP⟩ := I0.pin m g _ hp h
      refine ⟨hg, hP.1, hP.2.1, fun b cs e hB hc => ?_⟩
      obtain ⟨cs', h1, h2⟩ := hP.2.2 b cs e hB hc
      rw [hB] at hat
      obtain ⟨cs2, e2, h3, _, h5⟩ := hat
      obtain ⟨k1, k2⟩ := h5 cs' e h1
      subst k1
      exact ⟨cs2, h3, by rw [← k2]; exact h2⟩
    · subst e
      refine ⟨?_, trivial⟩
      rcases u3 m with e | ⟨g', t, xs, x, b1, b2, _⟩
      · by_cases hm : ∃ e ∈ es, e.src = some m
        · rcases HT m hm with ⟨g', t, xs, a, b⟩ | ⟨g', cs, hne, a, b⟩
          · rw [e, b] at hl; injection hl with hl; injection hl with hl _; subst hl
            exact (I0.pin m g' _ hp a).1
          · rw [e, b] at hl; cases hl
        · rw [e, H0 m hm] at hl
          exact (I0.pin m g _ hp hl).1
      · rw [b1] at hl; cases hl
    · subst e
      exact I0.pin m g _ hp h
  · rcases cls m h o hl with ⟨h', hm⟩ | ⟨t, xs, x, e, h', hlen, hat, hin⟩ | e | ⟨cs, b', vs, e', e, h', hB', hw, hlen, hin⟩
    · exact ⟨(I0.own m h o b h' hlv hB).2.2.1, fun hr => absurd hr (nrw m h o b h' hlv hm hB)⟩
    · exact ⟨(I0.own m h _ b h' rfl hB).2.2.1, fun _ => by rw [← hB]; exact hin⟩
    · subst e; cases hlv
    · rw [hB] at hB'; injection hB' with hB'; subst hB'
      exact ⟨(I0.own m h _ b h' rfl hB).2.2.1, fun _ => hin⟩
end
end Go.Proofs.AM

namespace Go.Proofs.AM
open Go Go.RowKit
variable {E : Env}
def Free (C : FC) (s : St E) (A : Asg) (ok : Nat → Nat → Prop) (w : World) (L : List (Option Nat)) : Prop :=
  Dist L ∧ ∀ b, some b ∈ L → (∀ k, ¬ ok b k) ∧ ¬ C.okP b ∧ b < w.heap.size ∧ (C.w0.heap.size ≤ b ∨ C.rw b) ∧ ∀ m h o, lk s.ob m = some (h, o) → isLive o = true → A.B m ≠ some b
section
variable {C : FC} {s : St E} {A : Asg} {ok : Nat → Nat → Prop} {tmps : Array Value} {w : World}
theorem newOwn_ok (I : Inv C s A ok tmps w) {t : Ty} {xs : List (den E.Γ t)} {v : Value} {blk : Option Nat} {L : List (Option Nat)} (hv : OwnV E w ok t xs v blk) (hF : Free C s A ok w (blk :: L)) {d : Nat} (hpn : ¬ pinned d) :
    ∃ A2, Inv C (s.fresh d (.tok t xs)) A2 ok tmps w ∧ Keeps C.okP s.ob A ok w (s.fresh d (.tok t xs)).ob A2 ok w ∧ RepCV w ok C.okP (s.fresh d (.tok t xs)).ob A2 (.ref d (s.gen d) none) v ∧ Free C (s.fresh d (.tok t xs)) A2 ok w L := by
  obtain ⟨hd, hb⟩ := hF
  obtain ⟨hd1, hd2⟩ := List.pairwise_cons.1 hd
  have free : ∀ off, Free C (s.fresh d (.tok t xs)) (A.at d blk off) ok w L := fun off => ⟨hd2, fun b hm => by
    obtain ⟨a1, a2, a3, a4, a5⟩ := hb b (by simp [hm])
    refine ⟨a1, a2, a3, a4, fun m h o hl hlv => ?_⟩
    unfold St.fresh at hl
    rw [St.lk_putOb] at hl
    by_cases hmd : m = d
    · subst hmd
      rw [Asg.at_B]
      intro e
      exact hd1 (some b) hm b e rfl
    · rw [if_neg hmd] at hl
      rw [(Asg.at_ne A blk off hmd).1]
      exact a5 m h o hl hlv⟩
  have hobj : ∀ {o : Ob E}, objOf (s.fresh d (.tok t xs)).ob d (s.gen d) = some o → o = .tok t xs := fun h => by
    have := obj_put s d (s.gen d) (.tok t xs)
    unfold St.fresh at h
    rw [this] at h; injection h with h; exact h.symm
  cases blk with
  | none =>
    obtain ⟨hv1, hv2⟩ := hv
    subst hv1; subst hv2
    obtain ⟨I2, K2⟩ := I.freshNil hpn t
    refine ⟨_, I2, K2, ⟨⟨Known.put _ _ _ _, rfl⟩, fun t' xs' ho => ?_, fun t' xs' ho => ?_⟩, free 0⟩
    · have := hobj ho
      injection this with e1 e2; subst e1; cases e2
      unfold RepRef
      simp [winLen]
    · have := hobj ho; cases this
  | some b =>
    obtain ⟨o, cap, cs, e, hv, hw, hcap, hsp, hrow⟩ := hv
    obtain ⟨a1, a2, a3, a4, a5⟩ := hb b (by simp)
    have h2 := I.upd (n := d) (g := s.gen d) (o' := .tok t xs) (A' := A.at d (some b) o) (okS' := ok) (w' := w) (fun m hm => Asg.at_ne _ _ _ hm) (fun h => absurd h hpn) (fun h o hl => by rw [St.gen_gt hl]; omega)
      (Nat.le_refl _) rfl rfl rfl (fun _ _ _ => rfl) (fun _ _ _ _ => rfl) (fun _ _ h => h) I.okLt I.okSub (fun b k h1 h2 => absurd h1 h2) (fun o hl => by have := St.gen_gt hl; omega) (fun K => by
        unfold RepOb
        simp only [Asg.at_B, Asg.at_O]
        exact ⟨_, e, hw, hrow.toRow⟩) (fun _ b' hb' => by
        simp at hb'; subst hb'
        exact ⟨fun k _ => a1 k, a2, a3, a4, fun m h o' _ hl hlv => a5 m h o' hl hlv⟩)
    refine ⟨_, h2.1, h2.2, ⟨⟨Known.put _ _ _ _, by subst hv; rfl⟩, fun t' xs' ho2 => ?_, fun t' xs' ho2 => ?_⟩, free o⟩
    · have := hobj ho2
      injection this with e1 e2; subst e1; cases e2
      unfold RepRef
      simp only [Asg.at_B, Asg.at_O]
      exact ⟨o, cap, cs, e, by simp [winLen, hv], hw, by simp [winLo, winLen], by simpa [winLen] using hcap, .inr (by simp [winLo]), hsp⟩
    · have := hobj ho2; cases this
theorem unRes_ok (hE : EnvOk E) {ps : List (Ty × Bool)} {ds1 : List (Dt E)} {vs : List Value} {bs : List (Option Nat)} (h : Pieces E w ok ps ds1 vs bs) : ∀ {b : Nat} {s : St E} {A : Asg} {L : List (Option Nat)} {ds : List (Dt E)} {cs : List (CV E)} {b' : Nat} {s' : St E} {ds' : List (Dt E)},
    Inv C s A ok tmps w → Free C s A ok w (bs ++ L) → 500000 ≤ b → unRes b s ps (ds1 ++ ds) = some (cs, b', s', ds') →
    ds' = ds ∧ b ≤ b' ∧ ∃ A', Inv C s' A' ok tmps w ∧ Keeps C.okP s.ob A ok w s'.ob A' ok w ∧ All2 (RepCV w ok C.okP s'.ob A') cs vs ∧ Free C s' A' ok w L := by
  induction h with
  | nil =>
    intro b s A L ds cs b' s' ds' I hF hb hu
    simp only [List.nil_append, unRes] at hu
    injection hu with hu; injection hu with e1 hu; injection hu with e2 hu; injection hu with e3 e4
    subst e1; subst e2; subst e3; subst e4
    exact ⟨rfl, Nat.le_refl _, A, I, Keeps.refl _ _ _ _ _, .nil, hF⟩
  | imm hd _ ih =>
    intro b s A L ds cs b' s' ds' I hF hb hu
    simp only [List.cons_append, unRes] at hu
    split at hu
    · rename_i cs2 b2 s2 ds2 hu2
      injection hu with hu; injection hu with e1 hu; injection hu with e2 hu; injection hu with e3 e4
      subst e1; subst e2; subst e3; subst e4
      obtain ⟨k1, k2, A', k3, k4, k5, k6⟩ := ih I hF hb hu2
      exact ⟨k1, k2, A', k3, k4, (exp_rep hE hd).append k5, k6⟩
    · cases hu
  | own hv _ ih =>
    intro b s A L ds cs b' s' ds' I hF hb hu
    simp only [List.cons_append, unRes] at hu
    split at hu
    · rename_i cs2 b2 s2 ds2 hu2
      injection hu with hu; injection hu with e1 hu; injection hu with e2 hu; injection hu with e3 e4
      subst e1; subst e2; subst e3; subst e4
      obtain ⟨A2, j1, j2, j3, j4⟩ := newOwn_ok I hv hF (d := b) (fun hp => by have := hp.2; omega)
      obtain ⟨k1, k2, A', k3, k4, k5, k6⟩ := ih j1 j4 (by omega) hu2
      exact ⟨k1, by omega, A', k3, j2.trans k4, .cons (k4.cv _ _ j3) k5, k6⟩
    · cases hu
theorem unResults_ok (hE : EnvOk E) {rs : List (Bool × List (Ty × Bool))} {ds1 : List (Dt E)} {l : List (Bool × List Value)} {bs : List (Option Nat)} (h : ResP E w ok rs ds1 l bs) : ∀ {b : Nat} {s : St E} {A : Asg} {L : List (Option Nat)} {ds : List (Dt E)} {l' : List (Bool × List (CV E))} {b' : Nat} {s' : St E} {ds' : List (Dt E)},
    Inv C s A ok tmps w → Free C s A ok w (bs ++ L) → 500000 ≤ b → unResults b s rs (ds1 ++ ds) = some (l', b', s', ds') →
    ds' = ds ∧ b ≤ b' ∧ ∃ A', Inv C s' A' ok tmps w ∧ Keeps C.okP s.ob A ok w s'.ob A' ok w ∧ All2 (fun (p : Bool × List (CV E)) (q : Bool × List Value) => p.1 = q.1 ∧ All2 (RepCV w ok C.okP s'.ob A') p.2 q.2) l' l ∧ Free C s' A' ok w L := by
  induction h with
  | nil =>
    intro b s A L ds cs b' s' ds' I hF hb hu
    simp only [List.nil_append, unResults] at hu
    injection hu with hu; injection hu with e1 hu; injection hu with e2 hu; injection hu with e3 e4
    subst e1; subst e2; subst e3; subst e4
    exact ⟨rfl, Nat.le_refl _, A, I, Keeps.refl _ _ _ _ _, .nil, hF⟩
  | cons hp _ ih =>
    intro b s A L ds cs b' s' ds' I hF hb hu
    simp only [unResults, List.append_assoc] at hu
    split at hu
    · rename_i cs2 b2 s2 ds2 hu2
      split at hu
      · rename_i l3 b3 s3 ds3 hu3
        injection hu with hu; injection hu with e1 hu; injection hu with e2 hu; injection hu with e3 e4
        subst e1; subst e2; subst e3; subst e4
        rw [List.append_assoc] at hF
        obtain ⟨k1, k2, A', k3, k4, k5, k6⟩ := unRes_ok hE hp I hF hb hu2
        subst k1
        obtain ⟨m1, m2, A3, m3, m4, m5, m6⟩ := ih k3 k6 (by omega) hu3
        exact ⟨m1, by omega, A3, m3, k4.trans m4, .cons ⟨rfl, k5.imp fun c v h => m4.cv c v h⟩ m5, m6⟩
      · cases hu
    · cases hu
theorem unOuts_ok (hE : EnvOk E) {A0 A' : Asg} {s0 : St E} {w0 : World} {os : List OutP} {outs : List (Back E)} (h : OutsM A0 A' s0 os outs) : ∀ {ds : List (Dt E)} {hs bs : List (Option Nat)}, OutsR E w0 w ok A' os ds hs bs → ∀ {b : Nat} {s : St E} {A : Asg} {s' : St E},
    Inv C s A ok tmps w → Free C s A ok w bs → 500000 ≤ b → (∀ n g cs, Back.box n g cs ∈ outs → ∀ b, A0.B n = some b → RepCV w ok C.okP s.ob A (.ptr n g 0) (.pointer (some ⟨b, 0, none⟩))) → unOuts b s outs ds = some s' →
    ∃ A', Inv C s' A' ok tmps w ∧ Keeps C.okP s.ob A ok w s'.ob A' ok w := by
  induction h with
  | nil =>
    intro ds hs bs hr b s A s' I hF hb hp hu
    cases hr
    simp only [unOuts] at hu
    injection hu with hu; subst hu
    exact ⟨A, I, Keeps.refl _ _ _ _ _⟩
  | rw h1 h2 h3 _ ih =>
    rename_i p cs n g xs r r' _
    intro ds hs bs hr b s A s' I hF hb hp hu
    cases hr with
    | rw k1 k2 k3 k4 =>
      simp only [unOuts] at hu
      split at hu
      · rename_i vs b2 s2 ds2 hu2
        obtain ⟨m1, m2, A2, m3, m4, m5, m6⟩ := unRes_ok hE k3 I hF hb hu2
        subst m1
        split at hu
        · rename_i xs2 ho
          have hl2 := lk_of_obj (ob := s2.ob) ho
          have hptr := m4.cv _ _ (hp n g cs (by simp) _ (by rw [← h1]; exact k1))
          obtain ⟨b', hB, hbe⟩ := hptr.2.2 _ ho
          injection hbe with hbe; injection hbe with hbe; injection hbe with hbe; subst hbe
          obtain ⟨I3, K3⟩ := m3.write (o' := .box vs) hl2 rfl rfl hB rfl rfl rfl rfl (fun _ _ => rfl) ⟨⟨_, rfl⟩, rfl⟩ rfl fun K => ⟨_, _, _, hB, k2, m5.imp fun c v h => K.cv c v h⟩
          have hF3 : Free C (s2.putOb n g (.box vs)) A2 ok w _ := ⟨m6.1, fun x hx => by
            obtain ⟨a1, a2, a3, a4, a5⟩ := m6.2 x hx
            refine ⟨a1, a2, a3, a4, fun m h o hl hlv => ?_⟩
            rw [St.lk_putOb] at hl
            by_cases hm : m = n
            · subst hm; exact a5 m g _ hl2 rfl
            · rw [if_neg hm] at hl; exact a5 m h o hl hlv⟩
          obtain ⟨A4, I4, K4⟩ := ih k4 I3 hF3 (by omega) (fun n' g' cs' hm b hb => K3.cv _ _ (m4.cv _ _ (hp n' g' cs' (by simp [hm]) b hb))) hu
          exact ⟨A4, I4, (m4.trans K3).trans K4⟩
        · cases hu
      · cases hu
  | own h1 h2 h3 _ ih =>
    intro ds hs bs hr b s A s' I hF hb hp hu
    cases hr with
    | own k1 k2 =>
      simp only [unOuts] at hu
      exact ih k2 I hF hb (fun n' g' cs' hm b hb => hp n' g' cs' (by simp [hm]) b hb) hu
theorem resSV_ok {okP : Nat → Prop} {ob : Obs E} {l' : List (Bool × List (CV E))} {l : List (Bool × List Value)} {v : Value} {sv : SV E} (h : All2 (fun (p : Bool × List (CV E)) (q : Bool × List Value) => p.1 = q.1 ∧ All2 (RepCV w ok okP ob A) p.2 q.2) l' l)
    (hv : ResV l v) (hs : resSV l' = some sv) : RepSV w ok okP ob A tmps sv v ∧ noGl sv = true := by
  have part : ∀ {a : Bool} {cs : List (CV E)} {vs : List Value} {u : Value}, All2 (RepCV w ok okP ob A) cs vs → PartV a vs u → RepPart w ok okP ob A (a, cs) u := by
    intro a cs vs u hc hp
    cases a with
    | true => exact ⟨vs, hp, hc⟩
    | false =>
      have : vs = [u] := hp
      subst this
      cases hc with
      | cons h1 h2 => cases h2; exact ⟨_, rfl, h1⟩
  have tup : ∀ {l' : List (Bool × List (CV E))} {l : List (Bool × List Value)} {us : List Value}, All2 (fun (p : Bool × List (CV E)) (q : Bool × List Value) => p.1 = q.1 ∧ All2 (RepCV w ok okP ob A) p.2 q.2) l' l → All2 (fun (p : Bool × List Value) u => PartV p.1 p.2 u) l us →
      All2 (RepPart w ok okP ob A) l' us := by
    intro l' l us h
    induction h generalizing us with
    | nil => intro hu; cases hu; exact .nil
    | cons hh _ ih =>
      intro hu
      cases hu with
      | cons h1 h2 =>
        refine .cons ?_ (ih h2)
        have key : ∀ (p : Bool × List (CV E)) (q : Bool × List Value) (u : Value), (p.1 = q.1 ∧ All2 (RepCV w ok okP ob A) p.2 q.2) → PartV q.1 q.2 u → RepPart w ok okP ob A p u := by
          intro p q u hh h1
          obtain ⟨a, cs⟩ := p
          obtain ⟨a', vs⟩ := q
          obtain ⟨e, hc⟩ := hh
          have e : a = a' := e
          subst e
          exact part hc h1
        exact key _ _ _ hh h1
  cases h with
  | nil =>
    simp only [resSV] at hs; injection hs with hs; subst hs
    obtain ⟨us, hv, hu⟩ := hv
    exact ⟨⟨us, hv, tup .nil hu⟩, rfl⟩
  | cons h1 h2 =>
    cases h2 with
    | nil =>
      rename_i p q
      obtain ⟨a, cs⟩ := p
      obtain ⟨a', vs⟩ := q
      obtain ⟨e, hc⟩ := h1
      have e : a = a' := e
      subst e
      simp only [resSV, mkSV] at hs
      cases a with
      | true =>
        simp only [cond_true] at hs; injection hs with hs; subst hs
        exact ⟨⟨vs, hv, hc⟩, rfl⟩
      | false =>
        simp only [cond_false] at hs
        have : vs = [v] := hv
        subst this
        cases hc with
        | cons g1 g2 => cases g2; injection hs with hs; subst hs; exact ⟨g1, rfl⟩
    | cons h2 h3 =>
      simp only [resSV] at hs; injection hs with hs; subst hs
      obtain ⟨us, hv, hu⟩ := hv
      exact ⟨⟨us, hv, tup (.cons h1 (.cons h2 h3)) hu⟩, rfl⟩
end
end Go.Proofs.AM

namespace Go.Proofs.AM
open Go Go.RowKit
variable {E : Env}
theorem RepD.flat {w w' : World} {ok ok' : Nat → Nat → Prop} {t : Ty} {x : den E.Γ t} {cs : List Value} (h : RepD E w ok t x cs) (hs : hasSlice t = false) : RepD E w' ok' t x cs := by
  induction h with
  | unit => exact .unit
  | int => exact .int _ _
  | bool => exact .bool _
  | str => exact .str _
  | pair _ _ ih1 ih2 =>
    simp only [hasSlice, Bool.or_eq_false_iff] at hs
    exact .pair (ih1 hs.1) (ih2 hs.2)
  | nom _ _ => simp [hasSlice] at hs
  | nil p => exact .nil p
  | onil => exact .onil
  | osome _ _ => simp [hasSlice] at hs
  | slice _ _ _ _ _ _ _ _ _ _ _ => simp [hasSlice] at hs
theorem Pieces.flat {w : World} {ok ok' : Nat → Nat → Prop} {ps : List (Ty × Bool)} {ds : List (Dt E)} {vs : List Value} {bs : List (Option Nat)} (h : Pieces E w ok ps ds vs bs) (hk : mayKeep ps = false) : Pieces E w ok' ps ds vs bs := by
  induction h with
  | nil => exact .nil
  | imm hd _ ih =>
    simp only [mayKeep, List.any_cons, Bool.or_eq_false_iff, cond_false] at hk ih
    exact .imm (hd.flat hk.1) (ih hk.2)
  | own hv _ ih =>
    rename_i t xs v b ps ds vs bs _
    simp only [mayKeep, List.any_cons, Bool.or_eq_false_iff, cond_true, elemTy] at hk ih
    refine .own ?_ (ih hk.2)
    cases b with
    | none => exact hv
    | some b => obtain ⟨o, cap, cs, e, h1, h2, h3, h4, h5⟩ := hv; exact ⟨o, cap, cs, e, h1, h2, h3, h4, h5.imp fun x c r => r.flat hk.1⟩
theorem ResP.flat {w : World} {ok ok' : Nat → Nat → Prop} {rs : List (Bool × List (Ty × Bool))} {ds : List (Dt E)} {l : List (Bool × List Value)} {bs : List (Option Nat)} (h : ResP E w ok rs ds l bs) (hk : mayKeep (resPieces rs) = false) : ResP E w ok' rs ds l bs := by
  induction h with
  | nil => exact .nil
  | cons hp _ ih =>
    simp only [resPieces, List.flatMap_cons, mayKeep, List.any_append, Bool.or_eq_false_iff] at hk ih
    exact .cons (hp.flat hk.1) (ih hk.2)
def osFlat (os : List OutP) : Prop := ∀ o ∈ os, match o with
  | .rw _ cs => mayKeep cs = false
  | .own _ t => hasSlice t = false
theorem OutsR.flat {w0 w : World} {ok ok' : Nat → Nat → Prop} {A : Asg} {os : List OutP} {ds : List (Dt E)} {hs bs : List (Option Nat)} (h : OutsR E w0 w ok A os ds hs bs) (hk : osFlat os) : OutsR E w0 w ok' A os ds hs bs := by
  induction h with
  | nil => exact .nil
  | rw h1 h2 h3 _ ih => exact .rw h1 h2 (h3.flat (hk _ List.mem_cons_self)) (ih fun o ho => hk o (by simp [ho]))
  | own h1 _ ih =>
    rename_i p t x r ds hs bs _
    refine .own ?_ (ih fun o ho => hk o (by simp [ho]))
    have ht : hasSlice t = false := hk _ List.mem_cons_self
    unfold OwnAt at h1 ⊢
    cases hb : A.B (nameP p) with
    | none => rw [hb] at h1; exact h1
    | some b =>
      rw [hb] at h1
      obtain ⟨cs, e, k1, ⟨f, k2⟩, k3⟩ := h1
      exact ⟨cs, e, k1, ⟨f, fun i hi => ⟨(k2 i hi).1, (k2 i hi).2.1, (k2 i hi).2.2.flat ht⟩⟩, k3⟩
theorem freeze_lk (s : St E) (n g m : Nat) : lk (s.freeze n g).ob m = lk s.ob m ∨ (m = n ∧ ∃ t xs, lk s.ob n = some (g, .tok t xs) ∧ lk (s.freeze n g).ob n = some (g, .frz t xs)) := by
  unfold St.freeze
  split
  · rename_i t xs ho
    rw [St.lk_putOb]
    by_cases h : m = n
    · subst h; exact .inr ⟨rfl, t, xs, lk_of_obj (ob := s.ob) ho, by rw [St.lk_putOb]; simp⟩
    · rw [if_neg h]; exact .inl rfl
  · exact .inl rfl
theorem freeze_sl (s : St E) (n g : Nat) : (s.freeze n g).sl = s.sl ∧ (s.freeze n g).n = s.n := by unfold St.freeze; split <;> exact ⟨rfl, rfl⟩
theorem frzList_sl : ∀ (l : List (CV E)) (s : St E), (frzList s l).sl = s.sl ∧ (frzList s l).n = s.n
  | [], s => ⟨rfl, rfl⟩
  | c :: r, s => by
    cases c with
    | ref n g w => simp only [frzList]; obtain ⟨h1, h2⟩ := frzList_sl r (s.freeze n g); exact ⟨h1.trans (freeze_sl s n g).1, h2.trans (freeze_sl s n g).2⟩
    | _ => exact frzList_sl r s
theorem frzList_tok : ∀ (l : List (CV E)) (s : St E) (n g : Nat) (t : Ty) (xs : List (den E.Γ t)), (frzList s l).obj n g = some (.tok t xs) → s.obj n g = some (.tok t xs) ∧ ∀ win, CV.ref n g win ∉ l
  | [], s, n, g, t, xs, h => ⟨h, by simp⟩
  | c :: r, s, n, g, t, xs, h => by
    have other : (∀ m h w, c ≠ .ref m h w) → s.obj n g = some (.tok t xs) ∧ ∀ win, CV.ref n g win ∉ c :: r := by
      intro hc
      have : frzList s (c :: r) = frzList s r := by cases c <;> first | rfl | exact absurd rfl (hc _ _ _)
      rw [this] at h
      obtain ⟨h1, h2⟩ := frzList_tok r s n g t xs h
      exact ⟨h1, fun win hm => by rcases List.mem_cons.1 hm with e | hm; exact hc _ _ _ e.symm; exact h2 win hm⟩
    cases c with
    | ref m h' w =>
      simp only [frzList] at h
      obtain ⟨h1, h2⟩ := frzList_tok r (s.freeze m h') n g t xs h
      have hl := lk_of_obj (ob := (s.freeze m h').ob) h1
      rcases freeze_lk s m h' n with e | ⟨e, t', xs', k1, k2⟩
      · rw [e] at hl
        refine ⟨obj_of_lk hl, fun win hm => ?_⟩
        rcases List.mem_cons.1 hm with e2 | hm
        · injection e2 with e3 e4 _
          subst e3; subst e4
          have : (s.freeze n g).obj n g ≠ some (.tok t xs) := by
            unfold St.freeze
            have : s.obj n g = some (.tok t xs) := obj_of_lk hl
            rw [this]
            intro hh
            have := obj_put s n g (.frz t xs)
            simp only [St.obj] at hh
            rw [this] at hh; cases hh
          exact this h1
        · exact h2 win hm
      · subst e; rw [k2] at hl; cases hl
    | _ => exact other (fun _ _ _ e => by cases e)
theorem frzList_box : ∀ (l : List (CV E)) (s : St E) (n g : Nat) (xs : List (CV E)), lk (frzList s l).ob n = some (g, .box xs) → lk s.ob n = some (g, .box xs)
  | [], s, n, g, xs, h => h
  | c :: r, s, n, g, xs, h => by
    cases c with
    | ref m h' w =>
      simp only [frzList] at h
      have h1 := frzList_box r (s.freeze m h') n g xs h
      rcases freeze_lk s m h' n with e | ⟨e, t', xs', k1, k2⟩
      · rw [e] at h1; exact h1
      · subst e; rw [k2] at h1; cases h1
    | _ => exact frzList_box r s n g xs h
theorem ev_frz (l : List (CV E)) (s : St E) (ch : Chain) (x : Operand) : ev (frzList s l) ch x = ev s ch x := by
  cases x <;> simp [ev, St.slot, (frzList_sl l s).1]
theorem valCells_mem : ∀ (ps : List PM) (svs : List (SV E)) (t : Ty) (sv : SV E) (cs : List (CV E)), (PM.val t, sv) ∈ ps.zip svs → svCells sv = some cs → ∀ c ∈ cs, c ∈ valCells ps svs
  | [], svs, t, sv, cs, h, _, _, _ => by simp at h
  | p :: ps, [], t, sv, cs, h, _, _, _ => by simp at h
  | p :: ps, v :: svs, t, sv, cs, h, hc, c, hm => by
    simp only [List.zip_cons_cons, List.mem_cons] at h
    rcases h with e | h
    · injection e with e1 e2
      subst e1; subst e2
      simp [valCells, hc, hm]
    · have := valCells_mem ps svs t sv cs h hc c hm
      cases p <;> simp [valCells, this]
theorem rwImm_mem (s : St E) : ∀ (ps : List PM) (svs : List (SV E)) (cs : List (Ty × Bool)) (n g : Nat) (xs : List (CV E)), (PM.rw cs, SV.c (CV.ptr n g 0)) ∈ ps.zip svs → s.obj n g = some (.box xs) → ∀ c ∈ immRefs cs xs, c ∈ rwImm s ps svs
  | [], svs, cs, n, g, xs, h, _, _, _ => by simp at h
  | p :: ps, [], cs, n, g, xs, h, _, _, _ => by simp at h
  | p :: ps, v :: svs, cs, n, g, xs, h, ho, c, hm => by
    simp only [List.zip_cons_cons, List.mem_cons] at h
    rcases h with e | h
    · injection e with e1 e2
      subst e1; subst e2
      simp [rwImm, ho, hm]
    · have := rwImm_mem s ps svs cs n g xs h ho c hm
      have key : ∃ l, rwImm s (p :: ps) (v :: svs) = l ++ rwImm s ps svs := by
        by_cases hh : ∃ cs n g, p = .rw cs ∧ v = .c (.ptr n g 0)
        · obtain ⟨cs, n, g, e1, e2⟩ := hh
          subst e1; subst e2
          exact ⟨_, by rw [rwImm]⟩
        · refine ⟨[], ?_⟩
          rw [rwImm]
          · rfl
          · intro cs n g e1 e2; exact hh ⟨cs, n, g, e1, e2⟩
      obtain ⟨l, hl⟩ := key
      rw [hl]; simp [this]
theorem hands_outs : ∀ (ps : List PM) (svs : List (SV E)) (s : St E) hs sK outs, hands s ps svs = some (hs, sK, outs) → (∀ n g cs, Back.box n g cs ∈ outs → PM.rw cs ∈ ps) ∧ (∀ n g t xs, Back.own n g t xs ∈ outs → PM.own t ∈ ps)
  | [], svs, s, hs, sK, outs, h => by
    cases svs with
    | nil => simp only [hands] at h; injection h with h; injection h with _ h; injection h with _ h; subst h; simp
    | cons _ _ => simp [hands] at h
  | p :: ps, svs, s, hs, sK, outs, h => by
    cases svs with
    | nil => simp [hands] at h
    | cons v svs =>
      simp only [hands] at h
      split at h
      · rename_i a s' o hh
        split at h
        · rename_i as s2 o2 hhs
          injection h with h; injection h with _ h; injection h with _ h; subst h
          obtain ⟨h1, h2⟩ := hands_outs ps svs s' as s2 o2 hhs
          have ho : (∀ n g cs, Back.box n g cs ∈ o → PM.rw cs = p) ∧ (∀ n g t xs, Back.own n g t xs ∈ o → PM.own t = p) := by
            unfold hand at hh
            repeat' split at hh
            all_goals first
              | (cases hh; done)
              | (injection hh with hh; injection hh with _ hh; injection hh with _ hh; subst hh; simp; done)
              | (injection hh with hh; injection hh with _ hh; injection hh with _ hh; subst hh; constructor <;> (intros; simp_all))
          refine ⟨fun n g cs hm => ?_, fun n g t xs hm => ?_⟩
          · rcases List.mem_append.1 hm with hm | hm
            · simp [ho.1 n g cs hm]
            · simp [h1 n g cs hm]
          · rcases List.mem_append.1 hm with hm | hm
            · simp [ho.2 n g t xs hm]
            · simp [h2 n g t xs hm]
        · cases h
      · cases h
end Go.Proofs.AM

namespace Go.Proofs.AM
open Go Go.RowKit
variable {E : Env}
section
variable {P : Program} {C : FC} {s s0 sK : St E} {A A' : Asg} {ok0 okS : Nat → Nat → Prop} {tmps : Array Value} {w w' : World}
structure Made (C : FC) (A : Asg) (tmps : Array Value) (w : World) (frz : Bool) (s s0 sK : St E) (ok0 : Nat → Nat → Prop) (as : List (Arg E)) (vals : List Value) (outs : List (Back E)) (ess : List (List (Ent E))) : Prop where
  inv : Inv C s0 A ok0 tmps w
  moved : Moved s0 s0 sK A ess.flatten
  args : ArgsOk s0 A w (okS2 s0 sK A ok0 frz) (okP2 C s0 sK A ess.flatten) 0 as vals ess outs
  okr : OkR C s0 sK A ok0 frz (okS2 s0 sK A ok0 frz) (okP2 C s0 sK A ess.flatten)
theorem mkArgs_ok (hE : EnvOk E) {M : Mach E} (I : Inv C s A okS tmps w) {frz : Bool} {ps : List PM} {svs : List (SV E)} {vals : List Value} {as : List (Arg E)} {outs : List (Back E)} (h : mkArgs M frz s ps svs = some (as, sK, outs))
    (hr : ∀ (l : List (CV E)) ok, Inv C (frzList s l) A ok tmps w → All2 (RepSV w ok C.okP (frzList s l).ob A tmps) svs vals) :
    ∃ s0 ok0 ess, (s0 = frzList s (cond frz (valCells ps svs) [] ++ rwImm s ps svs) ∧ Keeps C.okP s.ob A okS w s0.ob A ok0 w) ∧ Made C A tmps w frz s s0 sK ok0 as vals outs ess ∧ (∀ n g cs, Back.box n g cs ∈ outs → PM.rw cs ∈ ps) ∧ (∀ n g t xs, Back.own n g t xs ∈ outs → PM.own t ∈ ps) := by
  unfold mkArgs at h
  split at h
  · rename_i hs s' o hh
    split at h
    · rename_i as' hrd
      injection h with h; injection h with e1 h; injection h with e2 e3; subst e1; subst e2; subst e3
      obtain ⟨ok0, I0, K0, _, _⟩ := I.frzList (cond frz (valCells ps svs) [] ++ rwImm s ps svs)
      have hr0 := hr _ ok0 I0
      generalize hs0 : frzList s (cond frz (valCells ps svs) [] ++ rwImm s ps svs) = s0 at *
      have hnt : ∀ n g t xs, s0.obj n g = some (.tok t xs) → ∀ win, CV.ref n g win ∉ cond frz (valCells ps svs) [] ++ rwImm s ps svs := fun n g t xs ho => by
        rw [← hs0] at ho
        exact (frzList_tok _ _ _ _ _ _ ho).2
      have himm : ImmOk C s0 A ok0 w ps svs := by
        intro p sv hz cs n g xs e1 e2 hl c hc v hv
        subst e1; subst e2
        refine RepCV.lookS (fun n' g' win t xs' e ho => ?_) hv
        subst e
        have hb : lk s.ob n = some (g, .box xs) := by rw [← hs0] at hl; exact frzList_box _ _ _ _ _ hl
        exact hnt n' g' t xs' ho win (List.mem_append.2 (.inr (rwImm_mem s ps svs cs n g xs hz (obj_of_lk hb) _ hc)))
      obtain ⟨ess, hH, hM⟩ := hands_ok hE I0 ps svs vals s0 hs s' o 0 (Less.refl _) hh hr0 himm
      have O := okR_ok I0 hM frz
      have hA := reads_ok hE I0 hM.less O ps svs hs vals ess o as' 0 hH hrd hr0 (fun e t sv cs hz hc n g win hm => by
        cases ht : isTok s' n g with
        | false => rfl
        | true =>
          simp only [isTok] at ht
          split at ht
          · rename_i t' xs' ho
            have := hnt n g t' xs' (hM.less.tok ho) win
            subst e
            exact absurd (List.mem_append.2 (.inl (valCells_mem ps svs t sv cs hz hc _ hm))) this
          · cases ht)
      exact ⟨s0, ok0, ess, ⟨rfl, K0⟩, ⟨I0, hM, hA, O⟩, hands_outs ps svs s0 hs s' o hh⟩
    · cases h
  · cases h
theorem OwnV.up {ok ok' : Nat → Nat → Prop} (hk : ∀ b k, ok b k → ok' b k) {t : Ty} {xs : List (den E.Γ t)} {v : Value} {b : Option Nat} (h : OwnV E w ok t xs v b) : OwnV E w ok' t xs v b := by
  cases b with
  | none => exact h
  | some b => obtain ⟨o, cap, cs, e, h1, h2, h3, h4, h5⟩ := h; exact ⟨o, cap, cs, e, h1, h2, h3, h4, h5.imp fun x c r => r.up hk⟩
theorem Pieces.up {ok ok' : Nat → Nat → Prop} (hk : ∀ b k, ok b k → ok' b k) {ps : List (Ty × Bool)} {ds : List (Dt E)} {vs : List Value} {bs : List (Option Nat)} (h : Pieces E w ok ps ds vs bs) : Pieces E w ok' ps ds vs bs := by
  induction h with
  | nil => exact .nil
  | imm hd _ ih => exact .imm (hd.up hk) ih
  | own hv _ ih => exact .own (hv.up hk) ih
theorem ResP.up {ok ok' : Nat → Nat → Prop} (hk : ∀ b k, ok b k → ok' b k) {rs : List (Bool × List (Ty × Bool))} {ds : List (Dt E)} {l : List (Bool × List Value)} {bs : List (Option Nat)} (h : ResP E w ok rs ds l bs) : ResP E w ok' rs ds l bs := by
  induction h with
  | nil => exact .nil
  | cons hp _ ih => exact .cons (hp.up hk) ih
theorem OutsR.up {w0 : World} {ok ok' : Nat → Nat → Prop} {A : Asg} (hk : ∀ b k, ok b k → ok' b k) {os : List OutP} {ds : List (Dt E)} {hs bs : List (Option Nat)} (h : OutsR E w0 w ok A os ds hs bs) : OutsR E w0 w ok' A os ds hs bs := by
  induction h with
  | nil => exact .nil
  | rw h1 h2 h3 _ ih => exact .rw h1 h2 (h3.up hk) ih
  | own h1 _ ih =>
    rename_i p t x r ds hs bs _
    refine .own ?_ ih
    unfold OwnAt at h1 ⊢
    cases hb : A.B (nameP p) with
    | none => rw [hb] at h1; exact h1
    | some b =>
      rw [hb] at h1
      obtain ⟨cs, e, k1, k2, k3⟩ := h1
      exact ⟨cs, e, k1, k2.up hk, k3⟩
theorem dist_append {a b : List (Option Nat)} (h : Dist (a ++ b)) : Dist a ∧ Dist b ∧ ∀ x, some x ∈ a → some x ∉ b := by
  obtain ⟨h1, h2, h3⟩ := List.pairwise_append.1 h
  exact ⟨h1, h2, fun x ha hb => h3 _ ha _ hb x rfl rfl⟩
theorem post_norm {frz : Bool} {es : List (Ent E)} {okP' : Nat → Prop} {A' : Asg} {rs : List (Bool × List (Ty × Bool))} {os : List OutP} {ds : List (Dt E)} {v : Value} (hfl : frz = false → mayKeep (resPieces rs) = false ∧ osFlat os)
    (hP : Post (calleeFC w es (okS2 s0 sK A ok0 frz) okP') A' rs os ds v w') : Post (calleeFC w es ok0 okP') A' rs os ds v w' := by
  obtain ⟨ok, ds1, ds2, l, bs1, hs, bs2, hds, hR, hV, hO, hFr⟩ := hP
  cases frz with
  | true =>
    refine ⟨ok, ds1, ds2, l, bs1, hs, bs2, hds, hR, hV, hO, ⟨hFr.os, hFr.tape, hFr.output, hFr.size, hFr.block, hFr.okLt, fun b k hk => ?_, hFr.dist, hFr.free⟩⟩
    rcases hFr.okSub b k hk with h | h | h
    · rcases h with h | ⟨h, _⟩
      · exact .inl h
      · cases h
    · exact .inr (.inl h)
    · exact .inr (.inr h)
  | false =>
    exact ⟨fun _ _ => False, ds1, ds2, l, bs1, hs, bs2, hds, hR.flat (hfl rfl).1, hV, hO.flat (hfl rfl).2, ⟨hFr.os, hFr.tape, hFr.output, hFr.size, hFr.block, fun _ _ h => h.elim, fun _ _ h => h.elim, hFr.dist, fun b hb => ⟨fun _ h => h, (hFr.free b hb).2⟩⟩⟩
def okOwn (ok : Nat → Nat → Prop) (bs : List (Option Nat)) (b k : Nat) : Prop := ok b k ∨ some b ∈ bs
theorem OwnV.imm {ok ok' : Nat → Nat → Prop} {t : Ty} {xs : List (den E.Γ t)} {v : Value} {b : Option Nat} (h : OwnV E w ok t xs v b) (hk : ∀ b k, ok b k → ok' b k) (hb : ∀ x, b = some x → ∀ k, ok' x k) : RepD E w ok' (.slice t) xs [v] := by
  cases b with
  | none => obtain ⟨h1, h2⟩ := h; subst h1; subst h2; exact .nil _
  | some b =>
    obtain ⟨o, cap, cs, e, h1, h2, h3, h4, h5⟩ := h
    subst h1
    refine RowF.data (fun k _ => hb b rfl _) (heap_lt h2) h3 ((h5.imp fun x c r => r.up hk).congr fun k _ => ?_)
    rw [cell?_of_heap h2]
def immPs (ps : List (Ty × Bool)) : List (Ty × Bool) := ps.map fun q => (q.1, false)
def immRs (rs : List (Bool × List (Ty × Bool))) : List (Bool × List (Ty × Bool)) := rs.map fun p => (p.1, p.2.map fun q => (q.1, false))
theorem Pieces.imms {ok ok' : Nat → Nat → Prop} {ps : List (Ty × Bool)} {ds : List (Dt E)} {vs : List Value} {bs : List (Option Nat)} (h : Pieces E w ok ps ds vs bs) (hk : ∀ b k, ok b k → ok' b k) (hb : ∀ b, some b ∈ bs → ∀ k, ok' b k) : Pieces E w ok' (immPs ps) ds vs [] := by
  induction h with
  | nil => exact .nil
  | imm hd _ ih => exact .imm (hd.up hk) (ih hb)
  | own hv _ ih => exact .imm (hv.imm hk fun x e k => hb x (by simp [e]) k) (ih fun b hm => hb b (by simp [hm]))
theorem ResP.imms {ok ok' : Nat → Nat → Prop} {rs : List (Bool × List (Ty × Bool))} {ds : List (Dt E)} {l : List (Bool × List Value)} {bs : List (Option Nat)} (h : ResP E w ok rs ds l bs) (hk : ∀ b k, ok b k → ok' b k) (hb : ∀ b, some b ∈ bs → ∀ k, ok' b k) : ResP E w ok' (immRs rs) ds l [] := by
  induction h with
  | nil => exact .nil
  | cons hp _ ih => exact ResP.cons (bs := []) (hp.imms hk fun b hm => hb b (by simp [hm])) (ih fun b hm => hb b (by simp [hm]))
theorem Fr.imms {C : FC} {ok : Nat → Nat → Prop} {bs : List (Option Nat)} (h : Fr C ok bs w') : Fr C (okOwn ok bs) [] w' where
  os := h.os
  tape := h.tape
  output := h.output
  size := h.size
  block := h.block
  okLt := fun b k hk => hk.elim (h.okLt b k) fun hm => (h.free b hm).2.1
  okSub := fun b k hk => hk.elim (h.okSub b k) fun hm => .inr (h.free b hm).2.2
  dist := .nil
  free := fun b hb => by simp at hb
theorem post_imm {C : FC} {A' : Asg} {rs : List (Bool × List (Ty × Bool))} {ds : List (Dt E)} {v : Value} (hP : Post C A' rs [] ds v w') : Post C A' (immRs rs) [] ds v w' := by
  obtain ⟨ok, ds1, ds2, l, bs1, hs, bs2, hds, hR, hV, hO, hFr⟩ := hP
  cases hO
  simp only [List.append_nil] at hds hFr
  exact ⟨okOwn ok bs1, ds1, [], l, [], [], [], by simpa using hds, hR.imms (fun b k h => .inl h) (fun b h k => .inr h), hV, .nil, by simpa using hFr.imms⟩
theorem Pieces.whole {ok ok' : Nat → Nat → Prop} : ∀ {ps : List (Ty × Bool)} {x : den E.Γ (tyL (piecesTy ps))} {vs : List Value} {bs : List (Option Nat)}, Pieces E w ok ps (unL E (piecesTy ps) x) vs bs → (∀ b k, ok b k → ok' b k) → (∀ b, some b ∈ bs → ∀ k, ok' b k) → RepD E w ok' (tyL (piecesTy ps)) x vs
  | [], x, vs, bs, h, hk, hb => by
    cases h
    exact .unit
  | [p], x, vs, bs, h, hk, hb => by
    obtain ⟨t, b⟩ := p
    change Pieces E w ok [(t, b)] [⟨t, x⟩] vs bs at h
    cases h with
    | imm hd hr => cases hr; rw [List.append_nil]; exact hd.up hk
    | own hv hr => cases hr; exact hv.imm hk fun x e k => hb x (by simp [e]) k
  | p :: q :: ps, x, vs, bs, h, hk, hb => by
    obtain ⟨t, b⟩ := p
    change Pieces E w ok ((t, b) :: q :: ps) (⟨t, x.1⟩ :: unL E (piecesTy (q :: ps)) x.2) vs bs at h
    cases h with
    | imm hd hr => exact .pair (hd.up hk) (Pieces.whole (ps := q :: ps) hr hk hb)
    | own hv hr =>
      have := RepD.pair (hv.imm hk fun x e k => hb x (by simp [e]) k) (Pieces.whole (ps := q :: ps) hr hk fun b hm => hb b (by simp [hm]))
      exact this
theorem post_whole {C : FC} {A' : Asg} {a : Bool} {ps : List (Ty × Bool)} {x : den E.Γ (tyL (piecesTy ps))} {v : Value} (hP : Post C A' [(a, ps)] [] (unL E (piecesTy ps) x) v w') : Post C A' [(a, [(tyL (piecesTy ps), false)])] [] [⟨_, x⟩] v w' := by
  obtain ⟨ok, ds1, ds2, l, bs1, hs, bs2, hds, hR, hV, hO, hFr⟩ := hP
  cases hO
  cases hR with
  | cons hp hr =>
    cases hr
    simp only [List.append_nil] at hds hFr
    rw [← hds] at hp
    have := hp.whole (ok' := okOwn ok _) (fun b k h => .inl h) (fun b h k => .inr h)
    exact ⟨okOwn ok _, [⟨_, x⟩], [], _, [], [], [], rfl, by simpa using ResP.cons (a := a) (Pieces.imm this .nil) .nil, by simpa using hV, .nil, by simpa using hFr.imms⟩
theorem after_ok (hE : EnvOk E) {frz : Bool} {as : List (Arg E)} {vals : List Value} {outs : List (Back E)} {ess : List (List (Ent E))} (hMd : Made C A tmps w frz s s0 sK ok0 as vals outs ess)
    {os : List OutP} (hOM : OutsM A (asgOf ess.flatten) s0 os outs) (hX : ∀ e ∈ ess.flatten, ∀ n g xs, e.src = some n → lk s0.ob n = some (g, .box xs) → ∃ cs, Back.box n g cs ∈ outs)
    {rs : List (Bool × List (Ty × Bool))} {ds : List (Dt E)} {v : Value} {okP' : Nat → Prop}
    (hP : Post (calleeFC w ess.flatten ok0 okP') (asgOf ess.flatten) rs os ds v w') {d : Nat} {fin : SV E → St E → Res E} {r : Dt E} (h : afterCall d sK rs outs ds fin = some r) :
    ∃ sv s'' A'' ok'', Inv C s'' A'' ok'' tmps w' ∧ RepSV w' ok'' C.okP s''.ob A'' tmps sv v ∧ noGl sv = true ∧ fin sv s'' = some r := by
  obtain ⟨okx, ds1, ds2, l, bs1, hs, bs2, hds, hR, hV, hO, hFr⟩ := hP
  have I0 := hMd.inv
  have hM := hMd.moved
  obtain ⟨hd1, hd2, hd3⟩ := dist_append hFr.dist
  obtain ⟨hd4, hd5, hd6⟩ := dist_append hd2
  unfold afterCall at h
  split at h
  · rename_i c s1 hu
    split at h
    · rename_i l' b s' ds' hres
      split at h
      · rename_i s'' houts
        split at h
        · rename_i sv hsv
          cases c with
          | false => cases h
          | true =>
            have h : fin sv s'' = some r := h
            rw [hds, ← hR.lens hE, List.drop_left] at hu
            have hC : Chg w w' ess.flatten ok0 okx hs := ⟨hFr.os, hFr.tape, hFr.output, hFr.size, hFr.block, hFr.okLt, hFr.okSub, fun b hb k hk => (hFr.free b (by simp [hb])).1 k hk⟩
            obtain ⟨I1, K1, L1⟩ := havoc_ok hE I0 hM hOM hX hO hC hu
            have hfree : ∀ b, some b ∈ bs1 ++ bs2 → (∀ k, ¬ (ok0 b k ∨ okx b k)) ∧ ¬ C.okP b ∧ b < w'.heap.size ∧ (C.w0.heap.size ≤ b ∨ C.rw b) ∧ ∀ m h o, lk s1.ob m = some (h, o) → isLive o = true → A.B m ≠ some b := by
              intro b hb
              have hb2 : some b ∈ bs1 ++ (bs2 ++ hs) := by
                rcases List.mem_append.1 hb with h | h <;> simp [h]
              have hnh : some b ∉ hs := by
                rcases List.mem_append.1 hb with h | h
                · exact fun hh => hd3 b h (by simp [hh])
                · exact fun hh => hd6 b h hh
              obtain ⟨f1, f2, f3⟩ := hFr.free b hb2
              have f3 : w.heap.size ≤ b ∨ ∃ e ∈ ess.flatten, e.B = some b := f3
              have f4 : (∀ k, ¬ ok0 b k) ∧ ¬ C.okP b ∧ (C.w0.heap.size ≤ b ∨ C.rw b) := by
                rcases f3 with h | h
                · refine ⟨fun k hk => ?_, fun hp => ?_, .inl (Nat.le_trans I0.size h)⟩
                  · have := I0.okLt b k hk; omega
                  · have := (I0.okPLt b hp).1; have := I0.size; omega
                · obtain ⟨n, g, o, _, hl, hlv, hlim, hB, _⟩ := rw_src I0 hM h
                  obtain ⟨a1, a2, a3, a4⟩ := I0.own n g o b hl hlv hB
                  rw [hlim] at a1
                  exact ⟨fun k => a1 k (Nat.zero_le _), a2, a4⟩
              refine ⟨fun k hk => hk.elim (f4.1 k) fun h => f1 k h, f4.2.1, f2, f4.2.2, fun m h o hl hlv hB => ?_⟩
              obtain ⟨g1, g2⟩ := L1 m h o hl hlv b hB
              rcases f3 with h | h
              · omega
              · exact hnh (g2 h)
            have hdist : Dist (bs1 ++ bs2) := List.pairwise_append.2 ⟨hd1, hd4, fun a ha b hb x e1 e2 => by subst e1; subst e2; exact hd3 x ha (by simp [hb])⟩
            have hR' := hR.up (ok' := fun b k => ok0 b k ∨ okx b k) fun b k h => .inr h
            have hO' := hO.up (ok' := fun b k => ok0 b k ∨ okx b k) fun b k h => .inr h
            rw [hds] at hres
            obtain ⟨k1, k2, A2, k3, k4, k5, k6⟩ := unResults_ok hE hR' I1 ⟨hdist, hfree⟩ (by simp [nameBase]; omega) hres
            subst k1
            have hbp : ∀ n g cs, Back.box n g cs ∈ outs → ∀ b, A.B n = some b → RepCV w' (fun b k => ok0 b k ∨ okx b k) C.okP s'.ob A2 (.ptr n g 0) (.pointer (some ⟨b, 0, none⟩)) := by
              intro n g cs hm b hB
              refine k4.cv _ _ (K1.cv _ _ ?_)
              obtain ⟨_, _, _, _, _, xs, _, _, _, _, hl, _⟩ := outs_box hOM hO hm
              exact ⟨⟨g, _, hl, Nat.le_refl _⟩, rfl, fun _ _ => ⟨b, hB, rfl⟩⟩
            obtain ⟨A3, I3, K3⟩ := unOuts_ok hE hOM hO' k3 k6 (by simp [nameBase] at k2 ⊢; omega) hbp houts
            obtain ⟨r1, r2⟩ := resSV_ok (tmps := tmps) (k5.imp fun p q h => ⟨h.1, h.2.imp fun c v h => K3.cv c v h⟩) hV hsv
            exact ⟨sv, s'', A3, _, I3, r1, r2, h⟩
        · cases h
      · cases h
    · cases h
  · cases h
end
end Go.Proofs.AM

namespace Go.Proofs.AM
open Go Go.RowKit
variable {E : Env}
section
variable {P : Program} {C : FC} {s s0 sK : St E} {A A' : Asg} {ok0 okS : Nat → Nat → Prop} {tmps : Array Value} {w w' : World}
theorem CallsF.mono {f : FuncId} {args : Array Value} {R R' : Value → World → Prop} (h : CallsF P f args w R) (hr : ∀ v w', R v w' → R' v w') : CallsF P f args w R' := by
  unfold CallsF at h ⊢
  split at h
  · exact hr _ _ h
  · exact h.mono fun e w'' ⟨v, hv, hh⟩ => ⟨v, hv, hr _ _ hh⟩
  · exact h.elim
theorem foldl_szP (ps : List (Ty × Bool)) : ∀ n, ps.foldl (fun n p => n + nc E p.1) n = n + szP E ps := by
  induction ps with
  | nil => intro n; simp [szP]
  | cons p r ih => intro n; simp [szP, ih]; omega
theorem sizeOfPs_eq (ps : List (Ty × Bool)) : sizeOfPs E ps = szP E ps := by simp [sizeOfPs, foldl_szP]
theorem nc_tyL : ∀ ps : List (Ty × Bool), nc E (tyL (piecesTy ps)) = szP E ps
  | [] => rfl
  | [p] => by simp [piecesTy, tyL, szP]
  | p :: q :: r => by
    have := nc_tyL (q :: r)
    show nc E p.1 + nc E (tyL (piecesTy (q :: r))) = _
    rw [this]; rfl
theorem hasSlice_tyL : ∀ ps : List (Ty × Bool), hasSlice (tyL (piecesTy ps)) = false → mayKeep ps = false
  | [], _ => rfl
  | [p], h => by
    obtain ⟨t, b⟩ := p
    change hasSlice t = false at h
    simp only [mayKeep, List.any_cons, List.any_nil, Bool.or_false]
    cases b with
    | false => exact h
    | true => cases t <;> first | exact h | (simp [hasSlice] at h)
  | p :: q :: r, h => by
    obtain ⟨t, b⟩ := p
    change (hasSlice t || hasSlice (tyL (piecesTy (q :: r)))) = false at h
    simp only [Bool.or_eq_false_iff] at h
    have := hasSlice_tyL (q :: r) h.2
    have h1 : hasSlice (cond b (elemTy t) t) = false := by
      cases b with
      | false => exact h.1
      | true => cases t <;> first | exact h.1 | (simp [hasSlice] at h)
    simp only [mayKeep, List.any_cons] at this ⊢
    rw [h1]; simpa using this
theorem osFlat_of {os : List OutP} {outs : List (Back E)} {ps : List PM} (h : OutsM A A' s0 os outs) (hk : outKeep ps = false) (h1 : ∀ n g cs, Back.box n g cs ∈ outs → PM.rw cs ∈ ps) (h2 : ∀ n g t xs, Back.own n g t xs ∈ outs → PM.own t ∈ ps) : osFlat os := by
  simp only [outKeep, List.any_eq_false] at hk
  induction h with
  | nil => intro o ho; simp at ho
  | rw a b c _ ih =>
    intro o ho
    rcases List.mem_cons.1 ho with e | ho
    · subst e
      have := hk _ (h1 _ _ _ List.mem_cons_self)
      simpa using this
    · exact ih (fun n g cs hm => h1 n g cs (by simp [hm])) (fun n g t xs hm => h2 n g t xs (by simp [hm])) o ho
  | own a b c _ ih =>
    intro o ho
    rcases List.mem_cons.1 ho with e | ho
    · subst e
      have := hk _ (h2 _ _ _ _ List.mem_cons_self)
      simpa using this
    · exact ih (fun n g cs hm => h1 n g cs (by simp [hm])) (fun n g t xs hm => h2 n g t xs (by simp [hm])) o ho
inductive Reads (E : Env) : List (Bool × List (Ty × Bool)) → List (Bool × List (Ty × Bool)) → Prop where
  | same (rs) : Reads E rs rs
  | one {a b : Bool} {ps : List (Ty × Bool)} : (a == Nat.beq (sizeOfPs E ps) 1) = false → (b == Nat.beq (nc E (tyL (piecesTy ps))) 1) = false → Reads E [(a, ps)] [(b, [(tyL (piecesTy ps), false)])]
theorem call_core (hE : EnvOk E) {M : Mach E} {callF : FuncId → List (Arg E) → Res E} (hF : FnOk P M callF) {frz : Bool} {as : List (Arg E)} {vals : List Value} {outs : List (Back E)} {ess : List (List (Ent E))} (hMd : Made C A tmps w frz s s0 sK ok0 as vals outs ess)
    {f : FuncId} {l : List (Dt E)} {mvals : List Value} (hl : All2 (fun (d : Dt E) v => RepP E w (okS2 s0 sK A ok0 frz) (okP2 C s0 sK A ess.flatten) d.1 d.2 0 v) l mvals) {r' : Dt E} (hc : callF f (as ++ capArgs l) = some r') :
    ∃ sg os, M.sigs.find f = some sg ∧ OutsM A (asgOf ess.flatten) s0 os outs ∧ (outs = [] → os = []) ∧ (∀ e ∈ ess.flatten, ∀ n g xs, e.src = some n → lk s0.ob n = some (g, .box xs) → ∃ cs, Back.box n g cs ∈ outs) ∧
      CallsF P f (vals ++ mvals).toArray w fun v w' => ∃ x, r' = ⟨tyL (piecesTy (resPieces sg.rs ++ outPieces outs)), x⟩ ∧ Post (calleeFC w ess.flatten (okS2 s0 sK A ok0 frz) (okP2 C s0 sK A ess.flatten)) (asgOf ess.flatten) sg.rs os (unL E _ x) v w' := by
  obtain ⟨sg, hsg, hx⟩ := hF f _ r' hc
  obtain ⟨ess', hA, hfl⟩ := args_more _ _ _ _ 0 hMd.args l mvals hl
  obtain ⟨sl, h1, h2, h3⟩ := args_ents _ _ _ _ 0 hA
  rw [hfl] at h1 h2
  have hsee := sees_asgOf ess.flatten h2.dis
  obtain ⟨hOM, hX⟩ := args_outs _ _ _ _ 0 hA (by rw [hfl]; exact hsee)
  rw [hfl] at hX
  have hps := outsPs_eq hOM
  rw [hps] at hx
  refine ⟨sg, _, hsg, hOM, fun e => ?_, hX, ?_⟩
  · subst e
    generalize outsOf 0 (as ++ capArgs l) = os at hOM
    cases hOM; rfl
  · refine hx (calleeFC w ess.flatten (okS2 s0 sK A ok0 frz) (okP2 C s0 sK A ess.flatten)) _ sl _ (vals ++ mvals) h1 h3 rfl fun n hn1 hn2 => ?_
    exact callee_inv hMd.inv hMd.moved frz h2 n hn1 hn2
theorem callWith_ok (hE : EnvOk E) {M : Mach E} {callF : FuncId → List (Arg E) → Res E} (hF : FnOk P M callF) (I : Inv C s A okS tmps w) {g : Option Bool} {d : Nat} {f : FuncId} {ps : List PM} {l : List (Dt E)} {rs : List (Bool × List (Ty × Bool))} {svs : List (SV E)} {fin : SV E → St E → Res E} {r : Dt E} {vals mvals : List Value}
    (h : callWith M callF g d s f ps (capArgs l) rs svs fin = some r) (hg : g ≠ some false)
    (hr : ∀ (l : List (CV E)) ok, Inv C (frzList s l) A ok tmps w → All2 (RepSV w ok C.okP (frzList s l).ob A tmps) svs vals)
    (hmore : ∀ s0 sK ok0 as outs ess, mkArgs M (mayKeep (resPieces rs) || outKeep ps) s ps svs = some (as, sK, outs) → s0 = frzList s (cond (mayKeep (resPieces rs) || outKeep ps) (valCells ps svs) [] ++ rwImm s ps svs) → Keeps C.okP s.ob A okS w s0.ob A ok0 w → Made C A tmps w (mayKeep (resPieces rs) || outKeep ps) s s0 sK ok0 as vals outs ess →
      All2 (fun (d : Dt E) v => RepP E w (okS2 s0 sK A ok0 (mayKeep (resPieces rs) || outKeep ps)) (okP2 C s0 sK A ess.flatten) d.1 d.2 0 v) l mvals)
    (hsig : ∀ sg, M.sigs.find f = some sg → sg.rs = rs ∨ ((∀ p ∈ ps, ∃ t, p = .val t) ∧ ∃ a b t, rs = [(b, [(t, false)])] ∧ (b == Nat.beq (nc E t) 1) = false ∧ ∃ ps', sg.rs = [(a, ps')] ∧ (a == Nat.beq (sizeOfPs E ps') 1) = false)) :
    CallsF P f (vals ++ mvals).toArray w fun v w' => ∃ sv s'' A'' ok'', Inv C s'' A'' ok'' tmps w' ∧ RepSV w' ok'' C.okP s''.ob A'' tmps sv v ∧ noGl sv = true ∧ fin sv s'' = some r := by
  unfold callWith at h
  split at h
  · rename_i as sK outs hmk
    obtain ⟨s0, ok0, ess, hs0, hMd, ho1, ho2⟩ := mkArgs_ok hE I hmk hr
    have hl := hmore s0 sK ok0 as outs ess hmk hs0.1 hs0.2 hMd
    have key : ∃ rs2, (rs2 = rs ∨ (rs2 = immRs rs ∧ outs = [])) ∧ ∃ y, res (tyL (piecesTy (resPieces rs ++ outPieces outs))) (callF f (as ++ capArgs l)) = some y ∧ afterCall d sK rs2 outs (unL E _ y) fin = some r := by
      cases g with
      | none =>
        simp only at h
        cases hy : res (tyL (piecesTy (resPieces rs ++ outPieces outs))) (callF f (as ++ capArgs l)) with
        | none => rw [hy] at h; cases h
        | some y => rw [hy] at h; exact ⟨rs, .inl rfl, y, rfl, h⟩
      | some b =>
        cases b with
        | false => exact absurd rfl hg
        | true =>
          cases outs with
          | cons _ _ => cases h
          | nil =>
            simp only [cond_true] at h
            cases hy : res (tyL (piecesTy (resPieces rs ++ outPieces ([] : List (Back E))))) (callF f (as ++ capArgs l)) with
            | none => rw [hy] at h; cases h
            | some y => rw [hy] at h; exact ⟨immRs rs, .inr ⟨rfl, rfl⟩, y, rfl, h⟩
    obtain ⟨rs2, hrs2, y, hy, haft⟩ := key
    cases hc : callF f (as ++ capArgs l) with
    | none => rw [hc] at hy; cases hy
    | some r' =>
      rw [hc] at hy
      obtain ⟨sg, os, hsg, hOM, hos, hX, hcall⟩ := call_core hE hF hMd hl hc
      rcases hsig sg hsg with e | ⟨hval, a, b, t, hrs, hb, ps', hsgrs, ha⟩
      · refine hcall.mono fun v w' ⟨x, hr', hP⟩ => ?_
        subst hr'
        generalize sg.rs = rs' at e x hP hy
        subst e
        simp only [res, dif_pos] at hy
        injection hy with hy
        have hy : x = y := hy
        subst hy
        have hP1 := post_norm (fun hf => by
          simp only [Bool.or_eq_false_iff] at hf
          exact ⟨hf.1, osFlat_of hOM hf.2 ho1 ho2⟩) hP
        rcases hrs2 with e2 | ⟨e2, e3⟩
        · subst e2
          exact after_ok hE hMd hOM hX hP1 haft
        · subst e2; subst e3
          have := hos rfl
          subst this
          exact after_ok hE hMd hOM hX (post_imm hP1) haft
      · have hout : outs = [] := by
          cases outs with
          | nil => rfl
          | cons o outs =>
            cases o with
            | box n g cs => obtain ⟨t, ht⟩ := hval _ (ho1 n g cs (by simp)); cases ht
            | own n g t xs => obtain ⟨t, ht⟩ := hval _ (ho2 n g t xs (by simp)); cases ht
        subst hout
        have := hos rfl
        subst this
        subst hrs
        have hrs2 : rs2 = [(b, [(t, false)])] := by
          rcases hrs2 with e | ⟨e, _⟩
          · exact e
          · exact e
        subst hrs2
        refine hcall.mono fun v w' ⟨x, hr', hP⟩ => ?_
        subst hr'
        generalize sg.rs = rs' at hsgrs x hP hy
        subst hsgrs
        have hq : resPieces [(a, ps')] ++ outPieces ([] : List (Back E)) = ps' := by simp [resPieces, outPieces]
        generalize resPieces [(a, ps')] ++ outPieces ([] : List (Back E)) = q at hq x hP hy
        subst hq
        change res t (some ⟨tyL (piecesTy q), x⟩) = some y at hy
        simp only [res] at hy
        split at hy
        · rename_i ht
          subst ht
          injection hy with hy
          have hy : x = y := hy
          subst hy
          have hP1 := post_norm (fun hf => by
            simp only [Bool.or_eq_false_iff] at hf
            refine ⟨?_, fun o ho => by simp at ho⟩
            have h1 : hasSlice (tyL (piecesTy q)) = false := by simpa [mayKeep, resPieces] using hf.1
            simpa [resPieces] using hasSlice_tyL q h1) hP
          have hP2 := post_whole hP1
          have hab : a = b := by
            rw [sizeOfPs_eq, ← nc_tyL] at ha
            cases a <;> cases b <;> simp_all
          subst hab
          exact after_ok hE hMd hOM hX hP2 haft
        · cases hy
  · cases h
theorem resSV_noGl {l : List (Bool × List (CV E))} {sv : SV E} (h : resSV l = some sv) : noGl sv = true := by
  unfold resSV at h
  split at h
  · rename_i a cs
    unfold mkSV at h
    cases a with
    | true => simp only [cond_true] at h; injection h with h; subst h; rfl
    | false =>
      simp only [cond_false] at h
      split at h
      · injection h with h; subst h; rfl
      · cases h
  · injection h with h; subst h; rfl
theorem unRes_imm : ∀ (ps : List (Ty × Bool)) (b : Nat) (s : St E) (ds : List (Dt E)) (cs : List (CV E)) (b' : Nat) (s' : St E) (ds' : List (Dt E)), unRes b s (immPs ps) ds = some (cs, b', s', ds') → s' = s
  | [], b, s, ds, cs, b', s', ds', h => by simp only [immPs, List.map_nil, unRes] at h; injection h with h; injection h with _ h; injection h with _ h; injection h with h _; exact h.symm
  | p :: ps, b, s, ds, cs, b', s', ds', h => by
    cases ds with
    | nil => simp [immPs, unRes] at h
    | cons d ds =>
      obtain ⟨t, x⟩ := d
      simp only [immPs, List.map_cons, unRes] at h
      split at h
      · rename_i cs2 b2 s2 ds2 h2
        injection h with h; injection h with _ h; injection h with _ h; injection h with h _
        rw [← h]; exact unRes_imm ps b s ds _ _ _ _ h2
      · cases h
theorem unResults_imm : ∀ (rs : List (Bool × List (Ty × Bool))) (b : Nat) (s : St E) (ds : List (Dt E)) l (b' : Nat) (s' : St E) (ds' : List (Dt E)), unResults b s (immRs rs) ds = some (l, b', s', ds') → s' = s
  | [], b, s, ds, l, b', s', ds', h => by simp only [immRs, List.map_nil, unResults] at h; injection h with h; injection h with _ h; injection h with _ h; injection h with h _; exact h.symm
  | p :: rs, b, s, ds, l, b', s', ds', h => by
    simp only [immRs, List.map_cons, unResults] at h
    split at h
    · rename_i cs2 b2 s2 ds2 h2
      split at h
      · rename_i l3 b3 s3 ds3 h3
        injection h with h; injection h with _ h; injection h with _ h; injection h with h _
        have e := unRes_imm _ _ _ _ _ _ _ _ h2
        subst e
        rw [← h]; exact unResults_imm rs _ _ _ _ _ _ _ h3
      · cases h
    · cases h
theorem hands_take : ∀ (ps : List PM) (svs : List (SV E)) (s : St E) hs sK, hands s ps svs = some (hs, sK, []) → ∀ {ok}, Inv C s A ok tmps w → Inv C sK A ok tmps w
  | [], svs, s, hs, sK, h, ok, I => by
    cases svs with
    | nil => simp only [hands] at h; injection h with h; injection h with _ h; injection h with h _; rw [← h]; exact I
    | cons _ _ => simp [hands] at h
  | p :: ps, [], s, hs, sK, h, ok, I => by simp [hands] at h
  | p :: ps, v :: svs, s, hs, sK, h, ok, I => by
    simp only [hands] at h
    split at h
    · rename_i a s' o hh
      split at h
      · rename_i as s2 o2 h2
        injection h with h; injection h with _ h; injection h with e1 e2
        have e2 := List.append_eq_nil_iff.1 e2
        obtain ⟨e3, e4⟩ := e2
        subst e1; subst e3; subst e4
        refine hands_take ps svs s' _ _ h2 ?_
        unfold hand at hh
        split at hh
        · injection hh with hh; injection hh with _ hh; injection hh with hh _; rw [← hh]; exact I
        · injection hh with hh; injection hh with _ hh; injection hh with hh _; rw [← hh]; exact I
        · injection hh with hh; injection hh with _ hh; injection hh with hh _; rw [← hh]; exact I
        · repeat' split at hh
          all_goals first
            | (cases hh; done)
            | (injection hh with hh; injection hh with _ hh; injection hh with _ hh; cases hh)
        · repeat' split at hh
          all_goals first
            | (cases hh; done)
            | (injection hh with hh; injection hh with _ hh; injection hh with _ hh; cases hh)
        · split at hh
          · split at hh
            · rename_i ho
              split at hh
              · injection hh with hh; injection hh with _ hh; injection hh with hh _; rw [← hh]
                exact (I.kill (lk_of_obj (ob := s.ob) ho)).1
              · cases hh
            · cases hh
          · injection hh with hh; injection hh with _ hh; injection hh with hh _; rw [← hh]; exact I
          · cases hh
      · cases h
    · cases h
theorem callWith_skip {M : Mach E} {callF : FuncId → List (Arg E) → Res E} (I : Inv C s A okS tmps w) {d : Nat} {f : FuncId} {ps : List PM} {more : List (Arg E)} {rs : List (Bool × List (Ty × Bool))} {svs : List (SV E)} {fin : SV E → St E → Res E} {r : Dt E}
    (h : callWith M callF (some false) d s f ps more rs svs fin = some r) : ∃ sv s' A' okS', Inv C s' A' okS' tmps w ∧ noGl sv = true ∧ fin sv s' = some r := by
  unfold callWith at h
  split at h
  · rename_i as sK outs hmk
    cases outs with
    | cons _ _ => cases h
    | nil =>
      simp only [cond_false, Option.bind_some] at h
      unfold afterCall at h
      simp only [unOwns] at h
      split at h
      · rename_i l b s' ds' hres
        have e := unResults_imm rs _ _ _ _ _ _ _ hres
        subst e
        split at h
        · rename_i s'' houts
          cases ds' with
          | cons _ _ => simp [unOuts] at houts
          | nil =>
            simp only [unOuts] at houts
            injection houts with houts; subst houts
            split at h
            · rename_i sv hsv
              simp only [cond_true] at h
              unfold mkArgs at hmk
              split at hmk
              · rename_i hs s2 o hh
                split at hmk
                · injection hmk with hmk; injection hmk with _ hmk; injection hmk with e1 e2
                  subst e1; subst e2
                  obtain ⟨ok0, I0, _⟩ := I.frzList (cond (mayKeep (resPieces rs) || outKeep ps) (valCells ps svs) [] ++ rwImm s ps svs)
                  exact ⟨sv, _, A, ok0, hands_take ps svs _ _ _ hh I0, resSV_noGl hsv, h⟩
                · cases hmk
              · cases hmk
            · cases h
        · cases h
      · cases h
  · cases h
theorem rwImm_vals (s : St E) : ∀ (ps : List PM) (svs : List (SV E)), (∀ p ∈ ps, ∃ t, p = PM.val t) → rwImm s ps svs = []
  | [], svs, _ => by cases svs <;> rfl
  | p :: ps, [], _ => by simp [rwImm]
  | p :: ps, v :: svs, h => by
    obtain ⟨t, e⟩ := h p (by simp)
    subst e
    rw [rwImm]
    · exact rwImm_vals s ps svs fun p hp => h p (by simp [hp])
    · intro _ _ _ e _; cases e
theorem hands_vals : ∀ (ps : List PM) (svs : List (SV E)) (s : St E) hs sK outs, (∀ p ∈ ps, ∃ t, p = PM.val t) → hands s ps svs = some (hs, sK, outs) → sK = s
  | [], svs, s, hs, sK, outs, _, h => by
    cases svs with
    | nil => simp only [hands] at h; injection h with h; injection h with _ h; injection h with h _; exact h.symm
    | cons _ _ => simp [hands] at h
  | p :: ps, [], s, hs, sK, outs, _, h => by simp [hands] at h
  | p :: ps, v :: svs, s, hs, sK, outs, hp, h => by
    obtain ⟨t, e⟩ := hp p (by simp)
    subst e
    simp only [hands, hand] at h
    split at h
    · rename_i as s2 o2 h2
      injection h with h; injection h with _ h; injection h with h _
      rw [← h]; exact hands_vals ps svs s _ _ _ (fun p hm => hp p (by simp [hm])) h2
    · cases h
theorem frzList_box2 : ∀ (l : List (CV E)) (s : St E) (n g : Nat) (xs : List (CV E)), lk s.ob n = some (g, .box xs) → lk (frzList s l).ob n = some (g, .box xs)
  | [], s, n, g, xs, h => h
  | c :: r, s, n, g, xs, h => by
    cases c with
    | ref m h' w =>
      simp only [frzList]
      refine frzList_box2 r (s.freeze m h') n g xs ?_
      rcases freeze_lk s m h' n with e | ⟨e, t', xs', k1, k2⟩
      · rw [e]; exact h
      · subst e; rw [h] at k1; cases k1
    | _ => exact frzList_box2 r s n g xs h
theorem okR_vals {M : Mach E} {frz : Bool} {ps : List PM} {svs : List (SV E)} {as : List (Arg E)} {vals : List Value} {outs : List (Back E)} {ess : List (List (Ent E))} (hv : ∀ p ∈ ps, ∃ t, p = PM.val t) (hmk : mkArgs M frz s ps svs = some (as, sK, outs))
    (hs0 : s0 = frzList s (cond frz (valCells ps svs) [] ++ rwImm s ps svs)) (K : Keeps C.okP s.ob A okS w s0.ob A ok0 w) (hMd : Made C A tmps w frz s s0 sK ok0 as vals outs ess) :
    OkR C s s A okS frz (okS2 s0 sK A ok0 frz) (okP2 C s0 sK A ess.flatten) ∧ (∀ b, C.okP b → okP2 C s0 sK A ess.flatten b) := by
  have hsK : sK = s0 := by
    unfold mkArgs at hmk
    split at hmk
    · rename_i hs s' o hh
      split at hmk
      · injection hmk with hmk; injection hmk with _ hmk; injection hmk with e _
        rw [← e, hs0]; exact hands_vals _ _ _ _ _ _ hv hh
      · cases hmk
    · cases hmk
  have hno : ∀ b, ¬ ∃ e ∈ ess.flatten, e.B = some b := by
    intro b ⟨e, he, hb⟩
    have h1 := hMd.moved.src e he
    have hs := h1.1
    unfold Src at hs
    cases hn : e.src with
    | none => rw [hn] at hs; rw [hs] at hb; cases hb
    | some n => exact (h1.2 n hn).1 (by have := (h1.2 n hn).2; rwa [hsK] at this)
  have hP : ∀ b, C.okP b → okP2 C s0 sK A ess.flatten b := fun b h => ⟨.inl h, hno b⟩
  refine ⟨⟨fun b k h => .inl (K.ok b k h), fun hf b k h => ?_, hP, fun n g cs b hl hnt hB => ?_⟩, hP⟩
  · subst hf
    have e : s0 = s := by rw [hs0, rwImm_vals s ps svs hv]; rfl
    rw [e] at hsK K
    refine .inr ⟨rfl, ?_⟩
    rw [hsK]
    exact h.imp (K.ok b k) id
  · have h0 : lk s0.ob n = some (g, .box cs) := by rw [hs0]; exact frzList_box2 _ _ _ _ _ hl
    refine ⟨.inr ⟨n, g, cs, h0, fun ht => hnt ?_, hB⟩, hno b⟩
    rw [hsK] at ht
    rcases ht with ⟨_, _, _, a, b⟩ | ⟨g', cs', hne, a, b⟩
    · rw [a] at b; cases b
    · rw [h0] at a; injection a with a; injection a with a1 a2; injection a2 with a2; subst a1; subst a2
      exact .inr ⟨g, cs, hne, hl, by rw [hl]; rw [h0] at b; exact b⟩
theorem mapM_vals (M : Mach E) : ∀ (l : List TypeId) (ps : List PM), l.mapM (fun t => (M.tys.find t).map (fun ti => PM.val ti.ty)) = some ps → ∀ p ∈ ps, ∃ t, p = PM.val t
  | [], ps, h, p, hp => by simp at h; subst h; simp at hp
  | t :: l, ps, h, p, hp => by
    simp only [List.mapM_cons] at h
    cases ht : M.tys.find t with
    | none => rw [ht] at h; simp at h
    | some ti =>
      rw [ht] at h
      cases hl : l.mapM (fun t => (M.tys.find t).map (fun ti => PM.val ti.ty)) with
      | none => rw [hl] at h; simp at h
      | some ps2 =>
        rw [hl] at h
        simp at h
        subst h
        rcases List.mem_cons.1 hp with e | hp
        · exact ⟨_, e⟩
        · exact mapM_vals M l ps2 hl p hp
end
section
variable {P : Program} {C : FC}
theorem run_callv {a : Act} {w : World} {o : Oper} {c : Call} {fop : Operand} {f : FuncId} {vs : List Value} (ho : o.op = .call c) (hc : c.callee = .value fop) (hf : a.eval fop = .func (.func f) #[] vs.toArray) :
    (execOp a.eval o).run P w = (callFunc f ((c.args.toList.map a.eval) ++ vs).toArray).run P w := by
  unfold execOp
  simp only [ho, resolve, hc, Deferred.ofValue, hf, Sem.run_bind, Sem.run_pure, Result.andThen_ok, invoke]
  congr 2
  simp
theorem manyOf_some {sg : Option Sig} {n : Nat} {ps : List PM} {rs : List (Bool × List (Ty × Bool))} (h : manyOf sg n = some (ps, rs)) : ∃ s, sg = some s ∧ s.rs = rs ∧ ∀ p ∈ ps, ∃ t, p = PM.val t := by
  unfold manyOf at h
  split at h
  · rename_i s
    split at h
    · cases h
    · simp only at h
      cases hc : (s.ps.take (s.ps.length - n)).all isValP with
      | false => rw [hc] at h; cases h
      | true =>
        rw [hc] at h
        injection h with h; injection h with h1 h2
        refine ⟨s, rfl, h2, fun p hp => ?_⟩
        rw [← h1] at hp
        have := List.all_eq_true.1 hc p hp
        cases p <;> first | exact ⟨_, rfl⟩ | (simp [isValP] at this)
  · cases h
theorem callStep (hE : EnvOk E) {M : Mach E} (hOne : OneOk M) {callF : FuncId → List (Arg E) → Res E} (hF : FnOk P M callF) : CallStep P M callF C where
  exec := by
    intro s A okS a w ch g d o c fin r Q next ho hcall hdef I hch hg h hnext
    have hr : ∀ (l : List (CV E)) ok, Inv C (frzList s l) A ok a.tmps w → All2 (RepSV w ok C.okP (frzList s l).ob A a.tmps) (c.args.toList.map (ev s ch)) (c.args.toList.map a.eval) := by
      intro l ok I'
      generalize c.args.toList = xs
      induction xs with
      | nil => exact .nil
      | cons x xs ih =>
        refine .cons ?_ ih
        have := ev_rep I' hch x
        rwa [ev_frz] at this
    have fin' : ∀ {fop : Operand} {f : FuncId} {vs : List Value}, c.callee = .value fop → a.eval fop = .func (.func f) #[] vs.toArray →
        CallsF P f ((c.args.toList.map a.eval) ++ vs).toArray w (fun v w' => ∃ sv s'' A'' ok'', Inv C s'' A'' ok'' a.tmps w' ∧ RepSV w' ok'' C.okP s''.ob A'' a.tmps sv v ∧ noGl sv = true ∧ fin sv s'' = some r) → o.wp P a w next Q := by
      intro fop f vs hc hf hcf
      unfold Oper.wp
      rw [run_callv ho hc hf]
      unfold CallsF at hcf
      split at hcf
      · rename_i v w' e
        rw [e]
        obtain ⟨sv, s'', A'', ok'', h1, h2, h3, h4⟩ := hcf
        exact hnext v s'' w' A'' ok'' sv h1 h2 h3 h4
      · rename_i g args' w' e
        rw [e]
        refine hcf.mono fun e w'' ⟨v, he, sv, s'', A'', ok'', h1, h2, h3, h4⟩ => ?_
        subst he
        exact hnext v s'' w'' A'' ok'' sv h1 h2 h3 h4
      · exact hcf.elim
    unfold callOp at h
    split at h
    · rename_i fop hc
      have hfv := ev_rep I hch fop
      split at h
      · rename_i f caps hev
        rw [hev] at hfv
        obtain ⟨vs, hv, hcaps⟩ := hfv
        split at h
        · rename_i f sg hsg
          cases hcaps
          exact fin' hc hv (callWith_ok hE hF I (l := []) (mvals := []) h hg hr (fun _ _ _ _ _ _ _ _ _ _ => .nil) fun sg' hsg' => .inl (by rw [hsg] at hsg'; injection hsg' with e; rw [e]))
        · split at h
          · rename_i l hl
            split at h
            · rename_i ps rs hmany
              split at h
              · cases h
              · rename_i hcr
                obtain ⟨sg, hsg, hrs, hvals⟩ := manyOf_some hmany
                refine fin' hc hv (callWith_ok hE hF I h hg hr (fun s0 sK ok0 as outs ess hmk hs0 K hMd => ?_) fun sg' hsg' => .inl (by rw [hsg] at hsg'; injection hsg' with e; rw [← e, hrs]))
                obtain ⟨O, _⟩ := okR_vals hvals hmk hs0 K hMd
                refine fnArg_ok hE I (Less.refl s) O hl hcaps fun hf => ?_
                have : outKeep ps = false := by
                  simp only [outKeep, List.any_eq_false]
                  intro p hp
                  obtain ⟨t, e⟩ := hvals p hp
                  subst e; simp
                rw [this, Bool.or_false] at hf
                simp only [Bool.and_eq_true, not_and, Bool.not_eq_true] at hcr
                exact hcr hf
            split at h
            · rename_i ti ps hti hps
              split at h
              · cases h
              · rename_i hchk
                simp only [Bool.or_eq_true, Bool.not_eq_true', Bool.and_eq_true, not_or, not_and, Bool.not_eq_true, Bool.not_eq_false] at hchk
                obtain ⟨⟨hone, hcr⟩, hagg⟩ := hchk
                have hvals := mapM_vals M _ _ hps
                refine fin' hc hv (callWith_ok hE hF I h hg hr (fun s0 sK ok0 as outs ess hmk hs0 K hMd => ?_) fun sg hsg => .inr ⟨hvals, ?_⟩)
                · obtain ⟨O, _⟩ := okR_vals hvals hmk hs0 K hMd
                  refine fnArg_ok hE I (Less.refl s) O hl hcaps fun hf => hcr ?_
                  have : outKeep ps = false := by
                    simp only [outKeep, List.any_eq_false]
                    intro p hp
                    obtain ⟨t, e⟩ := hvals p hp
                    subst e; simp
                  rw [this, Bool.or_false] at hf
                  simpa [resPieces] using hf
                · obtain ⟨a', ps', e1, e2⟩ := hOne _ sg hone hsg
                  exact ⟨a', ti.agg, ti.ty, rfl, hagg, ps', e1, e2⟩
            · cases h
          · cases h
      · rename_i f l hev
        rw [hev] at hfv
        obtain ⟨vs, ⟨hv, hone⟩, hl⟩ := hfv
        split at h
        · rename_i ti ps hti hps
          split at h
          · cases h
          · rename_i hagg
            have hvals := mapM_vals M _ _ hps
            refine fin' hc hv (callWith_ok hE hF I h hg hr (fun s0 sK ok0 as outs ess hmk hs0 K hMd => ?_) fun sg hsg => .inr ⟨hvals, ?_⟩)
            · obtain ⟨O, hP⟩ := okR_vals hvals hmk hs0 K hMd
              exact hl.imp fun _ _ r => r.up O.S hP
            · obtain ⟨a', ps', e1, e2⟩ := hOne _ sg hone hsg
              exact ⟨a', ti.agg, ti.ty, rfl, by simpa using hagg, ps', e1, e2⟩
        · cases h
      · cases h
    · cases h
  skip := by
    intro s A okS a w ch d ty c fin r I h
    unfold callOp at h
    split at h
    · split at h
      · split at h
        · exact callWith_skip I h
        · split at h
          · split at h
            · split at h
              · cases h
              · exact callWith_skip I h
            split at h
            · split at h
              · cases h
              · exact callWith_skip I h
            · cases h
          · cases h
      · split at h
        · split at h
          · cases h
          · exact callWith_skip I h
        · cases h
      · cases h
    · cases h
end
end Go.Proofs.AM

namespace Go.Proofs.AM
open Go Go.RowKit
variable {E : Env}
theorem Sem.bind_pure' {α : Type} (x : Sem α) : x.bind Sem.pure = x := by
  induction x with
  | frozen a k ih => simp only [Sem.bind]; congr 1; funext b; exact ih b
  | _ => simp_all [Sem.bind]
theorem Sem.bind_assoc' {α β γ : Type} (x : Sem α) (f : α → Sem β) (g : β → Sem γ) : (x.bind f).bind g = x.bind fun a => (f a).bind g := by
  induction x with
  | frozen a k ih => simp only [Sem.bind]; congr 1; funext b; exact ih b
  | _ => simp_all [Sem.bind]
theorem Sem.lawful : LawfulMonad Sem := LawfulMonad.mk' Sem (fun x => Sem.bind_pure' x) (fun _ _ => rfl) (fun x f g => Sem.bind_assoc' x f g)
theorem listMapM_run {P : Program} {α β : Type} (f : α → Sem β) (w : World) : ∀ (l : List α) (vs : List β), All2 (fun x v => (f x).run P w = .ok v w) l vs → (l.mapM f).run P w = .ok vs w
  | _, _, .nil => by simp
  | _, _, .cons h h2 => by
    have := Sem.lawful
    simp only [List.mapM_cons, Sem.run_bind, h, Result.andThen_ok, listMapM_run f w _ _ h2, Sem.run_pure]
theorem arrMapM_run {P : Program} {α β : Type} (f : α → Sem β) (w : World) (a : Array α) (vs : List β) (h : All2 (fun x v => (f x).run P w = .ok v w) a.toList vs) : (a.mapM f).run P w = .ok vs.toArray w := by
  have := Sem.lawful
  rw [Array.mapM_eq_mapM_toList, Sem.run_map, listMapM_run f w _ _ h]; rfl
def resF (tmps : Array Value) : ResultVar → Sem Value
  | .tmp t => pure (tmps.getD t undef)
  | .cell a t => do loadVar t (← asAddr (tmps.getD a undef))
def resVal : List Value → Value
  | [u] => u
  | us => .tuple us.toArray
theorem results_run {P : Program} {fn : Func} {tmps : Array Value} {w : World} {us : List Value} (h : All2 (fun x v => (resF tmps x).run P w = .ok v w) fn.results.toList us) :
    (results fn tmps).run P w = .ok (resVal us) w := by
  have h1 : results fn tmps = (fn.results.mapM (resF tmps) >>= fun vs => pure (if h : vs.size = 1 then vs[0] else .tuple vs)) := rfl
  rw [h1, Sem.run_bind, arrMapM_run _ w _ _ h]
  simp only [Result.andThen_ok, Sem.run_pure]
  match us with
  | [] => rfl
  | [u] => rfl
  | _ :: _ :: _ => simp [resVal]
section
variable {P : Program} {C : FC} {s : St E} {A : Asg} {okS : Nat → Nat → Prop} {w : World}
theorem result_ok (hE : EnvOk E) {M : Mach E} (hT : TysOk E P M.tys) {a : Act} (I : Inv C s A okS a.tmps w) {ag : Bool} {ps : List (Ty × Bool)} {rv : ResultVar} {cs : List (CV E)} (h : result M s ag ps rv = some cs) :
    cs.length = szP E ps ∧ ∃ u us, (resF a.tmps rv).run P w = .ok u w ∧ All2 (RepCV w okS C.okP s.ob A) cs us ∧ PartV ag us u := by
  unfold result at h
  split at h
  · cases h
  · rename_i hag
    rw [sizeOfPs_eq] at hag h
    have fin : ∀ {k : SV E} {u : Value}, RepSV w okS C.okP s.ob A a.tmps k u → (match k with
        | .c v => cond ag none (some [v])
        | .agg cs => cond (ag && Nat.beq cs.length (szP E ps)) (some cs) none
        | _ => none) = some cs → cs.length = szP E ps ∧ ∃ us, All2 (RepCV w okS C.okP s.ob A) cs us ∧ PartV ag us u := by
      intro k u hk hc
      cases k with
      | c v =>
        cases ag with
        | true => cases hc
        | false =>
          simp only [cond_false] at hc; injection hc with hc; subst hc
          refine ⟨?_, [u], .cons hk .nil, rfl⟩
          cases hb : Nat.beq (szP E ps) 1 with
          | true => simpa using (Nat.eq_of_beq_eq_true hb).symm
          | false => rw [hb] at hag; simp at hag
      | agg ds =>
        cases ag with
        | false => cases hc
        | true =>
          cases hb : Nat.beq ds.length (szP E ps) with
          | false => simp [hb] at hc
          | true =>
            simp [hb] at hc; subst hc
            obtain ⟨vs, hv, hh⟩ := hk
            exact ⟨Nat.eq_of_beq_eq_true hb, vs, hh, hv⟩
      | tup _ => cases hc
      | gl _ _ _ => cases hc
    split at h
    · rename_i t
      obtain ⟨h1, us, h2, h3⟩ := fin (slot_rep I t) (by
        revert h
        cases s.slot t <;> exact id)
      exact ⟨h1, _, us, rfl, h2, h3⟩
    · rename_i x t
      split at h
      · rename_i ti n g off hti hx
        have hp := slot_rep I x
        rw [hx] at hp
        split at h
        · rename_i v hl
          obtain ⟨u, hu, hk⟩ := load_ok hE hT I hti hp hl
          obtain ⟨h1, us, h2, h3⟩ := fin hk h
          refine ⟨h1, u, us, ?_, h2, h3⟩
          have hp' : ∃ b, a.tmps.getD x undef = .pointer (some b) := by
            unfold load at hl
            split at hl
            · rename_i hb
              simp only [behind] at hb
              split at hb
              · rename_i ho
                obtain ⟨b, _, hv⟩ := hp.2.2 _ ho
                exact ⟨_, hv⟩
              · cases hb
            · cases hl
          obtain ⟨b, hv⟩ := hp'
          rw [hv] at hu
          show (asAddr (a.tmps.getD x undef) >>= loadVar t).run P w = .ok u w
          rw [hv]
          exact hu
        · rename_i cs' hl
          obtain ⟨u, hu, hk⟩ := load_ok hE hT I hti hp hl
          obtain ⟨h1, us, h2, h3⟩ := fin hk h
          refine ⟨h1, u, us, ?_, h2, h3⟩
          have hp' : ∃ b, a.tmps.getD x undef = .pointer (some b) := by
            unfold load at hl
            split at hl
            · rename_i hb
              simp only [behind] at hb
              split at hb
              · rename_i ho
                obtain ⟨b, _, hv⟩ := hp.2.2 _ ho
                exact ⟨_, hv⟩
              · cases hb
            · cases hl
          obtain ⟨b, hv⟩ := hp'
          rw [hv] at hu
          show (asAddr (a.tmps.getD x undef) >>= loadVar t).run P w = .ok u w
          rw [hv]
          exact hu
        · cases h
      · cases h
end
end Go.Proofs.AM

namespace Go.Proofs.AM
open Go Go.RowKit
variable {E : Env}
section
variable {P : Program} {C : FC} {s : St E} {A : Asg} {okS : Nat → Nat → Prop} {tmps : Array Value} {w : World}
def okL (s : St E) (A : Asg) (okS : Nat → Nat → Prop) (N : List Nat) (b k : Nat) : Prop := okS b k ∨ ∃ n g t xs, lk s.ob n = some (g, Ob.tok t xs) ∧ A.B n = some b ∧ n ∉ N
inductive BsN (s : St E) (A : Asg) : List Nat → List (Option Nat) → Prop where
  | nil : BsN s A [] []
  | skip {N bs} : BsN s A N bs → BsN s A N (none :: bs)
  | cons {n g o N bs} : lk s.ob n = some (g, o) → isLive o = true → (∀ B, lim B n o = 0) → BsN s A N bs → BsN s A (n :: N) (A.B n :: bs)
theorem BsN.append {N1 N2 : List Nat} {b1 b2 : List (Option Nat)} (h : BsN s A N1 b1) (k : BsN s A N2 b2) : BsN s A (N1 ++ N2) (b1 ++ b2) := by
  induction h with
  | nil => exact k
  | skip _ ih => exact .skip ih
  | cons h1 h2 h3 _ ih => exact .cons h1 h2 h3 ih
theorem BsN.mem {N : List Nat} {bs : List (Option Nat)} (h : BsN s A N bs) {b : Nat} (hb : some b ∈ bs) : ∃ n ∈ N, ∃ g o, lk s.ob n = some (g, o) ∧ isLive o = true ∧ (∀ B, lim B n o = 0) ∧ A.B n = some b := by
  induction h with
  | nil => simp at hb
  | skip _ ih =>
    obtain ⟨n, h1, h2⟩ := ih (by simpa using hb)
    exact ⟨n, h1, h2⟩
  | cons h1 h2 h3 _ ih =>
    rcases List.mem_cons.1 hb with e | hb
    · exact ⟨_, by simp, _, _, h1, h2, h3, e.symm⟩
    · obtain ⟨n, k1, k2⟩ := ih hb
      exact ⟨n, by simp [k1], k2⟩
theorem BsN.dist (I : Inv C s A okS tmps w) {N : List Nat} {bs : List (Option Nat)} (h : BsN s A N bs) (hn : N.Nodup) : Dist bs := by
  induction h with
  | nil => exact .nil
  | skip _ ih => exact .cons (fun b _ x e => by cases e) (ih hn)
  | cons h1 h2 h3 hr ih =>
    obtain ⟨k1, k2⟩ := List.nodup_cons.1 hn
    refine .cons (fun b hb x e hbx => ?_) (ih k2)
    subst hbx
    obtain ⟨m, hm, g, o, l1, l2, l3, l4⟩ := hr.mem hb
    have := I.inj _ m _ _ _ _ x h1 l1 h2 l2 e l4
    subst this
    exact k1 hm
theorem lookL (I : Inv C s A okS tmps w) {N : List Nat} {c : CV E} {v : Value} (h : RepCV w okS C.okP s.ob A c v) (hn : ∀ n g win, c = .ref n g win → n ∉ N) : RepL E w (okL s A okS N) (s.look c) v := by
  cases c with
  | ref n g win =>
    simp only [St.look]
    split
    · rename_i t xs ho
      have hl := lk_of_obj (ob := s.ob) ho
      exact (h.2.1 t xs ho).data (I.obj n g _ hl) (fun b k hb => .inl hb) (fun b hb k _ _ => .inr ⟨n, g, t, xs, hl, hb, hn n g win rfl⟩)
    · rename_i t xs ho
      exact (h.2.2 t xs ho).1.up fun b k hb => .inl hb
    · trivial
  | leaf t x => exact RepD.up (fun b k hb => .inl hb) h
  | nilS => exact h
  | _ => trivial
theorem namesIn_mem {n g : Nat} {win : Option (Nat × Nat)} : ∀ {cs : List (CV E)}, CV.ref n g win ∈ cs → n ∈ namesIn cs
  | [], h => by simp at h
  | c :: r, h => by
    rcases List.mem_cons.1 h with e | h
    · subst e; simp [namesIn]
    · have := namesIn_mem h
      cases c <;> simp [namesIn, this]
theorem namesIn_append : ∀ (a b : List (CV E)), namesIn (a ++ b) = namesIn a ++ namesIn b
  | [], b => rfl
  | c :: r, b => by have := namesIn_append r b; cases c <;> simp [namesIn, this]
theorem own_leaves (I : Inv C s A okS tmps w) {n g : Nat} {t : Ty} {xs : List (den E.Γ t)} {win : Option (Nat × Nat)} {v : Value} {ok' : Nat → Nat → Prop} (hk : ∀ b k, okS b k → ok' b k) (ho : s.obj n g = some (.tok t xs)) (hr : RepCV w okS C.okP s.ob A (.ref n g win) v) :
    OwnV E w ok' t (winOf xs win) v (A.B n) := by
  have hl := lk_of_obj (ob := s.ob) ho
  have hrr := hr.2.1 t xs ho
  have hob := I.obj n g _ hl
  unfold RepRef at hrr
  unfold RepOb at hob
  cases hB : A.B n with
  | none =>
    simp only [hB] at hrr hob
    subst hob
    exact ⟨hrr.1, by cases win <;> simp [winOf]⟩
  | some b =>
    simp only [hB] at hrr hob
    obtain ⟨o, cap, cs, e, hv, hw, hwin, hcap, ho', hsp⟩ := hrr
    obtain ⟨cs', e', hw2, hrow⟩ := hob
    rw [hw] at hw2; injection hw2 with hw2; injection hw2 with e1 e2; subst e1; subst e2
    have hlen := winOf_length xs win hwin
    have hwd : winOf xs win = (xs.drop (winLo win)).take (winLen xs.length win) := by
      cases win with
      | none => simp [winOf, winLo, winLen]
      | some p => rfl
    have hrow2 : RowF E w okS t (winOf xs win) (fun k => cs[A.O n + winLo win * nc E t + k]?) := by
      rw [hwd]
      refine (hrow.toF.window (winLo win) (winLen xs.length win) hwin).congr fun k _ => ?_
      show cs[A.O n + winLo win * nc E t + k]? = cs[A.O n + (winLo win * nc E t + k)]?
      rw [Nat.add_assoc]
    refine ⟨o, cap, cs, e, by rw [hlen]; exact hv, hw, by rw [hlen]; exact hcap, hsp, ?_⟩
    rcases ho' with h0 | h0
    · have h1 : (winOf xs win).length = 0 := by rw [hlen]; omega
      have h2 : winOf xs win = [] := by
        cases hh : winOf xs win with
        | nil => rfl
        | cons a l => rw [hh] at h1; simp at h1
      rw [h2]; exact RowF.nil _
    · rw [h0]; exact hrow2.imp fun x c r => r.up hk
theorem nodup_list : ∀ {l : List Nat}, nodup l = true → l.Nodup
  | [], _ => .nil
  | n :: l, h => by obtain ⟨h1, h2⟩ := nodup_cons h; exact List.nodup_cons.2 ⟨h1, nodup_list h2⟩
theorem pieces_ok (I : Inv C s A okS tmps w) {N : List Nat} : ∀ (ps r : List (Ty × Bool)) (cs cr : List (CV E)) (vs : List Value) (l : List (Nat × Nat)) (ds : List (Dt E)), cs.length = szP E ps → All2 (RepCV w okS C.okP s.ob A) cs vs →
    ownRefs (E := E) (ps ++ r) (cs ++ cr) = some l → outs1 s (ps ++ r) (cs ++ cr) = some ds → (∀ p ∈ l, isTok s p.1 p.2 = true) → (∀ n ∈ namesIn (immCells (ps ++ r) (cs ++ cr)), n ∉ N) →
    ∃ l1 l2 ds1 ds2 bs, l = l1 ++ l2 ∧ ds = ds1 ++ ds2 ∧ Pieces E w (okL s A okS N) ps ds1 vs bs ∧ BsN s A (l1.map (·.1)) bs ∧ (∀ n ∈ l1.map (·.1), ∃ g t xs, lk s.ob n = some (g, .tok t xs)) ∧ ownRefs (E := E) r cr = some l2 ∧ outs1 s r cr = some ds2 ∧ (∀ n ∈ namesIn (immCells r cr), n ∉ N)
  | [], r, cs, cr, vs, l, ds, hlen, hr, hl, ho, ht, hN => by
    simp only [szP] at hlen
    cases cs with
    | nil =>
      cases hr
      exact ⟨[], l, [], ds, [], rfl, rfl, .nil, .nil, by simp, hl, ho, hN⟩
    | cons _ _ => simp at hlen
  | (t, false) :: ps, r, cs, cr, vs, l, ds, hlen, hr, hl, ho, ht, hN => by
    simp only [szP] at hlen
    have hle : nc E t ≤ cs.length := by omega
    have htk : (cs ++ cr).take (nc E t) = cs.take (nc E t) := by rw [List.take_append_of_le_length hle]
    have hdr : (cs ++ cr).drop (nc E t) = cs.drop (nc E t) ++ cr := by rw [List.drop_append_of_le_length hle]
    simp only [List.cons_append, ownRefs] at hl
    simp only [List.cons_append, outs1] at ho
    simp only [List.cons_append, immCells] at hN
    rw [hdr] at hl
    rw [htk, hdr] at ho
    rw [htk, hdr] at hN
    split at ho
    · rename_i x hx
      split at ho
      · rename_i ds' hds
        injection ho with ho; subst ho
        obtain ⟨l1, l2, ds1, ds2, bs, k1, k2, k3, k4, k5, k6, k7, k8⟩ := pieces_ok I ps r (cs.drop (nc E t)) cr (vs.drop (nc E t)) l ds' (by simp; omega) (hr.drop _) hl hds ht (fun n hn => hN n (by rw [namesIn_append]; simp [hn]))
        have hd : RepD E w (okL s A okS N) t x (vs.take (nc E t)) := by
          refine pack_rep t (All2.map_left _ ((hr.take (nc E t)).imp_mem fun c v hm h => lookL I h fun n g win e => hN n ?_)) hx
          rw [namesIn_append]
          exact List.mem_append.2 (.inl (namesIn_mem (e ▸ hm)))
        refine ⟨l1, l2, ⟨t, x⟩ :: ds1, ds2, bs, k1, by rw [k2]; rfl, ?_, k4, k5, k6, k7, k8⟩
        have := Pieces.imm hd k3
        rwa [List.take_append_drop] at this
      · cases ho
    · cases ho
  | (t, true) :: ps, r, cs, cr, vs, l, ds, hlen, hr, hl, ho, ht, hN => by
    cases t with
    | slice t =>
      simp only [szP, nc] at hlen
      cases hr with
      | nil => simp at hlen; omega
      | cons hc hr =>
        rename_i c v cs vs
        simp only [List.length_cons] at hlen
        simp only [List.cons_append, outs1, nc, List.take_succ_cons, List.take_zero, List.drop_succ_cons, List.drop_zero, List.map_cons, List.map_nil] at ho
        simp only [List.cons_append, immCells, List.drop_succ_cons, List.drop_zero] at hN
        split at ho
        · rename_i x hx
          split at ho
          · rename_i ds' hds
            injection ho with ho; subst ho
            simp only [pack, one] at hx
            have hcase : (∃ n g win, c = .ref n g win) ∨ c = .nilS := by
              cases c <;> first | exact .inl ⟨_, _, _, rfl⟩ | exact .inr rfl | simp [ownRefs] at hl
            rcases hcase with ⟨n, g, win, rfl⟩ | rfl
            · simp only [List.cons_append, ownRefs] at hl
              cases hl2 : ownRefs (E := E) (ps ++ r) (cs ++ cr) with
              | none => rw [hl2] at hl; cases hl
              | some l0 =>
                rw [hl2] at hl; injection hl with hl; subst hl
                obtain ⟨l1, l2, ds1, ds2, bs, k1, k2, k3, k4, k5, k6, k7, k8⟩ := pieces_ok I ps r cs cr vs l0 ds' (by omega) hr hl2 hds (fun p hp => ht p (by simp [hp])) hN
                have htok := ht (n, g) (by simp)
                simp only [isTok] at htok
                split at htok
                · rename_i t2 xs hobj
                  simp only [St.look, hobj, leafOf] at hx
                  split at hx
                  · rename_i he
                    injection he with he
                    subst he
                    injection hx with hx
                    have hx : winOf xs win = x := hx
                    subst hx
                    have hlk := lk_of_obj (ob := s.ob) hobj
                    have hov := own_leaves I (ok' := okL s A okS N) (fun b k h => .inl h) hobj hc
                    refine ⟨(n, g) :: l1, l2, ⟨.slice t2, winOf xs win⟩ :: ds1, ds2, A.B n :: bs, by rw [k1]; rfl, by rw [k2]; rfl, .own hov k3, .cons hlk rfl (fun _ => rfl) k4, fun m hm => ?_, k6, k7, k8⟩
                    rcases List.mem_cons.1 hm with e | hm
                    · subst e; exact ⟨g, t2, xs, hlk⟩
                    · exact k5 m hm
                  · cases hx
                · cases htok
            · simp only [List.cons_append, ownRefs] at hl
              obtain ⟨l1, l2, ds1, ds2, bs, k1, k2, k3, k4, k5, k6, k7, k8⟩ := pieces_ok I ps r cs cr vs l ds' (by omega) hr hl hds ht hN
              simp only [St.look, leafOf] at hx
              injection hx with hx; subst hx
              exact ⟨l1, l2, ⟨.slice t, []⟩ :: ds1, ds2, none :: bs, k1, by rw [k2]; rfl, .own ⟨hc, rfl⟩ k3, .skip k4, k5, k6, k7, k8⟩
          · cases ho
        · cases ho
    | _ =>
      cases hcs : cs ++ cr with
      | nil => rw [hcs] at hl; simp [ownRefs] at hl
      | cons c r' => rw [hcs] at hl; cases c <;> simp [ownRefs] at hl
end
end Go.Proofs.AM

namespace Go.Proofs.AM
open Go Go.RowKit
variable {E : Env}
section
variable {P : Program} {C : FC} {s : St E} {A : Asg} {okS : Nat → Nat → Prop} {tmps : Array Value} {w : World}
theorem results_ok (hE : EnvOk E) {M : Mach E} (hT : TysOk E P M.tys) {a : Act} (I : Inv C s A okS a.tmps w) {N : List Nat} : ∀ (rvs : List ResultVar) (rs : List (Bool × List (Ty × Bool))) (cs : List (CV E)), gather M s rvs rs = some cs →
    ∀ (r : List (Ty × Bool)) (cr : List (CV E)) (l : List (Nat × Nat)) (ds : List (Dt E)), ownRefs (E := E) (resPieces rs ++ r) (cs ++ cr) = some l → outs1 s (resPieces rs ++ r) (cs ++ cr) = some ds →
    (∀ p ∈ l, isTok s p.1 p.2 = true) → (∀ n ∈ namesIn (immCells (resPieces rs ++ r) (cs ++ cr)), n ∉ N) →
    ∃ us l1 l2 ds1 ds2 lv bs, All2 (fun x v => (resF a.tmps x).run P w = .ok v w) rvs us ∧ All2 (fun (p : Bool × List Value) u => PartV p.1 p.2 u) lv us ∧ l = l1 ++ l2 ∧ ds = ds1 ++ ds2 ∧ ResP E w (okL s A okS N) rs ds1 lv bs ∧
      BsN s A (l1.map (·.1)) bs ∧ (∀ n ∈ l1.map (·.1), ∃ g t xs, lk s.ob n = some (g, .tok t xs)) ∧ ownRefs (E := E) r cr = some l2 ∧ outs1 s r cr = some ds2 ∧ (∀ n ∈ namesIn (immCells r cr), n ∉ N)
  | [], rs, cs, h, r, cr, l, ds, hl, ho, ht, hN => by
    cases rs with
    | nil =>
      simp only [gather] at h; injection h with h; subst h
      exact ⟨[], [], l, [], ds, [], [], .nil, .nil, rfl, rfl, .nil, .nil, by simp, hl, ho, hN⟩
    | cons _ _ => simp [gather] at h
  | rv :: rvs, rs, cs, h, r, cr, l, ds, hl, ho, ht, hN => by
    cases rs with
    | nil => simp [gather] at h
    | cons p rs =>
      obtain ⟨ag, ps⟩ := p
      simp only [gather] at h
      split at h
      · rename_i cs1 cs2 h1 h2
        injection h with h; subst h
        obtain ⟨hlen, u, us1, hu, hr, hp⟩ := result_ok hE hT I h1
        have e1 : resPieces ((ag, ps) :: rs) ++ r = ps ++ (resPieces rs ++ r) := by simp [resPieces]
        have e2 : (cs1 ++ cs2) ++ cr = cs1 ++ (cs2 ++ cr) := List.append_assoc ..
        rw [e1, e2] at hl ho hN
        obtain ⟨l1, l2, ds1, ds2, bs, k1, k2, k3, k4, k5, k6, k7, k8⟩ := pieces_ok I ps _ cs1 _ us1 l ds hlen hr hl ho ht hN
        obtain ⟨us, l3, l4, ds3, ds4, lv, bs2, m1, m2, m3, m4, m5, m6, m7, m8, m9, m10⟩ := results_ok hE hT I rvs rs cs2 h2 r cr l2 ds2 k6 k7 (fun p hp => ht p (by rw [k1]; simp [hp])) k8
        refine ⟨u :: us, l1 ++ l3, l4, ds1 ++ ds3, ds4, (ag, us1) :: lv, bs ++ bs2, .cons hu m1, .cons hp m2, by rw [k1, m3, List.append_assoc], by rw [k2, m4, List.append_assoc], .cons k3 m5, by rw [List.map_append]; exact k4.append m6, fun n hn => ?_, m8, m9, m10⟩
        rw [List.map_append] at hn
        exact (List.mem_append.1 hn).elim (k5 n) (m7 n)
      · cases h
theorem resV_ok {lv : List (Bool × List Value)} {us : List Value} (h : All2 (fun (p : Bool × List Value) u => PartV p.1 p.2 u) lv us) : ResV lv (resVal us) := by
  cases h with
  | nil => exact ⟨[], rfl, .nil⟩
  | cons h1 h2 => cases h2 with
    | nil => exact h1
    | cons h2 h3 => exact ⟨_, rfl, .cons h1 (.cons h2 h3)⟩
def opP : OutP → Nat
  | .rw p _ => p
  | .own p _ => p
theorem nameP_pinned {p : Nat} (h : p < 6000) : pinned (nameP p) := ⟨by simp [nameP], by simp [nameP]; omega⟩
theorem outs_ok (I : Inv C s A okS tmps w) {N : List Nat} : ∀ (os : List OutP) (ws : List (CV E)) (ps : List (Ty × Bool)), gatherOuts s os = some (ws, ps) → os.Pairwise (fun a b => opP a < opP b) → (∀ o ∈ os, opP o < 6000) →
    ps = outsPs os ∧ ∀ (l : List (Nat × Nat)) (ds : List (Dt E)), ownRefs (E := E) ps ws = some l → outs1 s ps ws = some ds → (∀ p ∈ l, isTok s p.1 p.2 = true) → (∀ n ∈ namesIn (immCells ps ws), n ∉ N) →
    ∃ hs bs Nh Nb, OutsR E C.w0 w (okL s A okS N) C.A0 os ds hs bs ∧ BsN s A Nh hs ∧ BsN s A Nb bs ∧ ((l.map (·.1)).Nodup → (Nb ++ Nh).Nodup) ∧
      ∀ n ∈ Nb ++ Nh, (n ∈ l.map (·.1) ∧ ∃ g t xs, lk s.ob n = some (g, .tok t xs)) ∨ (∃ o ∈ os, n = nameP (opP o) ∧ ∃ g cs, lk s.ob n = some (g, .box cs))
  | [], ws, ps, h, hup, hlt => by
    simp only [gatherOuts] at h; injection h with h; injection h with e1 e2; subst e1; subst e2
    refine ⟨rfl, fun l ds hl ho _ _ => ?_⟩
    simp only [ownRefs] at hl; injection hl with hl; subst hl
    simp only [outs1] at ho; injection ho with ho; subst ho
    exact ⟨[], [], [], [], .nil, .nil, .nil, fun _ => by simp, by simp⟩
  | .rw p cs :: os, ws, ps, h, hup, hlt => by
    obtain ⟨hup1, hup2⟩ := List.pairwise_cons.1 hup
    simp only [gatherOuts] at h
    split at h
    · rename_i vs ws2 ps2 hobj hg
      cases hb : Nat.beq vs.length (sizeOfPs E cs) with
      | false => rw [hb] at h; cases h
      | true =>
        rw [hb] at h; injection h with h; injection h with e1 e2; subst e1; subst e2
        have hsz := Nat.eq_of_beq_eq_true hb
        rw [sizeOfPs_eq] at hsz
        obtain ⟨i1, i2⟩ := outs_ok I os ws2 ps2 hg hup2 (fun o ho => hlt o (by simp [ho]))
        refine ⟨by simp [outsPs, i1], fun l ds hl ho ht hN => ?_⟩
        have hlk := lk_of_obj (ob := s.ob) hobj
        obtain ⟨b, vals, e, hB, hw, hr⟩ := I.obj _ _ _ hlk
        have hpin := (I.pin _ _ _ (nameP_pinned (hlt (.rw p cs) (by simp))) hlk).2
        have hpin : A.B (nameP p) = C.A0.B (nameP p) := hpin
        obtain ⟨l1, l2, ds1, ds2, bs1, k1, k2, k3, k4, k5, k6, k7, k8⟩ := pieces_ok I cs ps2 vs ws2 vals l ds hsz hr hl ho ht hN
        obtain ⟨hs, bs, Nh, Nb, j1, j2, j3, j4, j5⟩ := i2 l2 ds2 k6 k7 (fun p hp => ht p (by rw [k1]; simp [hp])) k8
        refine ⟨some b :: hs, bs1 ++ bs, nameP p :: Nh, l1.map (·.1) ++ Nb, by rw [k2]; exact .rw (hpin ▸ hB) hw k3 j1, by rw [← hB]; exact .cons hlk rfl (fun _ => rfl) j2, k4.append j3, fun hn => ?_, fun n hn => ?_⟩
        · rw [k1, List.map_append] at hn
          obtain ⟨n1, n2, n3⟩ := List.nodup_append.1 hn
          have n4 := j4 n2
          have hbox : ∀ m ∈ Nb ++ Nh, m ≠ nameP p := by
            intro m hm e
            subst e
            rcases j5 _ hm with ⟨_, g, t, xs, a⟩ | ⟨o, ho, a, _⟩
            · rw [hlk] at a; cases a
            · have h1 : p < opP o := hup1 o ho
              simp only [nameP] at a
              omega
          have hd : ∀ m ∈ l1.map (·.1), ∀ m' ∈ Nb ++ Nh, m ≠ m' := by
            intro m hm m' hm' e
            subst e
            rcases j5 _ hm' with ⟨a, _⟩ | ⟨o, ho, a, g, cs', hl'⟩
            · exact n3 m hm m a rfl
            · obtain ⟨g2, t, xs, hl2⟩ := k5 m hm
              rw [hl2] at hl'; cases hl'
          obtain ⟨q1, q2, q3⟩ := List.nodup_append.1 n4
          refine List.nodup_append.2 ⟨List.nodup_append.2 ⟨n1, q1, fun a ha b hb => hd a ha b (by simp [hb])⟩, List.nodup_cons.2 ⟨fun hm => hbox _ (by simp [hm]) rfl, q2⟩, fun a ha b hb e => ?_⟩
          subst e
          rcases List.mem_append.1 ha with ha | ha
          · rcases List.mem_cons.1 hb with e | hb
            · subst e
              obtain ⟨g2, t, xs, hl2⟩ := k5 _ ha
              rw [hlk] at hl2; cases hl2
            · exact hd a ha a (by simp [hb]) rfl
          · rcases List.mem_cons.1 hb with e | hb
            · exact hbox a (by simp [ha]) e
            · exact q3 a ha a hb rfl
        · have : n ∈ l1.map (·.1) ∨ n = nameP p ∨ n ∈ Nb ++ Nh := by
            simp only [List.mem_append, List.mem_cons] at hn ⊢
            rcases hn with (h | h) | h | h
            · exact .inl h
            · exact .inr (.inr (.inl h))
            · exact .inr (.inl h)
            · exact .inr (.inr (.inr h))
          rcases this with h | h | h
          · exact .inl ⟨by rw [k1, List.map_append]; simp [h], k5 n h⟩
          · subst h; exact .inr ⟨.rw p cs, by simp, rfl, _, _, hlk⟩
          · rcases j5 n h with ⟨a, b⟩ | ⟨o, ho, a, b⟩
            · exact .inl ⟨by rw [k1, List.map_append]; simp [a], b⟩
            · exact .inr ⟨o, by simp [ho], a, b⟩
    · cases h
  | .own p t :: os, ws, ps, h, hup, hlt => by
    obtain ⟨hup1, hup2⟩ := List.pairwise_cons.1 hup
    simp only [gatherOuts] at h
    split at h
    · rename_i ws2 ps2 hg
      injection h with h; injection h with e1 e2; subst e1; subst e2
      obtain ⟨i1, i2⟩ := outs_ok I os ws2 ps2 hg hup2 (fun o ho => hlt o (by simp [ho]))
      refine ⟨by simp [outsPs, i1], fun l ds hl ho ht hN => ?_⟩
      simp only [ownRefs] at hl
      cases hl2 : ownRefs (E := E) ps2 ws2 with
      | none => rw [hl2] at hl; cases hl
      | some l2 =>
        rw [hl2] at hl; injection hl with hl; subst hl
        simp only [outs1, nc, List.take_succ_cons, List.take_zero, List.drop_succ_cons, List.drop_zero, List.map_cons, List.map_nil] at ho
        simp only [immCells, List.drop_succ_cons, List.drop_zero] at hN
        split at ho
        · rename_i x hx
          split at ho
          · rename_i ds' hds
            injection ho with ho; subst ho
            simp only [pack, one] at hx
            have htok := ht (nameP p, 0) (by simp)
            simp only [isTok] at htok
            split at htok
            · rename_i t2 xs hobj
              simp only [St.look, hobj, leafOf] at hx
              split at hx
              · rename_i he
                injection he with he
                subst he
                injection hx with hx
                have hx : xs = x := hx
                subst hx
                have hlk := lk_of_obj (ob := s.ob) hobj
                have hob := I.obj _ _ _ hlk
                have hpin : A.B (nameP p) = C.A0.B (nameP p) ∧ A.O (nameP p) = C.A0.O (nameP p) ∧ _ := (I.pin _ _ _ (nameP_pinned (hlt (.own p t2) (by simp))) hlk).2
                obtain ⟨hs, bs, Nh, Nb, j1, j2, j3, j4, j5⟩ := i2 l2 ds' hl2 hds (fun p hp => ht p (by simp [hp])) hN
                refine ⟨C.A0.B (nameP p) :: hs, bs, nameP p :: Nh, Nb, .own ?_ j1, by rw [← hpin.1]; exact .cons hlk rfl (fun _ => rfl) j2, j3, fun hn => ?_, fun n hn => ?_⟩
                · rw [← hpin.1, ← hpin.2.1]
                  unfold RepOb at hob
                  unfold OwnAt
                  cases hB : A.B (nameP p) with
                  | none => simp only [hB] at hob; exact hob
                  | some b =>
                    simp only [hB] at hob
                    obtain ⟨cs, e, hw, hrow⟩ := hob
                    refine ⟨cs, e, hw, hrow.up fun b k h => .inl h, fun cs0 e0 h0 => ?_⟩
                    obtain ⟨cs', h1, h2⟩ := hpin.2.2 b cs0 e0 hB h0
                    rw [hw] at h1; injection h1 with h1; injection h1 with h3 h4
                    subst h3; subst h4
                    exact ⟨rfl, h2.symm⟩
                · rw [List.map_cons] at hn
                  obtain ⟨n1, n2⟩ := List.nodup_cons.1 hn
                  have n4 := j4 n2
                  have hbox : ∀ m ∈ Nb ++ Nh, m ≠ nameP p := by
                    intro m hm e
                    subst e
                    rcases j5 _ hm with ⟨a, _⟩ | ⟨o, ho, a, g, cs', hl'⟩
                    · exact n1 a
                    · rw [hlk] at hl'; cases hl'
                  obtain ⟨q1, q2, q3⟩ := List.nodup_append.1 n4
                  refine List.nodup_append.2 ⟨q1, List.nodup_cons.2 ⟨fun hm => hbox _ (by simp [hm]) rfl, q2⟩, fun a ha b hb e => ?_⟩
                  subst e
                  rcases List.mem_cons.1 hb with e | hb
                  · exact hbox a (by simp [ha]) e
                  · exact q3 a ha a hb rfl
                · have : n = nameP p ∨ n ∈ Nb ++ Nh := by
                    simp only [List.mem_append, List.mem_cons] at hn ⊢
                    rcases hn with h | h | h
                    · exact .inr (.inl h)
                    · exact .inl h
                    · exact .inr (.inr h)
                  rcases this with h | h
                  · subst h; exact .inl ⟨by simp, _, _, _, hlk⟩
                  · rcases j5 n h with ⟨a, b⟩ | ⟨o, ho, a, b⟩
                    · exact .inl ⟨by simp at a ⊢; exact .inr a, b⟩
                    · exact .inr ⟨o, by simp [ho], a, b⟩
              · cases hx
            · cases htok
          · cases ho
        · cases ho
    · cases h
theorem leave_ok (hE : EnvOk E) {M : Mach E} (hT : TysOk E P M.tys) {a : Act} (I : Inv C s A okS a.tmps w) {fn : Func} {sg : Sig} {os : List OutP} (hup : os.Pairwise (fun a b => opP a < opP b)) (hlt : ∀ o ∈ os, opP o < 6000) {e : Ex} {r : Dt E} (h : leave M fn sg os e s = some r) :
    (e = .normal ∨ e = .ret) ∧ ∃ v, (results fn a.tmps).run P w = .ok v w ∧ ∃ x, r = ⟨tyL (piecesTy (resPieces sg.rs ++ outsPs os)), x⟩ ∧ Post C C.A0 sg.rs os (unL E _ x) v w := by
  have he : (e = .normal ∨ e = .ret) := by
    cases e with
    | normal => exact .inl rfl
    | ret => exact .inr rfl
    | exit i => simp [leave] at h
  refine ⟨he, ?_⟩
  have h : (match gather M s fn.results.toList sg.rs, gatherOuts s os with
    | some cs, some (ws, ps) =>
      let all := resPieces sg.rs ++ ps
      match ownRefs (E := E) all (cs ++ ws) with
      | some l =>
        if nodup (l.map (·.1)) && (l.all (fun p => isTok s p.1 p.2) && !((namesIn (immCells all (cs ++ ws))).any (fun n => l.any (fun p => Nat.beq p.1 n)))) then
          match outs1 s all (cs ++ ws) with
          | some ds => match mkL E (piecesTy all) ds with
            | some x => some (⟨tyL (piecesTy all), x⟩ : Dt E)
            | none => none
          | none => none
        else none
      | none => none
    | _, _ => none) = some r := by
    rcases he with e | e <;> (subst e; exact h)
  split at h
  · rename_i cs ws ps hg hgo
    simp only at h
    split at h
    · rename_i l hl
      split at h
      · rename_i hchk
        split at h
        · rename_i ds hds
          split at h
          · rename_i x hx
            injection h with h; subst h
            simp only [Bool.and_eq_true, Bool.not_eq_true', List.any_eq_false] at hchk
            obtain ⟨hnd, hall, himm⟩ := hchk
            obtain ⟨e1, houts⟩ := outs_ok I (N := l.map (·.1)) os ws ps hgo hup hlt
            subst e1
            have hnd' := nodup_list hnd
            have ht : ∀ p ∈ l, isTok s p.1 p.2 = true := fun p hp => List.all_eq_true.1 hall p hp
            have hN : ∀ n ∈ namesIn (immCells (resPieces sg.rs ++ outsPs os) (cs ++ ws)), n ∉ l.map (·.1) := by
              intro n hn hm
              obtain ⟨p, hp, e⟩ := List.mem_map.1 hm
              have := himm n hn
              simp only [List.any_eq_true, not_exists, not_and] at this
              exact this p hp (by rw [e]; exact Nat.beq_refl n)
            obtain ⟨us, l1, l2, ds1, ds2, lv, bs1, m1, m2, m3, m4, m5, m6, m7, m8, m9, m10⟩ := results_ok hE hT I (N := l.map (·.1)) _ _ cs hg (outsPs os) ws l ds hl hds ht hN
            obtain ⟨hs, bs2, Nh, Nb, j1, j2, j3, j4, j5⟩ := houts l2 ds2 m8 m9 (fun p hp => ht p (by rw [m3]; simp [hp])) m10
            refine ⟨_, results_run m1, x, rfl, okL s A okS (l.map (·.1)), ds1, ds2, lv, bs1, hs, bs2, by rw [mkL_unL _ _ _ hx, m4], m5, resV_ok m2, j1, ?_⟩
            have hn2 : (l1.map (·.1)).Nodup ∧ (l2.map (·.1)).Nodup ∧ ∀ a ∈ l1.map (·.1), ∀ b ∈ l2.map (·.1), a ≠ b := by
              rw [m3, List.map_append] at hnd'
              exact List.nodup_append.1 hnd'
            have hN2 : (l1.map (·.1) ++ (Nb ++ Nh)).Nodup := by
              refine List.nodup_append.2 ⟨hn2.1, j4 hn2.2.1, fun a ha b hb e => ?_⟩
              subst e
              rcases j5 a hb with ⟨k, _⟩ | ⟨o, _, _, g, cs', k⟩
              · exact hn2.2.2 a ha a k rfl
              · obtain ⟨g2, t, xs, k2⟩ := m7 a ha
                rw [k2] at k; cases k
            have hB := m6.append (j3.append j2)
            have hmem : ∀ n ∈ l1.map (·.1) ++ (Nb ++ Nh), (∃ g t xs, lk s.ob n = some (g, .tok t xs)) → n ∈ l.map (·.1) := by
              intro n hn ⟨g, t, xs, hk⟩
              rw [m3, List.map_append]
              rcases List.mem_append.1 hn with h | h
              · simp only [List.mem_append]; exact .inl h
              · rcases j5 n h with ⟨k, _⟩ | ⟨o, _, _, g', cs', k⟩
                · simp only [List.mem_append]; exact .inr k
                · rw [hk] at k; cases k
            refine ⟨I.os, I.tape, I.output, I.size, I.block, fun b k hk => ?_, fun b k hk => ?_, hB.dist I hN2, fun b hb => ?_⟩
            · rcases hk with h | ⟨n, g, t, xs, h1, h2, _⟩
              · exact I.okLt b k h
              · exact (I.own n g _ b h1 rfl h2).2.2.1
            · rcases hk with h | ⟨n, g, t, xs, h1, h2, _⟩
              · exact I.okSub b k h
              · exact .inr (I.own n g _ b h1 rfl h2).2.2.2
            · obtain ⟨n, hn, g, o, h1, h2, h3, h4⟩ := hB.mem hb
              obtain ⟨a1, a2, a3, a4⟩ := I.own n g o b h1 h2 h4
              refine ⟨fun k hk => ?_, a3, a4⟩
              rcases hk with h | ⟨m, g', t, xs, k1, k2, k3⟩
              · exact a1 k (by rw [h3]; exact Nat.zero_le _) h
              · have := I.inj m n g' g _ o b k1 h1 rfl h2 k2 h4
                subst this
                exact k3 (hmem m hn ⟨g', t, xs, k1⟩)
          · cases h
        · cases h
      · cases h
    · cases h
  · cases h
theorem outsOf_up : ∀ (as : List (Arg E)) (q : Nat), (outsOf q as).Pairwise (fun a b => opP a < opP b) ∧ ∀ o ∈ outsOf q as, q ≤ opP o ∧ opP o < q + as.length
  | [], q => ⟨.nil, by simp [outsOf]⟩
  | a :: as, q => by
    obtain ⟨h1, h2⟩ := outsOf_up as (q + 1)
    have h3 : ∀ o ∈ outsOf (q + 1) as, q ≤ opP o ∧ opP o < q + (a :: as).length := fun o ho => by
      have := h2 o ho; simp; omega
    cases a with
    | rw cs x =>
      refine ⟨.cons (fun o ho => by have h5 := (h2 o ho).1; show q < opP o; omega) h1, fun o ho => ?_⟩
      rcases List.mem_cons.1 ho with e | ho
      · subst e; simp [opP]
      · exact h3 o ho
    | own t x =>
      refine ⟨.cons (fun o ho => by have h5 := (h2 o ho).1; show q < opP o; omega) h1, fun o ho => ?_⟩
      rcases List.mem_cons.1 ho with e | ho
      · subst e; simp [opP]
      · exact h3 o ho
    | _ => exact ⟨h1, h3⟩
structure MOk (P : Program) (M : Mach E) : Prop where
  tys : TysOk E P M.tys
  one : OneOk M
  fns : ∀ f fn, M.fns.find f = some fn → P.funcs[f]? = some fn ∧ (fn.name == "runtime.NumGoroutine") = false
  ext : ∀ f g, M.ext.find f = some g → ∀ as r, g as = some r → FnOk1 P M f as r
  draw : ∀ k (C : FC), FnOk P M (run M k) → DrawOk P M (run M k) C
theorem run_callF {f : FuncId} {fn : Func} {c : Code} (hf : P.funcs[f]? = some fn) (hn : (fn.name == "runtime.NumGoroutine") = false) (hb : fn.body = some c) (args : Array Value) (w : World) : (callFunc f args).run P w = .ok (.enter f args) w := by
  unfold callFunc
  simp only [Sem.run_bind]
  have : (program).run P w = .ok P w := rfl
  rw [this]
  simp only [Result.andThen_ok, hf, hn, hb]
  rfl
theorem fnOk (hE : EnvOk E) {M : Mach E} (hM : MOk P M) : ∀ k, FnOk P M (run M k)
  | 0 => fun f as r h => by simp [run] at h
  | k + 1 => fun f as r h => by
    have ih := fnOk hE hM k
    simp only [run] at h
    split at h
    · rename_i g hg
      exact hM.ext f g hg as r h
    · split at h
      · rename_i fn sg hfn hsg
        split at h
        · rename_i c st hb hi
          refine ⟨sg, hsg, fun C A sl ob vals hent hlen hA0 hInv => ?_⟩
          obtain ⟨hf1, hf2⟩ := hM.fns f fn hfn
          unfold initSt at hi
          split at hi
          · rename_i hsz
            rw [hent] at hi
            injection hi with hi; subst hi
            subst hA0
            unfold CallsF
            rw [run_callF hf1 hf2 hb]
            refine calls_of_wp hf1 hb ?_
            have I := hInv fn.ntmps (by omega) hsz.2.2
            obtain ⟨hup, hlt⟩ := outsOf_up as 0
            refine execA_ok hE (X := ⟨M, f, run M k⟩) hM.tys (callStep hE hM.one ih) (hM.draw k C ih) (exec_ok hE (X := ⟨M, f, run M k⟩) hM.tys (callStep hE hM.one ih) (hM.draw k C ih) r k) c 0 _ _ C.w0 _ _ h ⟨rfl, C.A0, C.okS, ?_⟩ fun e s' a' w' hs' h' => ?_
            · have : pad vals fn.ntmps = vals.toArray ++ Array.replicate (fn.ntmps - vals.toArray.size) undef := by simp [pad]
              rw [this] at I; exact I
            · obtain ⟨hd, A', ok', I'⟩ := hs'
              obtain ⟨he, v, h1, x, h2, h3⟩ := leave_ok hE hM.tys I' hup (fun o ho => by have h5 := (hlt o ho).2; have h6 := hsz.2.1; omega) h'
              rcases he with e1 | e1 <;> (subst e1; exact ⟨hd, v, h1, v, rfl, x, h2, h3⟩)
          · cases hi
        · cases h
      · cases h
end
end Go.Proofs.AM

namespace Go.Proofs.AM
open Go Go.RowKit
variable {E : Env}
structure Fm (F : St E → St E) (D : Nat → Prop) : Prop where
  put : ∀ s n g o, ¬ D n → F (s.putOb n g o) = (F s).putOb n g o
  lk : ∀ s n, ¬ D n → lk (F s).ob n = lk s.ob n
  n : ∀ s, (F s).n = s.n
section
variable {F : St E → St E} {D : Nat → Prop}
theorem Fm.obj (h : Fm F D) (s : St E) {n : Nat} (hn : ¬ D n) (g : Nat) : (F s).obj n g = s.obj n g := by simp [St.obj, objOf, h.lk s n hn]
theorem Fm.gen (h : Fm F D) (s : St E) {n : Nat} (hn : ¬ D n) : (F s).gen n = s.gen n := by simp [St.gen, h.lk s n hn]
theorem Fm.fresh (h : Fm F D) (s : St E) {n : Nat} (hn : ¬ D n) (o : Ob E) : F (s.fresh n o) = (F s).fresh n o := by simp [St.fresh, h.put _ _ _ _ hn, h.gen s hn]
theorem Fm.kill (h : Fm F D) (s : St E) {n : Nat} (hn : ¬ D n) (g : Nat) : F (s.kill n g) = (F s).kill n g := by simp [St.kill, h.put _ _ _ _ hn]
theorem Fm.freeze (h : Fm F D) (s : St E) {n : Nat} (hn : ¬ D n) (g : Nat) : F (s.freeze n g) = (F s).freeze n g := by
  unfold St.freeze
  rw [h.obj s hn]
  split
  · rw [h.put _ _ _ _ hn]
  · rfl
def Cl (D : Nat → Prop) (c : CV E) : Prop := ∀ n ∈ nmC c, ¬ D n
theorem Fm.look (h : Fm F D) (s : St E) {c : CV E} (hc : Cl D c) : (F s).look c = s.look c := by
  cases c with
  | ref n g w => simp only [St.look, h.obj s (hc n (by simp [nmC]))]
  | _ => rfl
theorem Fm.looks (h : Fm F D) (s : St E) {cs : List (CV E)} (hc : ∀ c ∈ cs, Cl D c) : cs.map (F s).look = cs.map s.look := List.map_congr_left fun c hm => h.look s (hc c hm)
theorem Fm.frz (h : Fm F D) : ∀ (cs : List (CV E)) (s : St E), (∀ c ∈ cs, Cl D c) → F (frzList s cs) = frzList (F s) cs
  | [], s, _ => rfl
  | c :: r, s, hc => by
    cases c with
    | ref n g w =>
      simp only [frzList]
      rw [Fm.frz h r _ fun c hm => hc c (by simp [hm]), h.freeze s (hc (.ref n g w) (by simp) n (by simp [nmC]))]
    | _ => exact Fm.frz h r s fun c hm => hc c (by simp [hm])
def SameAt (s t : St E) (ts : List Nat) : Prop := ∀ x ∈ ts, t.slot x = s.slot x
theorem ev_same {s t : St E} {x : Operand} (h : SameAt s t (opTs [x])) (ch : Chain) : ev t ch x = ev s ch x := by
  cases x with
  | tmp n => simp only [ev]; rw [h n (by simp [opTs])]
  | _ => rfl
theorem opTs_append : ∀ (xs ys : List Operand), opTs (xs ++ ys) = opTs xs ++ opTs ys
  | [], ys => rfl
  | x :: xs, ys => by cases x <;> simp [opTs, opTs_append xs ys]
theorem opTs_mem {xs : List Operand} {x : Operand} (h : x ∈ xs) : ∀ t ∈ opTs [x], t ∈ opTs xs := by
  induction xs with
  | nil => simp at h
  | cons y r ih =>
    intro t ht
    rcases List.mem_cons.1 h with e | h
    · subst e; cases x <;> simp [opTs] at ht ⊢; exact .inl ht
    · have := ih h t ht
      cases y <;> simp [opTs, this]
theorem SameAt.sub {s t : St E} {xs : List Operand} (h : SameAt s t (opTs xs)) {x : Operand} (hx : x ∈ xs) : SameAt s t (opTs [x]) := fun n hn => h n (opTs_mem hx n hn)
def SameOb (s t : St E) (ns : List Nat) : Prop := ∀ n ∈ ns, lk t.ob n = lk s.ob n
theorem same_obj {s t : St E} {n : Nat} (h : lk t.ob n = lk s.ob n) (g : Nat) : t.obj n g = s.obj n g := by simp [St.obj, objOf, h]
theorem behind_same {s t : St E} {c : CV E} (h : SameOb s t (nmC c)) : behind t c = behind s c := by
  cases c with
  | ptr n g off => simp only [behind, same_obj (h n (by simp [nmC]))]
  | optr n g i off => simp only [behind, same_obj (h n (by simp [nmC]))]
  | _ => rfl
theorem points_same {s t : St E} {c : CV E} (h : SameOb s t (nmC c)) : points t c = points s c := by
  cases c with
  | ptr n g off => simp only [points, same_obj (h n (by simp [nmC]))]
  | optr n g i off => simp only [points, same_obj (h n (by simp [nmC]))]
  | _ => rfl
theorem lenOf_same {s t : St E} {c : CV E} (h : SameOb s t (nmC c)) : lenOf t c = lenOf s c := by
  cases c with
  | ref n g w => simp only [lenOf, same_obj (h n (by simp [nmC]))]
  | leaf ty x => cases ty <;> rfl
  | _ => rfl
theorem bound_same {s t : St E} {ch : Chain} {d : Int} {x : Option Operand} (h : SameAt s t (opTs x.toList)) : bound t ch d x = bound s ch d x := by
  cases x with
  | none => rfl
  | some x => simp only [bound]; rw [ev_same (s := s) (t := t) h ch]
theorem indexAddr_same {s t : St E} {te : Ty} {x i : CV E} (h : SameOb s t (nmC x)) : indexAddr t te x i = indexAddr s te x i := by
  unfold indexAddr
  split
  · cases x with
    | ref n g w => simp only [same_obj (h n (by simp [nmC]))]
    | leaf ty x => cases ty <;> rfl
    | _ => rfl
  · rfl
theorem sliceOf_same {s t : St E} {ch : Chain} {te : Ty} {x : CV E} {lo hi : Option Operand} (h : SameOb s t (nmC x)) (h1 : SameAt s t (opTs lo.toList)) (h2 : SameAt s t (opTs hi.toList)) : sliceOf t ch te x lo hi = sliceOf s ch te x lo hi := by
  unfold sliceOf
  simp only [bound_same h1, bound_same h2]
  cases x with
  | ref n g w => simp only [same_obj (h n (by simp [nmC]))]
  | leaf ty x => cases ty <;> rfl
  | _ => rfl
theorem sliceStr_same {s t : St E} {ch : Chain} {x : CV E} {lo hi : Option Operand} (h1 : SameAt s t (opTs lo.toList)) (h2 : SameAt s t (opTs hi.toList)) : sliceStr t ch x lo hi = sliceStr s ch x lo hi := by
  unfold sliceStr
  simp only [bound_same h1, bound_same h2]
theorem fillS_same {M : Mach E} {s t : St E} {ch : Chain} {fs : List (Nat × TypeId)} : ∀ (parts : List (Nat × Operand)) (cs : List (CV E)), SameAt s t (opTs (parts.map (·.2))) → fillS E M fs t ch cs parts = fillS E M fs s ch cs parts
  | [], cs, _ => rfl
  | (i, x) :: r, cs, h => by
    simp only [fillS]
    rw [ev_same (h.sub (x := x) (by simp)) ch]
    split
    · split
      · split
        · exact fillS_same r _ fun n hn => h n (by cases x <;> simp [opTs] at hn ⊢ <;> simp [hn])
        · rfl
      · rfl
    · rfl
theorem SameOb.c {s t : St E} {ch : Chain} {x : Operand} {c : CV E} (h : SameOb s t (nmOp s ch x)) (he : ev s ch x = .c c) : SameOb s t (nmC c) := by
  unfold nmOp at h
  rw [he] at h; exact h
theorem load_same {s t : St E} {ti : TI} {c : CV E} (h : SameOb s t (nmC c)) : load ti t c = load ti s c := by simp only [load, behind_same h]
theorem quiet_keep {M : Mach E} {s : St E} {ch ch' : Chain} {grd grd' : Bool} {d d' : Nat} {o : Op} {xs : List Operand} {rd wr : List Nat} (hf : footOp M s ch grd d o = (.quiet, xs, rd, wr)) :
    ∀ r, simple M s ch' grd' d' o = some r → r.2.2 = s := by
  intro r h
  unfold footOp at hf
  split at hf
  case h_20 c =>
    split at hf
    case h_1 hc =>
      simp only [simple, hc] at h
      repeat' split at h
      all_goals first | (cases h; done) | (injection h with h; subst h; rfl)
    case h_2 hc =>
      simp only [simple, hc] at h
      repeat' split at h
      all_goals first | (cases h; done) | (injection h with h; subst h; rfl)
    case h_3 hc =>
      simp only [simple, hc] at h
      repeat' split at h
      all_goals first | (cases h; done) | (injection h with h; subst h; rfl)
    case h_4 hc => injection hf with hk _; cases hk
    case h_5 hc => injection hf with hk _; cases hk
    case h_6 hc =>
      simp only [simple, hc] at h
      cases h
    case h_7 => injection hf with hk _; cases hk
  case h_16 => injection hf with hk _; cases hk
  case h_17 => injection hf with hk _; cases hk
  case h_18 => injection hf with hk _; revert hk; cases (!grd && _) <;> intro hk <;> cases hk
  case h_19 => injection hf with hk _; cases hk
  case h_21 => injection hf with hk _; cases hk
  case h_3 c a b =>
    cases c with
    | tmp c =>
      simp only [simple] at h
      repeat' split at h
      all_goals first | (cases h; done) | (injection h with h; subst h; rfl)
    | _ => simp [simple] at h
  all_goals
    simp only [simple, ok1] at h
    repeat' split at h
    all_goals first | (cases h; done) | (injection h with h; subst h; rfl)
theorem quiet_eq {M : Mach E} {s t : St E} {ch : Chain} {grd : Bool} {d d' : Nat} {o : Op} {xs : List Operand} {rd wr : List Nat} (hf : footOp M s ch grd d o = (.quiet, xs, rd, wr)) (h1 : SameAt s t (opTs xs)) (h2 : SameOb s t rd) :
    simple M t ch grd d' o = (simple M s ch grd d o).map (fun r => (r.1, r.2.1, t)) := by
  unfold footOp at hf
  split at hf
  case h_1 x =>
    injection hf with _ hf; injection hf with e1 hf; injection hf with e2 e3; subst e1; subst e2
    simp only [simple]
    rw [ev_same h1 ch]
    (repeat' (first | rfl | split)) <;> first | contradiction | simp_all
  case h_2 x =>
    injection hf with _ hf; injection hf with e1 hf; injection hf with e2 e3; subst e1; subst e2
    simp only [simple]
    rw [ev_same h1 ch]
    (repeat' (first | rfl | split)) <;> first | contradiction | simp_all
  case h_3 c a b =>
    injection hf with _ hf; injection hf with e1 hf; injection hf with e2 e3; subst e1; subst e2
    cases c with
    | tmp c =>
      simp only [simple]
      rw [ev_same (h1.sub (x := a) (by simp)), ev_same (h1.sub (x := b) (by simp)), h1 c (by simp [opTs])]
      (repeat' (first | rfl | split)) <;> first | contradiction | simp_all
    | _ => rfl
  case h_4 ty parts =>
    injection hf with _ hf; injection hf with e1 hf; injection hf with e2 e3; subst e1; subst e2
    simp only [simple, fillS_same (M := M) (s := s) (t := t) (ch := ch) parts.toList _ h1]
    (repeat' (first | rfl | split)) <;> first | contradiction | simp_all
  case h_5 ty x =>
    injection hf with _ hf; injection hf with e1 hf; injection hf with e2 e3; subst e1; subst e2
    simp only [simple]
    rw [ev_same h1 ch]
    cases hx : ev s ch x with
    | c p =>
      have hl := fun ti => load_same (ti := ti) (h2.c hx)
      cases M.tys.find ty with
      | none => rfl
      | some ti =>
        simp only [hl]
        (repeat' (first | rfl | split)) <;> first | contradiction | simp_all
    | _ => (repeat' (first | rfl | split)) <;> first | contradiction | (exfalso; simp_all)
  case h_6 x =>
    injection hf with _ hf; injection hf with e1 hf; injection hf with e2 e3; subst e1; subst e2
    simp only [simple]
    rw [ev_same h1 ch]
    cases hx : ev s ch x with
    | c p =>
      simp only [points_same (h2.c hx), ok1]
      (repeat' (first | rfl | split)) <;> first | contradiction | simp_all
    | _ => (repeat' (first | rfl | split)) <;> first | contradiction | (exfalso; simp_all)
  case h_7 bo ty x y pt =>
    injection hf with _ hf; injection hf with e1 hf; injection hf with e2 e3; subst e1; subst e2
    simp only [simple]
    rw [ev_same (h1.sub (x := x) (by simp)), ev_same (h1.sub (x := y) (by simp))]
    (repeat' (first | rfl | split)) <;> first | contradiction | simp_all
  case h_8 uo ty x =>
    injection hf with _ hf; injection hf with e1 hf; injection hf with e2 e3; subst e1; subst e2
    simp only [simple]
    rw [ev_same h1 ch]
    (repeat' (first | rfl | split)) <;> first | contradiction | simp_all
  case h_9 ty tz x =>
    injection hf with _ hf; injection hf with e1 hf; injection hf with e2 e3; subst e1; subst e2
    simp only [simple]
    rw [ev_same h1 ch]
    (repeat' (first | rfl | split)) <;> first | contradiction | simp_all
  case h_10 ty x lo hi =>
    injection hf with _ hf; injection hf with e1 hf; injection hf with e2 e3; subst e1; subst e2
    have k1 : SameAt s t (opTs lo.toList) := fun n hn => h1 n (by
      rw [show x :: (lo.toList ++ hi.toList) = [x] ++ (lo.toList ++ hi.toList) from rfl, opTs_append, opTs_append]; simp [hn])
    have k2 : SameAt s t (opTs hi.toList) := fun n hn => h1 n (by
      rw [show x :: (lo.toList ++ hi.toList) = [x] ++ (lo.toList ++ hi.toList) from rfl, opTs_append, opTs_append]; simp [hn])
    simp only [simple]
    rw [ev_same (h1.sub (x := x) (by simp))]
    cases hx : ev s ch x with
    | c p =>
      simp only [sliceOf_same (h2.c hx) k1 k2, sliceStr_same k1 k2]
      (repeat' (first | rfl | split)) <;> first | contradiction | simp_all
    | _ => (repeat' (first | rfl | split)) <;> first | contradiction | (exfalso; simp_all)
  case h_11 ty x f =>
    injection hf with _ hf; injection hf with e1 hf; injection hf with e2 e3; subst e1; subst e2
    simp only [simple]
    rw [ev_same h1 ch]
    cases hx : ev s ch x with
    | c p =>
      cases M.tys.find ty with
      | none => rfl
      | some ti =>
        simp only [points_same (h2.c hx)]
        (repeat' (first | rfl | split)) <;> first | contradiction | simp_all
    | _ => (repeat' (first | rfl | split)) <;> first | contradiction | (exfalso; simp_all)
  case h_12 ty x f =>
    injection hf with _ hf; injection hf with e1 hf; injection hf with e2 e3; subst e1; subst e2
    simp only [simple]
    rw [ev_same h1 ch]
    (repeat' (first | rfl | split)) <;> first | contradiction | simp_all
  case h_13 ty x i =>
    injection hf with _ hf; injection hf with e1 hf; injection hf with e2 e3; subst e1; subst e2
    simp only [simple]
    rw [ev_same (h1.sub (x := x) (by simp)), ev_same (h1.sub (x := i) (by simp))]
    cases hx : ev s ch x with
    | c p =>
      have hl := fun te i => indexAddr_same (te := te) (i := i) (h2.c hx)
      cases sliceTy M ty with
      | none =>
        have hp := points_same (h2.c hx)
        (repeat' (first | rfl | split)) <;> first | contradiction | simp_all
      | some q =>
        obtain ⟨q1, q2, q3⟩ := q
        cases ev s ch i with
        | c i =>
          simp only [hl]
          (repeat' (first | rfl | split)) <;> first | contradiction | simp_all
        | _ => rfl
    | _ => (repeat' (first | rfl | split)) <;> first | contradiction | (exfalso; simp_all)
  case h_14 ty x i =>
    injection hf with _ hf; injection hf with e1 hf; injection hf with e2 e3; subst e1; subst e2
    simp only [simple]
    rw [ev_same (h1.sub (x := x) (by simp)), ev_same (h1.sub (x := i) (by simp))]
    (repeat' (first | rfl | split)) <;> first | contradiction | simp_all
  case h_15 x i =>
    injection hf with _ hf; injection hf with e1 hf; injection hf with e2 e3; subst e1; subst e2
    simp only [simple]
    rw [ev_same h1 ch]
    (repeat' (first | rfl | split)) <;> first | contradiction | simp_all
  case h_16 => injection hf with hk _; cases hk
  case h_17 => injection hf with hk _; cases hk
  case h_18 => injection hf with hk _; revert hk; cases (!grd && _) <;> intro hk <;> cases hk
  case h_19 => injection hf with hk _; cases hk
  case h_21 => injection hf with hk _; cases hk
  case h_20 c =>
    split at hf
    case h_1 hc =>
      injection hf with _ hf; injection hf with e1 hf; injection hf with e2 e3; subst e1; subst e2
      simp only [simple, hc]
      split
      · rename_i x T hx hT
        rw [hx] at h1 h2
        rw [ev_same h1 ch]
        have h2 : SameOb s t (nmOp s ch x) := by simpa [nmOps] using h2
        cases hx : ev s ch x with
        | c p =>
          simp only [lenOf_same (h2.c hx)]
          (repeat' (first | rfl | split)) <;> first | contradiction | simp_all
        | _ => rfl
      · rfl
    case h_2 hc =>
      injection hf with _ hf; injection hf with e1 hf; injection hf with e2 e3; subst e1; subst e2
      simp only [simple, hc]
      split
      · rename_i x y hx
        rw [hx] at h1
        rw [ev_same (h1.sub (x := x) (by simp)), ev_same (h1.sub (x := y) (by simp))]
        (repeat' (first | rfl | split)) <;> first | contradiction | simp_all
      · rfl
    case h_3 hc =>
      injection hf with _ hf; injection hf with e1 hf; injection hf with e2 e3; subst e1; subst e2
      simp only [simple, hc]
      split
      · rename_i x y hx
        rw [hx] at h1
        rw [ev_same (h1.sub (x := x) (by simp)), ev_same (h1.sub (x := y) (by simp))]
        (repeat' (first | rfl | split)) <;> first | contradiction | simp_all
      · rfl
    case h_4 hc => injection hf with hk _; cases hk
    case h_5 hc => injection hf with hk _; cases hk
    case h_6 hc => simp only [simple, hc]; rfl
    case h_7 => injection hf with hk _; cases hk
end
end Go.Proofs.AM

namespace Go.Proofs.AM
open Go Go.RowKit
variable {E : Env}
section
variable {F : St E → St E} {D : Nat → Prop}
theorem nmOps_c {s : St E} {ch : Chain} {xs : List Operand} (h : ∀ n ∈ nmOps s ch xs, ¬ D n) {x : Operand} (hx : x ∈ xs) {c : CV E} (he : ev s ch x = .c c) : Cl D c := fun n hn => h n (by
  simp only [nmOps, List.mem_flatMap]
  exact ⟨x, hx, by unfold nmOp; rw [he]; exact hn⟩)
theorem nmOps_cells {s : St E} {ch : Chain} {xs : List Operand} (h : ∀ n ∈ nmOps s ch xs, ¬ D n) {x : Operand} (hx : x ∈ xs) {cs : List (CV E)} (he : svCells (ev s ch x) = some cs) : ∀ c ∈ cs, Cl D c := fun c hc n hn => h n (by
  simp only [nmOps, List.mem_flatMap]
  refine ⟨x, hx, ?_⟩
  unfold nmOp
  cases hv : ev s ch x with
  | c k =>
    rw [hv] at he
    cases k <;> simp [svCells] at he <;> (subst he; simp at hc; subst hc; exact hn)
  | agg ks => rw [hv] at he; simp [svCells] at he; subst he; simp only [nmSV, List.mem_flatMap]; exact ⟨c, hc, hn⟩
  | tup _ => rw [hv] at he; simp [svCells] at he
  | gl _ _ _ => rw [hv] at he; simp [svCells] at he)
theorem Fm.content (h : Fm F D) (s : St E) {t : Ty} {c : CV E} (hc : Cl D c) : content (F s) t c = content s t c := by simp only [AM.content, h.look s hc]
theorem Fm.append (h : Fm F D) {M : Mach E} (s : St E) {d : Nat} (hd : ¬ D d) {T : TypeId} {x y : CV E} (hx : Cl D x) (hy : Cl D y) : appendOp M (F s) d T x y = (appendOp M s d T x y).map (fun r => (r.1, r.2.1, F r.2.2)) := by
  unfold appendOp
  cases sliceTy M T with
  | none => rfl
  | some q =>
    obtain ⟨q1, t, te⟩ := q
    simp only [h.content s hy]
    cases AM.content s t y with
    | none => rfl
    | some ys =>
      cases x with
      | nilS => simp [h.gen s hd, h.fresh s hd]
      | ref n g w =>
        have hn := hx n (by simp [nmC])
        simp only [h.obj s hn, h.content s hx, ← h.kill s hn, h.gen _ hd, ← h.fresh _ hd]
        cases s.obj n g with
        | none => rfl
        | some o =>
          cases o with
          | tok t' xs' => cases AM.content s t (.ref n g w) <;> (simp only []; repeat' (first | rfl | split))
          | frz t' xs' => cases AM.content s t (.ref n g w) <;> (simp only []; repeat' (first | rfl | split))
          | _ => rfl
      | _ => rfl
theorem Fm.zeros (h : Fm F D) {M : Mach E} (s : St E) {d : Nat} (hd : ¬ D d) {T : TypeId} {x : CV E} (hx : Cl D x) (y : CV E) : zerosOp M (F s) d T x y = (zerosOp M s d T x y).map (fun r => (r.1, r.2.1, F r.2.2)) := by
  unfold zerosOp
  have hl : ∀ (t : Ty) (xs : List (den E.Γ t)), Cl (E := E) D (.leaf (.slice t) xs) := fun t xs n hn => by simp [nmC] at hn
  cases y with
  | leaf t x' =>
    cases t with
    | int k =>
      cases k with
      | i64 =>
        cases sliceTy M T with
        | none => rfl
        | some q =>
          obtain ⟨q1, t, te⟩ := q
          simp only [h.append s hd hx (hl _ _)]
          cases appendOp M s d T x _ <;> rfl
      | _ => rfl
    | _ => rfl
  | _ => rfl
theorem Fm.store (h : Fm F D) (s : St E) {ti : TI} {p : CV E} {v : List (CV E)} (hp : Cl D p) (hv : ∀ c ∈ v, Cl D c) : store ti (F s) p v = (store ti s p v).map F := by
  unfold AM.store
  split
  · cases p with
    | ptr n g off =>
      have hn := hp n (by simp [nmC])
      simp only [h.obj s hn, ← h.put _ _ _ _ hn]
      (repeat' (first | rfl | split)) <;> first | contradiction | simp_all
    | optr n g i off =>
      have hn := hp n (by simp [nmC])
      simp only [← h.frz v s hv, h.obj _ hn, h.looks s hv, ← h.put _ _ _ _ hn]
      (repeat' (first | rfl | split)) <;> first | contradiction | simp_all
    | _ => rfl
  · rfl
theorem Fm.elems (h : Fm F D) {s : St E} {t : Ty} {ch : Chain} : ∀ (parts : List (Nat × Operand)) (xs : List (den E.Γ t)), SameAt s (F s) (opTs (parts.map (·.2))) → (∀ n ∈ nmOps s ch (parts.map (·.2)), ¬ D n) → elems E t (F s) ch xs parts = elems E t s ch xs parts
  | [], xs, _, _ => rfl
  | (i, x) :: r, xs, h1, h2 => by
    simp only [AM.elems]
    rw [ev_same (h1.sub (x := x) (by simp))]
    cases hc : svCells (ev s ch x) with
    | none => rfl
    | some cs =>
      simp only [h.looks s (nmOps_cells h2 (x := x) (by simp) hc)]
      split
      · split
        · exact Fm.elems h r _ (fun n hn => h1 n (by cases x <;> simp [opTs] at hn ⊢ <;> simp [hn])) (fun n hn => h2 n (by simp only [nmOps, List.map_cons, List.flatMap_cons, List.mem_append]; exact .inr hn))
        · rfl
      · rfl
theorem cellsOf_same {s t : St E} {ch : Chain} : ∀ (parts : List (Nat × Operand)), SameAt s t (opTs (parts.map (·.2))) → cellsOf t ch parts = cellsOf s ch parts
  | [], _ => rfl
  | (i, x) :: r, h => by
    have := cellsOf_same (s := s) (t := t) (ch := ch) r (fun n hn => h n (by cases x <;> simp [opTs] at hn ⊢ <;> simp [hn]))
    simp only [cellsOf, List.flatMap_cons] at this ⊢
    rw [ev_same (h.sub (x := x) (by simp)), this]
theorem cellsOf_cl {s : St E} {ch : Chain} {parts : List (Nat × Operand)} (h : ∀ n ∈ nmOps s ch (parts.map (·.2)), ¬ D n) : ∀ c ∈ cellsOf s ch parts, Cl D c := by
  intro c hc
  simp only [cellsOf, List.mem_flatMap] at hc
  obtain ⟨p, hp, hc⟩ := hc
  cases he : svCells (ev s ch p.2) with
  | none => rw [he] at hc; simp at hc
  | some cs => rw [he] at hc; exact nmOps_cells h (x := p.2) (List.mem_map.2 ⟨p, hp, rfl⟩) he c (by simpa using hc)
theorem loud_eq (hF : Fm F D) {M : Mach E} {s : St E} {ch : Chain} {grd : Bool} {d : Nat} {o : Op} {k : FK} {xs : List Operand} {rd wr : List Nat} (hf : footOp M s ch grd d o = (k, xs, rd, wr)) (hk : k ≠ .quiet ∧ k ≠ .fixed) (hc : isCall o = false)
    (h1 : SameAt s (F s) (opTs xs)) (h2 : ∀ n ∈ rd, ¬ D n) (hd : ¬ D d) :
    simple M (F s) ch grd d o = (simple M s ch grd d o).map (fun r => (r.1, r.2.1, F r.2.2)) := by
  unfold footOp at hf
  split at hf
  case h_16 ty =>
    injection hf with e0 hf; injection hf with e1 hf; injection hf with e2 e3; subst e1; subst e2
    simp only [simple]
    cases grd with
    | true => rfl
    | false =>
      cases M.tys.find ty with
      | none => rfl
      | some ti => simp [hF.gen s hd, hF.fresh s hd]
  case h_17 ty l c =>
    injection hf with e0 hf; injection hf with e1 hf; injection hf with e2 e3; subst e1; subst e2
    simp only [simple]
    rw [ev_same (h1.sub (x := l) (by simp)), ev_same (h1.sub (x := c) (by simp))]
    simp only [hF.gen s hd, ← hF.fresh s hd]
    (repeat' (first | rfl | split)) <;> first | contradiction | simp_all
  case h_18 ty len parts =>
    injection hf with e0 hf; injection hf with e1 hf; injection hf with e2 e3; subst e1; subst e2
    have e4 : (parts.toList.map (·.2)) = parts.toList.map (fun x => x.2) := rfl
    simp only [simple, frzOps_eq]
    rw [cellsOf_same parts.toList h1]
    simp only [← hF.frz _ s (cellsOf_cl h2), hF.gen _ hd, ← hF.fresh _ hd]
    have he := fun t xs => hF.elems (t := t) (ch := ch) parts.toList xs h1 h2
    simp only [he]
    (repeat' (first | rfl | split)) <;> first | contradiction | simp_all
  case h_19 ty p x =>
    injection hf with e0 hf; injection hf with e1 hf; injection hf with e2 e3; subst e1; subst e2
    simp only [simple]
    cases grd with
    | true => rfl
    | false =>
      rw [ev_same (h1.sub (x := p) (by simp)), ev_same (h1.sub (x := x) (by simp))]
      cases M.tys.find ty with
      | none => rfl
      | some ti =>
        cases hp : ev s ch p with
        | c pc =>
          cases hx : svCells (ev s ch x) with
          | none => rfl
          | some v =>
            simp only [Bool.false_eq_true, if_false]
            rw [hF.store s (nmOps_c h2 (x := p) (by simp) hp) (nmOps_cells h2 (x := x) (by simp) hx)]
            cases store ti s pc v <;> rfl
        | _ => rfl
  case h_20 c =>
    split at hf
    case h_1 hc2 => injection hf with e0 _; exact absurd e0.symm hk.1
    case h_2 hc2 => injection hf with e0 _; exact absurd e0.symm hk.1
    case h_3 hc2 => injection hf with e0 _; exact absurd e0.symm hk.1
    case h_4 hc2 =>
      injection hf with e0 hf; injection hf with e1 hf; injection hf with e2 e3; subst e1; subst e2
      simp only [simple, hc2]
      cases grd with
      | true => rfl
      | false =>
        simp only [Bool.false_eq_true, if_false]
        split
        · rename_i x y T T' hx hT
          rw [hx] at h1 h2
          rw [ev_same (h1.sub (x := x) (by simp)), ev_same (h1.sub (x := y) (by simp))]
          cases hcx : ev s ch x with
          | c cx =>
            cases hcy : ev s ch y with
            | c cy =>
              simp only [hF.append s hd (nmOps_c h2 (x := x) (by simp) hcx) (nmOps_c h2 (x := y) (by simp) hcy), hF.zeros s hd (nmOps_c h2 (x := x) (by simp) hcx) cy]
              split
              · rfl
              · split <;> rfl
            | _ => rfl
          | _ => rfl
        · rfl
    case h_5 hc2 =>
      injection hf with e0 hf; injection hf with e1 hf; injection hf with e2 e3; subst e1; subst e2
      simp only [simple, hc2]
      cases grd with
      | true => rfl
      | false =>
        simp only [Bool.false_eq_true, if_false]
        split
        · rename_i x y T rest hx hT
          rw [hx] at h1 h2
          rw [ev_same (h1.sub (x := x) (by simp)), ev_same (h1.sub (x := y) (by simp))]
          cases hcx : ev s ch x with
          | c cx =>
            cases cx with
            | ref n g w =>
              have hn := nmOps_c h2 (x := x) (by simp) hcx n (by simp [nmC])
              cases hcy : ev s ch y with
              | c cy =>
                have hy := nmOps_c h2 (x := y) (by simp) hcy
                cases sliceTy M T with
                | none => rfl
                | some q =>
                  obtain ⟨q1, te, q3⟩ := q
                  simp only [hF.obj s hn]
                  have hcn := fun t => hF.content s (t := t) hy
                  cases s.obj n g with
                  | none => rfl
                  | some o =>
                    cases o with
                    | tok t' xs' =>
                      simp only [hcn, ← hF.put _ _ _ _ hn]
                      (repeat' (first | rfl | split)) <;> first | contradiction | simp_all
                    | _ => rfl
              | _ => rfl
            | _ => rfl
          | _ => rfl
        · rfl
    case h_6 f hc2 => simp [isCall, hc2] at hc
    case h_7 => injection hf with e0 _; exact absurd e0.symm hk.2
  case h_21 => injection hf with e0 _; exact absurd e0.symm hk.2
  case h_7 => injection hf with e0 _; revert e0; cases isNilS _ <;> intro e0 <;> first | exact absurd e0.symm hk.1 | exact absurd e0.symm hk.2
  all_goals (injection hf with e0 _; exact absurd e0.symm hk.1)
end
end Go.Proofs.AM

namespace Go.Proofs.AM
open Go Go.RowKit
variable {E : Env}
structure Mod (s s' : St E) (wr : List Nat) : Prop where
  ob : ∀ m, m ∉ wr → lk s'.ob m = lk s.ob m
  sl : s'.sl = s.sl
  n : s'.n = s.n
theorem Mod.refl (s : St E) (wr : List Nat) : Mod s s wr := ⟨fun _ _ => rfl, rfl, rfl⟩
theorem Mod.trans {s s' s'' : St E} {wr : List Nat} (h : Mod s s' wr) (k : Mod s' s'' wr) : Mod s s'' wr := ⟨fun m hm => (k.ob m hm).trans (h.ob m hm), k.sl.trans h.sl, k.n.trans h.n⟩
theorem Mod.sub {s s' : St E} {wr wr' : List Nat} (h : Mod s s' wr) (k : ∀ m ∈ wr, m ∈ wr') : Mod s s' wr' := ⟨fun m hm => h.ob m fun hh => hm (k m hh), h.sl, h.n⟩
theorem Mod.put (s : St E) {n g : Nat} {o : Ob E} {wr : List Nat} (h : n ∈ wr) : Mod s (s.putOb n g o) wr := ⟨fun m hm => by rw [St.lk_putOb, if_neg]; intro e; subst e; exact hm h, rfl, rfl⟩
theorem Mod.fresh (s : St E) {n : Nat} {o : Ob E} {wr : List Nat} (h : n ∈ wr) : Mod s (s.fresh n o) wr := Mod.put s h
theorem Mod.freeze (s : St E) {n g : Nat} {wr : List Nat} (h : n ∈ wr) : Mod s (s.freeze n g) wr := by
  unfold St.freeze
  split
  · exact Mod.put s h
  · exact Mod.refl _ _
theorem Mod.frz {wr : List Nat} : ∀ (cs : List (CV E)) (s : St E), (∀ c ∈ cs, ∀ n ∈ nmC c, n ∈ wr) → Mod s (frzList s cs) wr
  | [], s, _ => Mod.refl _ _
  | c :: r, s, h => by
    cases c with
    | ref n g w =>
      simp only [frzList]
      exact (Mod.freeze s (h _ List.mem_cons_self n (by simp [nmC]))).trans (Mod.frz r _ fun c hc => h c (by simp [hc]))
    | _ => exact Mod.frz r s fun c hc => h c (by simp [hc])
theorem nmOps_mem_c {s : St E} {ch : Chain} {xs : List Operand} {x : Operand} (hx : x ∈ xs) {c : CV E} (he : ev s ch x = .c c) : ∀ n ∈ nmC c, n ∈ nmOps s ch xs := fun n hn => by
  simp only [nmOps, List.mem_flatMap]
  exact ⟨x, hx, by unfold nmOp; rw [he]; exact hn⟩
theorem nmOps_mem_cells {s : St E} {ch : Chain} {xs : List Operand} {x : Operand} (hx : x ∈ xs) {cs : List (CV E)} (he : svCells (ev s ch x) = some cs) : ∀ c ∈ cs, ∀ n ∈ nmC c, n ∈ nmOps s ch xs := by
  intro c hc n hn
  by_cases hh : n ∈ nmOps s ch xs
  · exact hh
  · exact absurd rfl (nmOps_cells (D := fun m => m = n) (s := s) (ch := ch) (xs := xs) (fun m hm e => hh (e ▸ hm)) hx he c hc n hn)
theorem append_mod {M : Mach E} {s : St E} {d : Nat} {T : TypeId} {x y : CV E} {r : SV E × Bool × St E} (h : appendOp M s d T x y = some r) {wr : List Nat} (hd : d ∈ wr) (hx : ∀ n ∈ nmC x, n ∈ wr) : Mod s r.2.2 wr := by
  unfold appendOp at h
  repeat' split at h
  all_goals first
    | (cases h; done)
    | (injection h with h; subst h; exact Mod.fresh _ hd)
    | (injection h with h; subst h; exact (Mod.put s (hx _ (by simp [nmC]))).trans (Mod.fresh _ hd))
theorem store_mod {ti : TI} {s : St E} {p : CV E} {v : List (CV E)} {s' : St E} (h : store ti s p v = some s') {wr : List Nat} (hp : ∀ n ∈ nmC p, n ∈ wr) (hv : ∀ c ∈ v, ∀ n ∈ nmC c, n ∈ wr) : Mod s s' wr := by
  unfold store at h
  split at h
  · split at h
    · split at h
      · split at h
        · injection h with h; subst h; exact Mod.put _ (hp _ (by simp [nmC]))
        · cases h
      · cases h
    · simp only at h
      split at h
      · split at h
        · split at h
          · injection h with h; subst h; exact (Mod.frz v s hv).trans (Mod.put _ (hp _ (by simp [nmC])))
          · cases h
        · cases h
      · cases h
    · cases h
  · cases h
theorem cellsOf_mem {s : St E} {ch : Chain} {parts : List (Nat × Operand)} : ∀ c ∈ cellsOf s ch parts, ∀ n ∈ nmC c, n ∈ nmOps s ch (parts.map (·.2)) := by
  intro c hc n hn
  simp only [cellsOf, List.mem_flatMap] at hc
  obtain ⟨p, hp, hc⟩ := hc
  cases he : svCells (ev s ch p.2) with
  | none => rw [he] at hc; simp at hc
  | some cs => rw [he] at hc; exact nmOps_mem_cells (x := p.2) (List.mem_map.2 ⟨p, hp, rfl⟩) he c (by simpa using hc) n hn
theorem loud_mod {M : Mach E} {s : St E} {ch : Chain} {grd : Bool} {d : Nat} {o : Op} {k : FK} {xs : List Operand} {rd wr : List Nat} (hf : footOp M s ch grd d o = (k, xs, rd, wr)) (hk : k ≠ .quiet ∧ k ≠ .fixed) (hc : isCall o = false)
    {r : SV E × Bool × St E} (h : simple M s ch grd d o = some r) : Mod s r.2.2 wr := by
  unfold footOp at hf
  split at hf
  case h_16 ty =>
    injection hf with e0 hf; injection hf with e1 hf; injection hf with e2 e3; subst e3
    simp only [simple] at h
    repeat' split at h
    all_goals first | (cases h; done) | (injection h with h; subst h; exact Mod.fresh _ (by simp))
  case h_17 ty l c =>
    injection hf with e0 hf; injection hf with e1 hf; injection hf with e2 e3; subst e3
    simp only [simple] at h
    repeat' split at h
    all_goals first | (cases h; done) | (injection h with h; subst h; exact Mod.fresh _ (by simp))
  case h_18 ty len parts =>
    injection hf with e0 hf; injection hf with e1 hf; injection hf with e2 e3; subst e3
    simp only [simple, frzOps_eq] at h
    have hm : Mod s (frzList s (cellsOf s ch parts.toList)) (d :: nmOps s ch (parts.toList.map (·.2))) := Mod.frz _ s fun c hc n hn => by simp [cellsOf_mem c hc n hn]
    repeat' split at h
    all_goals first | (cases h; done) | (injection h with h; subst h; exact hm.trans (Mod.fresh _ (by simp))) | (injection h with h; subst h; exact hm)
  case h_19 ty p x =>
    injection hf with e0 hf; injection hf with e1 hf; injection hf with e2 e3; subst e3
    simp only [simple] at h
    split at h
    · cases h
    · split at h
      · rename_i ti pc v hti hp hx
        split at h
        · rename_i s2 hs
          injection h with h; subst h
          exact store_mod hs (nmOps_mem_c (x := p) (by simp) hp) (nmOps_mem_cells (x := x) (by simp) hx)
        · cases h
      · cases h
  case h_20 c =>
    split at hf
    case h_1 hc2 => injection hf with e0 _; exact absurd e0.symm hk.1
    case h_2 hc2 => injection hf with e0 _; exact absurd e0.symm hk.1
    case h_3 hc2 => injection hf with e0 _; exact absurd e0.symm hk.1
    case h_4 hc2 =>
      injection hf with e0 hf; injection hf with e1 hf; injection hf with e2 e3; subst e3
      simp only [simple, hc2] at h
      split at h
      · cases h
      · split at h
        · rename_i x y T T' hx hT
          rw [hx]
          split at h
          · rename_i cx cy hcx hcy
            split at h
            · exact append_mod h (by simp) fun n hn => by simp [nmOps_mem_c (s := s) (ch := ch) (xs := [x, y]) (x := x) (by simp) hcx n hn]
            · split at h
              · unfold zerosOp at h
                split at h
                · split at h
                  · rename_i ha
                    injection h with h; subst h
                    exact append_mod ha (by simp) fun n hn => by simp [nmOps_mem_c (s := s) (ch := ch) (xs := [x, y]) (x := x) (by simp) hcx n hn]
                  · cases h
                · cases h
              · cases h
          · cases h
        · cases h
    case h_5 hc2 =>
      injection hf with e0 hf; injection hf with e1 hf; injection hf with e2 e3; subst e3
      simp only [simple, hc2] at h
      split at h
      · cases h
      · split at h
        · rename_i x y T rest hx hT
          rw [hx]
          split at h
          · rename_i n g w cy q1 te q3 hcx hcy hsl
            have hn : n ∈ nmOps s ch [x, y] := nmOps_mem_c (x := x) (by simp) hcx n (by simp [nmC])
            repeat' split at h
            all_goals first | (cases h; done) | (injection h with h; subst h; exact Mod.put _ hn)
          · cases h
        · cases h
    case h_6 f hc2 => simp [isCall, hc2] at hc
    case h_7 => injection hf with e0 _; exact absurd e0.symm hk.2
  case h_21 => injection hf with e0 _; exact absurd e0.symm hk.2
  case h_7 => injection hf with e0 _; revert e0; cases isNilS _ <;> intro e0 <;> first | exact absurd e0.symm hk.1 | exact absurd e0.symm hk.2
  all_goals (injection hf with e0 _; exact absurd e0.symm hk.1)
theorem dat_look {c : CV E} (h : isDatC c = true) (s : St E) : s.look c = c := by cases c <;> first | rfl | simp [isDatC] at h
theorem frz_dat : ∀ (cs : List (CV E)) (s : St E), cs.all isDatC = true → frzList s cs = s
  | [], s, _ => rfl
  | c :: r, s, h => by
    simp only [List.all_cons, Bool.and_eq_true] at h
    cases c <;> first | exact frz_dat r s h.2 | simp [isDatC] at h
theorem elems_dat {s t : St E} {ty : Ty} {ch : Chain} : ∀ (parts : List (Nat × Operand)) (xs : List (den E.Γ ty)), SameAt s t (opTs (parts.map (·.2))) → parts.all (fun p => datOp s ch p.2) = true → elems E ty t ch xs parts = elems E ty s ch xs parts
  | [], xs, _, _ => rfl
  | (i, x) :: r, xs, h1, h2 => by
    simp only [List.all_cons, Bool.and_eq_true] at h2
    simp only [elems]
    rw [ev_same (h1.sub (x := x) (by simp))]
    cases hc : svCells (ev s ch x) with
    | none => rfl
    | some cs =>
      have hd : cs.all isDatC = true := by have := h2.1; simp only [datOp, hc] at this; exact this
      have : cs.map t.look = cs.map s.look := List.map_congr_left fun c hm => by
        have := List.all_eq_true.1 hd c hm
        rw [dat_look this, dat_look this]
      simp only [this]
      split
      · split
        · exact elems_dat r _ (fun n hn => h1 n (by cases x <;> simp [opTs] at hn ⊢ <;> simp [hn])) h2.2
        · rfl
      · rfl
theorem cellsOf_dat {s : St E} {ch : Chain} : ∀ (parts : List (Nat × Operand)), parts.all (fun p => datOp s ch p.2) = true → (cellsOf s ch parts).all isDatC = true
  | [], _ => rfl
  | (i, x) :: r, h => by
    simp only [List.all_cons, Bool.and_eq_true] at h
    simp only [cellsOf, List.flatMap_cons, List.all_append, Bool.and_eq_true]
    refine ⟨?_, cellsOf_dat r h.2⟩
    have := h.1
    simp only [datOp] at this
    split at this
    · rename_i cs hc; rw [hc]; exact this
    · cases this
theorem fresh_eq {M : Mach E} {s : St E} {ch : Chain} {grd : Bool} {d : Nat} {o : Op} {xs : List Operand} {rd wr : List Nat} (hf : footOp M s ch grd d o = (.fresh, xs, rd, wr)) {r : SV E × Bool × St E} (h : simple M s ch grd d o = some r) :
    d ∈ wr ∧ isCall o = false ∧ ∃ (f : Nat → SV E) (ob : Ob E), ∀ t, SameAt s t (opTs xs) → simple M t ch grd d o = some (f (t.gen d), r.2.1, t.fresh d ob) := by
  unfold footOp at hf
  split at hf
  case h_16 ty =>
    injection hf with e0 hf; injection hf with e1 hf; injection hf with e2 e3; subst e1; subst e3
    refine ⟨by simp, rfl, ?_⟩
    simp only [simple] at h ⊢
    split at h
    · cases h
    · split at h
      · injection h with h; subst h
        rename_i hg _ ti hti
        refine ⟨fun g => .c (.ptr d g 0), .box (ti.zero.map (cellOf E)), fun t _ => ?_⟩
        rw [if_neg hg]
      · cases h
  case h_17 ty l c =>
    injection hf with e0 hf; injection hf with e1 hf; injection hf with e2 e3; subst e1; subst e3
    refine ⟨by simp, rfl, ?_⟩
    simp only [simple] at h
    split at h
    · cases h
    · split at h
      · rename_i q1 te tie n m hs hl hc
        rename_i hg _ _ _
        injection h with h; subst h
        refine ⟨fun g => .c (.ref d g none), .tok te (List.replicate n.toNat (dflt E te)), fun t ht => ?_⟩
        simp only [simple]
        rw [if_neg hg, hs, ev_same (ht.sub (x := l) (by simp)), ev_same (ht.sub (x := c) (by simp)), hl, hc]
      · cases h
  case h_18 ty len parts =>
    injection hf with e0 hf; injection hf with e1 hf; injection hf with e2 e3; subst e1; subst e3
    have hk : (!grd && parts.toList.all (fun p => datOp s ch p.2)) = true := by
      cases hh : (!grd && parts.toList.all (fun p => datOp s ch p.2)) with
      | true => rfl
      | false => rw [hh] at e0; cases e0
    simp only [Bool.and_eq_true, Bool.not_eq_true'] at hk
    obtain ⟨hg, hd⟩ := hk
    subst hg
    refine ⟨by simp, rfl, ?_⟩
    simp only [simple, frzOps_eq, frz_dat _ _ (cellsOf_dat _ hd)] at h
    split at h
    · rename_i q1 te tie hs
      split at h
      · rename_i hlen
        split at h
        · rename_i xs' hx
          simp only [Bool.false_eq_true, if_false] at h
          injection h with h; subst h
          refine ⟨fun g => .c (.ref d g none), .tok te xs', fun t ht => ?_⟩
          simp only [simple, frzOps_eq]
          rw [hs]
          simp only []
          rw [if_pos hlen, elems_dat parts.toList _ ht hd, hx, cellsOf_same parts.toList ht, frz_dat _ _ (cellsOf_dat _ hd)]
          rfl
        · cases h
      · cases h
    · cases h
  case h_20 c =>
    split at hf
    case h_6 f hc2 =>
      split at hf
      · injection hf with e0 _; revert e0; cases (List.all _ _) <;> intro e0 <;> cases e0
      · injection hf with e0 _; cases e0
    all_goals (injection hf with e0 _; cases e0)
  case h_7 => injection hf with e0 _; revert e0; cases isNilS _ <;> intro e0 <;> cases e0
  all_goals (injection hf with e0 _; cases e0)
end Go.Proofs.AM

namespace Go.Proofs.AM
open Go Go.RowKit
variable {E : Env}
section
variable {F : St E → St E} {D : Nat → Prop}
theorem isValP_ex {ps : List PM} (h : ps.all isValP = true) : ∀ p ∈ ps, ∃ t, p = PM.val t := fun p hp => by
  have := List.all_eq_true.1 h p hp
  cases p <;> first | exact ⟨_, rfl⟩ | simp [isValP] at this
theorem hands_val (t : St E) : ∀ (ps : List PM) (svs : List (SV E)) (s : St E), ps.all isValP = true → hands t ps svs = (hands s ps svs).map (fun r => (r.1, t, ([] : List (Back E)))) ∧ ∀ r, hands s ps svs = some r → r.2.1 = s ∧ r.2.2 = [] ∧ ∀ a ∈ r.1, a = none
  | [], [], s, _ => ⟨rfl, fun r h => by simp only [hands] at h; injection h with h; subst h; simp⟩
  | [], _ :: _, s, _ => ⟨rfl, fun r h => by simp [hands] at h⟩
  | _ :: _, [], s, _ => ⟨rfl, fun r h => by simp [hands] at h⟩
  | p :: ps, v :: svs, s, h => by
    simp only [List.all_cons, Bool.and_eq_true] at h
    obtain ⟨h1, h2⟩ := h
    obtain ⟨k1, k2⟩ := hands_val t ps svs s h2
    cases p with
    | val ty =>
      constructor
      · simp only [hands, hand, k1]
        cases hh : hands s ps svs with
        | none => rfl
        | some r => obtain ⟨r1, r2, r3⟩ := r; rfl
      · intro r hr
        simp only [hands, hand] at hr
        cases hh : hands s ps svs with
        | none => rw [hh] at hr; cases hr
        | some q =>
          obtain ⟨q1, q2, q3⟩ := q
          rw [hh] at hr
          injection hr with hr; subst hr
          obtain ⟨m1, m2, m3⟩ := k2 _ hh
          exact ⟨m1, by simpa using m2, fun a ha => by rcases List.mem_cons.1 ha with e | ha; exact e; exact m3 a ha⟩
    | _ => simp [isValP] at h1
theorem reads_val {s t : St E} {frz : Bool} {M : Mach E} : ∀ (ps : List PM) (svs : List (SV E)) (hs : List (Option (Arg E))), ps.all isValP = true → (∀ c ∈ valCells ps svs, t.look c = s.look c) → reads frz M t ps svs hs = reads frz M s ps svs hs
  | [], svs, hs, _, _ => by cases svs <;> cases hs <;> rfl
  | p :: ps, [], hs, _, _ => by cases hs <;> rfl
  | p :: ps, v :: svs, [], _, _ => rfl
  | p :: ps, v :: svs, a :: hs, h, hl => by
    simp only [List.all_cons, Bool.and_eq_true] at h
    obtain ⟨h1, h2⟩ := h
    cases p with
    | val ty =>
      have h3 := reads_val (frz := frz) (M := M) ps svs hs h2 (fun c hc => hl c (by simp [valCells, hc]))
      have h4 : readArg frz M t (.val ty) v = readArg frz M s (.val ty) v := by
        simp only [readArg]
        cases hc : svCells v with
        | none => rfl
        | some cs =>
          have : cs.map t.look = cs.map s.look := List.map_congr_left fun c hm => hl c (by simp [valCells, hc, hm])
          simp only [this]
      simp only [reads, h3, h4]
    | _ => simp [isValP] at h1
theorem mkArgs_val {M : Mach E} {frz : Bool} {s : St E} {ps : List PM} {svs : List (SV E)} (hp : ps.all isValP = true) : mkArgs M frz s ps svs = (hands s ps svs).bind (fun r => (reads frz M (frzList s (cond frz (valCells ps svs) [])) ps svs r.1).map (fun as => (as, frzList s (cond frz (valCells ps svs) []), ([] : List (Back E))))) := by
  unfold mkArgs
  rw [rwImm_vals s ps svs (isValP_ex hp), List.append_nil, (hands_val _ ps svs s hp).1]
  cases hands s ps svs with
  | none => rfl
  | some r =>
    simp only [Option.map_some, Option.bind_some]
    cases reads frz M (frzList s (cond frz (valCells ps svs) [])) ps svs r.1 <;> rfl
theorem mkArgs_fm (hF : Fm F D) {M : Mach E} {frz : Bool} {s : St E} {ps : List PM} {svs : List (SV E)} (hp : ps.all isValP = true) (hc : ∀ c ∈ valCells ps svs, Cl D c) :
    mkArgs M frz (F s) ps svs = (mkArgs M frz s ps svs).map (fun r => (r.1, F r.2.1, r.2.2)) := by
  have hcl : ∀ c ∈ cond frz (valCells ps svs) [], Cl D c := by
    intro c hm
    cases frz with
    | true => exact hc c hm
    | false => simp at hm
  rw [mkArgs_val hp, mkArgs_val hp, (hands_val (F s) ps svs s hp).1, ← hF.frz _ s hcl]
  cases hands s ps svs with
  | none => rfl
  | some r =>
    simp only [Option.map_some, Option.bind_some]
    rw [reads_val (s := frzList s (cond frz (valCells ps svs) [])) (t := F (frzList s (cond frz (valCells ps svs) []))) ps svs r.1 hp fun c hm => hF.look _ (hc c hm)]
    cases reads frz M (frzList s (cond frz (valCells ps svs) [])) ps svs r.1 <;> rfl
theorem unRes_fm (hF : Fm F D) (hD : ∀ n, 1000000 ≤ n → ¬ D n) : ∀ (ps : List (Ty × Bool)) (b : Nat) (s : St E) (ds : List (Dt E)), 1000000 ≤ b → unRes b (F s) ps ds = (unRes b s ps ds).map (fun r => (r.1, r.2.1, F r.2.2.1, r.2.2.2))
  | [], b, s, ds, _ => rfl
  | (t, false) :: ps, b, s, ds, hb => by
    cases ds with
    | nil => rfl
    | cons d ds =>
      obtain ⟨t', x⟩ := d
      simp only [unRes, unRes_fm hF hD ps b s ds hb]
      cases unRes b s ps ds <;> rfl
  | (t, true) :: ps, b, s, ds, hb => by
    cases ds with
    | nil => rfl
    | cons d ds =>
      obtain ⟨t', x⟩ := d
      cases t' with
      | slice t' =>
        simp only [unRes, ← hF.fresh s (hD b hb), unRes_fm hF hD ps (b + 1) (s.fresh b (.tok t' x)) ds (by omega), hF.gen s (hD b hb)]
        cases unRes (b + 1) (s.fresh b (.tok t' x)) ps ds <;> rfl
      | _ => rfl
theorem unRes_mod : ∀ (ps : List (Ty × Bool)) (b : Nat) (s : St E) (ds : List (Dt E)) r, unRes b s ps ds = some r → b ≤ r.2.1 ∧ r.2.1 ≤ b + ps.length ∧ (∀ m, (m < b ∨ r.2.1 ≤ m) → lk r.2.2.1.ob m = lk s.ob m) ∧ r.2.2.1.sl = s.sl ∧ r.2.2.1.n = s.n
  | [], b, s, ds, r, h => by simp only [unRes] at h; injection h with h; subst h; exact ⟨Nat.le_refl _, Nat.le_refl _, fun _ _ => rfl, rfl, rfl⟩
  | (t, false) :: ps, b, s, ds, r, h => by
    cases ds with
    | nil => simp [unRes] at h
    | cons d ds =>
      obtain ⟨t', x⟩ := d
      simp only [unRes] at h
      split at h
      · rename_i h2
        injection h with h; subst h
        obtain ⟨a1, a2, a3, a4, a5⟩ := unRes_mod ps b s ds _ h2
        exact ⟨a1, by simp at a2 ⊢; omega, a3, a4, a5⟩
      · cases h
  | (t, true) :: ps, b, s, ds, r, h => by
    cases ds with
    | nil => simp [unRes] at h
    | cons d ds =>
      obtain ⟨t', x⟩ := d
      cases t' with
      | slice t' =>
        simp only [unRes] at h
        split at h
        · rename_i h2
          injection h with h; subst h
          obtain ⟨a1, a2, a3, a4, a5⟩ := unRes_mod ps (b + 1) (s.fresh b (.tok t' x)) ds _ h2
          simp at a1 a2 a3 a4 a5 ⊢
          refine ⟨by omega, by omega, fun m hm => ?_, a4, a5⟩
          rw [a3 m (by omega)]
          unfold St.fresh
          rw [St.lk_putOb, if_neg (by omega)]
        · cases h
      | _ => simp [unRes] at h
theorem unResults_fm (hF : Fm F D) (hD : ∀ n, 1000000 ≤ n → ¬ D n) : ∀ (rs : List (Bool × List (Ty × Bool))) (b : Nat) (s : St E) (ds : List (Dt E)), 1000000 ≤ b → unResults b (F s) rs ds = (unResults b s rs ds).map (fun r => (r.1, r.2.1, F r.2.2.1, r.2.2.2))
  | [], b, s, ds, _ => rfl
  | (a, ps) :: rs, b, s, ds, hb => by
    simp only [unResults, unRes_fm hF hD ps b s ds hb]
    cases h : unRes b s ps ds with
    | none => rfl
    | some r =>
      obtain ⟨r1, r2, r3, r4⟩ := r
      have := (unRes_mod ps b s ds _ h).1
      simp only [Option.map_some, unResults_fm hF hD rs r2 r3 r4 (by simp at this; omega)]
      cases unResults r2 r3 rs r4 <;> rfl
theorem unResults_mod : ∀ (rs : List (Bool × List (Ty × Bool))) (b : Nat) (s : St E) (ds : List (Dt E)) r, unResults b s rs ds = some r → b ≤ r.2.1 ∧ r.2.1 ≤ b + (resPieces rs).length ∧ (∀ m, (m < b ∨ r.2.1 ≤ m) → lk r.2.2.1.ob m = lk s.ob m) ∧ r.2.2.1.sl = s.sl ∧ r.2.2.1.n = s.n
  | [], b, s, ds, r, h => by simp only [unResults] at h; injection h with h; subst h; exact ⟨Nat.le_refl _, Nat.le_refl _, fun _ _ => rfl, rfl, rfl⟩
  | (a, ps) :: rs, b, s, ds, r, h => by
    simp only [unResults] at h
    split at h
    · rename_i c1 b1 s1 d1 h1
      split at h
      · rename_i l2 b2 s2 d2 h2
        injection h with h; subst h
        obtain ⟨a1, a2, a3, a4, a5⟩ := unRes_mod ps b s ds _ h1
        obtain ⟨e1, e2, e3, e4, e5⟩ := unResults_mod rs b1 s1 d1 _ h2
        simp at a1 a2 a3 a4 a5 e1 e2 e3 e4 e5 ⊢
        have hl : (resPieces ((a, ps) :: rs)).length = ps.length + (resPieces rs).length := by simp [resPieces]
        refine ⟨by omega, by omega, fun m hm => ?_, e4.trans a4, e5.trans a5⟩
        rw [e3 m (by omega), a3 m (by omega)]
      · cases h
    · cases h
theorem after_fm (hF : Fm F D) (hD : ∀ n, 1000000 ≤ n → ¬ D n) {d : Nat} {s : St E} {rs : List (Bool × List (Ty × Bool))} {ds : List (Dt E)} {fin : SV E → St E → Res E} :
    afterCall d (F s) rs [] ds fin = afterCall d s rs [] ds (fun v s' => fin v (F s')) := by
  simp only [afterCall, unOwns, unResults_fm hF hD rs (nameBase d) s ds (by simp [nameBase])]
  cases unResults (nameBase d) s rs ds with
  | none => rfl
  | some r =>
    obtain ⟨l, b, s', ds'⟩ := r
    simp only [Option.map_some]
    cases ds' with
    | nil =>
      simp only [unOuts]
    | cons _ _ => rfl
theorem callWith_fm (hF : Fm F D) (hD : ∀ n, 1000000 ≤ n → ¬ D n) {M : Mach E} {callF : FuncId → List (Arg E) → Res E} {g : Option Bool} {d : Nat} {s : St E} {f : FuncId} {ps : List PM} {more : List (Arg E)} {rs : List (Bool × List (Ty × Bool))} {svs : List (SV E)} {fin : SV E → St E → Res E}
    (hp : ps.all isValP = true) (hc : ∀ c ∈ valCells ps svs, Cl D c) : callWith M callF g d (F s) f ps more rs svs fin = callWith M callF g d s f ps more rs svs (fun v s' => fin v (F s')) := by
  unfold callWith
  rw [mkArgs_fm hF hp hc]
  cases hm : mkArgs M (mayKeep (resPieces rs) || outKeep ps) s ps svs with
  | none => rfl
  | some r =>
    obtain ⟨as, s', outs⟩ := r
    have ho : outs = [] := by
      rw [mkArgs_val hp] at hm
      cases hh : hands s ps svs with
      | none => rw [hh] at hm; cases hm
      | some q =>
        rw [hh] at hm
        simp only [Option.bind_some] at hm
        cases hr : reads (mayKeep (resPieces rs) || outKeep ps) M (frzList s (cond (mayKeep (resPieces rs) || outKeep ps) (valCells ps svs) [])) ps svs q.1 with
        | none => rw [hr] at hm; cases hm
        | some a => rw [hr] at hm; simp at hm; exact hm.2.2
    subst ho
    simp only [Option.map_some, after_fm hF hD]
theorem outKeep_vals {ps : List PM} (hp : ps.all isValP = true) : outKeep ps = false := by
  simp only [outKeep, List.any_eq_false]
  intro p hm
  obtain ⟨t, e⟩ := isValP_ex hp p hm
  subst e; simp
theorem resPieces_imm (rs : List (Bool × List (Ty × Bool))) : (resPieces (rs.map (fun p => (p.1, p.2.map (fun q => (q.1, false)))))).length = (resPieces rs).length := by
  induction rs with
  | nil => rfl
  | cons p r ih => simp only [resPieces, List.map_cons, List.flatMap_cons, List.length_append, List.length_map] at ih ⊢; rw [ih]
theorem after_det {d : Nat} {s : St E} {rs : List (Bool × List (Ty × Bool))} {outs : List (Back E)} {ds : List (Dt E)} {fin : SV E → St E → Res E} {r : Dt E} (h : afterCall d s rs outs ds fin = some r) :
    ∃ v s', fin v s' = some r ∧ noGl v = true ∧ (∀ fin' : SV E → St E → Res E, afterCall d s rs outs ds fin' = fin' v s') ∧ (outs = [] → ∀ m, (m < nameBase d ∨ nameBase d + (resPieces rs).length ≤ m) → lk s'.ob m = lk s.ob m) ∧ (outs = [] → s'.sl = s.sl ∧ s'.n = s.n) := by
  unfold afterCall at h
  split at h
  · rename_i c s1 h1
    split at h
    · rename_i l b s2 ds2 h2
      split at h
      · rename_i s3 h3
        split at h
        · rename_i v h4
          cases c with
          | false => cases h
          | true =>
            refine ⟨v, s3, h, resSV_noGl h4, fun fin' => by simp only [afterCall, h1, h2, h3, h4]; rfl, fun ho m hm => ?_, fun ho => ?_⟩
            · subst ho
              simp only [unOwns] at h1
              injection h1 with h1; injection h1 with _ h1; subst h1
              obtain ⟨a1, a2, a3, a4, a5⟩ := unResults_mod _ _ _ _ _ h2
              cases ds2 with
              | nil => simp only [unOuts] at h3; injection h3 with h3; subst h3; simp at a1 a2 a3; exact a3 m (by omega)
              | cons _ _ => simp [unOuts] at h3
            · subst ho
              simp only [unOwns] at h1
              injection h1 with h1; injection h1 with _ h1; subst h1
              obtain ⟨a1, a2, a3, a4, a5⟩ := unResults_mod _ _ _ _ _ h2
              cases ds2 with
              | nil => simp only [unOuts] at h3; injection h3 with h3; subst h3; exact ⟨a4, a5⟩
              | cons _ _ => simp [unOuts] at h3
        · cases h
      · cases h
    · cases h
  · cases h
theorem callWith_det {M : Mach E} {callF : FuncId → List (Arg E) → Res E} {g : Option Bool} {d : Nat} {s : St E} {f : FuncId} {ps : List PM} {more : List (Arg E)} {rs : List (Bool × List (Ty × Bool))} {svs : List (SV E)} {fin : SV E → St E → Res E} {r : Dt E}
    (h : callWith M callF g d s f ps more rs svs fin = some r) : ∃ v s', fin v s' = some r ∧ noGl v = true ∧ (∀ fin' : SV E → St E → Res E, callWith M callF g d s f ps more rs svs fin' = fin' v s') ∧
      (ps.all isValP = true → Mod s s' ((cond (mayKeep (resPieces rs)) ((valCells ps svs).flatMap nmC) []) ++ (List.range (ownCount rs)).map (nameBase d + ·))) := by
  unfold callWith at h
  split at h
  · rename_i as sK outs hmk
    have hval : ps.all isValP = true → outs = [] ∧ sK = frzList s (cond (mayKeep (resPieces rs)) (valCells ps svs) []) := by
      intro hp
      rw [mkArgs_val hp, outKeep_vals hp, Bool.or_false] at hmk
      cases hh : hands s ps svs with
      | none => rw [hh] at hmk; cases hmk
      | some q =>
        rw [hh] at hmk
        simp only [Option.bind_some] at hmk
        cases hr : reads (mayKeep (resPieces rs)) M (frzList s (cond (mayKeep (resPieces rs)) (valCells ps svs) [])) ps svs q.1 with
        | none => rw [hr] at hmk; cases hmk
        | some a => rw [hr] at hmk; simp at hmk; exact ⟨hmk.2.2, hmk.2.1.symm⟩
    have hmod : ∀ {s' : St E}, ps.all isValP = true → (∀ m, (m < nameBase d ∨ nameBase d + (resPieces rs).length ≤ m) → lk s'.ob m = lk sK.ob m) → (s'.sl = sK.sl ∧ s'.n = sK.n) → Mod s s' ((cond (mayKeep (resPieces rs)) ((valCells ps svs).flatMap nmC) []) ++ (List.range (ownCount rs)).map (nameBase d + ·)) := by
      intro s' hp h1 h2
      obtain ⟨_, hsK⟩ := hval hp
      subst hsK
      refine Mod.trans (s' := frzList s (cond (mayKeep (resPieces rs)) (valCells ps svs) [])) (Mod.frz _ s fun c hc n hn => ?_) ⟨fun m hm => h1 m ?_, h2.1, h2.2⟩
      · refine List.mem_append.2 (.inl ?_)
        cases hk : mayKeep (resPieces rs) with
        | true => rw [hk] at hc; exact List.mem_flatMap.2 ⟨c, hc, hn⟩
        | false => rw [hk] at hc; simp at hc
      · rcases Nat.lt_or_ge m (nameBase d) with h3 | h3
        · exact .inl h3
        · rcases Nat.lt_or_ge m (nameBase d + (resPieces rs).length) with h4 | h4
          · exfalso
            refine hm (List.mem_append.2 (.inr (List.mem_map.2 ⟨m - nameBase d, ?_, by omega⟩)))
            simp only [List.mem_range, ownCount]; omega
          · exact .inr h4
    cases g with
    | none =>
      simp only at h
      cases hy : res (tyL (piecesTy (resPieces rs ++ outPieces outs))) (callF f (as ++ more)) with
      | none => rw [hy] at h; cases h
      | some y =>
        rw [hy] at h
        obtain ⟨v, s', h1, h2, h3, h4, h5⟩ := after_det h
        exact ⟨v, s', h1, h2, fun fin' => by simp only [callWith, hmk, hy]; exact h3 fin', fun hp => hmod hp (h4 (hval hp).1) (h5 (hval hp).1)⟩
    | some b =>
      cases outs with
      | cons _ _ => cases h
      | nil =>
        simp only at h
        cases hy : (cond b (res (tyL (piecesTy (resPieces rs ++ outPieces ([] : List (Back E))))) (callF f (as ++ more))) (some (dflt E (tyL (piecesTy (resPieces rs ++ outPieces ([] : List (Back E)))))))) with
        | none => rw [hy] at h; cases h
        | some y =>
          rw [hy] at h
          have h : afterCall d sK (rs.map (fun p => (p.1, p.2.map (fun q => (q.1, false))))) [] (unL E _ y) fin = some r := h
          obtain ⟨v, s', h1, h2, h3, h4, h5⟩ := after_det h
          exact ⟨v, s', h1, h2, fun fin' => by simp only [callWith, hmk, hy]; exact h3 fin', fun hp => hmod hp (fun m hm => h4 rfl m (by rw [resPieces_imm]; exact hm)) (h5 rfl)⟩
  · cases h
theorem callOp_det {M : Mach E} {callF : FuncId → List (Arg E) → Res E} {s : St E} {ch : Chain} {g : Option Bool} {d : Nat} {ty : TypeId} {c : Call} {fin : SV E → St E → Res E} {r : Dt E} (h : callOp M callF s ch g d ty c fin = some r) :
    ∃ v s', fin v s' = some r ∧ noGl v = true ∧ ∀ fin' : SV E → St E → Res E, callOp M callF s ch g d ty c fin' = fin' v s' := by
  unfold callOp at h ⊢
  split at h
  · rename_i fop hc
    split at h
    · rename_i f caps hev
      split at h
      · obtain ⟨v, s', h1, h2, h3, _⟩ := callWith_det h
        exact ⟨v, s', h1, h2, h3⟩
      · split at h
        · rename_i l hl
          split at h
          · split at h
            · cases h
            · rename_i hchk
              obtain ⟨v, s', h1, h2, h3, _⟩ := callWith_det h
              exact ⟨v, s', h1, h2, fun fin' => by rw [if_neg hchk]; exact h3 fin'⟩
          split at h
          · rename_i ti ps hti hps
            split at h
            · cases h
            · rename_i hchk
              obtain ⟨v, s', h1, h2, h3, _⟩ := callWith_det h
              exact ⟨v, s', h1, h2, fun fin' => by rw [if_neg hchk]; exact h3 fin'⟩
          · cases h
        · cases h
    · split at h
      · split at h
        · cases h
        · rename_i hchk
          obtain ⟨v, s', h1, h2, h3, _⟩ := callWith_det h
          exact ⟨v, s', h1, h2, fun fin' => by rw [if_neg hchk]; exact h3 fin'⟩
      · cases h
    · cases h
  · cases h
theorem callOp_eq {M : Mach E} {callF : FuncId → List (Arg E) → Res E} {s : St E} {ch : Chain} {g : Option Bool} {d : Nat} {ty : TypeId} {c : Call} {f : FuncId} {sg : Sig} (hc : c.callee = .value (.func f)) (hs : M.sigs.find f = some sg) (fin : SV E → St E → Res E) :
    callOp M callF s ch g d ty c fin = callWith M callF g d s f sg.ps [] sg.rs (c.args.toList.map (ev s ch)) fin := by
  simp only [callOp, hc, ev, hs]
end
end Go.Proofs.AM

namespace Go.Proofs.AM
open Go Go.RowKit
variable {E : Env}
def gctx (ops : Array Oper) (s : St E) (o : Oper) : Option (Chain × Option Bool × Option (Nat × Bool)) :=
  match o.guard with
  | none => some ([], none, none)
  | some (j, w) => match (ops[j]?).bind (·.dst), o.dst with
    | some q, some d => if q = d then none else match gval 6 s q w with
      | some g => some (gchain 6 s q w, some g, some (q, w))
      | none => none
    | _, _ => none
def wrapG : Option (Nat × Bool) → SV E → SV E
  | none, v => v
  | some (q, w), v => .gl q w v
def OpEff (M : Mach E) (callF : FuncId → List (Arg E) → Res E) (s : St E) (ch : Chain) (g : Option Bool) (d : Nat) (o : Oper) (v : SV E) (s' : St E) : Prop :=
  noGl v = true ∧ ((isCall o.op = false ∧ ∃ c, simple M s ch g.isSome d o.op = some (v, c, s') ∧ (c = true ∨ g = some false)) ∨
  (isCall o.op = true ∧ ∃ c, o.op = .call c ∧ ∀ fin : SV E → St E → Res E, callOp M callF s ch g d o.type c fin = fin v s'))
structure Eff (M : Mach E) (callF : FuncId → List (Arg E) → Res E) (ops : Array Oper) (o : Oper) (s : St E) (ch : Chain) (g : Option Bool) (wq : Option (Nat × Bool)) (v : SV E) (s' : St E) : Prop where
  fits : fits s.n o.dst = true
  ctx : gctx ops s o = some (ch, g, wq)
  nil : isCall o.op = false → g = none → nilCmp M s o.op = none
  eff : OpEff M callF s ch g (o.dst.getD s.n) o v s'
section
variable {M : Mach E} {callF : FuncId → List (Arg E) → Res E} {ops : Array Oper} {o : Oper} {s t : St E}
theorem gctx_none (h : o.guard = none) : gctx ops s o = some ([], none, none) := by simp [gctx, h]
theorem Eff.step {ch g wq v s'} (h : Eff M callF ops o s ch g wq v s') (k : St E → Res E) : stepOp M callF ops o s k = k (s'.setO o.dst (wrapG wq v)) := by
  have hc := h.ctx
  unfold gctx at hc
  unfold stepOp
  rw [if_pos h.fits]
  split at hc
  · rename_i hg
    injection hc with hc; injection hc with e1 hc; injection hc with e2 e3; subst e1; subst e2; subst e3
    simp only [hg]
    rcases h.eff.2 with ⟨h1, c, h2, h3⟩ | ⟨h1, c, h2, h3⟩
    · rw [if_neg (by rw [h1]; simp), h.nil h1 rfl]
      simp only [Option.isSome_none] at h2
      rw [h2]
      rcases h3 with h3 | h3
      · subst h3; rfl
      · cases h3
    · rw [if_pos h1, h2]
      exact h3 _
  · rename_i j w hg
    simp only [hg]
    split at hc
    · rename_i q d hq hd
      split at hc
      · cases hc
      · rename_i hne
        split at hc
        · rename_i gv hgv
          injection hc with hc; injection hc with e1 hc; injection hc with e2 e3; subst e1; subst e2; subst e3
          simp only [hq, hd]
          rw [if_neg hne, hgv]
          simp only []
          have heff := h.eff.2
          rw [hd] at heff
          simp only [Option.getD_some] at heff
          rcases heff with ⟨h1, c, h2, h3⟩ | ⟨h1, c, h2, h3⟩
          · rw [if_neg (by rw [h1]; simp)]
            simp only [Option.isSome_some] at h2
            rw [h2]
            have : (c || !gv) = true := by
              rcases h3 with h3 | h3
              · subst h3; rfl
              · injection h3 with h3; subst h3; simp
            simp only [this, cond_true]
            rfl
          · rw [if_pos h1, h2]
            exact h3 _
        · cases hc
    · cases hc
theorem eff_of_step {k : St E → Res E} {r : Dt E} (h : stepOp M callF ops o s k = some r) (hn : o.guard = none → isCall o.op = false → nilCmp M s o.op = none) :
    ∃ ch g wq v s', Eff M callF ops o s ch g wq v s' ∧ k (s'.setO o.dst (wrapG wq v)) = some r := by
  unfold stepOp at h
  split at h
  · rename_i hf
    split at h
    · rename_i hg
      split at h
      · rename_i hcall
        split at h
        · rename_i c ho
          obtain ⟨v, s', h1, h2, h3⟩ := callOp_det h
          exact ⟨[], none, none, v, s', ⟨hf, gctx_none hg, fun h => (by rw [hcall] at h; cases h), h2, .inr ⟨hcall, c, ho, h3⟩⟩, h1⟩
        · cases h
      · rename_i hcall
        have hcall : isCall o.op = false := by simpa using hcall
        rw [hn hg hcall] at h
        simp only at h
        split at h
        · rename_i v c s' hs
          cases c with
          | false => cases h
          | true => exact ⟨[], none, none, v, s', ⟨hf, gctx_none hg, fun _ _ => hn hg hcall, simple_noGl hs, .inl ⟨hcall, true, hs, .inl rfl⟩⟩, h⟩
        · cases h
    · rename_i j w hg
      split at h
      · rename_i q d hq hd
        split at h
        · cases h
        · rename_i hne
          split at h
          · rename_i gv hgv
            have hctx : gctx ops s o = some (gchain 6 s q w, some gv, some (q, w)) := by simp [gctx, hg, hq, hd, hne, hgv]
            split at h
            · rename_i hcall
              split at h
              · rename_i c ho
                obtain ⟨v, s', h1, h2, h3⟩ := callOp_det h
                exact ⟨_, _, _, v, s', ⟨hf, hctx, fun h => (by rw [hcall] at h; cases h), h2, .inr ⟨hcall, c, ho, by rw [hd]; exact h3⟩⟩, by rw [hd]; exact h1⟩
              · cases h
            · rename_i hcall
              have hcall : isCall o.op = false := by simpa using hcall
              split at h
              · rename_i v c s' hs
                cases hcc : (c || !gv) with
                | false => rw [hcc] at h; cases h
                | true =>
                  rw [hcc] at h
                  refine ⟨_, _, _, v, s', ⟨hf, hctx, fun _ h => (by cases h), simple_noGl hs, .inl ⟨hcall, c, by rw [hd]; exact hs, ?_⟩⟩, by rw [hd]; exact h⟩
                  cases c with
                  | true => exact .inl rfl
                  | false => cases gv with
                    | false => exact .inr rfl
                    | true => simp at hcc
              · cases h
          · cases h
      · cases h
  · cases h
def But (s t : St E) (d : Option Nat) : Prop := ∀ x, d ≠ some x → t.slot x = s.slot x
theorem But.at {d : Option Nat} (h : But s t d) {ts : List Nat} (hd : ∀ x ∈ ts, d ≠ some x) : SameAt s t ts := fun x hx => h x (hd x hx)
theorem But.symm {d : Option Nat} (h : But s t d) : But t s d := fun x hx => (h x hx).symm
theorem gDeps_self (k : Nat) (s : St E) (q : Nat) : q ∈ gDeps (k + 1) s q := by simp [gDeps, slotDeps]
theorem guard_same {d : Option Nat} (h : But s t d) : ∀ (k : Nat) (q : Nat) (w : Bool), (∀ x ∈ gDeps k s q, d ≠ some x) → gval k t q w = gval k s q w ∧ gchain k t q w = gchain k s q w ∧ gDeps k t q = gDeps k s q
  | 0, q, w, _ => ⟨rfl, rfl, rfl⟩
  | k + 1, q, w, hd => by
    have hq := h q (hd q (gDeps_self k s q))
    simp only [gval, gchain, gDeps, slotDeps, hq]
    cases hs : s.slot q with
    | gl d' w' v =>
      simp only []
      obtain ⟨a, b, c⟩ := guard_same h k d' w' (fun x hx => hd x (by simp only [gDeps, hs, List.mem_append]; exact .inr hx))
      rw [b, c]
      refine ⟨?_, rfl, rfl⟩
      cases v with
      | c cv =>
        cases cv with
        | leaf t x => cases t <;> first | rfl | (simp only []; rw [a])
        | _ => rfl
      | _ => rfl
    | c cv =>
      cases cv with
      | leaf t x => cases t <;> exact ⟨rfl, rfl, rfl⟩
      | _ => exact ⟨rfl, rfl, rfl⟩
    | _ => exact ⟨rfl, rfl, rfl⟩
theorem slotDeps_same {d : Option Nat} (h : But s t d) : ∀ (ts : List Nat), (∀ x ∈ ts.flatMap (slotDeps s), d ≠ some x) → ts.flatMap (slotDeps t) = ts.flatMap (slotDeps s)
  | [], _ => rfl
  | x :: r, hd => by
    simp only [List.flatMap_cons] at hd ⊢
    have hx := h x (hd x (by simp [slotDeps]))
    rw [slotDeps_same h r (fun y hy => hd y (by simp [hy]))]
    simp only [slotDeps, hx]
theorem mem_deps {ts : List Nat} {x : Nat} (h : x ∈ ts) : x ∈ ts.flatMap (slotDeps s) := List.mem_flatMap.2 ⟨x, h, by simp [slotDeps]⟩
theorem nmOps_same {ch : Chain} : ∀ (xs : List Operand), SameAt s t (opTs xs) → nmOps t ch xs = nmOps s ch xs
  | [], _ => rfl
  | x :: r, h => by
    have := nmOps_same (ch := ch) r (fun n hn => h n (by cases x <;> simp [opTs] at hn ⊢ <;> simp [hn]))
    simp only [nmOps, List.flatMap_cons] at this ⊢
    rw [this]; simp only [nmOp]; rw [ev_same (h.sub (x := x) (by simp))]
theorem datOp_same {ch : Chain} {x : Operand} (h : SameAt s t (opTs [x])) : datOp t ch x = datOp s ch x := by simp only [datOp, ev_same h]
theorem all_dat_same {ch : Chain} : ∀ (parts : List (Nat × Operand)), SameAt s t (opTs (parts.map (·.2))) → parts.all (fun p => datOp t ch p.2) = parts.all (fun p => datOp s ch p.2)
  | [], _ => rfl
  | (i, x) :: r, h => by
    simp only [List.all_cons]
    rw [all_dat_same r (fun n hn => h n (by cases x <;> simp [opTs] at hn ⊢ <;> simp [hn])), datOp_same (h.sub (x := x) (by simp))]
theorem nmOp_same {ch : Chain} {x : Operand} (h : SameAt s t (opTs [x])) : nmOp t ch x = nmOp s ch x := by simp only [nmOp, ev_same h]
theorem footOp_same {ch : Chain} {grd : Bool} {d : Nat} {op : Op} {k : FK} {xs : List Operand} {rd wr : List Nat} (hf : footOp M s ch grd d op = (k, xs, rd, wr)) (hk : k ≠ .fixed) (h : SameAt s t (opTs xs)) : footOp M t ch grd d op = (k, xs, rd, wr) := by
  rw [← hf]
  unfold footOp at hf ⊢
  split at hf
  case h_18 ty len parts =>
    injection hf with e0 hf; injection hf with e1 hf; subst e1
    rw [all_dat_same parts.toList h, nmOps_same _ h]
  case h_20 c =>
    split at hf
    case h_6 f hc =>
      split at hf
      · rename_i sg hs
        injection hf with e0 hf; injection hf with e1 hf; subst e1
        rw [nmOps_same _ h]
      · injection hf with e0 _; exact absurd e0.symm hk
    case h_7 h1 h2 h3 h4 h5 h6 => injection hf with e0 _; exact absurd e0.symm hk
    all_goals
      injection hf with e0 hf; injection hf with e1 hf; subst e1
    all_goals first | rfl | (simp only []; done) | rw [nmOps_same _ h] | (simp only []; rw [nmOps_same _ h])
  case h_21 => injection hf with e0 _; exact absurd e0.symm hk
  all_goals
    injection hf with e0 hf; injection hf with e1 hf; subst e1
  all_goals first
    | rfl
    | rw [nmOp_same (h.sub (by simp))]
    | rw [nmOps_same _ h]
theorem nil_kind {ch : Chain} {grd : Bool} {d : Nat} {op : Op} {k : FK} {xs : List Operand} {rd wr : List Nat} (hf : footOp M s ch grd d op = (k, xs, rd, wr)) (hk : k ≠ .fixed) (t : St E) : nilCmp M t op = none := by
  unfold nilCmp
  split
  · rename_i bo ty x pt
    simp only [footOp, isNilS] at hf
    injection hf with e0 _
    exact absurd e0.symm hk
  · rfl
theorem footOf_inv {f : Foot} (hf : footOf M ops s o = some f) : ∃ ch grd xs gd, footOp M s ch grd (o.dst.getD s.n) o.op = (f.k, xs, f.reads, f.writes) ∧ f.dst = o.dst ∧ f.deps = gd ++ (opTs xs).flatMap (slotDeps s) ∧
    ((o.guard = none ∧ ch = [] ∧ grd = false ∧ gd = [] ∧ (isCall o.op = false → nilCmp M s o.op = none)) ∨ ∃ j b q, o.guard = some (j, b) ∧ (ops[j]?).bind (·.dst) = some q ∧ ch = gchain 6 s q b ∧ grd = true ∧ gd = gDeps 6 s q) := by
  unfold footOf at hf
  split at hf
  · rename_i hg
    split at hf
    · cases hf
    · rename_i hnil
      injection hf with hf; subst hf
      refine ⟨[], false, _, [], rfl, rfl, rfl, .inl ⟨hg, rfl, rfl, rfl, fun hc => ?_⟩⟩
      rw [hc] at hnil; exact hnil
  · rename_i j b hg
    split at hf
    · rename_i q hq
      injection hf with hf; subst hf
      exact ⟨_, true, _, _, rfl, rfl, rfl, .inr ⟨j, b, q, hg, hq, rfl, rfl, rfl⟩⟩
    · cases hf
theorem footOf_same {f : Foot} (hf : footOf M ops s o = some f) (hk : f.k ≠ .fixed) {d : Option Nat} (h : But s t d) (hn : t.n = s.n) (hd : ∀ x ∈ f.deps, d ≠ some x) : footOf M ops t o = some f := by
  obtain ⟨ch, grd, xs, gd, h1, h2, h3, h4⟩ := footOf_inv hf
  have hxs : SameAt s t (opTs xs) := h.at fun x hx => hd x (by rw [h3]; exact List.mem_append.2 (.inr (mem_deps hx)))
  have hsd := slotDeps_same h (opTs xs) (fun x hx => hd x (by rw [h3]; exact List.mem_append.2 (.inr hx)))
  have h5 := footOp_same h1 hk hxs
  obtain ⟨fd, fde, fr, fw, fk⟩ := f
  simp only at h1 h2 h3 h5
  rcases h4 with ⟨g1, g2, g3, g4, g5⟩ | ⟨j, b, q, g1, g2, g3, g4, g5⟩
  · subst g2; subst g3; subst g4
    unfold footOf
    simp only [g1]
    have : (cond (isCall o.op) none (nilCmp M t o.op)) = none := by
      cases hc : isCall o.op with
      | true => rfl
      | false => exact nil_kind h1 hk t
    rw [this, hn]
    simp only [h5, hsd, h2, h3, List.nil_append]
  · subst g4
    obtain ⟨_, a2, a3⟩ := guard_same h 6 q b (fun x hx => hd x (by rw [h3, g5]; exact List.mem_append.2 (.inl hx)))
    rw [g3] at h5
    unfold footOf
    simp only [g1, g2]
    rw [a2, hn, h5, hsd, a3]
    simp only [h2, h3, g5]
theorem gctx_same {f : Foot} (hf : footOf M ops s o = some f) {d : Option Nat} (h : But s t d) (hd : ∀ x ∈ f.deps, d ≠ some x) : gctx ops t o = gctx ops s o := by
  obtain ⟨ch, grd, xs, gd, h1, h2, h3, h4⟩ := footOf_inv hf
  unfold gctx
  rcases h4 with ⟨g1, g2, g3, g4, g5⟩ | ⟨j, b, q, g1, g2, g3, g4, g5⟩
  · simp only [g1]
  · obtain ⟨a1, a2, a3⟩ := guard_same h 6 q b (fun x hx => hd x (by rw [h3, g5]; exact List.mem_append.2 (.inl hx)))
    simp only [g1, g2]
    cases o.dst with
    | none => rfl
    | some d => simp only []; rw [a1, a2]
theorem foot_ctx {f : Foot} (hf : footOf M ops s o = some f) {ch g wq} (hc : gctx ops s o = some (ch, g, wq)) : ∃ xs gd, footOp M s ch g.isSome (o.dst.getD s.n) o.op = (f.k, xs, f.reads, f.writes) ∧ f.dst = o.dst ∧ f.deps = gd ++ (opTs xs).flatMap (slotDeps s) ∧ (∀ q w, wq = some (q, w) → q ∈ f.deps ∧ o.dst ≠ some q) := by
  obtain ⟨ch', grd, xs, gd, h1, h2, h3, h4⟩ := footOf_inv hf
  unfold gctx at hc
  rcases h4 with ⟨g1, g2, g3, g4, g5⟩ | ⟨j, b, q, g1, g2, g3, g4, g5⟩
  · simp only [g1] at hc
    injection hc with hc; injection hc with e1 hc; injection hc with e2 e3; subst e1; subst e2; subst e3
    subst g2; subst g3
    exact ⟨xs, gd, h1, h2, h3, fun q w h => by cases h⟩
  · simp only [g1, g2] at hc
    split at hc
    · rename_i q' d hq hd
      injection hq with hq; subst hq
      split at hc
      · cases hc
      · rename_i hne
        split at hc
        · injection hc with hc; injection hc with e1 hc; injection hc with e2 e3; subst e1; subst e2; subst e3
          subst g3; subst g4
          refine ⟨xs, gd, h1, h2, h3, fun q' w' h => ?_⟩
          injection h with h; injection h with h _; subst h
          refine ⟨by rw [h3, g5]; exact List.mem_append.2 (.inl (gDeps_self 5 s q)), fun e => hne ?_⟩
          rw [hd] at e; injection e with e; exact e.symm
        · cases hc
    · cases hc
theorem ins_map {α β : Type} (f : α → β) (k : Nat) (v : α) : ∀ (l : List (Nat × α)), (ins k v l).map (fun p => (p.1, f p.2)) = ins k (f v) (l.map (fun p => (p.1, f p.2)))
  | [] => rfl
  | (k', v') :: r => by
    simp only [ins, List.map_cons]
    cases Nat.beq k k' with
    | true => rfl
    | false =>
      cases Nat.ble k k' with
      | true => rfl
      | false => simp only [cond_false, List.map_cons]; rw [ins_map f k v r]
theorem dropG_comm (a b : Nat) : ∀ v : SV E, dropG a (dropG b v) = dropG b (dropG a v)
  | .gl q w v => by
    have ih := dropG_comm a b v
    simp only [dropG]
    by_cases ha : q = a
    · subst ha
      by_cases hb : q = b
      · subst hb; simp [dropG]
      · simp [dropG, beq_ne hb]
    · by_cases hb : q = b
      · subst hb; simp [dropG, beq_ne ha]
      · simp [dropG, beq_ne ha, beq_ne hb, ih]
  | .c _ => rfl
  | .agg _ => rfl
  | .tup _ => rfl
theorem dropG_noGl {d : Nat} {v : SV E} (h : noGl v = true) : dropG d v = v := by cases v <;> first | rfl | simp [noGl] at h
theorem dropG_wrap {d : Nat} {v : SV E} (h : noGl v = true) {wq : Option (Nat × Bool)} (hq : ∀ q w, wq = some (q, w) → q ≠ d) : dropG d (wrapG wq v) = wrapG wq v := by
  cases wq with
  | none => exact dropG_noGl h
  | some p => obtain ⟨q, w⟩ := p; simp [wrapG, dropG, beq_ne (hq q w rfl), dropG_noGl h]
theorem set_comm (s : St E) {a b : Nat} (hne : a ≠ b) {u v : SV E} (hu : dropG b u = u) (hv : dropG a v = v) : (s.set a u).set b v = (s.set b v).set a u := by
  simp only [St.set]
  congr 1
  rw [ins_map, ins_map, hu, hv, ins_comm (Ne.symm hne)]
  congr 2
  simp only [List.map_map]
  apply List.map_congr_left
  intro p _
  simp [dropG_comm a b]
theorem setO_comm (s : St E) {a b : Option Nat} (hne : dstNe a b = true) {u v : SV E} (hu : ∀ d, b = some d → dropG d u = u) (hv : ∀ d, a = some d → dropG d v = v) : (s.setO a u).setO b v = (s.setO b v).setO a u := by
  cases a with
  | none => rfl
  | some a =>
    cases b with
    | none => rfl
    | some b =>
      simp only [dstNe, Bool.not_eq_true'] at hne
      exact set_comm s (fun e => by subst e; simp at hne) (hu b rfl) (hv a rfl)
theorem setO_ob (s : St E) (d : Option Nat) (v : SV E) : (s.setO d v).ob = s.ob := by cases d <;> rfl
theorem setO_n (s : St E) (d : Option Nat) (v : SV E) : (s.setO d v).n = s.n := by cases d <;> rfl
theorem putOb_setO (s : St E) (d : Option Nat) (v : SV E) (n g : Nat) (o : Ob E) : (s.setO d v).putOb n g o = (s.putOb n g o).setO d v := by cases d <;> rfl
def NoG (s : St E) (d : Option Nat) : Prop := ∀ x q, q ∈ glDeps (s.slot x) → d ≠ some q
theorem dropG_id {d : Nat} : ∀ {v : SV E}, d ∉ glDeps v → dropG d v = v
  | .gl q w v, h => by
    simp only [glDeps, List.mem_cons, not_or] at h
    simp only [dropG]
    rw [beq_ne (fun e => h.1 e.symm), dropG_id h.2]; rfl
  | .c _, _ => rfl
  | .agg _, _ => rfl
  | .tup _, _ => rfl
theorem slot_set (s : St E) (d x : Nat) (v : SV E) : (s.set d v).slot x = if x = d then v else dropG d (s.slot x) := by
  unfold St.slot
  rw [lk_set]
  by_cases h : x = d
  · simp [h]
  · simp only [h, if_false]
    cases lk s.sl x <;> rfl
theorem but_setO {d : Option Nat} (hg : NoG s d) (h : t.sl = s.sl) (v : SV E) : But s (t.setO d v) d := by
  have hs : ∀ x, t.slot x = s.slot x := fun x => by simp [St.slot, h]
  intro x hx
  cases d with
  | none => exact hs x
  | some d =>
    show (t.set d v).slot x = s.slot x
    rw [slot_set, if_neg (fun e => hx (by rw [e])), hs]
    exact dropG_id fun hm => hg x d hm rfl
end
end Go.Proofs.AM

namespace Go.Proofs.AM
open Go Go.RowKit
variable {E : Env}
section
variable {M : Mach E} {callF : FuncId → List (Arg E) → Res E} {ops : Array Oper} {o : Oper} {s t : St E} {F : St E → St E} {D : Nat → Prop}
theorem quiet_call {ch : Chain} {grd : Bool} {d : Nat} {op : Op} {xs : List Operand} {rd wr : List Nat} (hf : footOp M s ch grd d op = (.quiet, xs, rd, wr)) : isCall op = false := by
  unfold footOp at hf
  split at hf
  case h_20 c =>
    split at hf
    case h_6 f hc =>
      split at hf
      · injection hf with e0 _; revert e0; cases (List.all _ _) <;> intro e0 <;> cases e0
      · injection hf with e0 _; cases e0
    case h_7 => injection hf with e0 _; cases e0
    all_goals (rename_i hc; simp [isCall, hc])
  case h_21 => injection hf with e0 _; cases e0
  all_goals rfl
theorem valCells_nm {ch : Chain} : ∀ (ps : List PM) (xs : List Operand), ∀ c ∈ valCells ps (xs.map (ev s ch)), ∀ n ∈ nmC c, n ∈ nmOps s ch xs
  | [], xs, c, h, n, _ => by cases xs <;> simp [valCells] at h
  | p :: ps, [], c, h, n, _ => by cases p <;> simp [valCells] at h
  | p :: ps, x :: xs, c, h, n, hn => by
    have ih : ∀ c ∈ valCells ps (xs.map (ev s ch)), ∀ n ∈ nmC c, n ∈ nmOps s ch xs := valCells_nm ps xs
    have tail : c ∈ valCells ps (xs.map (ev s ch)) → n ∈ nmOps s ch (x :: xs) := fun h => by
      have := ih c h n hn
      simp only [nmOps, List.flatMap_cons, List.mem_append] at this ⊢
      exact .inr this
    cases p with
    | val ty =>
      simp only [List.map_cons, valCells, List.mem_append] at h
      rcases h with h | h
      · cases hc : svCells (ev s ch x) with
        | none => rw [hc] at h; simp at h
        | some cs => rw [hc] at h; exact nmOps_mem_cells (x := x) (by simp) hc c (by simpa using h) n hn
      · exact tail h
    | _ => exact tail (by simpa [valCells] using h)
theorem mov_call {ch : Chain} {grd : Bool} {d : Nat} {op : Op} {k : FK} {xs : List Operand} {rd wr : List Nat} (hf : footOp M s ch grd d op = (k, xs, rd, wr)) (hk : k ≠ .quiet ∧ k ≠ .fixed) (hc : isCall op = true) :
    ∃ c f sg, op = .call c ∧ c.callee = .value (.func f) ∧ M.sigs.find f = some sg ∧ sg.ps.all isValP = true ∧ xs = c.args.toList ∧ rd = nmOps s ch c.args.toList ∧
      wr = cond (mayKeep (resPieces sg.rs)) (nmOps s ch c.args.toList) [] ++ (List.range (ownCount sg.rs)).map (nameBase d + ·) := by
  unfold footOp at hf
  split at hf
  case h_20 c =>
    split at hf
    case h_6 f hcal =>
      split at hf
      · rename_i sg hs
        injection hf with e0 hf; injection hf with e1 hf; injection hf with e2 e3
        refine ⟨c, f, sg, rfl, hcal, hs, ?_, e1.symm, e2.symm, e3.symm⟩
        cases ha : sg.ps.all isValP with
        | true => rfl
        | false => rw [ha] at e0; exact absurd e0.symm hk.2
      · injection hf with e0 _; exact absurd e0.symm hk.2
    case h_7 => injection hf with e0 _; exact absurd e0.symm hk.2
    all_goals (rename_i hcal; simp [isCall, hcal] at hc)
  all_goals (simp [isCall] at hc)
theorem call_same {ch : Chain} {g : Option Bool} {d : Nat} {ty : TypeId} {c : Call} {v v' : SV E} {s' s'' : St E} (h : ∀ fin : SV E → St E → Res E, callOp M callF s ch g d ty c fin = fin v s') (k : ∀ fin : SV E → St E → Res E, callOp M callF s ch g d ty c fin = fin v' s'') : v = v' ∧ s' = s'' := by
  classical
  have := h (fun x y => if x = v ∧ y = s' then some ⟨.unit, ()⟩ else none)
  rw [k] at this
  simp only [true_and, and_self, if_true] at this
  by_cases hh : v' = v ∧ s'' = s'
  · exact ⟨hh.1.symm, hh.2.symm⟩
  · rw [if_neg hh] at this; cases this
theorem call_fm (hF : Fm F D) (hbig : ∀ n, 1000000 ≤ n → ¬ D n) {ch : Chain} {g : Option Bool} {d : Nat} {ty : TypeId} {c : Call} {f : FuncId} {sg : Sig} (hc : c.callee = .value (.func f)) (hs : M.sigs.find f = some sg) (hp : sg.ps.all isValP = true)
    (h1 : SameAt s (F s) (opTs c.args.toList)) (h2 : ∀ n ∈ nmOps s ch c.args.toList, ¬ D n) (fin : SV E → St E → Res E) :
    callOp M callF (F s) ch g d ty c fin = callOp M callF s ch g d ty c (fun v s' => fin v (F s')) := by
  rw [callOp_eq hc hs, callOp_eq hc hs]
  have : c.args.toList.map (ev (F s) ch) = c.args.toList.map (ev s ch) := List.map_congr_left fun x hx => ev_same (h1.sub hx) ch
  rw [this]
  exact callWith_fm hF hbig hp fun cc hcc n hn => h2 n (valCells_nm _ _ cc hcc n hn)
theorem act_fm (hF : Fm F D) (hbig : ∀ n, 1000000 ≤ n → ¬ D n) {ch : Chain} {g : Option Bool} {d : Nat} {k : FK} {xs : List Operand} {rd wr : List Nat} (hf : footOp M s ch g.isSome d o.op = (k, xs, rd, wr)) (hk : k ≠ .quiet ∧ k ≠ .fixed)
    (h1 : SameAt s (F s) (opTs xs)) (h2 : ∀ n ∈ rd, ¬ D n) (hd : isCall o.op = false → ¬ D d) {v : SV E} :
    (∀ s', OpEff M callF (F s) ch g d o v s' → ∃ s0, OpEff M callF s ch g d o v s0 ∧ s' = F s0) ∧ (∀ s0, OpEff M callF s ch g d o v s0 → OpEff M callF (F s) ch g d o v (F s0)) := by
  constructor
  · intro s' h
    rcases h with ⟨hn, h⟩
    rcases h with ⟨a1, c, a2, a3⟩ | ⟨a1, c, a2, a3⟩
    · rw [loud_eq hF hf hk a1 h1 h2 (hd a1)] at a2
      cases hs : simple M s ch g.isSome d o.op with
      | none => rw [hs] at a2; cases a2
      | some r =>
        obtain ⟨r1, r2, r3⟩ := r
        rw [hs] at a2
        simp only [Option.map_some] at a2
        injection a2 with a2; injection a2 with e1 a2; injection a2 with e2 e3
        subst e1; subst e2; subst e3
        exact ⟨r3, ⟨hn, .inl ⟨a1, _, hs, a3⟩⟩, rfl⟩
    · obtain ⟨c', f, sg, e1, e2, e3, e4, e5, e6, e7⟩ := mov_call hf hk a1
      rw [a2] at e1; injection e1 with e1; subst e1
      subst e5; subst e6
      have hcf := fun fin => call_fm (callF := callF) (g := g) (d := d) (ty := o.type) hF hbig e2 e3 e4 h1 h2 fin
      have h5 : callOp M callF s ch g d o.type c (fun _ _ => some ⟨.unit, ()⟩) = some ⟨.unit, ()⟩ := by
        rw [← hcf (fun _ _ => some ⟨.unit, ()⟩)]; exact a3 _
      obtain ⟨v0, s0, _, b2, b3⟩ := callOp_det h5
      obtain ⟨q1, q2⟩ := call_same a3 (fun fin => by rw [hcf]; exact b3 _)
      subst q1
      exact ⟨s0, ⟨hn, .inr ⟨a1, c, a2, b3⟩⟩, q2⟩
  · intro s0 h
    rcases h with ⟨hn, h⟩
    rcases h with ⟨a1, c, a2, a3⟩ | ⟨a1, c, a2, a3⟩
    · refine ⟨hn, .inl ⟨a1, c, ?_, a3⟩⟩
      rw [loud_eq hF hf hk a1 h1 h2 (hd a1), a2]; rfl
    · obtain ⟨c', f, sg, e1, e2, e3, e4, e5, e6, e7⟩ := mov_call hf hk a1
      rw [a2] at e1; injection e1 with e1; subst e1
      subst e5; subst e6
      exact ⟨hn, .inr ⟨a1, c, a2, fun fin => by rw [call_fm hF hbig e2 e3 e4 h1 h2]; exact a3 _⟩⟩
theorem act_mod {ch : Chain} {g : Option Bool} {d : Nat} {k : FK} {xs : List Operand} {rd wr : List Nat} (hf : footOp M s ch g.isSome d o.op = (k, xs, rd, wr)) (hk : k ≠ .quiet ∧ k ≠ .fixed) {v : SV E} {s' : St E} (h : OpEff M callF s ch g d o v s') : Mod s s' wr := by
  rcases h with ⟨hn, h⟩
  rcases h with ⟨a1, c, a2, a3⟩ | ⟨a1, c, a2, a3⟩
  · exact loud_mod hf hk a1 a2
  · obtain ⟨c', f, sg, e1, e2, e3, e4, e5, e6, e7⟩ := mov_call hf hk a1
    rw [a2] at e1; injection e1 with e1; subst e1
    have h5 := a3 (fun _ _ => some ⟨.unit, ()⟩)
    rw [callOp_eq e2 e3] at h5
    obtain ⟨v0, s0, _, _, b3, b4⟩ := callWith_det h5
    obtain ⟨q1, q2⟩ := call_same a3 (fun fin => by rw [callOp_eq e2 e3]; exact b3 fin)
    subst q2
    rw [e7]
    refine (b4 e4).sub fun m hm => ?_
    rcases List.mem_append.1 hm with hm | hm
    · refine List.mem_append.2 (.inl ?_)
      cases hk : mayKeep (resPieces sg.rs) with
      | true =>
        rw [hk] at hm
        obtain ⟨cc, h1, h2⟩ := List.mem_flatMap.1 hm
        exact valCells_nm _ _ cc h1 m h2
      | false => rw [hk] at hm; simp at hm
    · exact List.mem_append.2 (.inr hm)
theorem act_quiet {ch : Chain} {g : Option Bool} {d : Nat} {xs : List Operand} {rd wr : List Nat} (hf : footOp M s ch g.isSome d o.op = (.quiet, xs, rd, wr)) {v : SV E} {s' : St E} (h : OpEff M callF s ch g d o v s') :
    s' = s ∧ ∀ t, SameAt s t (opTs xs) → SameOb s t rd → OpEff M callF t ch g d o v t := by
  rcases h with ⟨hn, h⟩
  rcases h with ⟨a1, c, a2, a3⟩ | ⟨a1, c, a2, a3⟩
  · refine ⟨quiet_keep hf _ a2, fun t h1 h2 => ⟨hn, .inl ⟨a1, c, ?_, a3⟩⟩⟩
    rw [quiet_eq hf h1 h2, a2]; rfl
  · rw [quiet_call hf] at a1; cases a1
theorem act_fresh {ch : Chain} {g : Option Bool} {d : Nat} {xs : List Operand} {rd wr : List Nat} (hf : footOp M s ch g.isSome d o.op = (.fresh, xs, rd, wr)) {v : SV E} {s' : St E} (h : OpEff M callF s ch g d o v s') :
    d ∈ wr ∧ ∃ (f : Nat → SV E) (ob : Ob E), v = f (s.gen d) ∧ s' = s.fresh d ob ∧ ∀ t, SameAt s t (opTs xs) → OpEff M callF t ch g d o (f (t.gen d)) (t.fresh d ob) := by
  rcases h with ⟨hn, h⟩
  rcases h with ⟨a1, c, a2, a3⟩ | ⟨a1, c, a2, a3⟩
  · obtain ⟨b1, b2, f, ob, b3⟩ := fresh_eq hf a2
    have := b3 s (fun _ _ => rfl)
    rw [a2] at this
    injection this with this; injection this with e1 this; injection this with e2 e3
    refine ⟨b1, f, ob, e1, e3, fun t ht => ?_⟩
    have h5 := b3 t ht
    exact ⟨simple_noGl h5, .inl ⟨a1, c, h5, a3⟩⟩
  · obtain ⟨_, f, sg, e1, _⟩ := mov_call hf ⟨by simp, by simp⟩ a1
    unfold footOp at hf
    rw [e1] at hf
    simp only at hf
    split at hf
    all_goals first
      | (injection hf with e0 _; cases e0; done)
      | skip
    split at hf
    · injection hf with e0 _; revert e0; cases (List.all _ _) <;> intro e0 <;> cases e0
    · injection hf with e0 _; cases e0
def Step (M : Mach E) (callF : FuncId → List (Arg E) → Res E) (ops : Array Oper) (i : Nat) (f : Foot) (s s1 : St E) : Prop :=
  ∃ o ch g wq v s', ops[i]? = some o ∧ footOf M ops s o = some f ∧ Eff M callF ops o s ch g wq v s' ∧ s1 = s'.setO o.dst (wrapG wq v)
theorem dstApart_ne {d : Option Nat} {l : List Nat} (h : dstApart d l = true) : ∀ x ∈ l, d ≠ some x := by
  intro x hx e
  subst e
  simp only [dstApart, Bool.not_eq_true', List.any_eq_false] at h
  exact h x hx (Nat.beq_refl x)
theorem apart_ne {a b : List Nat} (h : apart a b = true) : ∀ x ∈ a, x ∉ b := by
  intro x hx hb
  have := List.all_eq_true.1 h x hx
  simp only [Bool.not_eq_true', List.any_eq_false] at this
  exact this x hb (Nat.beq_refl x)
theorem fm_setO (d : Option Nat) (v : SV E) : Fm (fun s : St E => s.setO d v) (fun _ => False) where
  put := fun s n g o _ => (putOb_setO s d v n g o).symm
  lk := fun s n _ => by show lk (s.setO d v).ob n = _; rw [setO_ob]
  n := fun s => setO_n s d v
theorem fm_new (d g : Nat) (ob : Ob E) (dd : Option Nat) (v : SV E) : Fm (fun s : St E => (s.putOb d g ob).setO dd v) (fun n => n = d) where
  put := fun s n g' o h => by
    show ((s.putOb n g' o).putOb d g ob).setO dd v = ((s.putOb d g ob).setO dd v).putOb n g' o
    rw [putOb_setO]
    congr 1
    simp only [St.putOb]
    rw [ins_comm (fun e => h e.symm)]
  lk := fun s n h => by
    show lk ((s.putOb d g ob).setO dd v).ob n = _
    rw [setO_ob, St.lk_putOb, if_neg h]
  n := fun s => setO_n _ dd v
theorem swap {a i : Nat} {fa fi : Foot} {s1 s12 : St E} (ha : Step M callF ops a fa s s1) (hi : Step M callF ops i fi s1 s12) (hind : indep fa fi = true) (hga : NoG s fa.dst) (hgi : NoG s fi.dst) (hn : s.n < 100000) :
    ∃ s2, Step M callF ops i fi s s2 ∧ Step M callF ops a fa s2 s12 := by
  obtain ⟨oa, cha, ga, wqa, va, sa, hoa, hfa, ea, hs1⟩ := ha
  obtain ⟨oi, chi, gi, wqi, vi, si, hoi, hfi, ei, hs12⟩ := hi
  simp only [indep, Bool.and_eq_true] at hind
  obtain ⟨hA, hB, hne, hkinds⟩ := hind
  have hA := dstApart_ne hA
  have hB := dstApart_ne hB
  obtain ⟨xa, gda, pa1, pa2, pa3, pa4⟩ := foot_ctx hfa ea.ctx
  obtain ⟨xi, gdi, pi1, pi2, pi3, pi4⟩ := foot_ctx hfi ei.ctx
  have hka : fa.k ≠ .fixed := by intro e; simp only [kindsOk, e] at hkinds; cases fi.k <;> simp at hkinds
  have hki : fi.k ≠ .fixed := by intro e; simp only [kindsOk, e] at hkinds; cases fa.k <;> simp at hkinds
  unfold kindsOk at hkinds
  rw [pa2] at hA hga hne
  rw [pi2] at hB hgi hne
  have hna : noGl va = true := ea.eff.1
  have hni : noGl vi = true := ei.eff.1
  have hua : ∀ d, oi.dst = some d → dropG d (wrapG wqa va) = wrapG wqa va := fun d hd => dropG_wrap hna fun q w hq => fun e => by
    subst e; exact hB q (pa4 q w hq).1 hd
  have hui : ∀ d, oa.dst = some d → dropG d (wrapG wqi vi) = wrapG wqi vi := fun d hd => dropG_wrap hni fun q w hq => fun e => by
    subst e; exact hA q (pi4 q w hq).1 hd
  have comm : ∀ u : St E, (u.setO oa.dst (wrapG wqa va)).setO oi.dst (wrapG wqi vi) = (u.setO oi.dst (wrapG wqi vi)).setO oa.dst (wrapG wqa va) := fun u => setO_comm u hne hua hui
  have xia : ∀ x ∈ opTs xi, oa.dst ≠ some x := fun x hx => hA x (by rw [pi3]; exact List.mem_append.2 (.inr (mem_deps hx)))
  have xai : ∀ x ∈ opTs xa, oi.dst ≠ some x := fun x hx => hB x (by rw [pa3]; exact List.mem_append.2 (.inr (mem_deps hx)))
  have hsl : sa.sl = s.sl ∧ sa.n = s.n := by
    by_cases hq : fa.k = .quiet
    · rw [hq] at pa1
      rw [(act_quiet pa1 ea.eff).1]; exact ⟨rfl, rfl⟩
    · have := act_mod pa1 ⟨hq, hka⟩ ea.eff
      exact ⟨this.sl, this.n⟩
  have hb1 : But s s1 oa.dst := by rw [hs1]; exact but_setO hga hsl.1 _
  have hn1 : s1.n = s.n := by rw [hs1, setO_n]; exact hsl.2
  have hfi0 : footOf M ops s oi = some fi := footOf_same hfi hki hb1.symm hn1.symm hA
  have hci0 : gctx ops s oi = some (chi, gi, wqi) := by rw [← ei.ctx]; exact gctx_same hfi hb1.symm hA
  have hfits : fits s.n oi.dst = true := by rw [← hn1]; exact ei.fits
  have hnil : isCall oi.op = false → gi = none → nilCmp M s oi.op = none := fun _ _ => nil_kind pi1 hki s
  have pi0 : footOp M s chi gi.isSome (oi.dst.getD s.n) oi.op = (fi.k, xi, fi.reads, fi.writes) := by
    have := footOp_same pi1 hki (t := s) (hb1.symm.at xia)
    rwa [hn1] at this
  have fin : ∀ {si0 : St E} {s2 : St E}, OpEff M callF s chi gi (oi.dst.getD s.n) oi vi si0 → s2 = si0.setO oi.dst (wrapG wqi vi) → si0.sl = s.sl → si0.n = s.n → (∃ sa2, OpEff M callF s2 cha ga (oa.dst.getD s.n) oa va sa2 ∧ s12 = sa2.setO oa.dst (wrapG wqa va)) →
      ∃ s2, Step M callF ops i fi s s2 ∧ Step M callF ops a fa s2 s12 := by
    intro si0 s2 h1 h2 h3 h4 ⟨sa2, h5, h6⟩
    have hb2 : But s s2 oi.dst := by rw [h2]; exact but_setO hgi h3 _
    have hn2 : s2.n = s.n := by rw [h2, setO_n]; exact h4
    refine ⟨s2, ⟨oi, chi, gi, wqi, vi, si0, hoi, hfi0, ⟨hfits, hci0, hnil, h1⟩, h2⟩, oa, cha, ga, wqa, va, sa2, hoa, footOf_same hfa hka hb2 hn2 hB, ⟨by rw [hn2]; exact ea.fits, ?_, fun _ _ => nil_kind pa1 hka s2, by rw [hn2]; exact h5⟩, h6⟩
    rw [← ea.ctx]; exact gctx_same hfa hb2 hB
  rw [hn1] at pi1
  have ei' := ei.eff
  rw [hn1] at ei'
  by_cases hqa : fa.k = .quiet
  · rw [hqa] at pa1 hkinds
    obtain ⟨e1, tra⟩ := act_quiet pa1 ea.eff
    subst e1
    by_cases hqi : fi.k = .quiet
    · rw [hqi] at pi1
      obtain ⟨e2, tri⟩ := act_quiet pi1 ei'
      subst e2
      have h1 := tri sa (hb1.symm.at xia) (fun n _ => by rw [hs1, setO_ob])
      refine fin h1 rfl rfl rfl ⟨_, tra _ ?_ ?_, ?_⟩
      · exact (but_setO hgi rfl _).at xai
      · intro n _; rw [setO_ob]
      · rw [hs12, hs1]; exact comm sa
    · have hF := fm_setO (E := E) oa.dst (wrapG wqa va)
      obtain ⟨back, _⟩ := act_fm (callF := callF) hF (fun _ _ h => h) pi0 ⟨hqi, hki⟩ (by rw [← hs1]; exact hb1.at xia) (fun _ _ h => h) (fun _ h => h) (v := vi)
      obtain ⟨si0, h1, h2⟩ := back si (by rw [← hs1]; exact ei')
      have hm := act_mod pi0 ⟨hqi, hki⟩ h1
      refine fin h1 rfl hm.sl hm.n ⟨_, tra _ ?_ ?_, ?_⟩
      · exact (but_setO hgi hm.sl _).at xai
      · intro n hn'
        rw [setO_ob]
        refine hm.ob n (apart_ne ?_ n hn')
        revert hkinds hqi hki
        cases fi.k <;> intro hkinds hqi hki <;> first | exact hkinds | (exact absurd rfl hqi) | (exact absurd rfl hki)
      · rw [hs12, h2]; exact comm si0
  · have hma := act_mod pa1 ⟨hqa, hka⟩ ea.eff
    by_cases hqi : fi.k = .quiet
    · rw [hqi] at pi1
      obtain ⟨e2, tri⟩ := act_quiet pi1 ei'
      subst e2
      have hap : apart fi.reads fa.writes = true := by
        rw [hqi] at hkinds
        revert hkinds hqa hka
        cases fa.k <;> intro hkinds hqa hka <;> first | exact hkinds | (exact absurd rfl hqa) | (exact absurd rfl hka)
      have h1 := tri s (hb1.symm.at xia) (fun n hn' => by rw [hs1, setO_ob]; exact (hma.ob n (apart_ne hap n hn')).symm)
      have hF := fm_setO (E := E) oi.dst (wrapG wqi vi)
      obtain ⟨_, fwd⟩ := act_fm (callF := callF) hF (fun _ _ h => h) pa1 ⟨hqa, hka⟩ ((but_setO hgi rfl _).at xai) (fun _ _ h => h) (fun _ h => h) (v := va)
      refine fin h1 rfl rfl rfl ⟨_, fwd sa ea.eff, ?_⟩
      rw [hs12, hs1]; exact comm sa
    ·
      have hbig : ∀ (d : Option Nat), fits s.n d = true → ∀ n, 1000000 ≤ n → ¬ n = d.getD s.n := by
        intro d hd n h e
        subst e
        cases d with
        | none => simp at h; omega
        | some d => have := Nat.le_of_ble_eq_true hd; simp at h; omega
      by_cases hfr : fa.k = .fresh
      · rw [hfr] at pa1
        obtain ⟨hdw, f, ob, e1, e2, trf⟩ := act_fresh pa1 ea.eff
        have hap : apart fa.writes (fi.reads ++ fi.writes) = true := by
          rw [hfr] at hkinds
          revert hkinds hqi hki
          cases fi.k <;> intro hkinds hqi hki <;> first | exact hkinds | (exact absurd rfl hqi) | (exact absurd rfl hki) | (simp only [Bool.and_eq_true] at hkinds; exact hkinds.1) | (simp at hkinds)
        have hnot := apart_ne hap _ hdw
        rw [List.mem_append, not_or] at hnot
        have hF := fm_new (E := E) (oa.dst.getD s.n) (s.gen (oa.dst.getD s.n)) ob oa.dst (wrapG wqa va)
        have hFs : s1 = ((s.putOb (oa.dst.getD s.n) (s.gen (oa.dst.getD s.n)) ob).setO oa.dst (wrapG wqa va)) := by rw [hs1, e2]; rfl
        have hdi : isCall oi.op = false → ¬ oi.dst.getD s.n = oa.dst.getD s.n := by
          intro hc e
          have : oi.dst.getD s.n ∈ fi.writes := by
            have hkk := hkinds
            rw [hfr] at hkk
            have q0 := pi0
            unfold footOp at q0
            split at q0
            case h_20 cc hop =>
              split at q0
              case h_6 g hcal => rw [hop] at hc; simp [isCall, hcal] at hc
              case h_4 => injection q0 with _ q0; injection q0 with _ q0; injection q0 with _ e3; rw [← e3]; simp
              case h_5 => injection q0 with e0 _; rw [← e0] at hkk; simp at hkk
              case h_7 => injection q0 with e0 _; exact absurd e0.symm hki
              all_goals (injection q0 with e0 _; exact absurd e0.symm hqi)
            case h_16 => injection q0 with _ q0; injection q0 with _ q0; injection q0 with _ e3; rw [← e3]; simp
            case h_17 => injection q0 with _ q0; injection q0 with _ q0; injection q0 with _ e3; rw [← e3]; simp
            case h_18 => injection q0 with _ q0; injection q0 with _ q0; injection q0 with _ e3; rw [← e3]; simp
            case h_19 => injection q0 with e0 _; rw [← e0] at hkk; simp at hkk
            case h_21 => injection q0 with e0 _; exact absurd e0.symm hki
            case h_7 => injection q0 with e0 _; revert e0; cases isNilS _ <;> intro e0 <;> first | exact absurd e0.symm hqi | exact absurd e0.symm hki
            all_goals (injection q0 with e0 _; exact absurd e0.symm hqi)
          rw [e] at this
          exact hnot.2 this
        obtain ⟨back, _⟩ := act_fm (callF := callF) hF (hbig oa.dst ea.fits) pi0 ⟨hqi, hki⟩ (by rw [← hFs]; exact hb1.at xia) (fun n hn' e => hnot.1 (e ▸ hn')) hdi (v := vi)
        obtain ⟨si0, h1, h2⟩ := back si (by rw [← hFs]; exact ei')
        have hm := act_mod pi0 ⟨hqi, hki⟩ h1
        have h3 := trf (si0.setO oi.dst (wrapG wqi vi)) ((but_setO hgi hm.sl _).at xai)
        have hgen : (si0.setO oi.dst (wrapG wqi vi)).gen (oa.dst.getD s.n) = s.gen (oa.dst.getD s.n) := by
          simp only [St.gen, setO_ob, hm.ob _ hnot.2]
        rw [hgen, ← e1] at h3
        refine fin h1 rfl hm.sl hm.n ⟨_, h3, ?_⟩
        rw [hs12, h2]
        show ((si0.putOb _ _ ob).setO oa.dst (wrapG wqa va)).setO oi.dst (wrapG wqi vi) = _
        rw [comm]
        congr 1
        unfold St.fresh
        rw [hgen, putOb_setO]
      ·
        have hki2 : fi.k = .fresh ∧ apart fi.writes (fa.reads ++ fa.writes) = true := by
          cases h1 : fa.k <;> cases h2 : fi.k <;> simp_all
        obtain ⟨hkf, hap⟩ := hki2
        rw [hkf] at pi1
        obtain ⟨hdw, f, ob, e1, e2, trf⟩ := act_fresh pi1 ei'
        have hnot := apart_ne hap _ hdw
        rw [List.mem_append, not_or] at hnot
        have h1 := trf s (hb1.symm.at xia)
        have hgen : s1.gen (oi.dst.getD s.n) = s.gen (oi.dst.getD s.n) := by
          rw [hs1]; simp only [St.gen, setO_ob, hma.ob _ hnot.2]
        rw [hgen] at e1
        rw [← e1] at h1
        have hF := fm_new (E := E) (oi.dst.getD s.n) (s.gen (oi.dst.getD s.n)) ob oi.dst (wrapG wqi vi)
        have hda : isCall oa.op = false → ¬ oa.dst.getD s.n = oi.dst.getD s.n := by
          intro hc e
          have : oa.dst.getD s.n ∈ fa.writes := by
            have hkk := hkinds
            rw [hkf] at hkk
            have q0 := pa1
            unfold footOp at q0
            split at q0
            case h_20 cc hop =>
              split at q0
              case h_6 g hcal => rw [hop] at hc; simp [isCall, hcal] at hc
              case h_4 => injection q0 with _ q0; injection q0 with _ q0; injection q0 with _ e3; rw [← e3]; simp
              case h_5 => injection q0 with e0 _; rw [← e0] at hkk; simp at hkk
              case h_7 => injection q0 with e0 _; exact absurd e0.symm hka
              all_goals (injection q0 with e0 _; exact absurd e0.symm hqa)
            case h_16 => injection q0 with _ q0; injection q0 with _ q0; injection q0 with _ e3; rw [← e3]; simp
            case h_17 => injection q0 with _ q0; injection q0 with _ q0; injection q0 with _ e3; rw [← e3]; simp
            case h_18 => injection q0 with _ q0; injection q0 with _ q0; injection q0 with _ e3; rw [← e3]; simp
            case h_19 => injection q0 with e0 _; rw [← e0] at hkk; simp at hkk
            case h_21 => injection q0 with e0 _; exact absurd e0.symm hka
            case h_7 => injection q0 with e0 _; revert e0; cases isNilS _ <;> intro e0 <;> first | exact absurd e0.symm hqa | exact absurd e0.symm hka
            all_goals (injection q0 with e0 _; exact absurd e0.symm hqa)
          rw [e] at this
          exact hnot.2 this
        obtain ⟨_, fwd⟩ := act_fm (callF := callF) hF (hbig oi.dst hfits) pa1 ⟨hqa, hka⟩ (by
          have : But s ((s.putOb (oi.dst.getD s.n) (s.gen (oi.dst.getD s.n)) ob).setO oi.dst (wrapG wqi vi)) oi.dst := but_setO (t := s.putOb (oi.dst.getD s.n) (s.gen (oi.dst.getD s.n)) ob) hgi rfl _
          exact this.at xai) (fun n hn' e => hnot.1 (e ▸ hn')) hda (v := va)
        refine fin h1 rfl rfl rfl ⟨_, fwd sa ea.eff, ?_⟩
        rw [hs12, e2]
        show (s1.fresh (oi.dst.getD s.n) ob).setO oi.dst (wrapG wqi vi) = (((sa.putOb _ _ ob).setO oi.dst (wrapG wqi vi))).setO oa.dst (wrapG wqa va)
        rw [← comm]
        congr 1
        unfold St.fresh
        rw [hgen, hs1, putOb_setO]
end
end Go.Proofs.AM
