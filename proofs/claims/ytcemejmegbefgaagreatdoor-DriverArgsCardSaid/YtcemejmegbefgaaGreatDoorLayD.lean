/-
  Laws of drawn regions, results, maps and calls over abstract values; each under the hypotheses that it states.
-/
import Derived.Test.YtcemejmegbefgaaGreatDoorLayC
import Derived.MapKept
import Derived.Carry
import Derived.Laws.RangeAny
import Derived.Scope
set_option linter.unusedVariables false
set_option linter.unusedSimpArgs false
namespace Go.Proofs.YtcemejmegbefgaaGreatDoor.Em
open Go.RowKit

section
variable {P : Program}

theorem Oper.frame {o : Oper} {a : Act} {w : World} {K : Act → World → Prop} {Q : Exit → Act → World → Prop} (h : o.wp P a w K Q) :
    o.wp P a w (fun a' w' => K a' w' ∧ ∃ v, a'.tmps = (a.put o.dst v).tmps) Q := by
  unfold Oper.wp at *
  generalize (execOp a.eval o).run P w = r at *
  cases r with
  | ok n w' =>
    cases n <;> simp only [Oper.upon] at h ⊢ <;>
      first
        | exact ⟨h, _, rfl⟩
        | exact Calls.mono h (fun e w'' he => by
            cases e with
            | returned v => exact ⟨he, _, rfl⟩
            | panicked c => exact he
            | outgrown => exact he)
        | exact Rows.mono h (fun _ _ he => ⟨he, _, rfl⟩)
        | exact ⟨h, undef, by simp [Act.put]; cases o.dst <;> rfl⟩
  | halt x w' => cases x <;> simp only [Oper.upon] at h ⊢ <;> exact h

/-- Free operations: they turn nothing, whatever the chain has turned. -/
inductive FL (P : Program) (G : List (List PV) → List (List PV) → List Nat → Prop) (all : List Oper) (cl : List Nat) : List Oper → Nat → List (Nat × PV) → List PV → List (Nat × PV) → Prop
  | nil {i tm} : FL P G all cl [] i tm [] tm
  | free {o os i tm ps tm' p d} (hd : o.dst = some d) (hc : cl.contains i = false) (h : ∀ lo ob L, G lo ob L → OpOk P lo ob L all o tm p) (k : FL P G all cl os (i + 1) ((d, p) :: tm) ps tm') : FL P G all cl (o :: os) i tm (p :: ps) tm'
  | chain {o os i tm ps tm'} (hc : cl.contains i = true) (k : FL P G all cl os (i + 1) tm ps tm') : FL P G all cl (o :: os) i tm (.any :: ps) tm'

/-- What the free operations leave, in the order of the text; those that pass a test. -/
def frees (cl : List Nat) (f : Nat → Bool) : List Oper → Nat → List PV → List (Nat × PV) → List (Nat × PV)
  | o :: os, i, p :: ps, tm => frees cl f os (i + 1) ps (cond (!cl.contains i && f i) (((o.dst.getD 0), p) :: tm) tm)
  | _, _, _, tm => tm

theorem FL.steps {G all cl} : ∀ {os : List Oper} {i0 : Nat} {tm : List (Nat × PV)} {ps : List PV} {tm' : List (Nat × PV)}, FL P G all cl os i0 tm ps tm' →
    ps.length = os.length ∧ (∀ (i : Nat) o, os[i]? = some o → cl.contains (i0 + i) = false → o.dst.isSome = true) ∧
    ∀ (i : Nat) o p, os[i]? = some o → ps[i]? = some p → cl.contains (i0 + i) = false → ∀ lo ob L, G lo ob L → OpOk P lo ob L all o (frees cl (fun _ => true) (os.take i) i0 (ps.take i) tm) p := by
  intro os i0 tm ps tm' h
  induction h with
  | nil => exact ⟨rfl, fun i o h => by simp at h, fun i o p h => by simp at h⟩
  | @free o os i tm ps tm' p d hd hc h k ih =>
    obtain ⟨h1, h2, h3⟩ := ih
    refine ⟨by simp [h1], ?_, ?_⟩
    · intro j x hx hj
      cases j with
      | zero => simp at hx; subst hx; simp [hd]
      | succ j => exact h2 j x (by simpa using hx) (by rw [show i + 1 + j = i + (j + 1) by omega]; exact hj)
    · intro j x q hx hq hj
      cases j with
      | zero =>
        simp only [List.getElem?_cons_zero, Option.some.injEq] at hx hq
        subst hx; subst hq
        simpa [frees] using h
      | succ j =>
        simp only [List.getElem?_cons_succ] at hx hq
        have := h3 j x q hx hq (by rw [show i + 1 + j = i + (j + 1) by omega]; exact hj)
        simp only [List.take_succ_cons, frees, hd, hc, Bool.not_false, Bool.and_self, cond_true, Option.getD_some]
        exact this
  | @chain o os i tm ps tm' hc k ih =>
    obtain ⟨h1, h2, h3⟩ := ih
    refine ⟨by simp [h1], ?_, ?_⟩
    · intro j x hx hj
      cases j with
      | zero => simp only [Nat.add_zero] at hj; rw [hc] at hj; cases hj
      | succ j => exact h2 j x (by simpa using hx) (by rw [show i + 1 + j = i + (j + 1) by omega]; exact hj)
    · intro j x q hx hq hj
      cases j with
      | zero => simp only [Nat.add_zero] at hj; rw [hc] at hj; cases hj
      | succ j =>
        simp only [List.getElem?_cons_succ] at hx hq
        have := h3 j x q hx hq (by rw [show i + 1 + j = i + (j + 1) by omega]; exact hj)
        simp only [List.take_succ_cons, frees, hc, Bool.not_true, Bool.false_and, cond_false]
        exact this

theorem FL.out {G all cl} : ∀ {os : List Oper} {i0 : Nat} {tm : List (Nat × PV)} {ps : List PV} {tm' : List (Nat × PV)}, FL P G all cl os i0 tm ps tm' → tm' = frees cl (fun _ => true) os i0 ps tm := by
  intro os i0 tm ps tm' h
  induction h with
  | nil => rfl
  | @free o os i tm ps tm' p d hd hc h k ih => simp only [frees, hd, hc, Bool.not_false, Bool.and_self, cond_true, Option.getD_some]; exact ih
  | @chain o os i tm ps tm' hc k ih => simp only [frees, hc, Bool.not_true, Bool.false_and, cond_false]; exact ih

theorem frees_none (cl : List Nat) (f : Nat → Bool) : ∀ (os : List Oper) (i0 : Nat) (ps : List PV) (tm : List (Nat × PV)) (t : Nat),
    (∀ (j : Nat) o, os[j]? = some o → cl.contains (i0 + j) = false → f (i0 + j) = true → o.dst.isSome = true ∧ o.dst ≠ some t) → look (frees cl f os i0 ps tm) t = look tm t
  | [], i0, ps, tm, t, _ => by simp [frees]
  | o :: os, i0, [], tm, t, _ => by simp [frees]
  | o :: os, i0, p :: ps, tm, t, h => by
    simp only [frees]
    rw [frees_none cl f os (i0 + 1) ps _ t (fun j x hx hc hf => h (j + 1) x (by simpa using hx) (by rw [← show i0 + 1 + j = i0 + (j + 1) by omega]; exact hc) (by rw [← show i0 + 1 + j = i0 + (j + 1) by omega]; exact hf))]
    cases hb : !cl.contains i0 && f i0 with
    | false => rfl
    | true =>
      simp only [Bool.and_eq_true, Bool.not_eq_true'] at hb
      obtain ⟨h1, h2⟩ := h 0 o (by simp) (by simpa using hb.1) (by simpa using hb.2)
      simp only [cond_true]
      rw [look_cons]
      cases hd : o.dst with
      | none => rw [hd] at h1; cases h1
      | some d =>
        rw [hd] at h2
        rw [if_neg]
        intro e
        simp only [Option.getD_some] at e
        exact h2 (by rw [e])

theorem frees_some (cl : List Nat) (f : Nat → Bool) : ∀ (os : List Oper) (i0 : Nat) (ps : List PV) (tm : List (Nat × PV)) (t j : Nat) (o : Oper) (p : PV),
    (∀ (j : Nat) o, os[j]? = some o → cl.contains (i0 + j) = false → o.dst.isSome = true) → os[j]? = some o → ps[j]? = some p → o.dst = some t → cl.contains (i0 + j) = false → f (i0 + j) = true →
    (∀ (i : Nat) x, os[i]? = some x → x.dst = some t → i = j) → look (frees cl f os i0 ps tm) t = some p
  | [], i0, ps, tm, t, j, o, p, _, h, _, _, _, _, _ => by simp at h
  | o :: os, i0, [], tm, t, j, x, p, _, _, h, _, _, _, _ => by simp at h
  | o :: os, i0, q :: ps, tm, t, 0, x, p, hs, hx, hp, ht, hc, hf, hu => by
    simp only [List.getElem?_cons_zero, Option.some.injEq] at hx hp
    subst hx; subst hp
    simp only [Nat.add_zero] at hc hf
    simp only [frees, hc, hf, Bool.not_false, Bool.and_self, cond_true]
    rw [frees_none, look_cons, ht]
    · simp
    · intro k y hy hcy hfy
      refine ⟨hs (k + 1) y (by simpa using hy) (by rw [← show i0 + 1 + k = i0 + (k + 1) by omega]; exact hcy), fun e => ?_⟩
      have := hu (k + 1) y (by simpa using hy) e
      omega
  | o :: os, i0, q :: ps, tm, t, j + 1, x, p, hs, hx, hp, ht, hc, hf, hu => by
    simp only [List.getElem?_cons_succ] at hx hp
    simp only [frees]
    refine frees_some cl f os (i0 + 1) ps _ t j x p ?_ hx hp ht (by rw [show i0 + 1 + j = i0 + (j + 1) by omega]; exact hc) (by rw [show i0 + 1 + j = i0 + (j + 1) by omega]; exact hf) ?_
    · intro k y hy hcy
      exact hs (k + 1) y (by simpa using hy) (by rw [← show i0 + 1 + k = i0 + (k + 1) by omega]; exact hcy)
    · intro k y hy hyd
      have := hu (k + 1) y (by simpa using hy) hyd
      omega

def incr : List Nat → Bool
  | c :: d :: r => Nat.blt c d && incr (d :: r)
  | _ => true
theorem incr_lt : ∀ (m : List Nat) (c : Nat), incr (c :: m) = true → ∀ j ∈ m, c < j
  | [], c, _, j, hj => by cases hj
  | d :: m, c, h, j, hj => by
    simp only [incr, Bool.and_eq_true] at h
    have hcd : c < d := Nat.le_of_ble_eq_true h.1
    rcases List.mem_cons.1 hj with rfl | hj
    · exact hcd
    · exact Nat.lt_trans hcd (incr_lt m d h.2 j hj)
theorem incr_nodup : ∀ (m : List Nat), incr m = true → m.Nodup
  | [], _ => List.nodup_nil
  | [c], _ => by simp
  | c :: d :: r, h => by
    rw [List.nodup_cons]
    refine ⟨fun hm => Nat.lt_irrefl _ (incr_lt (d :: r) c h c hm), incr_nodup (d :: r) ?_⟩
    simp only [incr, Bool.and_eq_true] at h
    exact h.2
/-- Which of the chain's operations may come next. -/
def nexts (all : List Oper) (cs : List Nat) : List Nat := cs.filter fun c => match all[c]? with | some o => !(cs.any fun d => has o d) | none => false

def drawOkE (all : List Oper) (cl : List Nat) : Bool :=
  (all.zipIdx.all fun (o, i) =>
    o.after.toList.all (fun e => !Region.binds .any e || Nat.blt e.on i) &&
    (looks all o).all (fun t => all.zipIdx.all fun (oj, j) => oj.dst != some t || (Nat.blt j i && has o j && (cl.contains i || !cl.contains j)) || (Nat.blt i j && has oj i)) &&
    all.zipIdx.all fun (oj, j) => Nat.beq i j || oj.dst.isNone || oj.dst != o.dst) &&
  incr cl && cl.all (fun c => match all[c]? with | some o => o.guard.isNone | none => false)

structure DrawFactsE (all : List Oper) (cl : List Nat) : Prop where
  back : ∀ (i : Nat) o, all[i]? = some o → ∀ e ∈ o.after, Region.binds .any e = true → e.on < i
  sees : ∀ (i : Nat) o, all[i]? = some o → ∀ t ∈ looks all o, ∀ (j : Nat) oj, all[j]? = some oj → oj.dst = some t → (j < i ∧ has o j = true ∧ (cl.contains i = true ∨ cl.contains j = false)) ∨ (i < j ∧ has oj i = true)
  uniq : ∀ (i : Nat) o, all[i]? = some o → ∀ (j : Nat) oj, all[j]? = some oj → ∀ t, oj.dst = some t → o.dst = some t → i = j
  con : incr cl = true
  gn : ∀ c ∈ cl, ∃ o, all[c]? = some o ∧ o.guard = none

theorem drawFactsE {all : List Oper} {cl : List Nat} (h : drawOkE all cl = true) : DrawFactsE all cl := by
  unfold drawOkE at h
  simp only [Bool.and_eq_true] at h
  obtain ⟨⟨h, hcon⟩, hgn⟩ := h
  refine ⟨fun i o ho e he hb => ?_, fun i o ho t ht j oj hj hd => ?_, fun i o ho j oj hj t hd hd' => ?_, hcon, fun c hc => ?_⟩
  · have := zipIdx_all h i o ho
    simp only [Bool.and_eq_true, List.all_eq_true] at this
    have := this.1.1 e (by simpa using he)
    simp only [hb, Bool.not_true, Bool.false_or] at this
    exact Nat.le_of_ble_eq_true this
  · have := zipIdx_all h i o ho
    simp only [Bool.and_eq_true] at this
    have := (List.all_eq_true.1 this.1.2) t ht
    have := zipIdx_all this j oj hj
    simp only [hd, bne_self_eq_false, Bool.false_or, Bool.or_eq_true, Bool.and_eq_true] at this
    rcases this with ⟨⟨h1, h2⟩, h3⟩ | ⟨h1, h2⟩
    · exact .inl ⟨Nat.le_of_ble_eq_true h1, h2, h3.imp id (by simp)⟩
    · exact .inr ⟨Nat.le_of_ble_eq_true h1, h2⟩
  · have := zipIdx_all h i o ho
    simp only [Bool.and_eq_true] at this
    have := zipIdx_all this.2 j oj hj
    simp only [hd, hd', bne_self_eq_false, Bool.or_false, Option.isNone_some] at this
    exact Nat.eq_of_beq_eq_true this
  · have := List.all_eq_true.1 hgn c hc
    cases ho : all[c]? with
    | none => rw [ho] at this; cases this
    | some o => rw [ho] at this; exact ⟨o, rfl, by simpa using this⟩

/-- The chain, one operation after the other. -/
def vis (all : List Oper) (cl : List Nat) (ps : List PV) (c : Nat) (tm0 : List (Nat × PV)) : List (Nat × PV) :=
  frees cl (fun j => match all[c]? with | some o => has o j | none => false) all 0 ps (tm0.filter fun x => !(all.zipIdx.any fun (o, j) => !cl.contains j && o.dst == some x.1))

/-- Two names for one state. -/
def Same (nb : Nat) (s s' : AS) : Prop := ∀ (cx cx' : Cx) (a : Act), cx.n.length = nb → Ext cx cx' → InvS cx' s a → ∃ cx'', cx''.w = cx'.w ∧ Ext cx cx'' ∧ InvS cx'' s' a
theorem Same.refl (nb : Nat) (s : AS) : Same nb s s := fun _ cx' _ _ he hi => ⟨cx', rfl, he, hi⟩
theorem Same.trans {nb : Nat} {s s' s'' : AS} (h : Same nb s s') (k : Same nb s' s'') : Same nb s s'' := fun cx cx' a hn he hi => by
  obtain ⟨c1, h1, h2, h3⟩ := h cx cx' a hn he hi
  obtain ⟨c2, h4, h5, h6⟩ := k cx c1 a hn h2 h3
  exact ⟨c2, h4.trans h1, h5, h6⟩

def CHN (P : Program) (G : List (List PV) → List (List PV) → List Nat → Prop) (all : List Oper) (cl : List Nat) (ps : List PV) (nt nb : Nat) (tm0 tmF : List (Nat × PV)) (Q : Exit → AS → Prop) :
    Nat → List Nat → List (Nat × PV) → List (List PV) → List (List PV) → List Nat → Prop
  | 0, cs, ct, lo, ob, L => cs = [] ∧ G lo ob L ∧ ∃ s', Same nb ⟨nt, ct ++ tmF, lo, ob, L⟩ s' ∧ Q .normal s'
  | n + 1, cs, ct, lo, ob, L => cs ≠ [] ∧ G lo ob L ∧ ∀ c ∈ nexts all cs, ∀ o, all[c]? = some o → AOp P o ⟨nt, ct ++ vis all cl ps c tm0, lo, ob, L⟩
      (fun s' => s'.nt = nt ∧ ∃ e, s'.tm = e ++ (ct ++ vis all cl ps c tm0) ∧ (match o.dst with | some d => (look e d).isSome | none => true) = true ∧ (e.all fun x => !(all.zipIdx.any fun (o, j) => !cl.contains j && o.dst == some x.1)) = true ∧ CHN P G all cl ps nt nb tm0 tmF Q n (cs.erase c) (e ++ ct) s'.lo s'.ob s'.L)

structure JE (all : List Oper) (cl : List Nat) (ps : List PV) (nt : Nat) (tm0 ct : List (Nat × PV)) (lo ob : List (List PV)) (L : List Nat) (listed : Array Bool) (cx : Cx) (a : Act) : Prop where
  size : listed.size = all.length
  closed : ∀ (j : Nat) o, all[j]? = some o → listed.getD j false = true → ∀ e ∈ o.after, Region.binds .any e = true → listed.getD e.on false = true
  inv : Inv cx ob lo L
  df : a.defers = []
  sz : a.tmps.size = nt
  done : ∀ (j : Nat) o p d, all[j]? = some o → ps[j]? = some p → o.dst = some d → cl.contains j = false → listed.getD j false = true → Rep cx p (a.tmps.getD d undef)
  chn : ∀ t q, look ct t = some q → Rep cx q (a.tmps.getD t undef)
  cfr : ∀ t q, look ct t = some q → ∀ (j : Nat) o, all[j]? = some o → cl.contains j = false → o.dst ≠ some t
  cdn : ∀ (j : Nat) o d, all[j]? = some o → cl.contains j = true → listed.getD j false = true → o.dst = some d → (look ct d).isSome = true
  rest : ∀ t q, (∀ (j : Nat) o, all[j]? = some o → listed.getD j false = true → o.dst ≠ some t) → look tm0 t = some q → Rep cx q (a.tmps.getD t undef)

theorem look_append : ∀ (a b : List (Nat × PV)) (t : Nat), look (a ++ b) t = (look a t).or (look b t)
  | [], b, t => by simp [look]
  | (k, p) :: a, b, t => by
    rw [List.cons_append, look_cons, look_cons]
    by_cases h : k = t
    · simp [h]
    · rw [if_neg h, if_neg h]; exact look_append a b t
theorem look_filter {f : Nat × PV → Bool} : ∀ {tm : List (Nat × PV)} {t : Nat} {q : PV}, (∀ p, f (t, p) = f (t, q)) → look (tm.filter f) t = some q → look tm t = some q ∧ f (t, q) = true
  | [], t, q, _, h => by simp [look] at h
  | (k, p) :: r, t, q, hf, h => by
    rw [look_cons]
    by_cases e : k = t
    · subst e
      rw [if_pos rfl]
      cases hb : f (k, p) with
      | true =>
        rw [List.filter_cons_of_pos hb, look_cons, if_pos rfl] at h
        cases h
        exact ⟨rfl, hb⟩
      | false =>
        rw [List.filter_cons_of_neg (by simp [hb])] at h
        have h2 := (look_filter hf h).2
        rw [← hf p, hb] at h2; cases h2
    · rw [if_neg e]
      cases hb : f (k, p) with
      | true =>
        rw [List.filter_cons_of_pos hb, look_cons, if_neg e] at h
        exact look_filter hf h
      | false =>
        rw [List.filter_cons_of_neg (by simp [hb])] at h
        exact look_filter hf h

theorem PL.drawE {G : List (List PV) → List (List PV) → List Nat → Prop} {all : List Oper} {cl : List Nat} {nt : Nat} {Q : Exit → AS → Prop} {tm : List (Nat × PV)} {ps : List PV} {tmF : List (Nat × PV)} {lo ob : List (List PV)} {L : List Nat} (h : FL P G all cl all 0 tm ps tmF)
    (hdo : (all.all fun o => match o.dst with | some d => Nat.blt d nt | none => true) = true) (hgo : gOk nt all all = true) (hdr : drawOkE all cl = true) (cx : Cx) (a : Act) (hi : InvS cx ⟨nt, tm, lo, ob, L⟩ a)
    (hch : CHN P G all cl ps nt lo.length tm tmF Q cl.length cl [] lo ob L) :
    wpAny P .any all.toArray (fun e a' w' => ∃ cx' s', cx'.w = w' ∧ Ext cx cx' ∧ InvS cx' s' a' ∧ Q e s') all.length (Array.replicate all.length false) a cx.w := by
  obtain ⟨hlen, hsome0, hops0⟩ := h.steps
  have hout := h.out
  have hsome : ∀ (i : Nat) o, all[i]? = some o → cl.contains i = false → o.dst.isSome = true := fun i o ho hc => hsome0 i o ho (by rw [Nat.zero_add]; exact hc)
  have hops : ∀ (i : Nat) o p, all[i]? = some o → ps[i]? = some p → cl.contains i = false → ∀ lo ob L, G lo ob L → OpOk P lo ob L all o (frees cl (fun _ => true) (all.take i) 0 (ps.take i) tm) p :=
    fun i o p ho hp hc => hops0 i o p ho hp (by rw [Nat.zero_add]; exact hc)
  have F := drawFactsE hdr
  have dlt : ∀ o ∈ all, ∀ d, o.dst = some d → d < nt := by
    intro o ho d hd
    have := List.all_eq_true.1 hdo o ho
    simp only [hd] at this
    exact Nat.le_of_ble_eq_true this
  have glt : ∀ os, gOk nt all os = true → ∀ o ∈ os, ∀ j want t, o.guard = some (j, want) → gdst all j = some t → t < nt := by
    intro os hos
    induction os with
    | nil => intro o ho; cases ho
    | cons x xs ih =>
      intro o ho j want t hg hj
      simp only [gOk, Bool.and_eq_true] at hos
      rcases List.mem_cons.1 ho with rfl | ho
      · have := hos.1
        simp only [hg, hj] at this
        exact Nat.le_of_ble_eq_true this
      · exact ih hos.2 o ho j want t hg hj
  have ilt : ∀ {i : Nat} {o : Oper}, all[i]? = some o → i < all.length := by
    intro i o ho
    rcases Nat.lt_or_ge i all.length with h' | h'
    · exact h'
    · rw [List.getElem?_eq_none h'] at ho; cases ho
  have pget : ∀ (j : Nat) o, all[j]? = some o → ∃ p, ps[j]? = some p := by
    intro j o ho
    have : j < ps.length := by rw [hlen]; exact ilt ho
    exact ⟨_, List.getElem?_eq_getElem this⟩
  have cfree : ∀ {x : Nat × PV}, (!(all.zipIdx.any fun (o, j) => !cl.contains j && o.dst == some x.1)) = true → ∀ (j : Nat) o, all[j]? = some o → cl.contains j = false → o.dst ≠ some x.1 := by
    intro x hx j o ho hc e
    simp only [Bool.not_eq_true'] at hx
    have hm : (o, j) ∈ all.zipIdx := by rw [List.mem_zipIdx_iff_getElem?]; exact ho
    have := List.any_eq_false.1 hx _ hm
    simp [e] at this
    simp at hc
    exact hc this
  -- the end
  have fin : ∀ (listed : Array Bool) ct lo' ob' L' cx' a', Ext cx cx' → JE all cl ps nt tm ct lo' ob' L' listed cx' a' → (∃ s', Same lo.length ⟨nt, ct ++ tmF, lo', ob', L'⟩ s' ∧ Q .normal s') → (∀ j, j < all.length → listed.getD j false = true) →
      ∃ cx1 s', cx1.w = cx'.w ∧ Ext cx cx1 ∧ InvS cx1 s' a' ∧ Q .normal s' := by
    intro listed ct lo' ob' L' cx' a' he hJ hC hall
    obtain ⟨sF, hsame, hQ⟩ := hC
    suffices hI : InvS cx' ⟨nt, ct ++ tmF, lo', ob', L'⟩ a' by
      obtain ⟨cx2, h1, h2, h3⟩ := hsame cx cx' a' hi.inv.olo.len he hI
      exact ⟨cx2, sF, h1, h2, h3, hQ⟩
    refine ⟨hJ.inv, hJ.df, hJ.sz, fun t q hq => ?_⟩
    simp only at hq
    rw [look_append] at hq
    cases hct : look ct t with
    | some q' =>
      rw [hct] at hq
      simp only [Option.some_or, Option.some.injEq] at hq
      subst hq
      exact hJ.chn t _ hct
    | none =>
      rw [hct] at hq
      simp only [Option.none_or] at hq
      rw [hout] at hq
      by_cases hex : ∃ (j : Nat) (o : Oper), all[j]? = some o ∧ o.dst = some t ∧ cl.contains j = false
      · obtain ⟨j, o, ho, hd, hc⟩ := hex
        obtain ⟨p, hp⟩ := pget j o ho
        rw [frees_some cl _ all 0 ps tm t j o p (fun i x hx hcx => hsome i x hx (by rw [Nat.zero_add] at hcx; exact hcx)) ho hp hd (by rw [Nat.zero_add]; exact hc) rfl (fun i x hx hxd => F.uniq i x hx j o ho t hd hxd)] at hq
        cases hq
        exact hJ.done j o _ t ho hp hd hc (hall j (ilt ho))
      · rw [frees_none cl _ all 0 ps tm t (fun j o ho hc _ => ⟨hsome j o ho (by rw [Nat.zero_add] at hc; exact hc), fun e => hex ⟨j, o, ho, e, by rw [Nat.zero_add] at hc; exact hc⟩⟩)] at hq
        by_cases hex2 : ∃ (j : Nat) (o : Oper), all[j]? = some o ∧ o.dst = some t
        · obtain ⟨j, o, ho, hd⟩ := hex2
          cases hc : cl.contains j with
          | false => exact absurd ⟨j, o, ho, hd, hc⟩ hex
          | true =>
            have := hJ.cdn j o t ho hc (hall j (ilt ho)) hd
            rw [hct] at this; cases this
        · exact hJ.rest t q (fun j o ho _ e => hex2 ⟨j, o, ho, e⟩) hq
  have hG : ∀ {n cs ct lo' ob L}, CHN P G all cl ps nt lo.length tm tmF Q n cs ct lo' ob L → G lo' ob L := by
    intro n cs ct lo' ob L h
    cases n with
    | zero => exact h.2.1
    | succ n => exact h.2.1
  have key : ∀ (fuel : Nat) (listed : Array Bool) ct n cs lo' ob' L' cx' a', Ext cx cx' → JE all cl ps nt tm ct lo' ob' L' listed cx' a' → CHN P G all cl ps nt lo.length tm tmF Q n cs ct lo' ob' L' →
      (cs.Nodup ∧ (∀ j ∈ cs, cl.contains j = true ∧ listed.getD j false = false) ∧ ∀ j, cl.contains j = true → j ∉ cs → listed.getD j false = true) → listed.toList.count false = fuel →
      wpAny P .any all.toArray (fun e a' w' => ∃ cx' s', cx'.w = w' ∧ Ext cx cx' ∧ InvS cx' s' a' ∧ Q e s') fuel listed a' cx'.w := by
    intro fuel
    have end_ : ∀ (listed : Array Bool) ct n cs lo' ob' L' cx' a', Ext cx cx' → JE all cl ps nt tm ct lo' ob' L' listed cx' a' → CHN P G all cl ps nt lo.length tm tmF Q n cs ct lo' ob' L' →
        (cs.Nodup ∧ (∀ j ∈ cs, cl.contains j = true ∧ listed.getD j false = false) ∧ ∀ j, cl.contains j = true → j ∉ cs → listed.getD j false = true) → (∀ j, j < all.length → listed.getD j false = true) →
        ∃ cx1 s', cx1.w = cx'.w ∧ Ext cx cx1 ∧ InvS cx1 s' a' ∧ Q .normal s' := by
      intro listed ct n cs lo' ob' L' cx' a' he hJ hC ⟨hnd, hu, hl⟩ hall
      cases n with
      | zero => exact fin listed ct lo' ob' L' cx' a' he hJ hC.2.2 hall
      | succ n =>
        cases cs with
        | nil => exact absurd rfl hC.1
        | cons c cs =>
          obtain ⟨h0, h2⟩ := hu c List.mem_cons_self
          obtain ⟨o, ho, _⟩ := F.gn c (by simpa using h0)
          have h1 := hall c (ilt ho)
          rw [h1] at h2; cases h2
    induction fuel with
    | zero =>
      intro listed ct n cs lo' ob' L' cx' a' he hJ hC hcs hc
      have hall : ∀ j, j < all.length → listed.getD j false = true := by
        intro j hj
        have hj' : j < listed.size := by rw [hJ.size]; exact hj
        cases hb : listed.getD j false with
        | true => rfl
        | false =>
          exfalso
          have hmem : false ∈ listed.toList := by
            have : listed[j] = false := by simpa [hj'] using hb
            rw [← this]; exact Array.getElem_mem_toList hj'
          have := List.count_pos_iff.2 hmem
          omega
      refine ⟨?_, end_ listed ct n cs lo' ob' L' cx' a' he hJ hC hcs hall⟩
      refine List.eq_nil_iff_forall_not_mem.2 fun i hir => ?_
      obtain ⟨h0, o, ho, _⟩ := mem_ready.1 hir
      rw [List.getElem?_toArray] at ho
      have hil := ilt ho
      have := hall i hil
      have hi' : i < listed.size := by rw [hJ.size]; exact hil
      simp [hi'] at h0 this
      rw [this] at h0; cases h0
    | succ fuel ih =>
      intro listed ct n cs lo' ob' L' cx' a' he hJ hC hcs hc
      constructor
      · intro hr
        refine end_ listed ct n cs lo' ob' L' cx' a' he hJ hC hcs ?_
        intro j
        induction j using Nat.strongRecOn with
        | _ j ihj =>
          intro hj
          cases hb : listed.getD j false with
          | true => rfl
          | false =>
            exfalso
            have hj' : j < listed.size := by rw [hJ.size]; exact hj
            have : j ∈ Region.ready .any all.toArray listed := by
              rw [mem_ready]
              refine ⟨by simp [hj'] at hb ⊢; exact hb, all[j], by simp [hj], fun e hee hbe => ?_⟩
              have := F.back j all[j] (List.getElem?_eq_getElem hj) e hee hbe
              exact ihj e.on this (by omega)
            rw [hr] at this
            cases this
      · intro i hir
        obtain ⟨h0, o, ho, hafter⟩ := mem_ready.1 hir
        rw [List.getElem?_toArray] at ho
        have hil := ilt ho
        have hi' : i < listed.size := by rw [hJ.size]; exact hil
        have hun : listed.getD i false = false := by simp [hi'] at h0 ⊢; exact h0
        have hcount : (listed.setIfInBounds i true).toList.count false = fuel := by
          rw [Array.toList_setIfInBounds, List.count_set (by simpa using hi')]
          have : listed.toList[i]'(by simpa using hi') = false := by simpa [hi'] using hun
          rw [this]
          have h9 : 0 < listed.toList.count false := List.count_pos_iff.2 (by rw [← this]; exact List.getElem_mem _)
          simp only [Array.count_toList] at hc h9
          simp
          omega
        have hclosed : ∀ (j : Nat) oj, all[j]? = some oj → (listed.setIfInBounds i true).getD j false = true → ∀ e ∈ oj.after, Region.binds .any e = true → (listed.setIfInBounds i true).getD e.on false = true := by
          intro j oj hoj hl e hee heb
          by_cases hji : j = i
          · subst hji
            rw [ho] at hoj
            cases hoj
            exact getD_set_true (hafter e hee heb)
          · rw [getD_set_ne false (Ne.symm hji)] at hl
            exact getD_set_true (hJ.closed j oj hoj hl e hee heb)
        obtain ⟨hnd, hcu, hcl⟩ := hcs
        unfold wpOp
        simp only [List.getElem?_toArray, ho]
        cases hci : cl.contains i with
        | false =>
          obtain ⟨p, hp⟩ := pget i o ho
          obtain ⟨d, hd⟩ := Option.isSome_iff_exists.1 (hsome i o ho hci)
          have vis' : ∀ t ∈ looks all o, ∀ q, look (frees cl (fun _ => true) (all.take i) 0 (ps.take i) tm) t = some q → Rep cx' q (a'.tmps.getD t undef) := by
            intro t ht q hq
            have hst : ∀ (j : Nat) x, (all.take i)[j]? = some x → all[j]? = some x := fun j x hx => by
              rw [List.getElem?_take] at hx
              split at hx
              · exact hx
              · cases hx
            by_cases hex : ∃ (j : Nat) (oj : Oper), all[j]? = some oj ∧ oj.dst = some t
            · obtain ⟨j, oj, hoj, hdj⟩ := hex
              rcases F.sees i o ho t ht j oj hoj hdj with ⟨hji, hh, hcc⟩ | ⟨hij, hh⟩
              · have hcj : cl.contains j = false := hcc.resolve_left (by rw [hci]; simp)
                obtain ⟨e, hee, heo, heb⟩ := has_edge hh
                have hl := hafter e hee heb
                rw [heo] at hl
                obtain ⟨pj, hpj⟩ := pget j oj hoj
                rw [frees_some cl _ (all.take i) 0 (ps.take i) tm t j oj pj (fun m x hx hcx => hsome m x (hst m x hx) (by rw [Nat.zero_add] at hcx; exact hcx)) (by rw [List.getElem?_take, if_pos hji]; exact hoj) (by rw [List.getElem?_take, if_pos hji]; exact hpj) hdj
                  (by rw [Nat.zero_add]; exact hcj) rfl (fun m x hx hxd => F.uniq m x (hst m x hx) j oj hoj t hdj hxd)] at hq
                cases hq
                exact hJ.done j oj _ t hoj hpj hdj hcj hl
              · rw [frees_none cl _ (all.take i) 0 (ps.take i) tm t (fun m x hx hcx _ => ⟨hsome m x (hst m x hx) (by rw [Nat.zero_add] at hcx; exact hcx), fun e => by
                  have := F.uniq m x (hst m x hx) j oj hoj t hdj e
                  subst this
                  rw [List.getElem?_take] at hx
                  split at hx
                  · omega
                  · cases hx⟩)] at hq
                have hjun : listed.getD j false = true → False := fun hlj => by
                  obtain ⟨e', hee, heo, heb⟩ := has_edge hh
                  have := hJ.closed j oj hoj hlj e' hee heb
                  rw [heo, hun] at this
                  cases this
                refine hJ.rest t q (fun m x hx hlm e => ?_) hq
                have := F.uniq m x hx j oj hoj t hdj e
                subst this
                exact hjun hlm
            · rw [frees_none cl _ (all.take i) 0 (ps.take i) tm t (fun m x hx hcx _ => ⟨hsome m x (hst m x hx) (by rw [Nat.zero_add] at hcx; exact hcx), fun e => hex ⟨m, x, hst m x hx, e⟩⟩)] at hq
              exact hJ.rest t q (fun m x hx _ e => hex ⟨m, x, hx, e⟩) hq
          refine hops i o p ho hp hci lo' ob' L' (hG hC) cx' a' _ _ hJ.inv ?_ ?_ ?_
          · intro x hx q hq
            cases x with
            | tmp t =>
              refine vis' t ?_ q hq
              unfold looks
              exact List.mem_append_left _ (List.mem_filterMap.2 ⟨_, hx, rfl⟩)
            | const v => exact evC_ok hq
            | func f => simp only [Em.ev, Option.some.injEq] at hq; subst hq; simp [Rep, Reps, Act.eval]
            | global g => simp only [Em.ev, Option.some.injEq] at hq; subst hq; simp [Rep, Act.eval]
          · intro j want t hg hj q hq
            refine ⟨vis' t ?_ q hq, ?_⟩
            · unfold looks
              refine List.mem_append_right _ ?_
              simp only [hg, hj, Option.toList_some, List.mem_singleton]
            · rw [hJ.sz]
              exact glt all hgo o (List.mem_of_getElem? ho) j want t hg hj
          · intro v cx'' he' hi'' hv
            have hdn := dlt o (List.mem_of_getElem? ho) d hd
            have htmp : ∀ t, d ≠ t → (a'.put o.dst v).tmps.getD t undef = a'.tmps.getD t undef := fun t hne => by
              rw [hd]; simp [Act.put, Array.getElem?_setIfInBounds_ne hne]
            refine ih _ ct n cs lo' ob' L' cx'' _ (he.trans he') ?_ hC ⟨hnd, fun j hj => ⟨(hcu j hj).1, ?_⟩, fun j hj hn => getD_set_true (hcl j hj hn)⟩ hcount
            · refine ⟨by simp [hJ.size], hclosed, hi'', by rw [hd]; exact hJ.df, by rw [hd]; simpa [Act.put] using hJ.sz, ?_, ?_, hJ.cfr, ?_, ?_⟩
              · intro j oj pj dj hoj hpj hdj hcj hl
                by_cases hji : j = i
                · subst hji
                  rw [ho] at hoj
                  cases hoj
                  rw [hp] at hpj
                  cases hpj
                  rw [hd] at hdj
                  cases hdj
                  rw [hd]
                  have : (a'.put (some d) v).tmps.getD d undef = v := by simp [Act.put, hJ.sz, hdn]
                  rw [this]; exact hv
                · rw [getD_set_ne false (Ne.symm hji)] at hl
                  rw [htmp dj (fun e => hji (F.uniq j oj hoj i o ho dj (by rw [hd, e]) hdj))]
                  exact (hJ.done j oj pj dj hoj hpj hdj hcj hl).ext he'
              · intro t q hq
                rw [htmp t (fun e => hJ.cfr t q hq i o ho hci (by rw [hd, e]))]
                exact (hJ.chn t q hq).ext he'
              · intro j oj dj hoj hcj hl hdj
                have hji : j ≠ i := fun e => by subst e; rw [hci] at hcj; cases hcj
                rw [getD_set_ne false (Ne.symm hji)] at hl
                exact hJ.cdn j oj dj hoj hcj hl hdj
              · intro t q hn hq
                rw [htmp t (fun e => hn i o ho (by simp [hi']) (by rw [hd, e]))]
                exact (hJ.rest t q (fun j oj hoj hl => hn j oj hoj (getD_set_true hl)) hq).ext he'
            · have hji : j ≠ i := fun e => by
                subst e
                have := (hcu j hj).1
                rw [hci] at this; cases this
              rw [getD_set_ne false (Ne.symm hji)]
              exact (hcu j hj).2
        | true =>
          have hics : i ∈ cs := by
            by_cases h : i ∈ cs
            · exact h
            · have := hcl i hci h
              rw [hun] at this; cases this
          have hnx : i ∈ nexts all cs := by
            refine List.mem_filter.2 ⟨hics, ?_⟩
            simp only [ho, Bool.not_eq_true']
            refine List.any_eq_false.2 fun d hd hh => ?_
            obtain ⟨e, hee, heo, heb⟩ := has_edge hh
            have := hafter e hee heb
            rw [heo, (hcu d hd).2] at this
            cases this
          cases n with
          | zero => rw [hC.1] at hics; cases hics
          | succ n =>
            obtain ⟨og, hog, hgd⟩ := F.gn i (by simpa using hci)
            rw [ho] at hog
            cases hog
            rw [if_pos (by simp [Region.wanted, hgd])]
            have hS : InvS cx' ⟨nt, ct ++ vis all cl ps i tm, lo', ob', L'⟩ a' := by
              refine ⟨hJ.inv, hJ.df, hJ.sz, fun t q hq => ?_⟩
              simp only at hq
              rw [look_append] at hq
              cases hct : look ct t with
              | some q' =>
                rw [hct] at hq
                simp only [Option.some_or, Option.some.injEq] at hq
                subst hq
                exact hJ.chn t _ hct
              | none =>
                rw [hct] at hq
                simp only [Option.none_or] at hq
                unfold vis at hq
                by_cases hex : ∃ (j : Nat) (oj : Oper), all[j]? = some oj ∧ oj.dst = some t ∧ cl.contains j = false ∧ has o j = true
                · obtain ⟨j, oj, hoj, hdj, hcj, hh⟩ := hex
                  obtain ⟨pj, hpj⟩ := pget j oj hoj
                  rw [frees_some cl _ all 0 ps _ t j oj pj (fun m x hx hcx => hsome m x hx (by rw [Nat.zero_add] at hcx; exact hcx)) hoj hpj hdj (by rw [Nat.zero_add]; exact hcj) (by rw [Nat.zero_add]; simp only [ho]; exact hh) (fun m x hx hxd => F.uniq m x hx j oj hoj t hdj hxd)] at hq
                  cases hq
                  obtain ⟨e, hee, heo, heb⟩ := has_edge hh
                  have hl := hafter e hee heb
                  rw [heo] at hl
                  exact hJ.done j oj _ t hoj hpj hdj hcj hl
                · rw [frees_none cl _ all 0 ps _ t (fun m x hx hcx hfx => ⟨hsome m x hx (by rw [Nat.zero_add] at hcx; exact hcx), fun e => hex ⟨m, x, hx, e, by rw [Nat.zero_add] at hcx; exact hcx, by rw [Nat.zero_add] at hfx; simp only [ho] at hfx; exact hfx⟩⟩)] at hq
                  obtain ⟨hq1, hq2⟩ := look_filter (fun _ => rfl) hq
                  have hnf := cfree (x := (t, q)) hq2
                  refine hJ.rest t q (fun j oj hoj hl e => ?_) hq1
                  cases hcj : cl.contains j with
                  | false => exact hnf j oj hoj hcj e
                  | true =>
                    have := hJ.cdn j oj t hoj hcj hl e
                    rw [hct] at this; cases this
            refine .inl (wp_monoQ (Oper.wp_mono ?_ (Oper.frame (hC.2.2 i hnx o ho cx' a' hS))))
            rintro a'' w'' ⟨⟨cx'', s'', rfl, he', hi'', hnt, e, hst, hed, hef, hC'⟩, v, hfr⟩
            have htmp : ∀ t, o.dst ≠ some t → a''.tmps.getD t undef = a'.tmps.getD t undef := fun t hne => by
              rw [hfr]
              cases hd : o.dst with
              | none => simp [Act.put]
              | some d =>
                have : d ≠ t := fun e => hne (by rw [hd, e])
                simp [Act.put, Array.getElem?_setIfInBounds_ne this]
            refine ih _ (e ++ ct) n (cs.erase i) s''.lo s''.ob s''.L cx'' a'' (he.trans he') ?_ hC' ⟨hnd.erase i, fun j hj => ?_, fun j hj hn => ?_⟩ hcount
            · refine ⟨by simp [hJ.size], hclosed, hi''.inv, hi''.df, by rw [hi''.sz, hnt], ?_, ?_, ?_, ?_, ?_⟩
              · intro j oj pj dj hoj hpj hdj hcj hl
                have hji : j ≠ i := fun e => by subst e; rw [hci] at hcj; cases hcj
                rw [getD_set_ne false (Ne.symm hji)] at hl
                rw [htmp dj (fun e => hji (F.uniq j oj hoj i o ho dj e hdj))]
                exact (hJ.done j oj pj dj hoj hpj hdj hcj hl).ext he'
              · intro t q hq
                refine hi''.tm t q ?_
                rw [hst, ← List.append_assoc, look_append, hq]; rfl
              · intro t q hq j oj hoj hcj
                rw [look_append] at hq
                cases hle : look e t with
                | some q' => exact cfree (x := (t, q')) (List.all_eq_true.1 hef _ (look_mem hle)) j oj hoj hcj
                | none =>
                  rw [hle] at hq
                  exact hJ.cfr t q (by simpa using hq) j oj hoj hcj
              · intro j oj dj hoj hcj hl hdj
                rw [look_append]
                by_cases hji : j = i
                · subst hji
                  rw [ho] at hoj
                  cases hoj
                  rw [hdj] at hed
                  simp only at hed
                  cases hle : look e dj with
                  | some q' => rfl
                  | none => rw [hle] at hed; cases hed
                · rw [getD_set_ne false (Ne.symm hji)] at hl
                  have := hJ.cdn j oj dj hoj hcj hl hdj
                  cases hle : look e dj with
                  | some q' => rfl
                  | none => simpa using this
              · intro t q hn hq
                rw [htmp t (hn i o ho (by simp [hi']))]
                exact (hJ.rest t q (fun j oj hoj hl => hn j oj hoj (getD_set_true hl)) hq).ext he'
            · have hj1 := (List.Nodup.mem_erase_iff hnd).1 hj
              refine ⟨(hcu j hj1.2).1, ?_⟩
              rw [getD_set_ne false (Ne.symm hj1.1)]
              exact (hcu j hj1.2).2
            · by_cases hji : j = i
              · subst hji; simp [hi']
              · exact getD_set_true (hcl j hj (fun h => hn ((List.Nodup.mem_erase_iff hnd).2 ⟨hji, h⟩)))
  have hrep : ∀ j, (Array.replicate all.length false).getD j false = false := by
    intro j
    by_cases hj : j < all.length <;> simp [hj]
  refine key all.length _ [] cl.length cl lo ob L cx a (Ext.refl cx) ⟨by simp, fun j o _ hl => absurd hl (by rw [hrep]; simp), hi.inv, hi.df, hi.sz, fun j o p d _ _ _ _ hl => absurd hl (by rw [hrep]; simp), fun t q h => by simp [look] at h, fun t q h => by simp [look] at h, fun j o d _ _ hl => absurd hl (by rw [hrep]; simp), fun t q _ hq => hi.tm t q hq⟩ hch ⟨incr_nodup cl F.con, fun j hj => ⟨by simpa using hj, hrep j⟩, fun j hj hn => absurd (by simpa using hj) hn⟩ (by simp)

theorem a_regde {id : Nat} {all : List Oper} {nt : Nat} {tm tmF : List (Nat × PV)} {lo ob : List (List PV)} {L : List Nat} {Q : Exit → AS → Prop} (G : List (List PV) → List (List PV) → List Nat → Prop) (cl : List Nat) {ps : List PV} (hm : P.follows .mixedOrders = true)
    (h : FL P G all cl all 0 tm ps tmF) (hdo : (all.all fun o => match o.dst with | some d => Nat.blt d nt | none => true) = true) (hgo : gOk nt all all = true) (hdr : drawOkE all cl = true)
    (hch : CHN P G all cl ps nt lo.length tm tmF Q cl.length cl [] lo ob L) : AWP P (.region id all.toArray true) ⟨nt, tm, lo, ob, L⟩ Q := by
  intro cx a hi
  refine wp_region_any hm ?_
  have e := drewExt cx
  have hi' : InvS { cx with w := cx.w.drew } ⟨nt, tm, lo, ob, L⟩ a := ⟨hi.inv.drew, hi.df, hi.sz, fun t p hp => (hi.tm t p hp).ext e⟩
  have := PL.drawE h hdo hgo hdr _ a hi' hch
  have hmono : ∀ (n : Nat) (l : Array Bool) (a : Act) (w : World), wpAny P .any all.toArray (fun e a' w' => ∃ cx' s', cx'.w = w' ∧ Ext { cx with w := cx.w.drew } cx' ∧ InvS cx' s' a' ∧ Q e s') n l a w →
      wpAny P .any all.toArray (fun e a' w' => ∃ cx' s', cx'.w = w' ∧ Ext cx cx' ∧ InvS cx' s' a' ∧ Q e s') n l a w := by
    have hQ : ∀ e' a' w', (∃ cx' s', cx'.w = w' ∧ Ext { cx with w := cx.w.drew } cx' ∧ InvS cx' s' a' ∧ Q e' s') → ∃ cx' s', cx'.w = w' ∧ Ext cx cx' ∧ InvS cx' s' a' ∧ Q e' s' := by
      rintro e' a' w' ⟨cx', s', h1, h2, h3, h4⟩
      exact ⟨cx', s', h1, e.trans h2, h3, h4⟩
    intro n
    induction n with
    | zero => intro l a w h; exact ⟨h.1, hQ _ _ _ h.2⟩
    | succ n ih =>
      intro l a w h
      refine ⟨fun hr => hQ _ _ _ (h.1 hr), fun i hi => ?_⟩
      have h2 := h.2 i hi
      have h3 := wpOps_mono (P := P) (ops := all.toArray) hQ
      unfold wpOp at h2 ⊢
      split
      · rename_i ho; simp only [ho] at h2; exact ih _ _ _ h2
      · rename_i o ho
        simp only [ho] at h2
        split
        · rename_i hw
          simp only [hw, if_true] at h2
          rcases h2 with h2 | ⟨h4, h5⟩
          · refine .inl ?_
            unfold Oper.wp at *
            generalize (execOp a.eval o).run P w = r at *
            cases r with
            | ok m w' =>
              cases m <;> simp only [Oper.upon] at h2 ⊢ <;>
                first
                  | exact ih _ _ _ h2
                  | exact Calls.mono h2 (fun e w'' he => by
                      cases e with
                      | returned v => exact ih _ _ _ he
                      | panicked c => exact hQ _ _ _ he
                      | outgrown => obtain ⟨a0, w0, h0⟩ := he; exact ⟨a0, w0, hQ _ _ _ h0⟩)
                  | exact Rows.mono h2 (fun _ _ he => ih _ _ _ he)
            | halt x w' => cases x <;> simp only [Oper.upon] at h2 ⊢ <;> first | exact hQ _ _ _ h2 | exact h2
          · obtain ⟨a0, w0, h0⟩ := h5
            exact .inr ⟨h4, a0, w0, hQ _ _ _ h0⟩
        · rename_i hw; simp only [hw] at h2; exact ih _ _ _ h2
  simpa using hmono _ _ _ _ this

section
variable {G : List (List PV) → List (List PV) → List Nat → Prop} {all : List Oper} {cl : List Nat} {ps : List PV} {nt nb n : Nat} {tm0 tmF : List (Nat × PV)} {Q : Exit → AS → Prop} {cs : List Nat} {ct : List (Nat × PV)} {lo ob : List (List PV)} {L : List Nat}

theorem ch_nil (hG : G lo ob L) (h : Q .normal ⟨nt, ct ++ tmF, lo, ob, L⟩) : CHN P G all cl ps nt nb tm0 tmF Q 0 [] ct lo ob L := ⟨rfl, hG, _, Same.refl _ _, h⟩
theorem ch_same {s' : AS} (hG : G lo ob L) (hs : Same nb ⟨nt, ct ++ tmF, lo, ob, L⟩ s') (h : Q .normal s') : CHN P G all cl ps nt nb tm0 tmF Q 0 [] ct lo ob L := ⟨rfl, hG, _, hs, h⟩
theorem ch_e {c : Nat} {o : Oper} (hG : G lo ob L) (ho : all[c]? = some o) (hnx : nexts all (c :: cs) = [c]) (h : AOp P o ⟨nt, ct ++ vis all cl ps c tm0, lo, ob, L⟩
      (fun s' => s'.nt = nt ∧ ∃ e, s'.tm = e ++ (ct ++ vis all cl ps c tm0) ∧ (match o.dst with | some d => (look e d).isSome | none => true) = true ∧ (e.all fun x => !(all.zipIdx.any fun (o, j) => !cl.contains j && o.dst == some x.1)) = true ∧ CHN P G all cl ps nt nb tm0 tmF Q n cs (e ++ ct) s'.lo s'.ob s'.L)) :
    CHN P G all cl ps nt nb tm0 tmF Q (n + 1) (c :: cs) ct lo ob L :=
  ⟨by simp, hG, fun c' hc' o' ho' => by
    rw [hnx] at hc'
    have : c' = c := by simpa using hc'
    subst this
    rw [ho] at ho'; cases ho'
    rw [List.erase_cons_head]
    exact h⟩
theorem ch_o {c d : Nat} {op : Op} {ty : TypeId} {pos : String} {aft : Array Edge} {p : PV} (hG : G lo ob L) (ho : all[c]? = some ⟨some d, op, ty, pos, aft, none⟩) (hnx : nexts all (c :: cs) = [c]) (h : POp P lo ob L ⟨some d, op, ty, pos, aft, none⟩ (ct ++ vis all cl ps c tm0) p)
    (hn : Nat.blt d nt = true) (hf : (!(all.zipIdx.any fun (o, j) => !cl.contains j && o.dst == some d)) = true) (k : CHN P G all cl ps nt nb tm0 tmF Q n cs ((d, p) :: ct) lo ob L) :
    CHN P G all cl ps nt nb tm0 tmF Q (n + 1) (c :: cs) ct lo ob L := by
  refine ch_e hG ho hnx ?_
  intro cx a hi
  refine Oper.wp_mono ?_ (h cx a hi.inv (fun x _ q hq => hi.ev hq))
  rintro a' w' ⟨v, cx', rfl, rfl, h1, h2, h3⟩
  refine ⟨cx', ⟨nt, (d, p) :: (ct ++ vis all cl ps c tm0), lo, ob, L⟩, rfl, h1, hi.put h1 h2 (Nat.le_of_ble_eq_true hn) h3, rfl, [(d, p)], rfl, by simp [look_cons], by simpa using hf, k⟩
/-- Two that may come in either order. -/
theorem ch_2 {c d : Nat} {o : Oper} {o' : Oper} (hG : G lo ob L) (ho : all[c]? = some o) (ho' : all[d]? = some o') (hcd : (c == d) = false) (hnx : nexts all (c :: d :: cs) = [c, d])
    (h : AOp P o ⟨nt, ct ++ vis all cl ps c tm0, lo, ob, L⟩
      (fun s' => s'.nt = nt ∧ ∃ e, s'.tm = e ++ (ct ++ vis all cl ps c tm0) ∧ (match o.dst with | some d => (look e d).isSome | none => true) = true ∧ (e.all fun x => !(all.zipIdx.any fun (o, j) => !cl.contains j && o.dst == some x.1)) = true ∧ CHN P G all cl ps nt nb tm0 tmF Q n (d :: cs) (e ++ ct) s'.lo s'.ob s'.L))
    (h' : AOp P o' ⟨nt, ct ++ vis all cl ps d tm0, lo, ob, L⟩
      (fun s' => s'.nt = nt ∧ ∃ e, s'.tm = e ++ (ct ++ vis all cl ps d tm0) ∧ (match o'.dst with | some d => (look e d).isSome | none => true) = true ∧ (e.all fun x => !(all.zipIdx.any fun (o, j) => !cl.contains j && o.dst == some x.1)) = true ∧ CHN P G all cl ps nt nb tm0 tmF Q n (c :: cs) (e ++ ct) s'.lo s'.ob s'.L)) :
    CHN P G all cl ps nt nb tm0 tmF Q (n + 1) (c :: d :: cs) ct lo ob L :=
  ⟨by simp, hG, fun x hx ox hox => by
    rw [hnx] at hx
    rcases List.mem_cons.1 hx with rfl | hx
    · rw [ho] at hox; cases hox
      rw [List.erase_cons_head]
      exact h
    · have : x = d := by simpa using hx
      subst this
      rw [ho'] at hox; cases hox
      rw [List.erase_cons_tail (by simpa using hcd), List.erase_cons_head]
      exact h'⟩
end

/-! Two new objects in the other order. -/
def swL (b : Nat) : PV → PV
  | .loc o off => cond (Nat.beq o b) (.loc (b + 1) off) (cond (Nat.beq o (b + 1)) (.loc b off) (.loc o off))
  | p => p
def PV.isLoc : PV → Bool
  | .loc _ _ => true
  | _ => false
theorem look_map {f : PV → PV} : ∀ {tm : List (Nat × PV)} {t : Nat} {q : PV}, look (tm.map fun x => (x.1, f x.2)) t = some q → ∃ p, look tm t = some p ∧ q = f p
  | [], t, q, h => by simp [look] at h
  | (k, p) :: r, t, q, h => by
    rw [List.map_cons, look_cons] at h
    rw [look_cons]
    by_cases e : k = t
    · rw [if_pos e] at h ⊢
      cases h
      exact ⟨p, rfl, rfl⟩
    · rw [if_neg e] at h ⊢
      exact look_map h
theorem Same.swap {nt b : Nat} {tm : List (Nat × PV)} {lo0 : List (List PV)} {A B : List PV} {ob : List (List PV)} {L : List Nat} (hb : lo0.length = b) (hok : (tm.all fun x => x.2.isLoc || x.2.lk b) = true) :
    Same b ⟨nt, tm, lo0 ++ [B, A], ob, L⟩ ⟨nt, tm.map (fun x => (x.1, swL b x.2)), lo0 ++ [A, B], ob, L⟩ := by
  intro cx cx' a hn he hi
  obtain ⟨t, ht⟩ := he.n
  have hlen := hi.inv.olo.len
  simp only [List.length_append, List.length_cons, List.length_nil] at hlen
  obtain ⟨b1, b2, rfl⟩ : ∃ b1 b2, t = [b1, b2] := by
    rw [ht, List.length_append] at hlen
    match t, hlen with
    | [], h => simp at h; omega
    | [x], h => simp at h; omega
    | [x, y], _ => exact ⟨x, y, rfl⟩
    | x :: y :: z :: r, h => simp at h; omega
  let cx2 : Cx := { cx' with n := cx.n ++ [b2, b1] }
  have rms : ∀ {cs : List PV} {ys : List Value}, cs.all PV.ms = true → Reps cx' cs ys → Reps cx2 cs ys := fun hm h => Reps.ms (cx := cx') (cx' := cx2) rfl rfl rfl hm h
  have hmem : ∀ g, g ∉ cx'.m ++ cx'.n → g ∉ cx'.m ++ (cx.n ++ [b2, b1]) := by
    intro g hg hm
    rw [ht] at hg
    simp only [List.mem_append, List.mem_cons, List.not_mem_nil, or_false] at hg hm
    apply hg
    rcases hm with h | h | h | h
    · exact .inl h
    · exact .inr (.inl h)
    · exact .inr (.inr (.inr h))
    · exact .inr (.inr (.inl h))
  have hnb : cx.n.length = b := hn
  refine ⟨cx2, rfl, ⟨he.below, he.base, he.keeps, he.m, ⟨[b2, b1], rfl⟩, he.lv⟩, ⟨⟨hi.inv.sOk, hi.inv.baseLe, hi.inv.gv, ⟨hi.inv.oob.len, ?_⟩, ⟨by simp [cx2, hnb, hb], ?_⟩, ?_, ?_, hi.inv.ldist⟩, hi.df, hi.sz, ?_⟩⟩
  · intro i x cs hx hc
    obtain ⟨h1, h2, h4, h5⟩ := hi.inv.oob.at_ i x cs hx hc
    exact ⟨h1, h2.tr rfl (fun _ h3 => rms h5 h3), h4, h5⟩
  · intro i x cs hx hc
    have old : ∀ (j : Nat), cx'.n[j]? = some x → (lo0 ++ [B, A])[j]? = some cs → cx2.base ≤ x ∧ ObR cx2 x cs ∧ (∀ o, ¬ cx2.S x o) ∧ cs.all PV.ms = true := by
      intro j h6 h7
      obtain ⟨h1, h2, h4, h5⟩ := hi.inv.olo.at_ j x cs h6 h7
      exact ⟨h1, h2.tr rfl (fun _ h3 => rms h5 h3), h4, h5⟩
    simp only [cx2] at hx
    rcases Nat.lt_or_ge i b with hib | hib
    · rw [List.getElem?_append_left (by omega)] at hx hc
      refine old i ?_ ?_
      · rw [ht, List.getElem?_append_left (by omega)]; exact hx
      · rw [List.getElem?_append_left (by omega)]; exact hc
    · rw [List.getElem?_append_right (by omega), hnb] at hx
      rw [List.getElem?_append_right (by omega), hb] at hc
      have hcase : i = b ∨ i = b + 1 := by
        rcases Nat.lt_or_ge (i - b) 2 with h | h
        · omega
        · rw [List.getElem?_eq_none (by simpa using h)] at hx; cases hx
      rcases hcase with rfl | rfl
      · simp at hx hc
        subst hx; subst hc
        refine old (i + 1) ?_ ?_
        · rw [ht, List.getElem?_append_right (by omega), hnb, show i + 1 - i = 1 by omega]; rfl
        · rw [List.getElem?_append_right (by omega), hb, show i + 1 - i = 1 by omega]; rfl
      · rw [show b + 1 - b = 1 by omega] at hx hc
        simp at hx hc
        subst hx; subst hc
        refine old b ?_ ?_
        · rw [ht, List.getElem?_append_right (by omega), hnb, Nat.sub_self]; rfl
        · rw [List.getElem?_append_right (by omega), hb, Nat.sub_self]; rfl
  · have := hi.inv.nd
    rw [ht] at this
    refine (List.Perm.nodup_iff ?_).1 this
    exact List.Perm.append_left _ (List.Perm.append_left _ (List.Perm.swap b2 b1 []))
  · intro k hk
    obtain ⟨x, h1, h2⟩ := hi.inv.live k hk
    refine ⟨x, h1, fun g s z e ct hx => ?_⟩
    obtain ⟨h3, h4, h5, h6⟩ := h2 g s z e ct hx
    exact ⟨h3, h4, hmem g h5, h6⟩
  · intro u q hq
    obtain ⟨p, hp, rfl⟩ := look_map hq
    have hr := hi.tm u p hp
    have hp2 := List.all_eq_true.1 hok _ (look_mem hp)
    cases hl : p.isLoc with
    | true =>
      cases p <;> simp only [PV.isLoc, Bool.false_eq_true] at hl
      rename_i o off
      simp only [Rep] at hr
      obtain ⟨x, h1, h2⟩ := hr
      simp only [swL]
      rw [ht] at h1
      by_cases h3 : o = b
      · subst h3
        simp only [Nat.beq_refl, cond_true, Rep]
        refine ⟨x, ?_, h2⟩
        rw [List.getElem?_append_right (by omega), hnb, Nat.sub_self] at h1
        simp only [cx2]
        rw [List.getElem?_append_right (by omega), hnb, show o + 1 - o = 1 by omega]
        exact h1
      · have h3' : Nat.beq o b = false := by
          cases h : Nat.beq o b
          · rfl
          · exact absurd (Nat.eq_of_beq_eq_true h) h3
        rw [h3', cond_false]
        by_cases h4 : o = b + 1
        · subst h4
          simp only [Nat.beq_refl, cond_true, Rep]
          refine ⟨x, ?_, h2⟩
          rw [List.getElem?_append_right (by omega), hnb, show b + 1 - b = 1 by omega] at h1
          simp only [cx2]
          rw [List.getElem?_append_right (by omega), hnb, Nat.sub_self]
          exact h1
        · have h4' : Nat.beq o (b + 1) = false := by
            cases h : Nat.beq o (b + 1)
            · rfl
            · exact absurd (Nat.eq_of_beq_eq_true h) h4
          rw [h4', cond_false]
          simp only [Rep]
          refine ⟨x, ?_, h2⟩
          have hob : o < b := by
            rcases Nat.lt_or_ge o (b + 2) with h | h
            · omega
            · rw [List.getElem?_eq_none (by simp; omega)] at h1; cases h1
          rw [List.getElem?_append_left (by omega)] at h1
          simp only [cx2]
          rw [List.getElem?_append_left (by omega)]
          exact h1
    | false =>
      rw [hl, Bool.false_or] at hp2
      have h5 := Rep.dropN b p hp2 _ hr
      have h6 : swL b p = p := by cases p <;> first | rfl | simp [PV.isLoc] at hl
      simp only [h6]
      have hpre : cx'.n.take b = cx.n := by rw [ht, List.take_left' hnb]
      rw [hpre] at h5
      exact Rep.ext (cx := { cx' with n := cx.n }) (cx' := cx2) ⟨Below.refl _ _, rfl, Keeps.refl _ _, ⟨[], by simp [cx2]⟩, ⟨[b2, b1], rfl⟩, ⟨[], by simp [cx2]⟩⟩ _ _ h5
end
end Go.Proofs.YtcemejmegbefgaaGreatDoor.Em

set_option linter.unusedVariables false
set_option linter.unusedSimpArgs false
namespace Go.Proofs.YtcemejmegbefgaaGreatDoor.Em
open Go.RowKit

section
variable {P : Program} {lo ob : List (List PV)} {L : List Nat} {tm : List (Nat × PV)}

theorem cell_agg {cx : Cx} {s : AS} {a : Act} {t i n : Nat} {cs : List PV} {T : TypeId} (hi : InvS cx s a) (hx : look s.tm t = some (.loc i 0)) (hc : s.lo[i]? = some cs) (hn : aggOf P T n = true) (hl : Nat.ble n cs.length = true) (hd : (cs.take n).all PV.isD = true) (hmo : mpo cs = false := by rfl) :
    ∃ b v, a.tmps.getD t undef = .pointer (some ⟨b, 0, none⟩) ∧ (loadVar T ⟨b, 0, none⟩).run P cx.w = .ok v cx.w ∧ Rep cx (.agg ((cs.take n).map PV.toD)) v := by
  have hx1 := hi.tm t _ hx
  simp only [Rep] at hx1
  obtain ⟨b, hb, hx2⟩ := hx1
  obtain ⟨h1, h2, h4, h5⟩ := hi.inv.olo.at_ i b cs hb hc
  obtain ⟨arr, T', h2, h3⟩ := h2.cells hmo
  have hl' := Nat.le_of_ble_eq_true hl
  have h3' := h3.take n
  have h6 := reps_toD hd h3'
  have hlen := h3.length
  refine ⟨b, .agg (arr.toList.take n).toArray, hx2, ?_, by simp only [Rep]; exact ⟨_, rfl, h6⟩⟩
  have h7 := run_loadCells (P := P) (w := cx.w) (b := b) (arr.toList.take n) 0 0 #[] (fun j v hv => by
    simp only [Nat.zero_add, World.cell?, h2]
    rw [List.getElem?_take] at hv
    split at hv
    · simpa using hv
    · cases hv)
  have hln : (arr.toList.take n).length = n := by simp at hlen ⊢; omega
  rw [hln] at h7
  have hs : szOf P T = some n := by unfold aggOf at hn; simp at hn; exact hn.2
  simp [loadVar, run_isAgg' hn, run_sizeOf hs, loadCells, h7]

theorem ev_tmp {cx : Cx} {s : AS} {a : Act} {t : Nat} {r : PV} (hi : InvS cx s a) (h : Ev s.tm (.tmp t) r) : Rep cx r (a.tmps.getD t undef) := by
  obtain ⟨q, hq, hle⟩ := h
  exact hle cx _ (hi.ev hq)

theorem resA_agg {fn : Func} {nt t i n : Nat} {cs : List PV} {T : TypeId} (hr : fn.results = #[.cell t T]) (hn : aggOf P T n = true) (hx : look tm t = some (.loc i 0)) (hc : lo[i]? = some cs) (hl : Nat.ble n cs.length = true) (hd : (cs.take n).all PV.isD = true) (hmo : mpo cs = false := by rfl) :
    ResA P fn ⟨nt, tm, lo, ob, L⟩ (.agg ((cs.take n).map PV.toD)) := by
  intro cx a hi
  obtain ⟨b, v, h1, h2, h3⟩ := cell_agg (s := ⟨nt, tm, lo, ob, L⟩) hi hx hc hn hl hd hmo
  have h4 : a.tmps[t]?.getD undef = .pointer (some ⟨b, 0, none⟩) := by simpa using h1
  exact ⟨v, by simp [results, hr, h4, asAddr, h2], h3⟩
theorem resA_agg1 {fn : Func} {nt t u i n : Nat} {cs : List PV} {T : TypeId} {q : PV} (hr : fn.results = #[.cell t T, .tmp u]) (hn : aggOf P T n = true) (hx : look tm t = some (.loc i 0)) (hc : lo[i]? = some cs) (hl : Nat.ble n cs.length = true) (hd : (cs.take n).all PV.isD = true)
    (hu : Ev tm (.tmp u) q) (hmo : mpo cs = false := by rfl) :
    ResA P fn ⟨nt, tm, lo, ob, L⟩ (.tup [.agg ((cs.take n).map PV.toD), q]) := by
  intro cx a hi
  obtain ⟨b, v, h1, h2, h3⟩ := cell_agg (s := ⟨nt, tm, lo, ob, L⟩) hi hx hc hn hl hd hmo
  have h4 : a.tmps[t]?.getD undef = .pointer (some ⟨b, 0, none⟩) := by simpa using h1
  refine ⟨.tuple #[v, a.tmps.getD u undef], by simp [results, hr, h4, asAddr, h2], ?_⟩
  simp only [Rep, Reps]
  exact ⟨[v, a.tmps.getD u undef], rfl, _, _, rfl, by simpa only [Rep] using h3, _, _, rfl, ev_tmp hi hu, rfl⟩
theorem resA_agg2 {fn : Func} {nt t u z i n : Nat} {cs : List PV} {T : TypeId} {q p : PV} (hr : fn.results = #[.cell t T, .tmp u, .tmp z]) (hn : aggOf P T n = true) (hx : look tm t = some (.loc i 0)) (hc : lo[i]? = some cs) (hl : Nat.ble n cs.length = true) (hd : (cs.take n).all PV.isD = true)
    (hu : Ev tm (.tmp u) q) (hz : Ev tm (.tmp z) p) (hmo : mpo cs = false := by rfl) :
    ResA P fn ⟨nt, tm, lo, ob, L⟩ (.tup [.agg ((cs.take n).map PV.toD), q, p]) := by
  intro cx a hi
  obtain ⟨b, v, h1, h2, h3⟩ := cell_agg (s := ⟨nt, tm, lo, ob, L⟩) hi hx hc hn hl hd hmo
  have h4 : a.tmps[t]?.getD undef = .pointer (some ⟨b, 0, none⟩) := by simpa using h1
  refine ⟨.tuple #[v, a.tmps.getD u undef, a.tmps.getD z undef], by simp [results, hr, h4, asAddr, h2], ?_⟩
  simp only [Rep, Reps]
  exact ⟨[v, a.tmps.getD u undef, a.tmps.getD z undef], rfl, _, _, rfl, by simpa only [Rep] using h3, _, _, rfl, ev_tmp hi hu, _, _, rfl, ev_tmp hi hz, rfl⟩

/-! Functions that take a row and hand a row back. -/
def FnRow (P : Program) (f : FuncId) (mk : Nat → List PV) (res : Nat → PV) : Prop :=
  ∀ ob L k, k ∈ L → FnS P f (mk k) ob L (fun r ob' L' => ∃ k', r = res k' ∧ ob' = ob ∧ (∀ j ∈ L, j ≠ k → j ∈ L') ∧ k' ∈ L' ∧ (k' ∈ L → k' = k))

theorem AOp.conv {o : Oper} {s : AS} {K K' : AS → Prop} (h : AOp P o s K') (hk : ∀ s', K' s' → ∃ s'', K s'' ∧ ∀ cx a, InvS cx s' a → InvS cx s'' a) : AOp P o s K := by
  intro cx a hi
  refine Oper.wp_mono ?_ (h cx a hi)
  rintro a' w' ⟨cx', s', h1, h2, h3, h4⟩
  obtain ⟨s'', h5, h6⟩ := hk s' h4
  exact ⟨cx', s'', h1, h2, h6 cx' a' h3, h5⟩

theorem e_row {ty : TypeId} {pos : String} {aft : Array Edge} {f : FuncId} {xs : List Operand} {tys : Array TypeId} {nt d k : Nat} {mk : Nat → List PV} {res : Nat → PV} {K : AS → Prop} {Lr : List Nat}
    (hf : FnRow P f mk res) (he : Evs tm xs (mk k)) (hmap : (mk k).map (inPV ob.length) = mk k) (hnl : (mk k).all PV.nl1 = true) (hd : Nat.blt d nt = true) (hk : k ∈ L) (hr : ∀ k', (res k').rs = true) (hL : ∀ j ∈ Lr, j ∈ L ∧ j ≠ k)
    (hK : ∀ k', k' ∉ Lr → K ⟨nt, (d, res k') :: tm, lo, ob, k' :: Lr⟩) :
    AOp P ⟨some d, .call ⟨.value (.func f), xs.toArray, tys⟩, ty, pos, aft, none⟩ ⟨nt, tm, lo, ob, L⟩ K := by
  refine AOp.conv (K' := fun s' => ∃ k' L', s' = ⟨nt, (d, res k') :: tm, lo, ob, L'⟩ ∧ (∀ j ∈ L, j ≠ k → j ∈ L') ∧ k' ∈ L' ∧ (k' ∈ L → k' = k)) ?_ ?_
  · refine e_call (args := mk k) (by rw [hmap]; exact hf (ob ++ lo) L k hk) he hnl hd ?_ ?_
    · rintro r ob' lo' L' ⟨k', rfl, h1, h2, h3, h4⟩ hl1 hl2
      obtain ⟨rfl, rfl⟩ := List.append_inj h1 hl1
      exact ⟨hr k', k', L', rfl, h2, h3, h4⟩
    · rintro r o L' ⟨k', rfl, rfl, _⟩
      simp
  · rintro s' ⟨k', L', rfl, h1, h2, h3⟩
    refine ⟨_, hK k' (fun h => (hL k' h).2 (h3 (hL k' h).1)), fun cx a hi => ⟨hi.inv.sub fun j hj => ?_, hi.df, hi.sz, hi.tm⟩⟩
    rcases List.mem_cons.1 hj with rfl | hj
    · exact h2
    · exact h1 j (hL j hj).1 (hL j hj).2

/-- make([]T, 0, c). -/
theorem e_mk0 {ty : TypeId} {pos : String} {aft : Array Edge} {x y : Operand} {t e d nt sz : Nat} {n : Int} {K : AS → Prop} (hu : P.underlying t = some (.slice e)) (hz : zeroOk P e sz = true) (hby : bytesLe P e 1024 = true) (hd : Nat.blt d nt = true)
    (hx : Ev tm x (i64 0)) (hy : Ev tm y (i64 n)) (hn : 0 ≤ n ∧ n ≤ 8589934592)
    (hK : ∀ k', k' ∉ L → K ⟨nt, (d, .row e sz [] k') :: tm, lo, ob, k' :: L⟩) :
    AOp P ⟨some d, .makeSlice t x y, ty, pos, aft, none⟩ ⟨nt, tm, lo, ob, L⟩ K := by
  intro cx a hi
  obtain ⟨q1, hq1, hle1⟩ := hx
  obtain ⟨q2, hq2, hle2⟩ := hy
  have h1 := (rep_v (hle1 cx _ (hi.ev hq1))).1
  have h2 := (rep_v (hle2 cx _ (hi.ev hq2))).1
  unfold zeroOk at hz
  unfold bytesLe at hby
  cases hie : P.info? e with
  | none => rw [hie] at hz; cases hz
  | some i =>
    rw [hie] at hz hby
    simp only at hz
    have hbb : i.bytes ≤ 1024 := Nat.le_of_ble_eq_true hby
    cases hzz : i.zero with
    | none => rw [hzz] at hz; simp at hz
    | some z =>
      rw [hzz] at hz
      simp only [Bool.and_eq_true, beq_iff_eq] at hz
      obtain ⟨hz1, hz2⟩ := hz
      have hbytes : (i.bytes : Int) * n ≤ 281474976710656 := by
        have h : (i.bytes : Int) * n ≤ 1024 * 8589934592 := Int.mul_le_mul (by omega) hn.2 hn.1 (by omega)
        omega
      have hrun := run_make (P := P) cx.w t e i z hu hie hzz .i64 .i64 0 n (Int.le_refl _) hn.1 hbytes (by omega)
      obtain ⟨he2, hi2⟩ := hi.inv.newLive (madeCells z.cells (n.toNat * i.size)) e [] (by simp [RepDs])
      unfold Oper.wp
      have : (execOp a.eval ⟨some d, .makeSlice t x y, ty, pos, aft, none⟩).run P cx.w = .ok (.value (.slice (some ⟨cx.w.heap.size, 0, none⟩) 0 n.toNat)) (cx.w.alloc (.cells (madeCells z.cells (n.toNat * i.size)) e)) := by
        simp only [execOp, h1, h2, Sem.run_bind, hrun, Result.andThen_ok]; rfl
      rw [this]
      have hname : cx.lv.length ∉ L := fun h => Nat.lt_irrefl _ (look_live hi.inv h)
      refine ⟨_, ⟨nt, (d, .row e sz [] cx.lv.length) :: tm, lo, ob, cx.lv.length :: L⟩, rfl, he2, ?_, hK _ hname⟩
      have h0 : InvS cx ⟨nt, tm, lo, ob, L⟩ a := hi
      have := h0.put he2 (hi2.sub fun j hj => List.mem_cons_of_mem _ hj) (Nat.le_of_ble_eq_true hd) (v := .slice (some ⟨cx.w.heap.size, 0, none⟩) 0 n.toNat) (p := .row e sz [] cx.lv.length) (by
        simp only [Rep, List.length_nil]
        refine .inr ⟨cx.w.heap.size, n.toNat, rfl, Nat.zero_le _, by unfold maxLen; omega, Nat.zero_le _, fun x hx => absurd hx List.not_mem_nil, by simp [size_madeCells, hz1]⟩)
      exact ⟨hi2, this.df, this.sz, this.tm⟩

/-! Sums whose bounds may use that the parts are ints. -/
def I64 (n : Int) : Prop := -9223372036854775808 ≤ n ∧ n ≤ 9223372036854775807
theorem okv_I64 {n : Int} (h : okv (.int .i64 n)) : I64 n := by
  simp only [okv, IntKind.min, IntKind.max, IntKind.signed, IntKind.bits, if_true] at h
  unfold I64; omega
theorem POp.facts {o : Oper} {p : PV} {x y : Operand} {m n : Int} (hx : Ev tm x (i64 m)) (hy : Ev tm y (i64 n)) (hxo : x ∈ o.op.operands.toList) (hyo : y ∈ o.op.operands.toList)
    (h : (-9223372036854775808 ≤ m ∧ m ≤ 9223372036854775807) → (-9223372036854775808 ≤ n ∧ n ≤ 9223372036854775807) → POp P lo ob L o tm p) : POp P lo ob L o tm p := by
  intro cx a hi ho
  exact h (okv_I64 (rep_v (opr ho hxo hx)).2) (okv_I64 (rep_v (opr ho hyo hy)).2) cx a hi ho
section
variable {dst : Option Tmp} {ty : TypeId} {pos : String} {aft : Array Edge} {g : Option (Nat × Bool)}
theorem p_addf {x y : Operand} {t t' : TypeId} {m n : Int} (hx : Ev tm x (i64 m)) (hy : Ev tm y (i64 n)) (h : (-9223372036854775808 ≤ m ∧ m ≤ 9223372036854775807) → (-9223372036854775808 ≤ n ∧ n ≤ 9223372036854775807) → -9223372036854775808 ≤ m + n ∧ m + n ≤ 9223372036854775807) :
    POp P lo ob L ⟨dst, .binOp .add t x y t', ty, pos, aft, g⟩ tm (i64 (m + n)) := POp.facts hx hy (by simp [Op.operands]) (by simp [Op.operands]) fun a b => p_add hx hy (h a b)
theorem p_subf {x y : Operand} {t t' : TypeId} {m n : Int} (hx : Ev tm x (i64 m)) (hy : Ev tm y (i64 n)) (h : (-9223372036854775808 ≤ m ∧ m ≤ 9223372036854775807) → (-9223372036854775808 ≤ n ∧ n ≤ 9223372036854775807) → -9223372036854775808 ≤ m - n ∧ m - n ≤ 9223372036854775807) :
    POp P lo ob L ⟨dst, .binOp .sub t x y t', ty, pos, aft, g⟩ tm (i64 (m - n)) := POp.facts hx hy (by simp [Op.operands]) (by simp [Op.operands]) fun a b => p_sub hx hy (h a b)
theorem p_mulf {x y : Operand} {t t' : TypeId} {m n : Int} (hx : Ev tm x (i64 m)) (hy : Ev tm y (i64 n)) (h : (-9223372036854775808 ≤ m ∧ m ≤ 9223372036854775807) → (-9223372036854775808 ≤ n ∧ n ≤ 9223372036854775807) → -9223372036854775808 ≤ m * n ∧ m * n ≤ 9223372036854775807) :
    POp P lo ob L ⟨dst, .binOp .mul t x y t', ty, pos, aft, g⟩ tm (i64 (m * n)) := POp.facts hx hy (by simp [Op.operands]) (by simp [Op.operands]) fun a b => p_mul hx hy (h a b)
end
end
end Go.Proofs.YtcemejmegbefgaaGreatDoor.Em

set_option linter.unusedVariables false
set_option linter.unusedSimpArgs false
namespace Go.Proofs.YtcemejmegbefgaaGreatDoor.Em
open Go.RowKit

section
variable {P : Program} {lo ob : List (List PV)} {L : List Nat} {tm : List (Nat × PV)}
variable {dst : Option Tmp} {ty : TypeId} {pos : String} {aft : Array Edge} {g : Option (Nat × Bool)}

/-! Arrays. -/
theorem run_indexArr {w : World} {t e n sz : Nat} {k : IntKind} {i : Int} {b off : Nat} (hu : P.underlying t = some (.array n e)) (hs : szOf P e = some sz) (h : 0 ≤ i ∧ i < n) :
    (Instr.indexAt t (.pointer (some ⟨b, off, none⟩)) (.int k i)).run P w = .ok (.pointer (some ⟨b, off + i.toNat * sz, none⟩)) w := by
  simp [Instr.indexAt, asIntOf, run_under hu, run_sizeOf hs, Instr.sureAddr, h.1, h.2, addr_add]
theorem p_iag {x y : Operand} {t e n sz : Nat} {k : IntKind} {i : Int} {g0 off : Nat} (hu : P.underlying t = some (.array n e)) (hs : szOf P e = some sz) (hx : Ev tm x (.glo g0 off)) (hy : Ev tm y (int k i)) (h : 0 ≤ i ∧ i < n) :
    POp P lo ob L ⟨dst, .indexAddr t x y, ty, pos, aft, g⟩ tm (.glo g0 (off + i.toNat * sz)) :=
  POp.same fun cx a hi ho => by
    have h1 := opr ho (by simp [Op.operands]) hx
    have h2 := rep_v (opr ho (by simp [Op.operands]) hy)
    simp only [Rep] at h1
    exact ⟨.pointer (some ⟨g0, off + i.toNat * sz, none⟩), by simp [execOp, h1, h2.1, run_indexArr hu hs h], by simp only [Rep]⟩
theorem p_ial {x y : Operand} {t e n sz : Nat} {k : IntKind} {i : Int} {o off : Nat} (hu : P.underlying t = some (.array n e)) (hs : szOf P e = some sz) (hx : Ev tm x (.loc o off)) (hy : Ev tm y (int k i)) (h : 0 ≤ i ∧ i < n) :
    POp P lo ob L ⟨dst, .indexAddr t x y, ty, pos, aft, g⟩ tm (.loc o (off + i.toNat * sz)) :=
  POp.same fun cx a hi ho => by
    have h1 := opr ho (by simp [Op.operands]) hx
    have h2 := rep_v (opr ho (by simp [Op.operands]) hy)
    simp only [Rep] at h1
    obtain ⟨b, hb, h3⟩ := h1
    exact ⟨.pointer (some ⟨b, off + i.toNat * sz, none⟩), by simp [execOp, h3, h2.1, run_indexArr hu hs h], by simp only [Rep]; exact ⟨b, hb, rfl⟩⟩
theorem p_iap {x y : Operand} {t e n sz : Nat} {k : IntKind} {i : Int} {o off : Nat} (hu : P.underlying t = some (.array n e)) (hs : szOf P e = some sz) (hx : Ev tm x (.ptr o off)) (hy : Ev tm y (int k i)) (h : 0 ≤ i ∧ i < n) :
    POp P lo ob L ⟨dst, .indexAddr t x y, ty, pos, aft, g⟩ tm (.ptr o (off + i.toNat * sz)) :=
  POp.same fun cx a hi ho => by
    have h1 := opr ho (by simp [Op.operands]) hx
    have h2 := rep_v (opr ho (by simp [Op.operands]) hy)
    simp only [Rep] at h1
    obtain ⟨b, hb, h3⟩ := h1
    exact ⟨.pointer (some ⟨b, off + i.toNat * sz, none⟩), by simp [execOp, h3, h2.1, run_indexArr hu hs h], by simp only [Rep]; exact ⟨b, hb, rfl⟩⟩
theorem p_ldg {x : Operand} {t g0 off : Nat} {v : Value} (hn : notAgg P t = true) (hx : Ev tm x (.glo g0 off)) (hg : GT g0 off = some v) (hv : okv v) :
    POp P lo ob L ⟨dst, .load t x, ty, pos, aft, g⟩ tm (.d (.v v)) :=
  POp.same fun cx a hi ho => by
    have h1 := opr ho (by simp [Op.operands]) hx
    simp only [Rep] at h1
    have h2 := hi.gv.1.tab g0 off v hg
    exact ⟨v, by simp [execOp, h1, Instr.loadAt, Instr.sureAddr, run_loadVar hn h2], mk_v hv⟩
theorem p_ldg2 {x : Operand} {t g0 off : Nat} {u v : Value} (hn : aggOf P t 2 = true) (hx : Ev tm x (.glo g0 off)) (hg : GT g0 off = some u) (hg' : GT g0 (off + 1) = some v) (hu : okv u) (hv : okv v) :
    POp P lo ob L ⟨dst, .load t x, ty, pos, aft, g⟩ tm (.agg [.v u, .v v]) :=
  POp.same fun cx a hi ho => by
    have h1 := opr ho (by simp [Op.operands]) hx
    simp only [Rep] at h1
    have hs : szOf P t = some 2 := by unfold aggOf at hn; simp at hn; exact hn.2
    have h5 := run_loadCells (P := P) (w := cx.w) (b := g0) [u, v] off 0 #[] (fun j y hy => by
      rw [Nat.zero_add]
      match j, hy with
      | 0, hy => simp at hy; subst hy; simpa using hi.gv.1.tab g0 off u hg
      | 1, hy => simp at hy; subst hy; exact hi.gv.1.tab g0 (off + 1) v hg'
      | j + 2, hy => simp at hy)
    refine ⟨.agg #[u, v], ?_, by simp only [Rep, RepDs, RepD]; exact ⟨[u, v], rfl, u, [v], rfl, ⟨rfl, hu⟩, v, [], rfl, ⟨rfl, hv⟩, rfl⟩⟩
    simp only [List.length_cons, List.length_nil] at h5
    simp [execOp, h1, Instr.loadAt, Instr.sureAddr, loadVar, run_isAgg' hn, run_sizeOf hs, loadCells, h5]
end
end Go.Proofs.YtcemejmegbefgaaGreatDoor.Em

set_option linter.unusedVariables false
set_option linter.unusedSimpArgs false
namespace Go.Proofs.YtcemejmegbefgaaGreatDoor.Em
open Go.RowKit Go.MapKept

/-! Maps of scalars. -/
def mget {K V : Type} [DecidableEq K] : List (K × V) → K → Option V
  | [], _ => none
  | (a, b) :: r, k => if a = k then some b else mget r k
def mput {K V : Type} [DecidableEq K] : List (K × V) → K → V → List (K × V)
  | [], k, v => [(k, v)]
  | (a, b) :: r, k, v => if a = k then (k, v) :: r else (a, b) :: mput r k v
theorem mget_mput {K V : Type} [DecidableEq K] (k j : K) (v : V) : ∀ m : List (K × V), mget (mput m k v) j = if k = j then some v else mget m j
  | [] => by simp [mput, mget]
  | (a, b) :: r => by
    have ih := mget_mput k j v r
    simp only [mput]
    by_cases h : a = k
    · subst h
      simp only [if_true, mget]
      by_cases h' : a = j
      · simp [h']
      · simp [h']
    · simp only [h, if_false, mget, ih]
      by_cases h' : a = j
      · subst h'
        simp [Ne.symm h]
      · simp [h']

/-- Keys as values. -/
structure Kmb (K : Type) where
  f : K → Value
  d : TypeDesc
  key : ∀ k, IsKey d (f k)
  inj : ∀ a b, f a = f b → a = b
def kS : Kmb (List UInt8) := ⟨fun s => .string ⟨s.toArray⟩, .string, fun _ => trivial, fun a b h => by injection h with h; exact mkS_inj.1 h⟩
def kI : Kmb Int := ⟨fun n => .int .i64 n, .int .i64, fun _ => rfl, fun a b h => by injection h⟩
def vB (b : Bool) : Value := .bool b
def vS (s : List UInt8) : Value := .string ⟨s.toArray⟩
def vI (n : Int) : Value := .int .i64 n

def mpe {K V : Type} (κ : Kmb K) (ν : V → Value) (m : List (K × V)) : List PV := [.mpc (m.map fun p => (κ.f p.1, ν p.2))]

section
variable {P : Program} {lo ob : List (List PV)} {L : List Nat} {tm : List (Nat × PV)}
variable {dst : Option Tmp} {ty : TypeId} {pos : String} {aft : Array Edge} {g : Option (Nat × Bool)}
variable {K V : Type} [DecidableEq K] {κ : Kmb K} {ν : V → Value}

theorem findNow_m (k : K) : ∀ (m : List (K × V)) (l : List MapEntry) (i : Nat), l.map (fun e => (e.key, e.val)) = m.map (fun p => (κ.f p.1, ν p.2)) →
    (mget m k = none ∧ Instr.findNow κ.d (κ.f k) l i = some none ∧ mput m k = fun v => m ++ [(k, v)]) ∨
    ∃ j e v, mget m k = some v ∧ Instr.findNow κ.d (κ.f k) l i = some (some (i + j, ν v)) ∧ l[j]? = some e ∧ e.key = κ.f k ∧
      ∀ v' (f : MapEntry → MapEntry), (∀ e, (f e).key = κ.f k ∧ (f e).val = ν v') → (l.modify j f).map (fun e => (e.key, e.val)) = (mput m k v').map (fun p => (κ.f p.1, ν p.2))
  | [], [], i, _ => .inl ⟨rfl, rfl, rfl⟩
  | [], e :: l, i, h => by simp at h
  | p :: m, [], i, h => by simp at h
  | (a, b) :: m, e :: l, i, h => by
    simp only [List.map_cons, List.cons.injEq, Prod.mk.injEq] at h
    obtain ⟨⟨h1, h2⟩, h3⟩ := h
    obtain ⟨r, hr, hiff⟩ := sameNow_of_keys (κ.key k) (show IsKey κ.d e.key by rw [h1]; exact κ.key a)
    by_cases hak : a = k
    · subst hak
      have : r = true := hiff.2 h1.symm
      subst this
      refine .inr ⟨0, e, b, by simp [mget], by simp [Instr.findNow, hr, h2], rfl, h1, ?_⟩
      intro v' f hf
      simp [mput, hf, h3]
    · have hrf : r = false := by
        cases r with
        | false => rfl
        | true => exact absurd (κ.inj _ _ ((hiff.1 rfl).trans h1)).symm hak
      subst hrf
      rcases findNow_m k m l (i + 1) h3 with ⟨h4, h5, h6⟩ | ⟨j, e', v, h4, h5, h6, h7, h8⟩
      · refine .inl ⟨by simp [mget, hak, h4], by simp [Instr.findNow, hr, h5], ?_⟩
        funext v
        simp [mput, hak, h6]
      · refine .inr ⟨j + 1, e', v, by simp [mget, hak, h4], by simp [Instr.findNow, hr, h5]; omega, by simpa using h6, h7, ?_⟩
        intro v' f hf
        have := h8 v' f hf
        simp [mput, hak, h1, h2, this]

theorem run_lookup_m {w : World} {t kt et : TypeId} {b : Nat} {m : List (K × V)} (hu : P.underlying t = some (.map kt et)) (hd : P.underlying kt = some κ.d) {z : V} (hz : (zeroValue et).run P w = .ok (ν z) w)
    (h : MapR w b (m.map fun p => (κ.f p.1, ν p.2))) (k : K) (ok : Bool) :
    (Instr.lookup t (.map (some b)) (κ.f k) ok).run P w = .ok (if ok then .tuple #[ν ((mget m k).getD z), .bool (mget m k).isSome] else ν ((mget m k).getD z)) w := by
  obtain ⟨es, clock, hb, hes, _⟩ := h
  rcases findNow_m (κ := κ) (ν := ν) k m es.toList 0 hes with ⟨h1, h2, _⟩ | ⟨j, e, v, h1, h2, _⟩
  · cases ok <;> simp [Instr.lookup, run_under hu, MapKept.run_getObj_map hb, MapKept.run_checkKey hd (κ.key k), MapKept.run_findKey hd h2, hz, h1, Result.andThen]
  · cases ok <;> simp [Instr.lookup, run_under hu, MapKept.run_getObj_map hb, MapKept.run_checkKey hd (κ.key k), MapKept.run_findKey hd h2, h1, Result.andThen]

theorem run_mapUpdate_m {w : World} {t kt et : TypeId} {b : Nat} {m : List (K × V)} (hu : P.underlying t = some (.map kt et)) (hd : P.underlying kt = some κ.d)
    (h : MapR w b (m.map fun p => (κ.f p.1, ν p.2))) (k : K) (v : V) (hk : okv (κ.f k)) (hv : okv (ν v)) :
    ∃ es clock, (Instr.mapUpdate t (.map (some b)) (κ.f k) (ν v)).run P w = .ok () (setBlk w b (.map es clock)) ∧ es.toList.map (fun e => (e.key, e.val)) = (mput m k v).map (fun p => (κ.f p.1, ν p.2)) ∧
      ∀ p ∈ (mput m k v).map (fun p => (κ.f p.1, ν p.2)), okv p.1 ∧ okv p.2 := by
  obtain ⟨es, clock, hb, hes, hok⟩ := h
  have okm : ∀ m : List (K × V), (∀ p ∈ m.map (fun p => (κ.f p.1, ν p.2)), okv p.1 ∧ okv p.2) → ∀ p ∈ (mput m k v).map (fun p => (κ.f p.1, ν p.2)), okv p.1 ∧ okv p.2 := by
    intro m
    induction m with
    | nil => intro _ p hp; simp [mput] at hp; subst hp; exact ⟨hk, hv⟩
    | cons x r ih =>
      obtain ⟨a, c⟩ := x
      intro h p hp
      simp only [mput] at hp
      split at hp
      · simp only [List.map_cons, List.mem_cons] at hp
        rcases hp with rfl | hp
        · exact ⟨hk, hv⟩
        · exact h p (by simp only [List.map_cons, List.mem_cons]; exact .inr hp)
      · simp only [List.map_cons, List.mem_cons] at hp
        rcases hp with rfl | hp
        · exact h _ (by simp)
        · exact ih (fun q hq => h q (by simp only [List.map_cons, List.mem_cons]; exact .inr hq)) p hp
  rcases findNow_m (κ := κ) (ν := ν) k m es.toList 0 hes with ⟨h1, h2, h3⟩ | ⟨j, e, v0, h1, h2, h3, h4, h5⟩
  · refine ⟨es.push ⟨κ.f k, ν v, clock⟩, clock + 1, by simp [Instr.mapUpdate, run_under hu, MapKept.run_getObj_map hb, MapKept.run_checkKey hd (κ.key k), MapKept.run_findKey hd h2, MapKept.run_setObj_map _ hb, Result.andThen, setBlk], ?_, okm m hok⟩
    simp [hes, h3]
  · have hj : es[j]? = some e := by simpa using h3
    refine ⟨es.modify j (fun e => { e with key := κ.f k, val := ν v }), clock, by simp [Instr.mapUpdate, run_under hu, MapKept.run_getObj_map hb, MapKept.run_checkKey hd (κ.key k), MapKept.run_findKey hd h2, hj, h4, MapKept.run_keyThatStays (κ.key k), MapKept.run_setObj_map _ hb, Result.andThen, setBlk], ?_, okm m hok⟩
    have := h5 v (fun e => { e with key := κ.f k, val := ν v }) (fun e => ⟨rfl, rfl⟩)
    simpa using this

/-- What a value of a type is at first. -/
def zIs (P : Program) (t : TypeId) (v : Value) : Prop := ∀ w, (zeroValue t).run P w = .ok v w
def zIsB (P : Program) (t : TypeId) : Bool := match P.info? t with
  | some i => (match i.zero with | some (.bool false) => true | _ => false)
  | none => false
def zIsS (P : Program) (t : TypeId) : Bool := match P.info? t with
  | some i => (match i.zero with | some (.string s) => Nat.beq s.size 0 | _ => false)
  | none => false
theorem zIsB_ok {t : TypeId} (h : zIsB P t = true) : zIs P t (vB false) := by
  intro w
  unfold zIsB at h
  cases hi : P.info? t with
  | none => rw [hi] at h; cases h
  | some i =>
    rw [hi] at h
    simp only at h
    split at h
    · rename_i hz
      simp [zeroValue, typeInfo, program, Sem.run, hi, hz, vB]
    · cases h
theorem zIsS_ok {t : TypeId} (h : zIsS P t = true) : zIs P t (vS []) := by
  intro w
  unfold zIsS at h
  cases hi : P.info? t with
  | none => rw [hi] at h; cases h
  | some i =>
    rw [hi] at h
    simp only at h
    split at h
    · rename_i hz
      simp [zeroValue, typeInfo, program, Sem.run, hi, hz, vS, size0 (Nat.eq_of_beq_eq_true h)]
    · cases h

theorem p_mlk {x y : Operand} {t kt et : TypeId} {i : Nat} {m : List (K × V)} {k : K} {z : V} (κ : Kmb K) (ν : V → Value) (hu : P.underlying t = some (.map kt et)) (hd : P.underlying kt = some κ.d) (hz : zIs P et (ν z))
    (hx : Ev tm x (.mloc i)) (hc : lo[i]? = some (mpe κ ν m)) (hy : Ev tm y (.d (.v (κ.f k)))) (hν : ∀ v, (∃ p ∈ m, v = p.2) ∨ v = z → okv (ν v)) :
    POp P lo ob L ⟨dst, .lookup t x y false, ty, pos, aft, g⟩ tm (.d (.v (ν ((mget m k).getD z)))) :=
  POp.same fun cx a hi ho => by
    have h1 := opr ho (by simp [Op.operands]) hx
    have h2 := rep_v (opr ho (by simp [Op.operands]) hy)
    simp only [Rep] at h1
    obtain ⟨b, h3, h4⟩ := h1
    obtain ⟨_, h5, _⟩ := hi.olo.at_ i b _ h3 hc
    refine ⟨ν ((mget m k).getD z), ?_, mk_v (hν _ ?_)⟩
    · have := run_lookup_m (P := P) (w := cx.w) hu hd (hz cx.w) h5.map k false
      simp [execOp, h2.1, h4, this]
    · have : ∀ m : List (K × V), (∃ p ∈ m, (mget m k).getD z = p.2) ∨ (mget m k).getD z = z := by
        intro m
        induction m with
        | nil => exact .inr rfl
        | cons x r ih =>
          obtain ⟨a, c⟩ := x
          simp only [mget]
          split
          · exact .inl ⟨(a, c), by simp, rfl⟩
          · rcases ih with ⟨p, hp, he⟩ | h
            · exact .inl ⟨p, List.mem_cons_of_mem _ hp, he⟩
            · exact .inr h
      exact this m
theorem p_mlkB {x y : Operand} {t kt et : TypeId} {i : Nat} {m : List (K × Bool)} {k : K} (κ : Kmb K) (hu : P.underlying t = some (.map kt et)) (hd : P.underlying kt = some κ.d) (hz : zIsB P et = true)
    (hx : Ev tm x (.mloc i)) (hc : lo[i]? = some (mpe κ vB m)) (hy : Ev tm y (.d (.v (κ.f k)))) :
    POp P lo ob L ⟨dst, .lookup t x y false, ty, pos, aft, g⟩ tm (bool ((mget m k).getD false)) :=
  p_mlk κ vB hu hd (zIsB_ok hz) hx hc hy (fun _ _ => trivial)

theorem e_mmk {t d nt : Nat} {K' : AS → Prop} (hd : Nat.blt d nt = true) (hK : K' ⟨nt, (d, .mloc lo.length) :: tm, lo ++ [[.mpc []]], ob, L⟩) :
    AOp P ⟨some d, .makeMap t none, ty, pos, aft, none⟩ ⟨nt, tm, lo, ob, L⟩ K' := by
  intro cx a hi
  have hlen : cx.n.length = lo.length := hi.inv.olo.len
  obtain ⟨he, hi'⟩ := hi.newObjG (.map #[] 0) (cs := [.mpc []]) (fun cx' _ hw => .inr (.inl ⟨[], rfl, #[], 0, by rw [hw]; exact heap_alloc_new _ _, rfl, by simp⟩)) rfl (Nat.le_of_ble_eq_true hd)
    (p := .mloc lo.length) (y := .map (some cx.w.heap.size)) (by
      simp only [Rep, Cx.objG]
      exact ⟨cx.w.heap.size, by rw [← hlen]; simp, rfl⟩)
  have hrun : (execOp a.eval ⟨some d, .makeMap t none, ty, pos, aft, none⟩).run P cx.w = .ok (.value (.map (some cx.w.heap.size))) (cx.w.alloc (.map #[] 0)) := by
    simp [execOp, run_makeMap]
  unfold Oper.wp
  rw [hrun]
  exact ⟨cx.objG _, _, rfl, he, hi', hK⟩

theorem e_mput {x y z : Operand} {t kt et nt i : Nat} {m : List (K × V)} {k : K} {v : V} {K' : AS → Prop} (κ : Kmb K) (ν : V → Value) (hu : P.underlying t = some (.map kt et)) (hd : P.underlying kt = some κ.d)
    (hx : Ev tm x (.mloc i)) (hc : lo[i]? = some (mpe κ ν m)) (hy : Ev tm y (.d (.v (κ.f k)))) (hz : Ev tm z (.d (.v (ν v))))
    (hK : K' ⟨nt, tm, lo.set i (mpe κ ν (mput m k v)), ob, L⟩) :
    AOp P ⟨none, .mapUpdate t x y z, ty, pos, aft, none⟩ ⟨nt, tm, lo, ob, L⟩ K' := by
  intro cx a hi
  obtain ⟨q1, hq1, hle1⟩ := hx
  obtain ⟨q2, hq2, hle2⟩ := hy
  obtain ⟨q3, hq3, hle3⟩ := hz
  have h1 := hle1 cx _ (hi.ev hq1)
  have h2 := rep_v (hle2 cx _ (hi.ev hq2))
  have h3 := rep_v (hle3 cx _ (hi.ev hq3))
  simp only [Rep] at h1
  obtain ⟨b, h4, h5⟩ := h1
  obtain ⟨_, h6, _⟩ := hi.inv.olo.at_ i b _ h4 hc
  obtain ⟨es, clock, h7, h8, h9⟩ := run_mapUpdate_m (P := P) (w := cx.w) (m := m) (ν := ν) hu hd h6.map k v h2.2 h3.2
  obtain ⟨es0, cl0, hb0, _⟩ := h6.map
  obtain ⟨he, hi'⟩ := hi.inv.setLoG h4 hc (nb := .map es clock) (cs' := mpe κ ν (mput m k v)) (fun cx' _ hw => .inr (.inl ⟨_, rfl, es, clock, by rw [hw]; exact setBlk_new hb0, h8, h9⟩)) rfl
  have hrun : (execOp a.eval ⟨none, .mapUpdate t x y z, ty, pos, aft, none⟩).run P cx.w = .ok .skip (setBlk cx.w b (.map es clock)) := by
    simp [execOp, h5, h2.1, h3.1, h7]
  unfold Oper.wp
  rw [hrun]
  exact ⟨_, ⟨nt, tm, lo.set i (mpe κ ν (mput m k v)), ob, L⟩, rfl, he, ⟨hi', hi.df, hi.sz, fun u q hq => (hi.tm u q hq).ext he⟩, hK⟩

/-! Going through a string. -/
def decR (s : List UInt8) (pos : Nat) : Int := (Utf8.decode ⟨s.toArray⟩ pos).1
def decW (s : List UInt8) (pos : Nat) : Nat := (Utf8.decode ⟨s.toArray⟩ pos).2

theorem InvS.sub2 {cx cx' : Cx} {nt : Nat} {a : Act} {lo' : List (List PV)} (h : InvS cx ⟨nt, tm, lo, ob, L⟩ a) (he : Ext cx cx') (hi : Inv cx' ob lo' L) {d : Nat} (hd : d < nt) {v : Value} {p : PV} (hv : Rep cx' p v) :
    InvS cx' ⟨nt, (d, p) :: tm, lo', ob, L⟩ (a.put (some d) v) := by
  refine ⟨hi, h.df, by simpa [Act.put] using h.sz, fun t q hq => ?_⟩
  rw [look_cons] at hq
  have hs := h.sz
  by_cases e : d = t
  · subst e
    rw [if_pos rfl] at hq
    cases hq
    have : (a.put (some d) v).tmps.getD d undef = v := by simp [Act.put, hs, hd]
    rw [this]; exact hv
  · rw [if_neg e] at hq
    have : (a.put (some d) v).tmps.getD t undef = a.tmps.getD t undef := by
      simp [Act.put, Array.getElem?_setIfInBounds_ne e]
    rw [this]
    exact (h.tm t q hq).ext he
theorem e_rng {x : Operand} {t d nt : Nat} {s : List UInt8} {K' : AS → Prop} (hu : P.underlying t = some .string) (hx : Ev tm x (str s)) (hd : Nat.blt d nt = true)
    (hK : K' ⟨nt, (d, .loc lo.length 0) :: tm, lo ++ [[.sic s 0]], ob, L⟩) :
    AOp P ⟨some d, .range t x, ty, pos, aft, none⟩ ⟨nt, tm, lo, ob, L⟩ K' := by
  intro cx a hi
  obtain ⟨q1, hq1, hle1⟩ := hx
  have h1 := rep_v (hle1 cx _ (hi.ev hq1))
  have hlen : cx.n.length = lo.length := hi.inv.olo.len
  obtain ⟨he, hi'⟩ := hi.newObjG (.stringIter ⟨s.toArray⟩ 0) (cs := [.sic s 0]) (fun cx' _ hw => .inr (.inr ⟨s, 0, rfl, by rw [hw]; exact heap_alloc_new _ _⟩)) rfl (Nat.le_of_ble_eq_true hd)
    (p := .loc lo.length 0) (y := .pointer (some ⟨cx.w.heap.size, 0, none⟩)) (by
      simp only [Rep, Cx.objG]
      exact ⟨cx.w.heap.size, by rw [← hlen]; simp, rfl⟩)
  have hrun : (execOp a.eval ⟨some d, .range t x, ty, pos, aft, none⟩).run P cx.w = .ok (.value (.pointer (some ⟨cx.w.heap.size, 0, none⟩))) (cx.w.alloc (.stringIter ⟨s.toArray⟩ 0)) := by
    simp [execOp, h1.1, Instr.range, run_under hu, Result.andThen]
  unfold Oper.wp
  rw [hrun]
  exact ⟨cx.objG _, _, rfl, he, hi', hK⟩

theorem e_nxt {x : Operand} {d nt i p : Nat} {s : List UInt8} {K' : AS → Prop} (hx : Ev tm x (.loc i 0)) (hc : lo[i]? = some [.sic s p]) (hs : s.length ≤ LIM) (hd : Nat.blt d nt = true)
    (hK : K' ⟨nt, (d, .nx (decide (p < s.length)) p (decR s p)) :: tm, lo.set i [.sic s (if p < s.length then p + decW s p else p)], ob, L⟩) :
    AOp P ⟨some d, .next x true, ty, pos, aft, none⟩ ⟨nt, tm, lo, ob, L⟩ K' := by
  intro cx a hi
  obtain ⟨q1, hq1, hle1⟩ := hx
  have h1 := hle1 cx _ (hi.ev hq1)
  simp only [Rep] at h1
  obtain ⟨b, h4, h5⟩ := h1
  obtain ⟨_, h6, _⟩ := hi.inv.olo.at_ i b _ h4 hc
  have hit := h6.sit
  have hget : (getObj b).run P cx.w = .ok (.stringIter ⟨s.toArray⟩ p) cx.w := by simp [getObj, Sem.run, hit]
  have hsz : (⟨s.toArray⟩ : ByteArray).size = s.length := mkS_size s
  by_cases hp : p < s.length
  · obtain ⟨he, hi'⟩ := hi.inv.setLoG h4 hc (nb := .stringIter ⟨s.toArray⟩ (p + decW s p)) (cs' := [.sic s (p + decW s p)]) (fun cx' _ hw => .inr (.inr ⟨_, _, rfl, by rw [hw]; exact setBlk_new hit⟩)) rfl
    have hset : (setObj b (.stringIter ⟨s.toArray⟩ (p + decW s p))).run P cx.w = .ok () (setBlk cx.w b (.stringIter ⟨s.toArray⟩ (p + decW s p))) := by simp [setObj, Sem.run, hit, setBlk]
    have hrun : (execOp a.eval ⟨some d, .next x true, ty, pos, aft, none⟩).run P cx.w = .ok (.value (.tuple #[.bool true, .int .i64 p, .int .i32 (decR s p)])) (setBlk cx.w b (.stringIter ⟨s.toArray⟩ (p + decW s p))) := by
      unfold decW at hset ⊢
      simp [execOp, h5, Instr.next, hget, hset, Result.andThen, hsz, hp, goInt, decR]
    unfold Oper.wp
    rw [hrun]
    rw [if_pos hp] at hK
    refine ⟨_, _, rfl, he, hi.sub2 he hi' (Nat.le_of_ble_eq_true hd) ?_, hK⟩
    have h7 := Go.decode_le ⟨s.toArray⟩ p
    have hpl : (p : Int) < 140737488355328 := by unfold LIM at hs; omega
    simp only [Rep, hp, decide_true, forall_const, true_and, okv, decR]
    refine ⟨⟨⟨?_, ?_⟩, ?_⟩, fun h => by cases h⟩
    · simp only [IntKind.min, IntKind.max, IntKind.signed, IntKind.bits, if_true]; omega
    · simp only [IntKind.min, IntKind.max, IntKind.signed, IntKind.bits, if_true]; omega
    · simp only [IntKind.min, IntKind.max, IntKind.signed, IntKind.bits, if_true]; omega
  · have hrun : (execOp a.eval ⟨some d, .next x true, ty, pos, aft, none⟩).run P cx.w = .ok (.value (.tuple #[.bool false])) cx.w := by
      simp [execOp, h5, Instr.next, hget, Result.andThen, hsz, hp]
    unfold Oper.wp
    rw [hrun]
    have hlo : lo.set i [.sic s p] = lo := by
      apply List.ext_getElem?
      intro j
      by_cases hj : i = j
      · subst hj
        have hlt : i < lo.length := (List.getElem?_eq_some_iff.1 hc).1
        rw [List.getElem?_set_self hlt, hc]
      · rw [List.getElem?_set_ne hj]
    rw [if_neg hp, hlo] at hK
    refine ⟨cx, _, rfl, Ext.refl cx, hi.sub2 (Ext.refl cx) hi.inv (Nat.le_of_ble_eq_true hd) ?_, hK⟩
    simp [Rep, hp]
theorem p_nx0 {x : Operand} {b : Bool} {k c : Int} (hx : Ev tm x (.nx b k c)) : POp P lo ob L ⟨dst, .extract x 0, ty, pos, aft, g⟩ tm (bool b) :=
  POp.same fun cx a hi ho => by
    have h1 := opr ho (by simp [Op.operands]) hx
    simp only [Rep] at h1
    refine ⟨.bool b, ?_, mk_v trivial⟩
    cases b with
    | true => simp [execOp, (h1.1 rfl).1, Instr.extract]
    | false => simp [execOp, h1.2 rfl, Instr.extract]
theorem p_nx1 {x : Operand} {b : Bool} {k c : Int} (hx : Ev tm x (.nx b k c)) (hb : b = true) : POp P lo ob L ⟨dst, .extract x 1, ty, pos, aft, g⟩ tm (i64 k) :=
  POp.same fun cx a hi ho => by
    have h1 := opr ho (by simp [Op.operands]) hx
    simp only [Rep] at h1
    obtain ⟨h2, h3, h4⟩ := h1.1 hb
    exact ⟨.int .i64 k, by simp [execOp, h2, Instr.extract], mk_v h3⟩
theorem p_nx2 {x : Operand} {b : Bool} {k c : Int} (hx : Ev tm x (.nx b k c)) (hb : b = true) : POp P lo ob L ⟨dst, .extract x 2, ty, pos, aft, g⟩ tm (int .i32 c) :=
  POp.same fun cx a hi ho => by
    have h1 := opr ho (by simp [Op.operands]) hx
    simp only [Rep] at h1
    obtain ⟨h2, h3, h4⟩ := h1.1 hb
    exact ⟨.int .i32 c, by simp [execOp, h2, Instr.extract], mk_v h4⟩
end
end Go.Proofs.YtcemejmegbefgaaGreatDoor.Em

set_option linter.unusedVariables false
set_option linter.unusedSimpArgs false
namespace Go.Proofs.YtcemejmegbefgaaGreatDoor.Em
open Go.RowKit
section
variable {P : Program} {lo ob : List (List PV)} {L : List Nat} {tm : List (Nat × PV)}
variable {dst : Option Tmp} {ty : TypeId} {pos : String} {aft : Array Edge} {g : Option (Nat × Bool)}

theorem Reps.append' {cx : Cx} {ps qs : List PV} {vs us : List Value} (h : Reps cx ps vs) (k : Reps cx qs us) : Reps cx (ps ++ qs) (vs ++ us) := Reps.append h k

/-- A call through a function value. -/
theorem p_callv {f : FuncId} {x : Operand} {xs : List Operand} {tys : Array TypeId} {first caps args : List PV} {r : PV} (hx : Ev tm x (.fn (.func f) first caps)) (hf : Fn P f (first ++ args ++ caps) r) (he : Evs tm xs args)
    (hnl : (first ++ args ++ caps).all PV.nl = true) (hr : r.rs = true) :
    POp P lo ob L ⟨dst, .call ⟨.value x, xs.toArray, tys⟩, ty, pos, aft, g⟩ tm r := by
  intro cx a hi ho
  obtain ⟨hc, hcalls⟩ := hf (ob ++ lo) L
  have hfv := opr ho (by simp [Op.operands, Call.operands]) hx
  simp only [Rep] at hfv
  obtain ⟨vf, vc, hv, h1, h2⟩ := hfv
  have hreps := evs_reps ho (fun x hx => by simp [Op.operands, Call.operands, hx]) he
  have hall : Reps cx (first ++ args ++ caps) (vf ++ xs.map a.eval ++ vc) := (h1.append hreps).append h2
  unfold Oper.wp
  have hrun : (execOp a.eval ⟨dst, .call ⟨.value x, xs.toArray, tys⟩, ty, pos, aft, g⟩).run P cx.w = .ok (.enter f (vf ++ xs.map a.eval ++ vc).toArray) cx.w := by
    simp [execOp, resolve, Deferred.ofValue, hv, invoke, run_callFunc hc]
  rw [hrun]
  refine Calls.mono (hcalls cx.inn _ rfl hi.inn (Reps.inn hnl hall)) ?_
  rintro e w' ⟨v, cx', r', ob', L', rfl, rfl, hx, hn, hi', hrv, rfl, rfl, hL⟩
  obtain ⟨h1, h2⟩ := back hi hx hn (ob' := ob) (lo' := lo) hi' rfl rfl
  exact ⟨v, cx.out cx', rfl, rfl, h1, h2.sub hL, Rep.rs (cx := cx') (cx' := cx.out cx') rfl rfl rfl hr hrv⟩

theorem p_mkf {f : Go.Fn} {xs ys : List Operand} {ps qs : List PV} (hx : Evs tm xs ps) (hy : Evs tm ys qs) :
    POp P lo ob L ⟨dst, .makeFunc f xs.toArray ys.toArray, ty, pos, aft, g⟩ tm (.fn f ps qs) :=
  POp.same fun cx a hi ho => by
    have h1 := evs_reps ho (fun x hx => by simp [Op.operands, hx]) hx
    have h2 := evs_reps ho (fun x hx => by simp [Op.operands, hx]) hy
    refine ⟨.func f (xs.map a.eval).toArray (ys.map a.eval).toArray, by simp [execOp, Instr.makeFunc], ?_⟩
    simp only [Rep]
    exact ⟨_, _, rfl, h1, h2⟩

/-- A slice that may grow no more. -/
theorem p_sl_hm {x z u : Operand} {t e : TypeId} {k k' : IntKind} {sz : Nat} {l : List (List D)} {j m : Int} (hu : P.underlying t = some (.slice e)) (hs : szOf P e = some sz) (hx : Ev tm x (lst sz l)) (hz : Ev tm z (int k j)) (hm : Ev tm u (int k' m)) (hj : j = l.length) (hmm : m = l.length) :
    POp P lo ob L ⟨dst, .slice t x none (some z) (some u), ty, pos, aft, g⟩ tm (lst sz l) :=
  POp.same fun cx a hi ho => by
    have h1 := opr ho (by simp [Op.operands]) hx
    have h2 := rep_v (opr ho (by simp [Op.operands]) hz)
    have h3 := rep_v (opr ho (by simp [Op.operands]) hm)
    subst hj; subst hmm
    simp only [Rep, RepD] at h1
    rcases h1 with ⟨rfl, h4⟩ | ⟨b, off, c, vs, h4, h5, h6, h7, h8⟩
    · refine ⟨.slice none 0 0, ?_, by simp [Rep, RepD]⟩
      simp [execOp, h4, h2.1, h3.1, run_sliceAt_slice, elem_of hu, hu, Instr.slice, Instr.sliceBounds, Instr.sliceBound, asIntOf, run_under hu, run_sizeOf hs, Result.andThen]
    · have hc : ((l.length : Int) ≤ c) := by omega
      refine ⟨.slice (some ⟨b, off, none⟩) l.length l.length, ?_, ?_⟩
      · simp [execOp, h4, h2.1, h3.1, run_sliceAt_slice, elem_of hu, hu, Instr.slice, Instr.sliceBounds, Instr.sliceBound, asIntOf, run_under hu, run_sizeOf hs, Result.andThen, h5, addr_add]
      · simp only [Rep, RepD]
        exact .inr ⟨b, off, l.length, vs, rfl, Nat.le_refl _, h6, h7, h8⟩
end
end Go.Proofs.YtcemejmegbefgaaGreatDoor.Em

set_option linter.unusedVariables false
set_option linter.unusedSimpArgs false
namespace Go.Proofs.YtcemejmegbefgaaGreatDoor.Em
open Go.RowKit
section
variable {P : Program} {lo ob : List (List PV)} {L : List Nat} {tm : List (Nat × PV)}
variable {dst : Option Tmp} {ty : TypeId} {pos : String} {aft : Array Edge} {g : Option (Nat × Bool)}

/-- A function that looks at one object. -/
def FnR (P : Program) (f : FuncId) (mk : Nat → List PV) (cs : List PV) (r : PV) : Prop :=
  ∀ ob L o, ob[o]? = some cs → FnS P f (mk o) ob L (fun r' ob' L' => r' = r ∧ ob' = ob ∧ ∀ k ∈ L, k ∈ L')
/-- .. and one that turns it. -/
def FnM (P : Program) (f : FuncId) (mk : Nat → List PV) (cs cs' : List PV) (r : PV) : Prop :=
  ∀ ob L o, ob[o]? = some cs → FnS P f (mk o) ob L (fun r' ob' L' => r' = r ∧ ob' = ob.set o cs' ∧ ∀ k ∈ L, k ∈ L')

theorem p_callr {f : FuncId} {xs : List Operand} {tys : Array TypeId} {mk : Nat → List PV} {args : List PV} {cs : List PV} {k : Nat} {r : PV} (hf : FnR P f mk cs r) (he : Evs tm xs args) (hmap : args.map (inPV ob.length) = mk (ob.length + k)) (hc : lo[k]? = some cs)
    (hnl : args.all PV.nl1 = true) (hr : r.rs = true) :
    POp P lo ob L ⟨dst, .call ⟨.value (.func f), xs.toArray, tys⟩, ty, pos, aft, g⟩ tm r := by
  intro cx a hi ho
  have hoc : (ob ++ lo)[ob.length + k]? = some cs := by rw [List.getElem?_append_right (by omega), Nat.add_sub_cancel_left]; exact hc
  obtain ⟨hcl, hcalls⟩ := hf (ob ++ lo) L (ob.length + k) hoc
  have hreps := evs_reps ho (fun x hx => by simp [Op.operands, Call.operands, hx]) he
  have hm : cx.m.length = ob.length := hi.oob.len
  unfold Oper.wp
  have hrun : (execOp a.eval ⟨dst, .call ⟨.value (.func f), xs.toArray, tys⟩, ty, pos, aft, g⟩).run P cx.w = .ok (.enter f (xs.map a.eval).toArray) cx.w := by
    simp [execOp, resolve, Deferred.ofValue, Act.eval, invoke, run_callFunc hcl]
  rw [hrun]
  refine Calls.mono (hcalls cx.inn (xs.map a.eval) rfl hi.inn (by rw [← hmap, ← hm]; exact Reps.inn1 hnl hreps)) ?_
  rintro e w' ⟨v, cx', r', ob', L', rfl, rfl, hx, hn, hi', hrv, rfl, rfl, hL⟩
  obtain ⟨h1, h2⟩ := back hi hx hn (ob' := ob) (lo' := lo) hi' rfl rfl
  exact ⟨v, cx.out cx', rfl, rfl, h1, h2.sub hL, Rep.rs (cx := cx') (cx' := cx.out cx') rfl rfl rfl hr hrv⟩

theorem p_callp {f : FuncId} {xs : List Operand} {tys : Array TypeId} {mk : Nat → List PV} {args : List PV} {cs : List PV} {k : Nat} {r : PV} (hf : FnR P f mk cs r) (he : Evs tm xs args) (hmap : args = mk k) (hc : ob[k]? = some cs)
    (hnl : args.all PV.nl = true) (hr : r.rs = true) :
    POp P lo ob L ⟨dst, .call ⟨.value (.func f), xs.toArray, tys⟩, ty, pos, aft, g⟩ tm r := by
  intro cx a hi ho
  have hoc : (ob ++ lo)[k]? = some cs := pre_get hc
  obtain ⟨hcl, hcalls⟩ := hf (ob ++ lo) L k hoc
  have hreps := evs_reps ho (fun x hx => by simp [Op.operands, Call.operands, hx]) he
  unfold Oper.wp
  have hrun : (execOp a.eval ⟨dst, .call ⟨.value (.func f), xs.toArray, tys⟩, ty, pos, aft, g⟩).run P cx.w = .ok (.enter f (xs.map a.eval).toArray) cx.w := by
    simp [execOp, resolve, Deferred.ofValue, Act.eval, invoke, run_callFunc hcl]
  rw [hrun]
  refine Calls.mono (hcalls cx.inn (xs.map a.eval) rfl hi.inn (by rw [← hmap]; exact Reps.inn hnl hreps)) ?_
  rintro e w' ⟨v, cx', r', ob', L', rfl, rfl, hx, hn, hi', hrv, rfl, rfl, hL⟩
  obtain ⟨h1, h2⟩ := back hi hx hn (ob' := ob) (lo' := lo) hi' rfl rfl
  exact ⟨v, cx.out cx', rfl, rfl, h1, h2.sub hL, Rep.rs (cx := cx') (cx' := cx.out cx') rfl rfl rfl hr hrv⟩

/-- A method that turns a local object. -/
theorem e_callm {f : FuncId} {xs : List Operand} {tys : Array TypeId} {nt d k : Nat} {mk : Nat → List PV} {args : List PV} {cs cs' : List PV} {r : PV} {K : AS → Prop} (hf : FnM P f mk cs cs' r) (he : Evs tm xs args) (hmap : args.map (inPV ob.length) = mk (ob.length + k)) (hc : lo[k]? = some cs)
    (hnl : args.all PV.nl1 = true) (hr : r.rs = true) (hd : Nat.blt d nt = true) (hK : K ⟨nt, (d, r) :: tm, lo.set k cs', ob, L⟩) :
    AOp P ⟨some d, .call ⟨.value (.func f), xs.toArray, tys⟩, ty, pos, aft, none⟩ ⟨nt, tm, lo, ob, L⟩ K := by
  have hoc : (ob ++ lo)[ob.length + k]? = some cs := by rw [List.getElem?_append_right (by omega), Nat.add_sub_cancel_left]; exact hc
  have hset : (ob ++ lo).set (ob.length + k) cs' = ob ++ lo.set k cs' := by
    rw [List.set_append_right _ _ (by omega), Nat.add_sub_cancel_left]
  refine AOp.conv (K' := fun s' => ∃ L', s' = ⟨nt, (d, r) :: tm, lo.set k cs', ob, L'⟩ ∧ ∀ j ∈ L, j ∈ L') ?_ ?_
  · refine e_call (args := args) (by rw [hmap]; exact hf (ob ++ lo) L (ob.length + k) hoc) he hnl hd ?_ ?_
    · rintro r' ob' lo' L' ⟨rfl, h1, h2⟩ hl1 hl2
      rw [hset] at h1
      obtain ⟨rfl, rfl⟩ := List.append_inj h1 hl1
      exact ⟨hr, L', rfl, h2⟩
    · rintro r' o' L' ⟨rfl, rfl, _⟩
      simp
  · rintro s' ⟨L', rfl, h1⟩
    exact ⟨_, hK, fun cx a hi => ⟨hi.inv.sub h1, hi.df, hi.sz, hi.tm⟩⟩
theorem e_callmp {f : FuncId} {xs : List Operand} {tys : Array TypeId} {nt d k : Nat} {mk : Nat → List PV} {args : List PV} {cs cs' : List PV} {r : PV} {K : AS → Prop} (hf : FnM P f mk cs cs' r) (he : Evs tm xs args) (hmap : args.map (inPV ob.length) = mk k) (hc : ob[k]? = some cs)
    (hnl : args.all PV.nl1 = true) (hr : r.rs = true) (hd : Nat.blt d nt = true) (hK : K ⟨nt, (d, r) :: tm, lo, ob.set k cs', L⟩) :
    AOp P ⟨some d, .call ⟨.value (.func f), xs.toArray, tys⟩, ty, pos, aft, none⟩ ⟨nt, tm, lo, ob, L⟩ K := by
  have hoc : (ob ++ lo)[k]? = some cs := pre_get hc
  have hlt : k < ob.length := (List.getElem?_eq_some_iff.1 hc).1
  have hset : (ob ++ lo).set k cs' = ob.set k cs' ++ lo := List.set_append_left _ _ hlt
  refine AOp.conv (K' := fun s' => ∃ L', s' = ⟨nt, (d, r) :: tm, lo, ob.set k cs', L'⟩ ∧ ∀ j ∈ L, j ∈ L') ?_ ?_
  · refine e_call (args := args) (by rw [hmap]; exact hf (ob ++ lo) L k hoc) he hnl hd ?_ ?_
    · rintro r' ob' lo' L' ⟨rfl, h1, h2⟩ hl1 hl2
      rw [hset] at h1
      obtain ⟨rfl, rfl⟩ := List.append_inj h1 (by rw [hl1]; simp)
      exact ⟨hr, L', rfl, h2⟩
    · rintro r' o' L' ⟨rfl, rfl, _⟩
      simp
  · rintro s' ⟨L', rfl, h1⟩
    exact ⟨_, hK, fun cx a hi => ⟨hi.inv.sub h1, hi.df, hi.sz, hi.tm⟩⟩

theorem wp_guard {op : Op} {a : Act} {w : World} {K : Act → World → Prop} {Q : Exit → Act → World → Prop} (h : Oper.wp P ⟨dst, op, ty, pos, aft, none⟩ a w K Q) : Oper.wp P ⟨dst, op, ty, pos, aft, g⟩ a w K Q := by
  have e1 : execOp a.eval ⟨dst, op, ty, pos, aft, g⟩ = execOp a.eval ⟨dst, op, ty, pos, aft, none⟩ := by cases op <;> rfl
  have e2 : ∀ r, Oper.upon P ⟨dst, op, ty, pos, aft, g⟩ a K Q r = Oper.upon P ⟨dst, op, ty, pos, aft, none⟩ a K Q r := by
    intro r
    cases r with
    | ok n w => cases n <;> rfl
    | halt x w => cases x <;> rfl
  unfold Oper.wp at h ⊢
  rw [e1, e2]
  exact h

/-- A loop that is gone through round by round. -/
def AU (P : Program) (c : Code) (Q : Exit → AS → Prop) : Nat → AS → Prop
  | 0, _ => False
  | n + 1, s => AWP P c s (thenA (AU P c Q n) Q)
theorem au_s {c : Code} {Q : Exit → AS → Prop} {n : Nat} {s : AS} (h : AWP P c s (thenA (AU P c Q n) Q)) : AU P c Q (n + 1) s := h
theorem a_unroll {c : Code} {Q : Exit → AS → Prop} {s : AS} (n : Nat) (h : AU P c Q n s) : AWP P (.loop c) s Q := by
  intro cx a hi
  refine wp_loop_ghost (fun t a' w' => ∃ cx' s', cx'.w = w' ∧ Ext cx cx' ∧ InvS cx' s' a' ∧ AU P c Q t s') (fun t => t) (t0 := n) ⟨cx, s, rfl, Ext.refl cx, hi, h⟩ ?_
  rintro t a' w' ⟨cx', s', rfl, he, hi', hI⟩
  cases t with
  | zero => exact hI.elim
  | succ t =>
    refine wp_mono (hI cx' a' hi') ?_
    rintro e a'' w'' ⟨cx'', s'', rfl, he', hi'', hq⟩
    cases e with
    | normal => exact ⟨t, ⟨cx'', s'', rfl, he.trans he', hi'', hq⟩, Nat.lt_succ_self t⟩
    | _ => exact ⟨cx'', s'', rfl, he.trans he', hi'', hq⟩

/-- A body with labels that isn't jumped in. -/
def ngA (Q : Exit → AS → Prop) : Exit → AS → Prop
  | .goto _, _ => False
  | e, s => Q e s
theorem a_scope {c : Code} {s : AS} {Q : Exit → AS → Prop} (h : AWP P c s (ngA Q)) : AWP P (.scope c) s Q := by
  intro cx a hi
  refine wp_scope_straight (wp_mono (h cx a hi) ?_)
  rintro e a' w' ⟨cx', s', h1, h2, h3, h4⟩
  cases e with
  | goto l => exact h4.elim
  | _ => exact ⟨cx', s', h1, h2, h3, h4⟩

/-- An operation with effect that stands under a guard. -/
theorem l_ge {all os : List Oper} {i j t d nt : Nat} {op : Op} {ty : TypeId} {pos : String} {aft : Array Edge} {Q} (b want : Bool) (p : PV) (hj : gdst all j = some t) (hl : look tm t = some (.d (.v (.bool b)))) (hd : Nat.blt d nt = true) (ht : Nat.blt t nt = true)
    (h1 : (b == want) = true → AOp P ⟨some d, op, ty, pos, aft, none⟩ ⟨nt, tm, lo, ob, L⟩ (fun s' => AL P all (i + 1) os s' Q))
    (h2 : (b == want) = false → AL P all (i + 1) os ⟨nt, (d, .opt (b == want) p) :: tm, lo, ob, L⟩ Q) :
    AL P all i (⟨some d, op, ty, pos, aft, some (j, want)⟩ :: os) ⟨nt, tm, lo, ob, L⟩ Q := by
  intro hdrop cx a hi
  obtain ⟨hget, hrest⟩ := drop_cons hdrop
  have hlt : i < all.length := (List.getElem?_eq_some_iff.1 hget).1
  have hr := hi.tm t _ hl
  simp only [Rep, RepD] at hr
  have hsz := hi.sz
  simp only at hsz
  have hy := yielded_of hj hr.1 (by rw [hsz]; exact Nat.le_of_ble_eq_true ht)
  simp only [List.length_cons, List.range'_succ]
  rw [wpOps_cons]
  unfold wpOp
  simp only [List.getElem?_toArray, hget]
  cases hbw : (b == want) with
  | true =>
    have hw : Region.wanted (⟨some d, op, ty, pos, aft, some (j, want)⟩ : Oper) (yielded all.toArray a.tmps) = true := by
      simp only [Region.wanted, hy]
      have : b = want := by simpa using hbw
      rw [this]; simp
    rw [if_pos hw]
    refine .inl ?_
    refine wp_guard (wp_monoQ (Oper.wp_mono ?_ (h1 hbw cx a hi)))
    rintro a' w' ⟨cx', s', rfl, he, hi', hk⟩
    refine wpOps_mono ?_ _ _ _ (hk hrest cx' a' hi')
    rintro e a'' w'' ⟨cx'', s'', rfl, he', hi'', hq⟩
    exact ⟨cx'', s'', rfl, he.trans he', hi'', hq⟩
  | false =>
    have hw : ¬ Region.wanted (⟨some d, op, ty, pos, aft, some (j, want)⟩ : Oper) (yielded all.toArray a.tmps) = true := by
      simp only [Region.wanted, hy]
      intro he
      have : b = want := by simpa using he
      rw [this] at hbw
      simp at hbw
    rw [if_neg hw]
    have := h2 hbw
    refine this hrest cx (a.put (some d) undef) ?_
    exact hi.put (Ext.refl cx) hi.inv (Nat.le_of_ble_eq_true hd) (by simp only [Rep]; exact ⟨fun hf => (by rw [hbw] at hf; cases hf), fun _ => trivial⟩)
theorem l_opt {all os : List Oper} {i d nt : Nat} {c : Bool} {r : PV} {Q} (hc : c = true) (h : AL P all i os ⟨nt, (d, .opt c r) :: tm, lo, ob, L⟩ Q) : AL P all i os ⟨nt, (d, r) :: tm, lo, ob, L⟩ Q := by
  intro hdr cx a hi
  refine h hdr cx a ⟨hi.inv, hi.df, hi.sz, fun t q hq => ?_⟩
  rw [look_cons] at hq
  by_cases e : d = t
  · subst e
    rw [if_pos rfl] at hq
    cases hq
    have := hi.tm d r (by rw [look_cons, if_pos rfl])
    simp only [Rep]
    exact ⟨fun _ => this, fun hf => by rw [hc] at hf; cases hf⟩
  · rw [if_neg e] at hq
    exact hi.tm t q (by rw [look_cons, if_neg e]; exact hq)
end

section
variable {P : Program} {G : List (List PV) → List (List PV) → List Nat → Prop} {all : List Oper} {cl : List Nat} {ps : List PV} {nt nb n : Nat} {tm0 tmF : List (Nat × PV)} {Q : Exit → AS → Prop} {cs : List Nat} {ct : List (Nat × PV)} {lo ob : List (List PV)} {L : List Nat}
/-- One of several that may come next. -/
def NX (P : Program) (G : List (List PV) → List (List PV) → List Nat → Prop) (all : List Oper) (cl : List Nat) (ps : List PV) (nt nb : Nat) (tm0 tmF : List (Nat × PV)) (Q : Exit → AS → Prop) (n : Nat) (cs : List Nat) (ct : List (Nat × PV)) (lo ob : List (List PV)) (L : List Nat) (c : Nat) : Prop :=
  ∃ o, all[c]? = some o ∧ AOp P o ⟨nt, ct ++ vis all cl ps c tm0, lo, ob, L⟩
      (fun s' => s'.nt = nt ∧ ∃ e, s'.tm = e ++ (ct ++ vis all cl ps c tm0) ∧ (match o.dst with | some d => (look e d).isSome | none => true) = true ∧ (e.all fun x => !(all.zipIdx.any fun (o, j) => !cl.contains j && o.dst == some x.1)) = true ∧ CHN P G all cl ps nt nb tm0 tmF Q n (cs.erase c) (e ++ ct) s'.lo s'.ob s'.L)
theorem ch_n (l : List Nat) (hG : G lo ob L) (hne : cs ≠ []) (hnx : nexts all cs = l) (h : ∀ c ∈ l, NX P G all cl ps nt nb tm0 tmF Q n cs ct lo ob L c) : CHN P G all cl ps nt nb tm0 tmF Q (n + 1) cs ct lo ob L :=
  ⟨hne, hG, fun c' hc' o' ho' => by
    rw [hnx] at hc'
    obtain ⟨o, h1, h2⟩ := h c' hc'
    rw [h1] at ho'; cases ho'
    exact h2⟩
theorem nx_e {c : Nat} {o : Oper} {cs' : List Nat} (ho : all[c]? = some o) (he : cs.erase c = cs') (h : AOp P o ⟨nt, ct ++ vis all cl ps c tm0, lo, ob, L⟩
      (fun s' => s'.nt = nt ∧ ∃ e, s'.tm = e ++ (ct ++ vis all cl ps c tm0) ∧ (match o.dst with | some d => (look e d).isSome | none => true) = true ∧ (e.all fun x => !(all.zipIdx.any fun (o, j) => !cl.contains j && o.dst == some x.1)) = true ∧ CHN P G all cl ps nt nb tm0 tmF Q n cs' (e ++ ct) s'.lo s'.ob s'.L)) :
    NX P G all cl ps nt nb tm0 tmF Q n cs ct lo ob L c := ⟨o, ho, by rw [he]; exact h⟩
theorem nx_o {c d : Nat} {op : Op} {ty : TypeId} {pos : String} {aft : Array Edge} {p : PV} {cs' : List Nat} (ho : all[c]? = some ⟨some d, op, ty, pos, aft, none⟩) (he : cs.erase c = cs') (h : POp P lo ob L ⟨some d, op, ty, pos, aft, none⟩ (ct ++ vis all cl ps c tm0) p)
    (hn : Nat.blt d nt = true) (hf : (!(all.zipIdx.any fun (o, j) => !cl.contains j && o.dst == some d)) = true) (k : CHN P G all cl ps nt nb tm0 tmF Q n cs' ((d, p) :: ct) lo ob L) :
    NX P G all cl ps nt nb tm0 tmF Q n cs ct lo ob L c := by
  refine nx_e ho he ?_
  intro cx a hi
  refine Oper.wp_mono ?_ (h cx a hi.inv (fun x _ q hq => hi.ev hq))
  rintro a' w' ⟨v, cx', rfl, rfl, h1, h2, h3⟩
  refine ⟨cx', ⟨nt, (d, p) :: (ct ++ vis all cl ps c tm0), lo, ob, L⟩, rfl, h1, hi.put h1 h2 (Nat.le_of_ble_eq_true hn) h3, rfl, [(d, p)], rfl, by simp [look_cons], by simpa using hf, k⟩
theorem fa_nil {p : Nat → Prop} : ∀ c ∈ ([] : List Nat), p c := fun _ h => absurd h List.not_mem_nil
theorem fa_cons {p : Nat → Prop} {a : Nat} {l : List Nat} (h : p a) (k : ∀ c ∈ l, p c) : ∀ c ∈ a :: l, p c := fun c hc => (List.mem_cons.1 hc).elim (fun e => e ▸ h) (fun h' => k c h')
end
end Go.Proofs.YtcemejmegbefgaaGreatDoor.Em

set_option maxRecDepth 100000
set_option linter.unusedVariables false
set_option linter.unusedSimpArgs false
namespace Go.Proofs.YtcemejmegbefgaaGreatDoor.Em
open Go.RowKit

section
variable {P : Program} {lo ob : List (List PV)} {L : List Nat} {tm : List (Nat × PV)} {dst : Option Nat} {ty : TypeId} {pos : String} {aft : Array Edge} {g : Option (Nat × Bool)}

/-- Two stores into one row, as in a swap: the pointer of the first bears the row's content from then on. -/
theorem str_core {x y : Operand} {T nt e sz k i off n t io oo : Nat} {l : List (List D)} {c : List D} {p : PV} {K : AS → Prop} {Lr : List Nat} {k0 : Nat} (hs : szOf P T = some n)
    (hx : ∀ cx a, InvS cx ⟨nt, tm, lo, ob, L⟩ a → ∃ gg z ct, a.eval x = .pointer (some ⟨gg, i * sz + off, none⟩) ∧ a.tmps.getD t undef = .pointer (some ⟨gg, io * sz + oo, none⟩) ∧ (∀ x ∈ l, x.length = sz) ∧ l.length * sz ≤ z ∧ cx.lv[k]? = some (some (gg, 0, z, e, l.flatten)) ∧ cx.lv[k0]? = some (some (gg, 0, z, e, ct)))
    (hk : k ∈ L) (hL : ∀ j ∈ Lr, j ∈ L ∧ j ≠ k)
    (hc : l[i]? = some c) (hy : Ev tm y p) (hp : p.isC = true) (hn : Nat.beq p.cellsD.length n = true) (hl : off + n ≤ sz)
    (hK : ∀ k', k' ∉ L → K ⟨nt, (t, .rp2 e sz (l.set i (splice c off p.cellsD)) k' io oo k0) :: tm, lo, ob, k' :: Lr⟩) : AOp P ⟨none, .store T x y, ty, pos, aft, none⟩ ⟨nt, tm, lo, ob, L⟩ K := by
  intro cx a hi
  obtain ⟨q, hq, hle⟩ := hy
  have hy1 := hle cx _ (hi.ev hq)
  obtain ⟨gg, z, ct0, h2, h2t, h3, hlz, h4, h40⟩ := hx cx a hi
  have hn' := Nat.eq_of_beq_eq_true hn
  have hcl : c.length = sz := h3 c (List.mem_of_getElem? hc)
  obtain ⟨cur, h11, h12, h13⟩ := live_row hi.inv hk h4
  have hcells := rep_cells hp hy1
  have hvl := hcells.length
  have hvs : (a.eval y).cells.size = n := by simp at hvl; omega
  have hil : i < l.length := (List.getElem?_eq_some_iff.1 hc).1
  have hfl := flatten_length h3
  have hib : i * sz + sz ≤ l.length * sz := by
    have : (i + 1) * sz ≤ l.length * sz := Nat.mul_le_mul_right _ hil
    rw [Nat.succ_mul] at this; omega
  have hone := repDs_one hcells
  have hrun := run_storeVar (P := P) (w := cx.w) (o := i * sz + off) hs hvs h11 (by omega) hone
  have hct : RepDs cx.w cx.S (l.set i (splice c off p.cellsD)).flatten
      ((cur.toList.take (i * sz + off) ++ (a.eval y).cells.toList ++ cur.toList.drop (i * sz + off + n)).toArray.toList.take (l.set i (splice c off p.cellsD)).flatten.length) := by
    rw [flatten_set h3 hc (by omega)]
    have hsp : (splice l.flatten (i * sz + off) p.cellsD).length = l.flatten.length := splice_length (by rw [hfl]; omega)
    rw [hsp, hfl]
    rw [hfl] at h13
    simp only [splice, hn', List.toList_toArray]
    have e1 : (cur.toList.take (i * sz + off) ++ (a.eval y).cells.toList ++ cur.toList.drop (i * sz + off + n)).take (l.length * sz)
        = (cur.toList.take (l.length * sz)).take (i * sz + off) ++ (a.eval y).cells.toList ++ (cur.toList.take (l.length * sz)).drop (i * sz + off + n) := by
      have hA : (cur.toList.take (i * sz + off) ++ (a.eval y).cells.toList).length = i * sz + off + n := by
        simp only [List.length_append, List.length_take, Array.length_toList, hvs]; omega
      rw [List.take_append, List.take_of_length_le (by omega), hA, List.take_take, Nat.min_eq_left (by omega), List.drop_take]
    rw [e1]
    exact ((h13.take _).append hcells).append (h13.drop _)
  obtain ⟨he, hi'⟩ := hi.inv.putRow hk h4 Lr hL h11 (nw := (cur.toList.take (i * sz + off) ++ (a.eval y).cells.toList ++ cur.toList.drop (i * sz + off + n)).toArray)
    (by simp only [List.size_toArray, List.length_append, List.length_take, List.length_drop, Array.length_toList, hvs]; omega) hct
  unfold Oper.wp
  have : (execOp a.eval ⟨none, .store T x y, ty, pos, aft, none⟩).run P cx.w = .ok .skip (cx.w.setRow gg (cur.toList.take (i * sz + off) ++ (a.eval y).cells.toList ++ cur.toList.drop (i * sz + off + n)).toArray) := by
    simp only [execOp, h2, Instr.storeAt, Instr.sureAddr, Sem.run_bind, Sem.run_pure, Result.andThen_ok, hrun]
  rw [this]
  refine ⟨_, _, rfl, he, hi.renew he hi' (t := t) (p := .rp2 e sz (l.set i (splice c off p.cellsD)) cx.lv.length io oo k0) ?_, hK _ (fun h => Nat.lt_irrefl _ (look_live hi.inv h))⟩
  rw [h2t]
  simp only [Rep]
  refine ⟨gg, z, ct0, rfl, fun x hx => ?_, by simp, pre_get h40⟩
  rcases List.mem_or_eq_of_mem_set hx with h | rfl
  · exact h3 x h
  · rw [splice_length (by omega)]; exact hcl

theorem row_fits {cx : Cx} (hi : Inv cx ob lo L) {k gg z e sz : Nat} {l : List (List D)} (hk : k ∈ L) (h3 : ∀ x ∈ l, x.length = sz) (h4 : cx.lv[k]? = some (some (gg, 0, z, e, l.flatten))) : l.length * sz ≤ z := by
  obtain ⟨cur, h11, h12, h13⟩ := live_row hi hk h4
  have := h13.length
  rw [flatten_length h3] at this
  simp at this
  omega

/-- The first store: its pointer bears the content. -/
theorem e_sw1 {t : Nat} {y : Operand} {T nt e sz k i off n : Nat} {l : List (List D)} {c : List D} {p : PV} {K : AS → Prop} {Lr : List Nat} (hs : szOf P T = some n)
    (hx : ev tm (.tmp t) = some (.rp e sz l k i off)) (hk : k ∈ L) (hL : ∀ j ∈ Lr, j ∈ L ∧ j ≠ k)
    (hc : l[i]? = some c) (hy : Ev tm y p) (hp : p.isC = true) (hn : Nat.beq p.cellsD.length n = true) (hl : off + n ≤ sz)
    (hK : ∀ k', k' ∉ L → K ⟨nt, (t, .rp2 e sz (l.set i (splice c off p.cellsD)) k' i off k) :: tm, lo, ob, k' :: Lr⟩) : AOp P ⟨none, .store T (.tmp t) y, ty, pos, aft, none⟩ ⟨nt, tm, lo, ob, L⟩ K := by
  refine str_core hs (fun cx a hi => ?_) hk hL hc hy hp hn hl hK
  have hx1 := hi.ev hx
  simp only [Rep] at hx1
  obtain ⟨gg, z, h2, h3, h4⟩ := hx1
  exact ⟨gg, z, l.flatten, h2, h2, h3, row_fits hi.inv hk h3 h4, h4, h4⟩

/-- The second one, through a pointer that was taken ahead of the first. -/
theorem e_sw2 {t : Nat} {x y : Operand} {T nt e sz k k0 i off io oo n : Nat} {l l0 : List (List D)} {c : List D} {p : PV} {K : AS → Prop} {Lr : List Nat} (hs : szOf P T = some n)
    (hx : ev tm x = some (.rp e sz l0 k0 i off)) (ht : ev tm (.tmp t) = some (.rp2 e sz l k io oo k0)) (hk : k ∈ L) (hL : ∀ j ∈ Lr, j ∈ L ∧ j ≠ k)
    (hc : l[i]? = some c) (hy : Ev tm y p) (hp : p.isC = true) (hn : Nat.beq p.cellsD.length n = true) (hl : off + n ≤ sz)
    (hK : ∀ k', k' ∉ L → K ⟨nt, (t, .rp2 e sz (l.set i (splice c off p.cellsD)) k' io oo k0) :: tm, lo, ob, k' :: Lr⟩) : AOp P ⟨none, .store T x y, ty, pos, aft, none⟩ ⟨nt, tm, lo, ob, L⟩ K := by
  refine str_core hs (fun cx a hi => ?_) hk hL hc hy hp hn hl hK
  have hx1 := hi.ev hx
  have ht1 := hi.ev ht
  simp only [Rep] at hx1 ht1
  obtain ⟨gg, z, h2, h3, h4⟩ := hx1
  obtain ⟨g', z', ct, h5, h6, h7, h8⟩ := ht1
  rw [h4] at h8
  simp only [Option.some.injEq, Prod.mk.injEq, true_and] at h8
  obtain ⟨rfl, rfl, rfl⟩ := h8
  exact ⟨gg, z, l0.flatten, h2, h5, h6, row_fits hi.inv hk h6 h7, h7, h4⟩

/-- Behind both: the row itself bears the new content. -/
theorem a_ren {c : Code} {nt t u e sz k k0 io oo : Nat} {l l0 : List (List D)} {Q} (hx : ev tm (.tmp t) = some (.row e sz l0 k0)) (hu : ev tm (.tmp u) = some (.rp2 e sz l k io oo k0)) (hlen : l.length = l0.length) (hne : l0 ≠ [])
    (h : AWP P c ⟨nt, (t, .row e sz l k) :: tm, lo, ob, L⟩ Q) : AWP P c ⟨nt, tm, lo, ob, L⟩ Q := by
  intro cx a hi
  have hx1 := hi.ev hx
  have hu1 := hi.ev hu
  simp only [Rep] at hx1 hu1
  refine h cx a (hi.renew (Ext.refl cx) hi.inv ?_)
  obtain ⟨g', z', ct, h5, h6, h7, h8⟩ := hu1
  rcases hx1 with ⟨rfl, _⟩ | ⟨b, cp, h1, h2, h3, h4, h9, h10⟩
  · exact absurd rfl hne
  · rw [h8] at h10
    simp only [Option.some.injEq, Prod.mk.injEq, true_and] at h10
    obtain ⟨rfl, rfl, _⟩ := h10
    have h1' : a.tmps.getD t undef = .slice (some ⟨g', 0, none⟩) l0.length cp := h1
    rw [h1']
    simp only [Rep]
    exact .inr ⟨g', cp, by rw [hlen], by rw [hlen]; exact h2, h3, by rw [hlen]; exact h4, h6, h7⟩

/-- A row that is written no more, but may grow still. -/
theorem a_rown {c : Code} {nt t e sz k : Nat} {l : List (List D)} {Q} {Lr : List Nat} (hx : ev tm (.tmp t) = some (.row e sz l k)) (hk : k ∈ L) (hL : ∀ j ∈ Lr, j ∈ L ∧ j ≠ k) (hne : l ≠ [])
    (h : ∀ k', k' ∉ L → AWP P c ⟨nt, (t, .own e sz l k') :: tm, lo, ob, k' :: Lr⟩ Q) : AWP P c ⟨nt, tm, lo, ob, L⟩ Q := by
  intro cx a hi
  have hx1 := hi.ev hx
  simp only [Rep] at hx1
  rcases hx1 with ⟨rfl, _⟩ | ⟨gg, cp, h2, h3, h4, h5, h6, h7⟩
  · exact absurd rfl hne
  obtain ⟨x, hx, hlive⟩ := hi.inv.live k hk
  have hxe : x = some (gg, 0, cp * sz, e, l.flatten) := by rw [hx] at h7; exact Option.some.inj h7
  subst hxe
  obtain ⟨hb, ⟨cur, hc1, hc2, hc3⟩, hgn, hsp⟩ := hlive gg 0 _ e _ rfl
  simp only [List.drop_zero] at hc3
  let cx1 : Cx := { cx with S := fun b o => cx.S b o ∨ (b = gg ∧ o < l.length * sz) }
  have he : Ext cx cx1 := ⟨Below.refl _ _, rfl, fun b o hs => ⟨.inl hs, rfl⟩, ⟨[], by simp [cx1]⟩, ⟨[], by simp [cx1]⟩, ⟨[], by simp [cx1]⟩⟩
  have hlen : l.length * sz ≤ cur.size := by rw [hc2]; exact Nat.mul_le_mul_right _ h3
  have hi1 : Inv cx1 ob lo Lr := by
    refine ⟨?_, hi.inv.baseLe, hi.inv.gv, ⟨hi.inv.oob.len, ?_⟩, ⟨hi.inv.olo.len, ?_⟩, hi.inv.nd, ?_, fun j hj j' hj' => hi.inv.ldist j (hL j hj).1 j' (hL j' hj').1⟩
    · rintro b o (hs | ⟨rfl, ho⟩)
      · exact hi.inv.sOk b o hs
      · show (cx.w.cell? _).isSome = true
        rw [cellAt hc1]
        have : o < cur.size := by omega
        simp [this]
    · intro i b cs hb' hc
      obtain ⟨h1, h2, h4, h5⟩ := hi.inv.oob.at_ i b cs hb' hc
      refine ⟨h1, h2.tr rfl (fun _ h3 => Reps.ext he _ _ h3), ?_, h5⟩
      rintro o (h | ⟨h, _⟩)
      · exact h4 o h
      · exact hgn (List.mem_append_left _ (h ▸ List.mem_of_getElem? hb'))
    · intro i b cs hb' hc
      obtain ⟨h1, h2, h4, h5⟩ := hi.inv.olo.at_ i b cs hb' hc
      refine ⟨h1, h2.tr rfl (fun _ h3 => Reps.ext he _ _ h3), ?_, h5⟩
      rintro o (h | ⟨h, _⟩)
      · exact h4 o h
      · exact hgn (List.mem_append_right _ (h ▸ List.mem_of_getElem? hb'))
    · intro j hj
      obtain ⟨x', h1, h2⟩ := hi.inv.live j (hL j hj).1
      refine ⟨x', h1, fun g' s z' e' ct' hxe => ?_⟩
      obtain ⟨h3, ⟨cur', h4, h4'⟩, h5, h6⟩ := h2 g' s z' e' ct' hxe
      have hne : gg ≠ g' := hi.inv.ldist k hk j (hL j hj).1 (Ne.symm (hL j hj).2) gg _ g' (s, z', e', ct') h7 (by rw [h1, hxe])
      refine ⟨h3, ⟨cur', h4, h4'.1, RepDs.keep he.keeps _ _ h4'.2⟩, h5, ?_⟩
      rintro o ho (h | ⟨h, _⟩)
      · exact h6 o ho h
      · exact hne h.symm
  obtain ⟨he2, hi2⟩ := hi1.name (some (gg, l.length * sz, cp * sz, e, [])) Lr (fun _ h => h) (fun g' s z' e' ct h => by
    simp only [Option.some.injEq, Prod.mk.injEq] at h
    obtain ⟨rfl, rfl, rfl, rfl, rfl⟩ := h
    refine ⟨hb, ⟨cur, hc1, hc2, by simp [RepDs]⟩, hgn, ?_, ?_⟩
    · rintro o ho (h | ⟨_, h⟩)
      · exact hsp o (Nat.zero_le _) h
      · omega
    · intro j hj g' y' hj' hgg
      obtain ⟨x', h1, h2⟩ := hi.inv.live j (hL j hj).1
      have h1' : cx.lv[j]? = some (some (g', y')) := hj'
      exact hi.inv.ldist k hk j (hL j hj).1 (Ne.symm (hL j hj).2) gg _ g' y' h7 h1' hgg)
  have hfl := flatten_length h6
  rw [hfl] at hc3
  have hrep : Rep { cx1 with lv := cx1.lv ++ [some (gg, l.length * sz, cp * sz, e, [])] } (.own e sz l cx1.lv.length) (a.tmps.getD t undef) := by
    have h2' : a.tmps.getD t undef = .slice (some ⟨gg, 0, none⟩) l.length cp := h2
    rw [h2']
    simp only [Rep]
    refine .inr ⟨gg, cp, cur.toList.take (l.length * sz), rfl, h3, h4, h5, ?_, RepC.keep (he.trans he2).keeps _ _ _ (repC_flatten h6 hc3), by simp⟩
    intro j v hv
    have hj : j < l.length * sz := by
      rcases Nat.lt_or_ge j (l.length * sz) with h' | h'
      · exact h'
      · rw [List.getElem?_eq_none (by simp; omega)] at hv; cases hv
    rw [List.getElem?_take, if_pos hj] at hv
    refine ⟨?_, .inr ⟨rfl, by omega⟩⟩
    show cx.w.cell? _ = _
    rw [Nat.zero_add, cellAt hc1]; exact hv
  have hs := hi.renew (he.trans he2) hi2 (t := t) hrep
  have h9 := h cx1.lv.length (fun h => Nat.lt_irrefl _ (look_live hi.inv h)) _ a hs
  refine wp_mono (show c.wp P _ a cx.w from h9) ?_
  rintro e a' w' ⟨cx', s', rfl, he', hi'', hq⟩
  exact ⟨cx', s', rfl, (he.trans he2).trans he', hi'', hq⟩
theorem p_remu {x y : Operand} {t t' : TypeId} {m n : Int} (hx : Ev tm x (int .u64 m)) (hy : Ev tm y (int .u64 n)) (h : 0 ≤ m ∧ 0 < n) :
    POp P lo ob L ⟨dst, .binOp .rem t x y t', ty, pos, aft, g⟩ tm (int .u64 (m % n)) := by
  intro cx a hi ho
  have h1 := rep_v (opr ho (by simp [Op.operands]) hx)
  have h2 := rep_v (opr ho (by simp [Op.operands]) hy)
  have h3 : 0 ≤ m % n ∧ m % n < n := ⟨Int.emod_nonneg _ (by omega), Int.emod_lt_of_pos _ h.2⟩
  have h4 := h2.2
  simp only [okv, IntKind.min, IntKind.max, IntKind.signed, IntKind.bits] at h4
  have hr : IntKind.u64.min ≤ m % n ∧ m % n ≤ IntKind.u64.max := by
    simp only [IntKind.min, IntKind.max, IntKind.signed, IntKind.bits]
    simp at h4 ⊢; omega
  have h5 : IntKind.u64.wrap (m % n) = m % n := wrap_in _ hr
  have h6 : m.tmod n = m % n := Int.tmod_eq_emod_of_nonneg h.1
  exact p_bin hx hy (by simp only [okv]; exact hr) (fun w => by simp [eqGuard, binOp, Op.intDiv, h6, h5, show n ≠ 0 by omega]) cx a hi ho

theorem reps_evs {cx : Cx} {a : Act} {s : AS} (hi : InvS cx s a) : ∀ {xs : List Operand} {ps : List PV}, Evs s.tm xs ps → Reps cx ps (xs.map a.eval)
  | [], ps, h => by
    have h' : ps = [] := h
    subst h'; simp [Reps]
  | x :: xs, ps, h => by
    obtain ⟨p, r, rfl, ⟨q, hq, hle⟩, hs⟩ := h
    simp only [List.map_cons, Reps]
    exact ⟨_, _, rfl, hle cx _ (hi.ev hq), reps_evs hi hs⟩

/-- A slice's literal that is written still. -/
theorem e_bsr {xs : List Operand} {t e d nt : TypeId} {sz : Nat} {ps : List PV} {parts : Array (Nat × Operand)} {n : Nat} {K : AS → Prop} (hu : P.underlying t = some (.slice e)) (hz : zeroOk P e sz = true) (hsz : Nat.blt 0 sz = true) (hd : Nat.blt d nt = true)
    (hp : parts = ((xs.zipIdx).map fun p => (p.2, p.1)).toArray) (hn : n = xs.length) (hx : Evs tm xs ps) (hc : ps.all PV.isC = true) (hl : (ps.map PV.cellsD).all (fun e => Nat.beq e.length sz) = true) (hb : Nat.ble (n * sz) 16777216 = true)
    (hK : ∀ k', k' ∉ L → K ⟨nt, (d, .row e sz (ps.map PV.cellsD) k') :: tm, lo, ob, k' :: L⟩) :
    AOp P ⟨some d, .buildSlice t n parts, ty, pos, aft, none⟩ ⟨nt, tm, lo, ob, L⟩ K := by
  subst hp
  subst hn
  intro cx a hi
  have hsz' : 0 < sz := Nat.le_of_ble_eq_true hsz
  have hreps := reps_evs hi hx
  have hlen : ∀ {ps : List PV} {vs : List Value}, ps.all PV.isC = true → (ps.map PV.cellsD).all (fun e => Nat.beq e.length sz) = true → Reps cx ps vs → (∀ v ∈ vs, v.cells.size = sz) ∧ F2 (RepDs cx.w cx.S) (ps.map PV.cellsD) (vs.map fun v => v.cells.toList) := by
    intro ps
    induction ps with
    | nil => intro vs _ _ h; simp only [Reps] at h; subst h; exact ⟨by simp, .nil⟩
    | cons p ps ih =>
      intro vs h1 h2 h
      simp only [List.all_cons, Bool.and_eq_true, List.map_cons] at h1 h2
      simp only [Reps] at h
      obtain ⟨v, r, rfl, h3, h4⟩ := h
      obtain ⟨h5, h6⟩ := ih h1.2 h2.2 h4
      have h7 := rep_cells h1.1 h3
      refine ⟨?_, .cons h7 h6⟩
      intro u hu
      rcases List.mem_cons.1 hu with rfl | hu
      · have := h7.length
        have h8 := Nat.eq_of_beq_eq_true h2.1
        simp at this; omega
      · exact h5 u hu
  obtain ⟨h1, h2⟩ := hlen hc hl hreps
  have hbs := run_buildSlice (P := P) (w := cx.w) hu hz hsz' (xs.map a.eval) h1 (by have := Nat.le_of_ble_eq_true hb; simpa using this)
  simp only [List.length_map] at hbs
  have hrun : (execOp a.eval ⟨some d, .buildSlice t xs.length ((xs.zipIdx).map fun p => (p.2, p.1)).toArray, ty, pos, aft, none⟩).run P cx.w =
      .ok (.value (.slice (some ⟨cx.w.heap.size, 0, none⟩) xs.length xs.length)) (cx.w.alloc (.cells ((xs.map a.eval).map fun v => v.cells.toList).flatten.toArray e (0, 0))) := by
    have := parts_eq a.eval xs 0
    simp only [execOp, List.map_toArray]
    rw [this, Sem.run_bind, hbs]
    rfl
  have hsl : ∀ x ∈ ps.map PV.cellsD, x.length = sz := fun e' he' => Nat.eq_of_beq_eq_true (List.all_eq_true.1 hl e' he')
  have hrc := repC_of hsl h2
  have hfl := flatten_length hsl
  have hpl := hreps.length
  simp at hpl
  have hds : RepDs cx.w cx.S (ps.map PV.cellsD).flatten ((xs.map a.eval).map fun v => v.cells.toList).flatten := (repDs_flatten hrc).1
  have hdl := hds.length
  obtain ⟨he, hi2⟩ := hi.inv.newLive ((xs.map a.eval).map fun v => v.cells.toList).flatten.toArray e (ps.map PV.cellsD).flatten (by
    rw [List.toList_toArray, List.take_of_length_le (by omega)]; exact hds)
  unfold Oper.wp
  rw [hrun]
  have hname : cx.lv.length ∉ L := fun h => Nat.lt_irrefl _ (look_live hi.inv h)
  have hlim : xs.length ≤ 16777216 := by
    have := Nat.le_of_ble_eq_true hb
    have : xs.length * 1 ≤ xs.length * sz := Nat.mul_le_mul_left _ hsz'
    omega
  refine ⟨_, ⟨nt, (d, .row e sz (ps.map PV.cellsD) cx.lv.length) :: tm, lo, ob, cx.lv.length :: L⟩, rfl, he, ?_, hK _ hname⟩
  have h0 : InvS cx ⟨nt, tm, lo, ob, L⟩ a := hi
  have := h0.put he (hi2.sub fun j hj => List.mem_cons_of_mem _ hj) (Nat.le_of_ble_eq_true hd) (v := .slice (some ⟨cx.w.heap.size, 0, none⟩) xs.length xs.length) (p := .row e sz (ps.map PV.cellsD) cx.lv.length) (by
    simp only [Rep, List.length_map]
    refine .inr ⟨cx.w.heap.size, xs.length, by rw [hpl], by omega, by unfold maxLen; omega, by unfold LIM; omega, hsl, ?_⟩
    simp only [List.length_map] at hfl
    have hsz2 : (((xs.map a.eval).map fun v => v.cells.toList).flatten.toArray).size = xs.length * sz := by
      rw [List.size_toArray, hdl, hfl, hpl]
    rw [List.getElem?_append_right (Nat.le_refl _)]
    simp only [Nat.sub_self, List.getElem?_cons_zero]
    rw [hsz2])
  exact ⟨hi2, this.df, this.sz, this.tm⟩
end
end Go.Proofs.YtcemejmegbefgaaGreatDoor.Em
