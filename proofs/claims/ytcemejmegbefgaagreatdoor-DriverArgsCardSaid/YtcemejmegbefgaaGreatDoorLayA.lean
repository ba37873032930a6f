/-
  What a walk's abstract values stand for, and that a walk over them is a walk of the model; no condition.
-/
import Derived.Below
import Derived.Orders
set_option linter.unusedVariables false
namespace Go.Proofs.YtcemejmegbefgaaGreatDoor.Em
open Go.RowKit
/-! What the library's tables hold: nothing of it is used. -/
def GT : Nat → Nat → Option Value := fun _ _ => none
def NG : Nat := 0
structure GV (w : World) : Prop where
  tab : ∀ g off v, GT g off = some v → w.cell? ⟨g, off, none⟩ = some v
theorem GT_lt {g off : Nat} {v : Value} (h : GT g off = some v) : g < NG := by cases h
theorem GV.below {B : Nat} {w w' : World} (h : GV w) (hb : Below B w w') (hB : NG ≤ B) : GV w' := ⟨fun g off v hg => by cases hg⟩
theorem GV.all (w : World) : GV w := ⟨fun g off v hg => by cases hg⟩
end Go.Proofs.YtcemejmegbefgaaGreatDoor.Em

set_option linter.unusedVariables false
set_option linter.unusedSimpArgs false
namespace Go.Proofs.YtcemejmegbefgaaGreatDoor.Em
open Go.RowKit

/-! Values as data: scalars and slices. A slice: the cells of one element; the elements, each as its cells. -/
inductive D where
  | v (x : Value)
  | lst (sz : Nat) (l : List (List D))

def LIM : Nat := 140737488355328

/-- A scalar value that leads to no memory, within its bounds. -/
def okv : Value → Prop
  | .bool _ => True
  | .int k n => k.min ≤ n ∧ n ≤ k.max
  | .string s => s.size ≤ LIM
  | .nilIface => True
  | .nilFunc => True
  | .pointer none => True
  | .map none => True
  | _ => False

/-- Cells side by side, each of them stable. -/
def At (w : World) (S : Nat → Nat → Prop) (b off : Nat) (vs : List Value) : Prop :=
  ∀ (j : Nat) (v : Value), vs[j]? = some v → w.cell? ⟨b, off + j, none⟩ = some v ∧ S b (off + j)

mutual
def RepD (w : World) (S : Nat → Nat → Prop) : D → Value → Prop
  | .v x, y => y = x ∧ okv x
  | .lst sz l, y => (l = [] ∧ y = .slice none 0 0) ∨
      ∃ b off c vs, y = .slice (some ⟨b, off, none⟩) l.length c ∧ l.length ≤ c ∧ l.length ≤ LIM ∧ At w S b off vs ∧ RepC w S sz l vs
def RepDs (w : World) (S : Nat → Nat → Prop) : List D → List Value → Prop
  | [], vs => vs = []
  | d :: ds, vs => ∃ v r, vs = v :: r ∧ RepD w S d v ∧ RepDs w S ds r
def RepC (w : World) (S : Nat → Nat → Prop) (sz : Nat) : List (List D) → List Value → Prop
  | [], vs => vs = []
  | e :: es, vs => ∃ ve r, vs = ve ++ r ∧ e.length = sz ∧ RepDs w S e ve ∧ RepC w S sz es r
end

/-- What was stable is so still, and as it was. -/
def Keeps (w : World) (S : Nat → Nat → Prop) (w' : World) (S' : Nat → Nat → Prop) : Prop :=
  ∀ b o, S b o → S' b o ∧ w'.cell? ⟨b, o, none⟩ = w.cell? ⟨b, o, none⟩

theorem Keeps.refl (w : World) (S : Nat → Nat → Prop) : Keeps w S w S := fun _ _ h => ⟨h, rfl⟩
theorem Keeps.trans {w S w1 S1 w2 S2} (h : Keeps w S w1 S1) (k : Keeps w1 S1 w2 S2) : Keeps w S w2 S2 :=
  fun b o hs => ⟨(k b o (h b o hs).1).1, (k b o (h b o hs).1).2.trans (h b o hs).2⟩

theorem At.keep {w S w' S'} (hk : Keeps w S w' S') {b off vs} (h : At w S b off vs) : At w' S' b off vs :=
  fun j v hv => ⟨(hk _ _ (h j v hv).2).2.trans (h j v hv).1, (hk _ _ (h j v hv).2).1⟩

mutual
theorem RepD.keep {w S w' S'} (hk : Keeps w S w' S') : ∀ (d : D) (y : Value), RepD w S d y → RepD w' S' d y
  | .v x, y, h => by simpa only [RepD] using h
  | .lst sz l, y, h => by
    simp only [RepD] at h ⊢
    rcases h with h | ⟨b, off, c, vs, h1, h2, h3, h4, h5⟩
    · exact .inl h
    · exact .inr ⟨b, off, c, vs, h1, h2, h3, h4.keep hk, RepC.keep hk sz l vs h5⟩
theorem RepDs.keep {w S w' S'} (hk : Keeps w S w' S') : ∀ (ds : List D) (vs : List Value), RepDs w S ds vs → RepDs w' S' ds vs
  | [], vs, h => by simpa only [RepDs] using h
  | d :: ds, vs, h => by
    simp only [RepDs] at h ⊢
    obtain ⟨v, r, h1, h2, h3⟩ := h
    exact ⟨v, r, h1, RepD.keep hk d v h2, RepDs.keep hk ds r h3⟩
theorem RepC.keep {w S w' S'} (hk : Keeps w S w' S') (sz : Nat) : ∀ (l : List (List D)) (vs : List Value), RepC w S sz l vs → RepC w' S' sz l vs
  | [], vs, h => by simpa only [RepC] using h
  | e :: es, vs, h => by
    simp only [RepC] at h ⊢
    obtain ⟨ve, r, h1, h2, h3, h4⟩ := h
    exact ⟨ve, r, h1, h2, RepDs.keep hk e ve h3, RepC.keep hk sz es r h4⟩
end

/-! The values of a walk. -/
inductive PV where
  | d (x : D)
  | nil
  | own (e sz : Nat) (l : List (List D)) (k : Nat)
  | row (e sz : Nat) (l : List (List D)) (k : Nat)
  | rp (e sz : Nat) (l : List (List D)) (k i off : Nat)
  | rp2 (e sz : Nat) (l : List (List D)) (k i off k0 : Nat)
  | agg (cs : List D)
  | cel (cs : List D)
  | loc (o off : Nat)
  | ptr (o off : Nat)
  | tup (xs : List PV)
  | fn (f : Fn) (first caps : List PV)
  | glo (g off : Nat)
  | opt (b : Bool) (p : PV)
  | mloc (o : Nat)
  | mptr (o : Nat)
  | mpc (kv : List (Value × Value))
  | sic (s : List UInt8) (pos : Nat)
  | nx (b : Bool) (k c : Int)
  | any

structure Cx where
  w : World
  base : Nat
  S : Nat → Nat → Prop
  m : List Nat
  n : List Nat
  lv : List (Option (Nat × Nat × Nat × Nat × List D))

mutual
def Rep (cx : Cx) : PV → Value → Prop
  | .d x, y => RepD cx.w cx.S x y
  | .nil, y => y = .slice none 0 0
  | .own e sz l k, y => (l = [] ∧ y = .slice none 0 0 ∧ cx.lv[k]? = some none) ∨
      ∃ g c vs, y = .slice (some ⟨g, 0, none⟩) l.length c ∧ l.length ≤ c ∧ c ≤ maxLen ∧ l.length ≤ LIM ∧ At cx.w cx.S g 0 vs ∧ RepC cx.w cx.S sz l vs ∧ cx.lv[k]? = some (some (g, l.length * sz, c * sz, e, []))
  | .row e sz l k, y => (l = [] ∧ y = .slice none 0 0 ∧ cx.lv[k]? = some none) ∨
      ∃ g c, y = .slice (some ⟨g, 0, none⟩) l.length c ∧ l.length ≤ c ∧ c ≤ maxLen ∧ l.length ≤ LIM ∧ (∀ x ∈ l, x.length = sz) ∧ cx.lv[k]? = some (some (g, 0, c * sz, e, l.flatten))
  | .rp e sz l k i off, y => ∃ g z, y = .pointer (some ⟨g, i * sz + off, none⟩) ∧ (∀ x ∈ l, x.length = sz) ∧ cx.lv[k]? = some (some (g, 0, z, e, l.flatten))
  | .rp2 e sz l k i off k0, y => ∃ g z ct, y = .pointer (some ⟨g, i * sz + off, none⟩) ∧ (∀ x ∈ l, x.length = sz) ∧ cx.lv[k]? = some (some (g, 0, z, e, l.flatten)) ∧ cx.lv[k0]? = some (some (g, 0, z, e, ct))
  | .agg cs, y => ∃ vs, y = .agg vs.toArray ∧ RepDs cx.w cx.S cs vs
  | .cel cs, y => ∃ b off vs, y = .pointer (some ⟨b, off, none⟩) ∧ At cx.w cx.S b off vs ∧ RepDs cx.w cx.S cs vs
  | .loc o off, y => ∃ b, cx.n[o]? = some b ∧ y = .pointer (some ⟨b, off, none⟩)
  | .ptr o off, y => ∃ b, cx.m[o]? = some b ∧ y = .pointer (some ⟨b, off, none⟩)
  | .tup xs, y => ∃ vs, y = .tuple vs.toArray ∧ Reps cx xs vs
  | .fn f first caps, y => ∃ vf vc, y = .func f vf.toArray vc.toArray ∧ Reps cx first vf ∧ Reps cx caps vc
  | .glo g off, y => y = .pointer (some ⟨g, off, none⟩)
  | .opt b p, y => (b = true → Rep cx p y) ∧ (b = false → y = undef)
  | .mloc o, y => ∃ b, cx.n[o]? = some b ∧ y = .map (some b)
  | .mptr o, y => ∃ b, cx.m[o]? = some b ∧ y = .map (some b)
  | .mpc _, _ => False
  | .sic _ _, _ => False
  | .nx b k c, y => (b = true → y = .tuple #[.bool true, .int .i64 k, .int .i32 c] ∧ okv (.int .i64 k) ∧ okv (.int .i32 c)) ∧ (b = false → y = .tuple #[.bool false])
  | .any, _ => True
def Reps (cx : Cx) : List PV → List Value → Prop
  | [], vs => vs = []
  | p :: ps, vs => ∃ v r, vs = v :: r ∧ Rep cx p v ∧ Reps cx ps r
end

/-! One context behind another. -/
structure Ext (cx cx' : Cx) : Prop where
  below : Below cx.base cx.w cx'.w
  base : cx'.base = cx.base
  keeps : Keeps cx.w cx.S cx'.w cx'.S
  m : ∃ t, cx'.m = cx.m ++ t
  n : ∃ t, cx'.n = cx.n ++ t
  lv : ∃ t, cx'.lv = cx.lv ++ t

theorem Ext.refl (cx : Cx) : Ext cx cx := ⟨Below.refl _ _, rfl, Keeps.refl _ _, ⟨[], by simp⟩, ⟨[], by simp⟩, ⟨[], by simp⟩⟩
theorem Ext.trans {a b c : Cx} (h : Ext a b) (k : Ext b c) : Ext a c :=
  ⟨h.below.trans (h.base ▸ k.below), k.base.trans h.base, h.keeps.trans k.keeps,
    by obtain ⟨t, ht⟩ := h.m; obtain ⟨u, hu⟩ := k.m; exact ⟨t ++ u, by rw [hu, ht, List.append_assoc]⟩, by obtain ⟨t, ht⟩ := h.n; obtain ⟨u, hu⟩ := k.n; exact ⟨t ++ u, by rw [hu, ht, List.append_assoc]⟩,
    by obtain ⟨t, ht⟩ := h.lv; obtain ⟨u, hu⟩ := k.lv; exact ⟨t ++ u, by rw [hu, ht, List.append_assoc]⟩⟩

theorem Ext.gv {cx cx' : Cx} (h : Ext cx cx') (g : GV cx.w ∧ NG ≤ cx.base) : GV cx'.w ∧ NG ≤ cx'.base := ⟨g.1.below h.below g.2, by rw [h.base]; exact g.2⟩

theorem pre_get {α : Type} {l t : List α} {i : Nat} {x : α} (h : l[i]? = some x) : (l ++ t)[i]? = some x := by
  have hi : i < l.length := by
    rcases Nat.lt_or_ge i l.length with h' | h'
    · exact h'
    · rw [List.getElem?_eq_none h'] at h; cases h
  rw [List.getElem?_append_left hi]; exact h

mutual
theorem Rep.ext {cx cx' : Cx} (h : Ext cx cx') : ∀ (p : PV) (y : Value), Rep cx p y → Rep cx' p y
  | .d x, y, hr => by simp only [Rep] at hr ⊢; exact RepD.keep h.keeps x y hr
  | .nil, y, hr => by simpa only [Rep] using hr
  | .row e sz l k, y, hr => by
    simp only [Rep] at hr ⊢
    obtain ⟨t, ht⟩ := h.lv
    rcases hr with ⟨h1, h2, h3⟩ | ⟨g, c, h1, h2, h3, h4, h5, h6⟩
    · exact .inl ⟨h1, h2, by rw [ht]; exact pre_get h3⟩
    · exact .inr ⟨g, c, h1, h2, h3, h4, h5, by rw [ht]; exact pre_get h6⟩
  | .rp e sz l k i off, y, hr => by
    simp only [Rep] at hr ⊢
    obtain ⟨t, ht⟩ := h.lv
    obtain ⟨g, z, h1, h2, h3⟩ := hr
    exact ⟨g, z, h1, h2, by rw [ht]; exact pre_get h3⟩
  | .rp2 e sz l k i off k0, y, hr => by
    simp only [Rep] at hr ⊢
    obtain ⟨t, ht⟩ := h.lv
    obtain ⟨g, z, ct, h1, h2, h3, h4⟩ := hr
    exact ⟨g, z, ct, h1, h2, by rw [ht]; exact pre_get h3, by rw [ht]; exact pre_get h4⟩
  | .own e sz l k, y, hr => by
    simp only [Rep] at hr ⊢
    obtain ⟨t, ht⟩ := h.lv
    rcases hr with ⟨h1, h2, h3⟩ | ⟨g, c, vs, h1, h2, h2', h3, h4, h5, h6⟩
    · exact .inl ⟨h1, h2, by rw [ht]; exact pre_get h3⟩
    · exact .inr ⟨g, c, vs, h1, h2, h2', h3, h4.keep h.keeps, RepC.keep h.keeps sz l vs h5, by rw [ht]; exact pre_get h6⟩
  | .agg cs, y, hr => by
    simp only [Rep] at hr ⊢
    obtain ⟨vs, h1, h2⟩ := hr
    exact ⟨vs, h1, RepDs.keep h.keeps cs vs h2⟩
  | .cel cs, y, hr => by
    simp only [Rep] at hr ⊢
    obtain ⟨b, off, vs, h1, h2, h3⟩ := hr
    exact ⟨b, off, vs, h1, h2.keep h.keeps, RepDs.keep h.keeps cs vs h3⟩
  | .loc o off, y, hr => by
    simp only [Rep] at hr ⊢
    obtain ⟨b, h1, h2⟩ := hr
    obtain ⟨t, ht⟩ := h.n
    exact ⟨b, by rw [ht]; exact pre_get h1, h2⟩
  | .ptr o off, y, hr => by
    simp only [Rep] at hr ⊢
    obtain ⟨b, h1, h2⟩ := hr
    obtain ⟨t, ht⟩ := h.m
    exact ⟨b, by rw [ht]; exact pre_get h1, h2⟩
  | .tup xs, y, hr => by
    simp only [Rep] at hr ⊢
    obtain ⟨vs, h1, h2⟩ := hr
    exact ⟨vs, h1, Reps.ext h xs vs h2⟩
  | .fn f first caps, y, hr => by
    simp only [Rep] at hr ⊢
    obtain ⟨vf, vc, h1, h2, h3⟩ := hr
    exact ⟨vf, vc, h1, Reps.ext h first vf h2, Reps.ext h caps vc h3⟩
  | .glo g off, y, hr => by simpa only [Rep] using hr
  | .opt b p, y, hr => by
    simp only [Rep] at hr ⊢
    exact ⟨fun hb => Rep.ext h p y (hr.1 hb), hr.2⟩
  | .mloc o, y, hr => by
    simp only [Rep] at hr ⊢
    obtain ⟨b, h1, h2⟩ := hr
    obtain ⟨t, ht⟩ := h.n
    exact ⟨b, by rw [ht]; exact pre_get h1, h2⟩
  | .mptr o, y, hr => by
    simp only [Rep] at hr ⊢
    obtain ⟨b, h1, h2⟩ := hr
    obtain ⟨t, ht⟩ := h.m
    exact ⟨b, by rw [ht]; exact pre_get h1, h2⟩
  | .mpc _, y, hr => by simp only [Rep] at hr
  | .sic _ _, y, hr => by simp only [Rep] at hr
  | .nx b k c, y, hr => by simp only [Rep] at hr ⊢; exact hr
  | .any, y, _ => by simp only [Rep]
theorem Reps.ext {cx cx' : Cx} (h : Ext cx cx') : ∀ (ps : List PV) (vs : List Value), Reps cx ps vs → Reps cx' ps vs
  | [], vs, hr => by simpa only [Reps] using hr
  | p :: ps, vs, hr => by
    simp only [Reps] at hr ⊢
    obtain ⟨v, r, h1, h2, h3⟩ := hr
    exact ⟨v, r, h1, Rep.ext h p v h2, Reps.ext h ps r h3⟩
end

/-- A value that can lie in a cell of an object: it leads to no object. -/
def PV.ms : PV → Bool
  | .d _ => true
  | .nil => true
  | .own _ _ _ _ => true
  | .row _ _ _ _ => true
  | .any => true
  | .mpc _ => true
  | .sic _ _ => true
  | _ => false

theorem Rep.ms {cx cx' : Cx} (hw : cx'.w = cx.w) (hS : cx'.S = cx.S) (hl : cx'.lv = cx.lv) {p : PV} (hp : p.ms = true) {y : Value} (h : Rep cx p y) : Rep cx' p y := by
  cases p <;> simp only [PV.ms, Bool.false_eq_true] at hp <;> simp only [Rep, hw, hS, hl] at h ⊢ <;> exact h
theorem Reps.ms {cx cx' : Cx} (hw : cx'.w = cx.w) (hS : cx'.S = cx.S) (hl : cx'.lv = cx.lv) : ∀ {ps : List PV} (hp : ps.all PV.ms = true) {ys : List Value} (h : Reps cx ps ys), Reps cx' ps ys
  | [], _, ys, h => by simpa only [Reps] using h
  | p :: ps, hp, ys, h => by
    simp only [Reps] at h ⊢
    simp only [List.all_cons, Bool.and_eq_true] at hp
    obtain ⟨v, r, h1, h2, h3⟩ := h
    exact ⟨v, r, h1, h2.ms hw hS hl hp.1, Reps.ms hw hS hl hp.2 h3⟩

/-- A map's entries: scalars. -/
def MapR (w : World) (b : Nat) (kv : List (Value × Value)) : Prop :=
  ∃ es clock, w.heap[b]? = some (.map es clock) ∧ es.toList.map (fun e => (e.key, e.val)) = kv ∧ ∀ p ∈ kv, okv p.1 ∧ okv p.2

/-- What a block holds: cells, or a map's entries. -/
def ObR (cx : Cx) (b : Nat) (cs : List PV) : Prop :=
  (∃ arr T, cx.w.heap[b]? = some (.cells arr T (0, 0)) ∧ Reps cx cs arr.toList) ∨ (∃ kv, cs = [.mpc kv] ∧ MapR cx.w b kv) ∨ ∃ s pos, cs = [.sic s pos] ∧ cx.w.heap[b]? = some (.stringIter ⟨s.toArray⟩ pos)

theorem ObR.lt {cx : Cx} {b : Nat} {cs : List PV} (h : ObR cx b cs) : b < cx.w.heap.size := by
  rcases h with ⟨arr, T, h, _⟩ | ⟨kv, _, es, cl, h, _⟩ | ⟨s, pos, _, h⟩ <;> exact (Array.getElem?_eq_some_iff.1 h).1
theorem ObR.tr {cx cx' : Cx} {b : Nat} {cs : List PV} (h : ObR cx b cs) (hh : cx'.w.heap[b]? = cx.w.heap[b]?) (hr : ∀ vs, Reps cx cs vs → Reps cx' cs vs) : ObR cx' b cs := by
  rcases h with ⟨arr, T, h1, h2⟩ | ⟨kv, h1, es, cl, h2, h3⟩ | ⟨s, pos, h1, h2⟩
  · exact .inl ⟨arr, T, hh.trans h1, hr _ h2⟩
  · exact .inr (.inl ⟨kv, h1, es, cl, hh.trans h2, h3⟩)
  · exact .inr (.inr ⟨s, pos, h1, hh.trans h2⟩)
def mpo : List PV → Bool
  | [.mpc _] => true
  | [.sic _ _] => true
  | _ => false
theorem ObR.cells {cx : Cx} {b : Nat} {cs : List PV} (h : ObR cx b cs) (hm : mpo cs = false) : ∃ arr T, cx.w.heap[b]? = some (.cells arr T (0, 0)) ∧ Reps cx cs arr.toList := by
  rcases h with h | ⟨kv, rfl, _⟩ | ⟨s, pos, rfl, _⟩
  · exact h
  · cases hm
  · cases hm
theorem ObR.map {cx : Cx} {b : Nat} {kv : List (Value × Value)} (h : ObR cx b [.mpc kv]) : MapR cx.w b kv := by
  rcases h with ⟨arr, T, _, h2⟩ | ⟨kv', h1, h2⟩ | ⟨s, pos, h1, _⟩
  · simp only [Reps, Rep] at h2
    obtain ⟨v, r, _, h3, _⟩ := h2
    exact h3.elim
  · injection h1 with h1; injection h1 with h1; subst h1; exact h2
  · injection h1 with h1; cases h1
theorem ObR.sit {cx : Cx} {b : Nat} {s : List UInt8} {pos : Nat} (h : ObR cx b [.sic s pos]) : cx.w.heap[b]? = some (.stringIter ⟨s.toArray⟩ pos) := by
  rcases h with ⟨arr, T, _, h2⟩ | ⟨kv', h1, h2⟩ | ⟨s, pos, h1, h2⟩
  · simp only [Reps, Rep] at h2
    obtain ⟨v, r, _, h3, _⟩ := h2
    exact h3.elim
  · injection h1 with h1; cases h1
  · injection h1 with h1; injection h1 with h1 h3; subst h1; subst h3; exact h2

/-! The invariant. -/
structure Objs (cx : Cx) (bs : List Nat) (os : List (List PV)) : Prop where
  len : bs.length = os.length
  at_ : ∀ (i b : Nat) cs, bs[i]? = some b → os[i]? = some cs → cx.base ≤ b ∧ ObR cx b cs ∧ (∀ o, ¬ cx.S b o) ∧ cs.all PV.ms = true

structure Inv (cx : Cx) (ob lo : List (List PV)) (L : List Nat) : Prop where
  sOk : ∀ b o, cx.S b o → (cx.w.cell? ⟨b, o, none⟩).isSome = true
  baseLe : cx.base ≤ cx.w.heap.size
  gv : GV cx.w ∧ NG ≤ cx.base
  oob : Objs cx cx.m ob
  olo : Objs cx cx.n lo
  nd : (cx.m ++ cx.n).Nodup
  live : ∀ k ∈ L, ∃ x, cx.lv[k]? = some x ∧ ∀ g s z e ct, x = some (g, s, z, e, ct) → cx.base ≤ g ∧ (∃ cur, cx.w.heap[g]? = some (.cells cur e (0, 0)) ∧ cur.size = z ∧ RepDs cx.w cx.S ct ((cur.toList.drop s).take ct.length)) ∧ g ∉ cx.m ++ cx.n ∧ ∀ o, s ≤ o → ¬ cx.S g o
  ldist : ∀ k ∈ L, ∀ k' ∈ L, k ≠ k' → ∀ g y g' y', cx.lv[k]? = some (some (g, y)) → cx.lv[k']? = some (some (g', y')) → g ≠ g'

def look : List (Nat × PV) → Nat → Option PV
  | [], _ => none
  | (k, p) :: r, t => cond (Nat.beq k t) (some p) (look r t)

structure AS where
  nt : Nat
  tm : List (Nat × PV)
  lo : List (List PV)
  ob : List (List PV)
  L : List Nat

structure InvS (cx : Cx) (s : AS) (a : Act) : Prop where
  inv : Inv cx s.ob s.lo s.L
  df : a.defers = []
  sz : a.tmps.size = s.nt
  tm : ∀ t p, look s.tm t = some p → Rep cx p (a.tmps.getD t undef)

def inR : IntKind → Int → Bool
  | .i8, n => decide (-128 ≤ n) && decide (n ≤ 127)
  | .i16, n => decide (-32768 ≤ n) && decide (n ≤ 32767)
  | .i32, n => decide (-2147483648 ≤ n) && decide (n ≤ 2147483647)
  | .i64, n => decide (-9223372036854775808 ≤ n) && decide (n ≤ 9223372036854775807)
  | .u8, n => decide (0 ≤ n) && decide (n ≤ 255)
  | .u16, n => decide (0 ≤ n) && decide (n ≤ 65535)
  | .u32, n => decide (0 ≤ n) && decide (n ≤ 4294967295)
  | .u64, n => decide (0 ≤ n) && decide (n ≤ 18446744073709551615)

theorem inR_ok {k : IntKind} {n : Int} (h : inR k n = true) : k.min ≤ n ∧ n ≤ k.max := by
  cases k <;> simp [inR] at h <;> simp [IntKind.min, IntKind.max, IntKind.signed, IntKind.bits] <;> omega

def evC : Value → Option PV
  | .bool b => some (.d (.v (.bool b)))
  | .int k n => cond (inR k n) (some (.d (.v (.int k n)))) none
  | .string s => cond (Nat.ble s.size LIM) (some (.d (.v (.string s)))) none
  | .nilIface => some (.d (.v .nilIface))
  | .nilFunc => some (.d (.v .nilFunc))
  | .pointer none => some (.d (.v (.pointer none)))
  | .map none => some (.d (.v (.map none)))
  | .slice none 0 0 => some .nil
  | _ => none

def ev (tm : List (Nat × PV)) : Operand → Option PV
  | .tmp t => look tm t
  | .const v => evC v
  | .func f => some (.fn (.func f) [] [])
  | .global g => some (.glo g 0)

theorem evC_ok {cx : Cx} {v : Value} {p : PV} (h : evC v = some p) : Rep cx p v := by
  unfold evC at h
  split at h
  · cases h; simp [Rep, RepD, okv]
  · rename_i k n
    cases hi : inR k n
    · rw [hi] at h; cases h
    · rw [hi] at h; cases h; simp only [Rep, RepD, okv, true_and]; exact inR_ok hi
  · rename_i s
    cases hi : Nat.ble s.size LIM
    · rw [hi] at h; cases h
    · rw [hi] at h; cases h; simp only [Rep, RepD, okv, true_and]; exact Nat.le_of_ble_eq_true hi
  all_goals first | (cases h; simp [Rep, RepD, okv]; done) | cases h

theorem InvS.ev {cx : Cx} {s : AS} {a : Act} (h : InvS cx s a) {x : Operand} {p : PV} (he : ev s.tm x = some p) : Rep cx p (a.eval x) := by
  cases x with
  | tmp t => exact h.tm t p he
  | const v => exact evC_ok he
  | func f => simp only [Em.ev, Option.some.injEq] at he; subst he; simp [Rep, Reps, Act.eval]
  | global g => simp only [Em.ev, Option.some.injEq] at he; subst he; simp [Rep, Act.eval]

def PLe (q p : PV) : Prop := ∀ cx y, Rep cx q y → Rep cx p y
def Ev (tm : List (Nat × PV)) (x : Operand) (p : PV) : Prop := ∃ q, ev tm x = some q ∧ PLe q p
theorem PLe.refl (p : PV) : PLe p p := fun _ _ h => h
theorem PLe.any (p : PV) : PLe p .any := fun _ _ _ => trivial
theorem PLe.trans {a b c : PV} (h : PLe a b) (k : PLe b c) : PLe a c := fun cx y hr => k cx y (h cx y hr)
theorem PLe.nil (sz : Nat) : PLe .nil (.d (.lst sz [])) := fun cx y h => by simp only [Rep, RepD] at h ⊢; exact .inl ⟨trivial, h⟩
theorem PLe.own (e sz : Nat) (l) (k : Nat) : PLe (.own e sz l k) (.d (.lst sz l)) := fun cx y h => by
  simp only [Rep, RepD] at h ⊢
  rcases h with ⟨h1, h2, _⟩ | ⟨g, c, vs, h1, h2, h2', h3, h4, h5, _⟩
  · exact .inl ⟨h1, h2⟩
  · exact .inr ⟨g, 0, c, vs, h1, h2, h3, h4, h5⟩
theorem PLe.opt {b : Bool} {p : PV} (hb : b = true) : PLe (.opt b p) p := fun cx y h => by simp only [Rep] at h; exact h.1 hb
theorem E {tm : List (Nat × PV)} {x : Operand} {p : PV} (h : ev tm x = some p) : Ev tm x p := ⟨p, h, PLe.refl p⟩
theorem Eo {tm : List (Nat × PV)} {x : Operand} {b : Bool} {p : PV} (h : ev tm x = some (.opt b p)) (hb : b = true) : Ev tm x p := ⟨_, h, PLe.opt hb⟩
theorem En {tm : List (Nat × PV)} {x : Operand} (sz : Nat) (h : ev tm x = some .nil) : Ev tm x (.d (.lst sz [])) := ⟨_, h, PLe.nil sz⟩
theorem Ew {tm : List (Nat × PV)} {x : Operand} {e sz l k} (h : ev tm x = some (.own e sz l k)) : Ev tm x (.d (.lst sz l)) := ⟨_, h, PLe.own e sz l k⟩
end Go.Proofs.YtcemejmegbefgaaGreatDoor.Em

set_option linter.unusedVariables false
set_option linter.unusedSimpArgs false
namespace Go.Proofs.YtcemejmegbefgaaGreatDoor.Em
open Go.RowKit

section
variable {P : Program}

theorem wp_monoQ {o : Oper} {a : Act} {w : World} {K : Act → World → Prop} {Q : Exit → Act → World → Prop}
    (hh : o.wp P a w K (fun _ _ _ => False)) : o.wp P a w K Q := by
  unfold Oper.wp at *
  generalize (execOp a.eval o).run P w = r at *
  cases r with
  | ok n w' =>
    cases n <;> simp only [Oper.upon] at hh ⊢ <;>
      first
        | exact hh
        | exact Calls.mono hh (fun e w'' he => by
            cases e with
            | returned v => exact he
            | panicked c => exact he.elim
            | outgrown => obtain ⟨_, _, hf⟩ := he; exact hf.elim)
  | halt x w' => cases x <;> simp only [Oper.upon] at hh ⊢ <;> exact hh.elim

/-- An operation that makes a value of its operands' values and turns nothing that was. -/
def POp (P : Program) (lo ob : List (List PV)) (L : List Nat) (o : Oper) (tm : List (Nat × PV)) (p : PV) : Prop :=
  ∀ (cx : Cx) (a : Act), Inv cx ob lo L → (∀ x ∈ o.op.operands.toList, ∀ q, ev tm x = some q → Rep cx q (a.eval x)) →
    o.wp P a cx.w (fun a' w' => ∃ v cx', a' = a.put o.dst v ∧ cx'.w = w' ∧ Ext cx cx' ∧ Inv cx' ob lo L ∧ Rep cx' p v) (fun _ _ _ => False)

def gdst (all : List Oper) (j : Nat) : Option Tmp := (all[j]?).bind (·.dst)

def OpOk (P : Program) (lo ob : List (List PV)) (L : List Nat) (all : List Oper) (o : Oper) (tm : List (Nat × PV)) (p : PV) : Prop :=
  ∀ (cx : Cx) (a : Act) (K : Act → World → Prop) (Q : Exit → Act → World → Prop), Inv cx ob lo L →
    (∀ x ∈ o.op.operands.toList, ∀ q, ev tm x = some q → Rep cx q (a.eval x)) →
    (∀ j want t, o.guard = some (j, want) → gdst all j = some t → ∀ q, look tm t = some q → Rep cx q (a.tmps.getD t undef) ∧ t < a.tmps.size) →
    (∀ v cx', Ext cx cx' → Inv cx' ob lo L → Rep cx' p v → K (a.put o.dst v) cx'.w) →
    (if Region.wanted o (yielded all.toArray a.tmps) then o.wp P a cx.w K Q ∨ (o.asks P a cx.w ∧ LetsOut Q) else K (a.put o.dst undef) cx.w)

theorem OpOk.op {lo ob L all o tm p} (hg : o.guard = none) (h : POp P lo ob L o tm p) : OpOk P lo ob L all o tm p := by
  intro cx a K Q hi ho _ hk
  have hw : Region.wanted o (yielded all.toArray a.tmps) = true := by simp [Region.wanted, hg]
  rw [if_pos hw]
  refine .inl (wp_monoQ (Oper.wp_mono ?_ (h cx a hi ho)))
  rintro a' w' ⟨v, cx', rfl, rfl, h1, h2, h3⟩
  exact hk v cx' h1 h2 h3

theorem yielded_of {all : List Oper} {tmps : Array Value} {j t : Nat} {b : Bool} (hj : gdst all j = some t) (hb : tmps.getD t undef = .bool b) (ht : t < tmps.size) :
    yielded all.toArray tmps j = some b := by
  unfold gdst at hj
  have e1 : ((all.toArray[j]?).bind (·.dst)) = some t := by simpa using hj
  have e2 : tmps[t]? = some (.bool b) := by simpa [ht] using hb
  simp only [yielded, e1, Option.bind_some, e2]

theorem OpOk.gd {lo ob L all o tm p} (b want : Bool) (j t : Nat) (hg : o.guard = some (j, want)) (hj : gdst all j = some t) (hl : look tm t = some (.d (.v (.bool b))))
    (h : (b == want) = true → POp P lo ob L o tm p) : OpOk P lo ob L all o tm (.opt (b == want) p) := by
  intro cx a K Q hi ho hgd hk
  obtain ⟨hr, ht⟩ := hgd j want t hg hj _ hl
  simp only [Rep, RepD] at hr
  have hy := yielded_of hj hr.1 ht
  by_cases hbw : (b == want) = true
  · have hw : Region.wanted o (yielded all.toArray a.tmps) = true := by
      simp only [Region.wanted, hg, hy]
      have : b = want := by simpa using hbw
      rw [this]; simp
    rw [if_pos hw]
    refine .inl (wp_monoQ (Oper.wp_mono ?_ (h hbw cx a hi ho)))
    rintro a' w' ⟨v, cx', rfl, rfl, h1, h2, h3⟩
    exact hk v cx' h1 h2 (by simp only [Rep]; exact ⟨fun _ => h3, fun hf => by rw [hbw] at hf; cases hf⟩)
  · have hw : ¬ Region.wanted o (yielded all.toArray a.tmps) = true := by
      simp only [Region.wanted, hg, hy]
      intro he
      apply hbw
      simpa using he
    rw [if_neg hw]
    exact hk undef cx (Ext.refl cx) hi (by simp only [Rep]; exact ⟨fun hf => absurd hf hbw, fun _ => trivial⟩)

theorem OpOk.gd2 {lo ob L all o tm p} (c b want : Bool) (j t : Nat) (hg : o.guard = some (j, want)) (hj : gdst all j = some t) (hl : look tm t = some (.opt c (.d (.v (.bool b)))))
    (h : (c && (b == want)) = true → POp P lo ob L o tm p) : OpOk P lo ob L all o tm (.opt (c && (b == want)) p) := by
  intro cx a K Q hi ho hgd hk
  obtain ⟨hr, ht⟩ := hgd j want t hg hj _ hl
  simp only [Rep, RepD] at hr
  cases c with
  | true =>
    have hy := yielded_of hj (hr.1 rfl).1 ht
    by_cases hbw : (b == want) = true
    · have hw : Region.wanted o (yielded all.toArray a.tmps) = true := by
        simp only [Region.wanted, hg, hy]
        have : b = want := by simpa using hbw
        rw [this]; simp
      rw [if_pos hw]
      refine .inl (wp_monoQ (Oper.wp_mono ?_ (h (by simpa using hbw) cx a hi ho)))
      rintro a' w' ⟨v, cx', rfl, rfl, h1, h2, h3⟩
      exact hk v cx' h1 h2 (by simp only [Rep]; exact ⟨fun _ => h3, fun hf => by simp [hbw] at hf⟩)
    · have hw : ¬ Region.wanted o (yielded all.toArray a.tmps) = true := by
        simp only [Region.wanted, hg, hy]
        intro he
        apply hbw
        simpa using he
      rw [if_neg hw]
      exact hk undef cx (Ext.refl cx) hi (by simp only [Rep]; exact ⟨fun hf => absurd (by simpa using hf) hbw, fun _ => trivial⟩)
  | false =>
    have hu := hr.2 rfl
    have hy : yielded all.toArray a.tmps j = none := by
      unfold gdst at hj
      have e1 : ((all.toArray[j]?).bind (·.dst)) = some t := by simpa using hj
      have e2 : a.tmps[t]? = some undef := by simpa [ht] using hu
      simp only [yielded, e1, Option.bind_some, e2, undef]
    have hw : ¬ Region.wanted o (yielded all.toArray a.tmps) = true := by
      simp only [Region.wanted, hg, hy]
      simp
    rw [if_neg hw]
    exact hk undef cx (Ext.refl cx) hi (by simp only [Rep]; exact ⟨fun hf => by simp at hf, fun _ => trivial⟩)

/-- Operations in the order of the text. -/
inductive PL (P : Program) (lo ob : List (List PV)) (L : List Nat) (all : List Oper) : List Oper → List (Nat × PV) → List (Nat × PV) → Prop
  | nil {tm} : PL P lo ob L all [] tm tm
  | cons {o os tm tm' p d} (hd : o.dst = some d) (h : OpOk P lo ob L all o tm p) (k : PL P lo ob L all os ((d, p) :: tm) tm') : PL P lo ob L all (o :: os) tm tm'

theorem look_cons (k t : Nat) (p : PV) (tm) : look ((k, p) :: tm) t = if k = t then some p else look tm t := by
  simp only [look]
  cases h : Nat.beq k t
  · have : k ≠ t := fun e => by subst e; simp at h
    simp [this]
  · have : k = t := Nat.eq_of_beq_eq_true h
    simp [this]

theorem InvS.put {cx : Cx} {s : AS} {a : Act} (h : InvS cx s a) {cx' : Cx} (he : Ext cx cx') (hi : Inv cx' s.ob s.lo s.L) {d : Nat} (hd : d < s.nt) {v : Value} {p : PV} (hv : Rep cx' p v) :
    InvS cx' { s with tm := (d, p) :: s.tm } (a.put (some d) v) := by
  refine ⟨hi, h.df, by simpa [Act.put] using h.sz, fun t q hq => ?_⟩
  rw [look_cons] at hq
  have hs := h.sz
  by_cases e : d = t
  · subst e
    rw [if_pos rfl] at hq
    cases hq
    have : (a.put (some d) v).tmps.getD d undef = v := by simp [Act.put, hs, hd]
    rw [this]; exact hv
  · rw [if_neg e] at hq
    have : (a.put (some d) v).tmps.getD t undef = a.tmps.getD t undef := by
      simp [Act.put, Array.getElem?_setIfInBounds_ne e]
    rw [this]
    exact (h.tm t q hq).ext he

def dOk (nt : Nat) : List Oper → Bool
  | [] => true
  | o :: os => (match o.dst with | some d => Nat.blt d nt | none => false) && dOk nt os

/-- temporaries that an operation looks at lie in the frame -/
def gOk (nt : Nat) (all : List Oper) : List Oper → Bool
  | [] => true
  | o :: os => (match o.guard with | some (j, _) => (match gdst all j with | some t => Nat.blt t nt | none => false) | none => true) && gOk nt all os

theorem PL.seq {lo ob L} {all : List Oper} {nt : Nat} {Q : Exit → Act → World → Prop} :
    ∀ {os : List Oper} {tm tm' : List (Nat × PV)}, PL P lo ob L all os tm tm' → ∀ (i : Nat), all.drop i = os → dOk nt os = true → gOk nt all os = true →
    ∀ (cx : Cx) (a : Act), InvS cx ⟨nt, tm, lo, ob, L⟩ a → (∀ cx' a', Ext cx cx' → InvS cx' ⟨nt, tm', lo, ob, L⟩ a' → Q .normal a' cx'.w) →
      wpOps P all.toArray Q (List.range' i os.length) a cx.w := by
  intro os tm tm' h
  induction h with
  | nil => intro i _ _ _ cx a hi hk; exact hk cx a (Ext.refl cx) hi
  | @cons o os tm tm' p d hd h k ih =>
    intro i hdrop hdo hgo cx a hi hk
    have hlt : i < all.length := by
      rcases Nat.lt_or_ge i all.length with h' | h'
      · exact h'
      · rw [List.drop_eq_nil_of_le h'] at hdrop; cases hdrop
    have hget : all[i]? = some o := by
      have := List.drop_eq_getElem_cons hlt
      rw [hdrop] at this
      injection this with h1 h2
      rw [List.getElem?_eq_getElem hlt, ← h1]
    have hrest : all.drop (i + 1) = os := by
      have := List.drop_eq_getElem_cons hlt
      rw [hdrop] at this
      injection this with h1 h2
      exact h2.symm
    simp only [dOk, hd, Bool.and_eq_true] at hdo
    simp only [gOk, Bool.and_eq_true] at hgo
    have hdn : d < nt := Nat.lt_of_lt_of_le (Nat.lt_succ_self d) (Nat.le_of_ble_eq_true hdo.1)
    simp only [List.length_cons, List.range'_succ]
    rw [wpOps_cons]
    unfold wpOp
    simp only [List.getElem?_toArray, hget]
    refine h cx a _ _ hi.inv (fun x _ q hq => hi.ev hq) ?_ ?_
    · intro j want t hg hj q hq
      refine ⟨hi.tm t q hq, ?_⟩
      have := hgo.1
      simp only [hg, hj] at this
      have h3 := hi.sz
      simp only at h3
      rw [h3]
      exact Nat.lt_of_lt_of_le (Nat.lt_succ_self t) (Nat.le_of_ble_eq_true this)
    · intro v cx' he hi' hv
      rw [hd]
      refine ih (i + 1) hrest hdo.2 hgo.2 cx' _ (hi.put he hi' hdn hv) ?_
      intro cx'' a'' he' hi''
      exact hk cx'' a'' (he.trans he') hi''

/-! Regions whose order is open. -/
def has (o : Oper) (j : Nat) : Bool := o.after.toList.any fun e => Nat.beq e.on j && Region.binds .any e

def looks (all : List Oper) (o : Oper) : List Nat :=
  (o.op.operands.toList.filterMap fun | .tmp t => some t | _ => none) ++ (match o.guard with | some (j, _) => (gdst all j).toList | none => [])

def drawOk (all : List Oper) : Bool :=
  all.zipIdx.all fun (o, i) =>
    o.after.toList.all (fun e => !Region.binds .any e || Nat.blt e.on i) &&
    (looks all o).all (fun t => all.zipIdx.all fun (oj, j) => oj.dst != some t || (Nat.blt j i && has o j) || (Nat.blt i j && has oj i)) &&
    all.zipIdx.all fun (oj, j) => Nat.beq i j || oj.dst != o.dst

def exts : List Oper → List PV → List (Nat × PV) → List (Nat × PV)
  | o :: os, p :: ps, tm => exts os ps ((o.dst.getD 0, p) :: tm)
  | _, _, tm => tm

theorem PL.steps {lo ob L} {all : List Oper} {os : List Oper} {tm tm' : List (Nat × PV)} (h : PL P lo ob L all os tm tm') :
    ∃ ps : List PV, ps.length = os.length ∧ tm' = exts os ps tm ∧ (∀ o ∈ os, o.dst.isSome = true) ∧
      ∀ (i : Nat) o p, os[i]? = some o → ps[i]? = some p → OpOk P lo ob L all o (exts (os.take i) (ps.take i) tm) p := by
  induction h with
  | nil => exact ⟨[], rfl, rfl, by simp, fun i o p h => by simp at h⟩
  | @cons o os tm tm' p d hd h k ih =>
    obtain ⟨ps, h1, h2, h3, h4⟩ := ih
    refine ⟨p :: ps, by simp [h1], by simp [exts, hd, h2], ?_, ?_⟩
    · intro x hx
      rcases List.mem_cons.1 hx with rfl | hx
      · simp [hd]
      · exact h3 x hx
    · intro i x q hx hq
      cases i with
      | zero =>
        simp only [List.getElem?_cons_zero, Option.some.injEq] at hx hq
        subst hx; subst hq
        simpa [exts] using h
      | succ i =>
        simp only [List.getElem?_cons_succ] at hx hq
        have := h4 i x q hx hq
        simpa [exts, hd] using this

theorem look_exts_none : ∀ (os : List Oper) (ps : List PV) (tm : List (Nat × PV)) (t : Nat), (∀ o ∈ os, o.dst.isSome = true) → (∀ o ∈ os, o.dst ≠ some t) → look (exts os ps tm) t = look tm t
  | [], ps, tm, t, _, _ => by simp [exts]
  | o :: os, [], tm, t, _, _ => by simp [exts]
  | o :: os, p :: ps, tm, t, hs, hn => by
    simp only [exts]
    rw [look_exts_none os ps _ t (fun x hx => hs x (List.mem_cons_of_mem _ hx)) (fun x hx => hn x (List.mem_cons_of_mem _ hx)), look_cons]
    have h1 := hs o List.mem_cons_self
    have h2 := hn o List.mem_cons_self
    cases hd : o.dst with
    | none => rw [hd] at h1; cases h1
    | some d =>
      rw [hd] at h2
      rw [if_neg]
      intro e
      simp only [Option.getD_some] at e
      exact h2 (by rw [e])

theorem look_exts_some : ∀ (os : List Oper) (ps : List PV) (tm : List (Nat × PV)) (t j : Nat) (o : Oper) (p : PV), (∀ o ∈ os, o.dst.isSome = true) → os[j]? = some o → ps[j]? = some p → o.dst = some t →
    (∀ (i : Nat) x, os[i]? = some x → x.dst = some t → i = j) → look (exts os ps tm) t = some p
  | [], ps, tm, t, j, o, p, _, h, _, _, _ => by simp at h
  | o :: os, [], tm, t, j, x, p, _, _, h, _, _ => by simp at h
  | o :: os, q :: ps, tm, t, 0, x, p, hs, hx, hp, ht, hu => by
    simp only [List.getElem?_cons_zero, Option.some.injEq] at hx hp
    subst hx; subst hp
    simp only [exts]
    rw [look_exts_none os ps _ t (fun x hx => hs x (List.mem_cons_of_mem _ hx)), look_cons, ht]
    · simp
    · intro y hy e
      obtain ⟨i, hi⟩ := List.getElem?_of_mem hy
      have := hu (i + 1) y (by simpa using hi) e
      omega
  | o :: os, q :: ps, tm, t, j + 1, x, p, hs, hx, hp, ht, hu => by
    simp only [List.getElem?_cons_succ] at hx hp
    simp only [exts]
    exact look_exts_some os ps _ t j x p (fun x hx => hs x (List.mem_cons_of_mem _ hx)) hx hp ht (fun i y hy e => by have := hu (i + 1) y (by simpa using hy) e; omega)

structure DrawFacts (all : List Oper) : Prop where
  back : ∀ (i : Nat) o, all[i]? = some o → ∀ e ∈ o.after, Region.binds .any e = true → e.on < i
  sees : ∀ (i : Nat) o, all[i]? = some o → ∀ t ∈ looks all o, ∀ (j : Nat) oj, all[j]? = some oj → oj.dst = some t → (j < i ∧ has o j = true) ∨ (i < j ∧ has oj i = true)
  uniq : ∀ (i : Nat) o, all[i]? = some o → ∀ (j : Nat) oj, all[j]? = some oj → oj.dst = o.dst → i = j

theorem zipIdx_all {α : Type} {l : List α} {f : α × Nat → Bool} (h : l.zipIdx.all f = true) (i : Nat) (x : α) (hx : l[i]? = some x) : f (x, i) = true := by
  rw [List.all_eq_true] at h
  refine h _ ?_
  rw [List.mem_zipIdx_iff_getElem?]
  exact hx

theorem drawFacts {all : List Oper} (h : drawOk all = true) : DrawFacts all := by
  unfold drawOk at h
  refine ⟨fun i o ho e he hb => ?_, fun i o ho t ht j oj hj hd => ?_, fun i o ho j oj hj hd => ?_⟩
  · have := zipIdx_all h i o ho
    simp only [Bool.and_eq_true, List.all_eq_true] at this
    have := this.1.1 e (by simpa using he)
    simp only [hb, Bool.not_true, Bool.false_or] at this
    exact Nat.le_of_ble_eq_true this
  · have := zipIdx_all h i o ho
    simp only [Bool.and_eq_true] at this
    have := (List.all_eq_true.1 this.1.2) t ht
    have := zipIdx_all this j oj hj
    simp only [hd, bne_self_eq_false, Bool.false_or, Bool.or_eq_true, Bool.and_eq_true] at this
    rcases this with ⟨h1, h2⟩ | ⟨h1, h2⟩
    · exact .inl ⟨Nat.le_of_ble_eq_true h1, h2⟩
    · exact .inr ⟨Nat.le_of_ble_eq_true h1, h2⟩
  · have := zipIdx_all h i o ho
    simp only [Bool.and_eq_true] at this
    have := zipIdx_all this.2 j oj hj
    simp only [hd, bne_self_eq_false, Bool.or_false] at this
    exact Nat.eq_of_beq_eq_true this

theorem has_edge {o : Oper} {j : Nat} (h : has o j = true) : ∃ e ∈ o.after, e.on = j ∧ Region.binds .any e = true := by
  unfold has at h
  obtain ⟨e, he, h⟩ := List.any_eq_true.1 h
  simp only [Bool.and_eq_true] at h
  exact ⟨e, by simpa using he, Nat.eq_of_beq_eq_true h.1, h.2⟩

structure J (all : List Oper) (ps : List PV) (nt : Nat) (tm : List (Nat × PV)) (lo ob : List (List PV)) (L : List Nat) (listed : Array Bool) (cx : Cx) (a : Act) : Prop where
  size : listed.size = all.length
  closed : ∀ (j : Nat) o, all[j]? = some o → listed.getD j false = true → ∀ e ∈ o.after, Region.binds .any e = true → listed.getD e.on false = true
  inv : Inv cx ob lo L
  df : a.defers = []
  sz : a.tmps.size = nt
  done : ∀ (j : Nat) o p d, all[j]? = some o → ps[j]? = some p → o.dst = some d → listed.getD j false = true → Rep cx p (a.tmps.getD d undef)
  rest : ∀ t q, (∀ (j : Nat) o, all[j]? = some o → listed.getD j false = true → o.dst ≠ some t) → look tm t = some q → Rep cx q (a.tmps.getD t undef)

theorem PL.draw {lo ob L} {all : List Oper} {nt : Nat} {Q : Exit → Act → World → Prop} {tm tm' : List (Nat × PV)} (h : PL P lo ob L all all tm tm')
    (hdo : dOk nt all = true) (hgo : gOk nt all all = true) (hdr : drawOk all = true) (cx : Cx) (a : Act) (hi : InvS cx ⟨nt, tm, lo, ob, L⟩ a)
    (hk : ∀ cx' a', Ext cx cx' → InvS cx' ⟨nt, tm', lo, ob, L⟩ a' → Q .normal a' cx'.w) :
    wpAny P .any all.toArray Q all.length (Array.replicate all.length false) a cx.w := by
  obtain ⟨ps, hlen, rfl, hsome, hops⟩ := h.steps
  have F := drawFacts hdr
  have dlt : ∀ o ∈ all, ∀ d, o.dst = some d → d < nt := by
    intro o ho d hd
    clear hi hk hops F hdr hgo h hlen hsome
    induction all with
    | nil => cases ho
    | cons x xs ih =>
      simp only [dOk, Bool.and_eq_true] at hdo
      rcases List.mem_cons.1 ho with rfl | ho
      · have := hdo.1
        rw [hd] at this
        exact Nat.le_of_ble_eq_true this
      · exact ih hdo.2 ho
  have glt : ∀ os, gOk nt all os = true → ∀ o ∈ os, ∀ j want t, o.guard = some (j, want) → gdst all j = some t → t < nt := by
    intro os hos
    induction os with
    | nil => intro o ho; cases ho
    | cons x xs ih =>
      intro o ho j want t hg hj
      simp only [gOk, Bool.and_eq_true] at hos
      rcases List.mem_cons.1 ho with rfl | ho
      · have := hos.1
        simp only [hg, hj] at this
        exact Nat.le_of_ble_eq_true this
      · exact ih hos.2 o ho j want t hg hj
  have pget : ∀ (j : Nat) o, all[j]? = some o → ∃ p, ps[j]? = some p := by
    intro j o ho
    have : j < ps.length := by
      rw [hlen]
      rcases Nat.lt_or_ge j all.length with h' | h'
      · exact h'
      · rw [List.getElem?_eq_none h'] at ho; cases ho
    exact ⟨_, List.getElem?_eq_getElem this⟩
  -- the end
  have fin : ∀ (listed : Array Bool) cx' a', Ext cx cx' → J all ps nt tm lo ob L listed cx' a' → (∀ j, j < all.length → listed.getD j false = true) → Q .normal a' cx'.w := by
    intro listed cx' a' he hJ hall
    refine hk cx' a' he ⟨hJ.inv, hJ.df, hJ.sz, fun t q hq => ?_⟩
    by_cases hex : ∃ (j : Nat) (o : Oper), all[j]? = some o ∧ o.dst = some t
    · obtain ⟨j, o, ho, hd⟩ := hex
      obtain ⟨p, hp⟩ := pget j o ho
      have hjl : j < all.length := by
        rcases Nat.lt_or_ge j all.length with h' | h'
        · exact h'
        · rw [List.getElem?_eq_none h'] at ho; cases ho
      rw [look_exts_some all ps tm t j o p hsome ho hp hd (fun i x hx hxd => F.uniq i x hx j o ho (by rw [hd, hxd]))] at hq
      cases hq
      exact hJ.done j o _ t ho hp hd (hall j hjl)
    · rw [look_exts_none all ps tm t hsome (fun o ho e => by obtain ⟨j, hj⟩ := List.getElem?_of_mem ho; exact hex ⟨j, o, hj, e⟩)] at hq
      exact hJ.rest t q (fun j o ho _ e => hex ⟨j, o, ho, e⟩) hq
  have key : ∀ (fuel : Nat) (listed : Array Bool) cx' a', Ext cx cx' → J all ps nt tm lo ob L listed cx' a' → listed.toList.count false = fuel →
      wpAny P .any all.toArray Q fuel listed a' cx'.w := by
    intro fuel
    induction fuel with
    | zero =>
      intro listed cx' a' he hJ hc
      have hall : ∀ j, j < all.length → listed.getD j false = true := by
        intro j hj
        have hj' : j < listed.size := by rw [hJ.size]; exact hj
        cases hb : listed.getD j false with
        | true => rfl
        | false =>
          exfalso
          have hmem : false ∈ listed.toList := by
            have : listed[j] = false := by simpa [hj'] using hb
            rw [← this]; exact Array.getElem_mem_toList hj'
          have := List.count_pos_iff.2 hmem
          omega
      refine ⟨?_, fin listed cx' a' he hJ hall⟩
      refine List.eq_nil_iff_forall_not_mem.2 fun i hir => ?_
      obtain ⟨h0, o, ho, _⟩ := mem_ready.1 hir
      have hil : i < all.length := by
        rcases Nat.lt_or_ge i all.length with h' | h'
        · exact h'
        · rw [List.getElem?_toArray, List.getElem?_eq_none h'] at ho; cases ho
      have := hall i hil
      have hi' : i < listed.size := by rw [hJ.size]; exact hil
      simp [hi'] at h0 this
      rw [this] at h0; cases h0
    | succ fuel ih =>
      intro listed cx' a' he hJ hc
      constructor
      · intro hr
        refine fin listed cx' a' he hJ ?_
        intro j
        induction j using Nat.strongRecOn with
        | _ j ihj =>
          intro hj
          cases hb : listed.getD j false with
          | true => rfl
          | false =>
            exfalso
            have hj' : j < listed.size := by rw [hJ.size]; exact hj
            have : j ∈ Region.ready .any all.toArray listed := by
              rw [mem_ready]
              refine ⟨by simp [hj'] at hb ⊢; exact hb, all[j], by simp [hj], fun e hee hbe => ?_⟩
              have := F.back j all[j] (List.getElem?_eq_getElem hj) e hee hbe
              exact ihj e.on this (by omega)
            rw [hr] at this
            cases this
      · intro i hir
        obtain ⟨h0, o, ho, hafter⟩ := mem_ready.1 hir
        rw [List.getElem?_toArray] at ho
        have hil : i < all.length := by
          rcases Nat.lt_or_ge i all.length with h' | h'
          · exact h'
          · rw [List.getElem?_eq_none h'] at ho; cases ho
        have hi' : i < listed.size := by rw [hJ.size]; exact hil
        have hun : listed.getD i false = false := by simp [hi'] at h0 ⊢; exact h0
        obtain ⟨p, hp⟩ := pget i o ho
        obtain ⟨d, hd⟩ := Option.isSome_iff_exists.1 (hsome o (List.mem_of_getElem? ho))
        -- what the operation sees
        have vis : ∀ t ∈ looks all o, ∀ q, look (exts (all.take i) (ps.take i) tm) t = some q → Rep cx' q (a'.tmps.getD t undef) := by
          intro t ht q hq
          by_cases hex : ∃ (j : Nat) (oj : Oper), all[j]? = some oj ∧ oj.dst = some t
          · obtain ⟨j, oj, hoj, hdj⟩ := hex
            rcases F.sees i o ho t ht j oj hoj hdj with ⟨hji, hh⟩ | ⟨hij, hh⟩
            · obtain ⟨e, hee, heo, heb⟩ := has_edge hh
              have hl := hafter e hee heb
              rw [heo] at hl
              obtain ⟨pj, hpj⟩ := pget j oj hoj
              rw [look_exts_some (all.take i) (ps.take i) tm t j oj pj (fun x hx => hsome x (List.mem_of_mem_take hx)) (by rw [List.getElem?_take, if_pos hji]; exact hoj) (by rw [List.getElem?_take, if_pos hji]; exact hpj) hdj
                (fun m x hx hxd => by
                  rw [List.getElem?_take] at hx
                  split at hx
                  · exact F.uniq m x hx j oj hoj (by rw [hdj, hxd])
                  · cases hx)] at hq
              cases hq
              exact hJ.done j oj _ t hoj hpj hdj hl
            · rw [look_exts_none (all.take i) (ps.take i) tm t (fun x hx => hsome x (List.mem_of_mem_take hx)) (fun x hx e => by
                obtain ⟨m, hm⟩ := List.getElem?_of_mem hx
                rw [List.getElem?_take] at hm
                split at hm
                · have := F.uniq m x hm j oj hoj (by rw [hdj, e]); omega
                · cases hm)] at hq
              refine hJ.rest t q (fun m x hx hlm e => ?_) hq
              have := F.uniq m x hx j oj hoj (by rw [hdj, e])
              subst this
              obtain ⟨e', hee, heo, heb⟩ := has_edge hh
              have := hJ.closed m oj hoj hlm e' hee heb
              rw [heo, hun] at this
              cases this
          · rw [look_exts_none (all.take i) (ps.take i) tm t (fun x hx => hsome x (List.mem_of_mem_take hx)) (fun x hx e => by
              obtain ⟨m, hm⟩ := List.getElem?_of_mem hx
              rw [List.getElem?_take] at hm
              split at hm
              · exact hex ⟨m, x, hm, e⟩
              · cases hm)] at hq
            exact hJ.rest t q (fun m x hx _ e => hex ⟨m, x, hx, e⟩) hq
        unfold wpOp
        simp only [List.getElem?_toArray, ho]
        refine hops i o p ho hp cx' a' _ _ hJ.inv ?_ ?_ ?_
        · intro x hx q hq
          cases x with
          | tmp t =>
            refine vis t ?_ q hq
            unfold looks
            exact List.mem_append_left _ (List.mem_filterMap.2 ⟨_, hx, rfl⟩)
          | const v => exact evC_ok hq
          | func f => simp only [Em.ev, Option.some.injEq] at hq; subst hq; simp [Rep, Reps, Act.eval]
          | global g => simp only [Em.ev, Option.some.injEq] at hq; subst hq; simp [Rep, Act.eval]
        · intro j want t hg hj q hq
          refine ⟨vis t ?_ q hq, ?_⟩
          · unfold looks
            refine List.mem_append_right _ ?_
            simp only [hg, hj, Option.toList_some, List.mem_singleton]
          · rw [hJ.sz]
            exact glt all hgo o (List.mem_of_getElem? ho) j want t hg hj
        · intro v cx'' he' hi'' hv
          have hdn := dlt o (List.mem_of_getElem? ho) d hd
          refine ih _ cx'' _ (he.trans he') ?_ ?_
          · refine ⟨by simp [hJ.size], ?_, hi'', by rw [hd]; exact hJ.df, by rw [hd]; simpa [Act.put] using hJ.sz, ?_, ?_⟩
            · intro j oj hoj hl e hee heb
              by_cases hji : j = i
              · subst hji
                rw [ho] at hoj
                cases hoj
                exact getD_set_true (hafter e hee heb)
              · rw [getD_set_ne false (Ne.symm hji)] at hl
                exact getD_set_true (hJ.closed j oj hoj hl e hee heb)
            · intro j oj pj dj hoj hpj hdj hl
              by_cases hji : j = i
              · subst hji
                rw [ho] at hoj
                cases hoj
                rw [hp] at hpj
                cases hpj
                rw [hd] at hdj
                cases hdj
                rw [hd]
                have : (a'.put (some d) v).tmps.getD d undef = v := by simp [Act.put, hJ.sz, hdn]
                rw [this]; exact hv
              · rw [getD_set_ne false (Ne.symm hji)] at hl
                have hne : d ≠ dj := fun e => hji (F.uniq j oj hoj i o ho (by rw [hd, hdj, e]))
                have : (a'.put o.dst v).tmps.getD dj undef = a'.tmps.getD dj undef := by
                  rw [hd]; simp [Act.put, Array.getElem?_setIfInBounds_ne hne]
                rw [this]
                exact (hJ.done j oj pj dj hoj hpj hdj hl).ext he'
            · intro t q hn hq
              have hne : d ≠ t := by
                intro e
                refine hn i o ho ?_ (by rw [hd, e])
                simp [hi']
              have : (a'.put o.dst v).tmps.getD t undef = a'.tmps.getD t undef := by
                rw [hd]; simp [Act.put, Array.getElem?_setIfInBounds_ne hne]
              rw [this]
              refine (hJ.rest t q (fun j oj hoj hl => ?_) hq).ext he'
              exact hn j oj hoj (getD_set_true hl)
          · rw [Array.toList_setIfInBounds, List.count_set (by simpa using hi')]
            have : listed.toList[i]'(by simpa using hi') = false := by
              simpa [hi'] using hun
            rw [this]
            have h9 : 0 < listed.toList.count false := List.count_pos_iff.2 (by rw [← this]; exact List.getElem_mem _)
            simp only [Array.count_toList] at hc h9
            simp
            omega
  refine key all.length (Array.replicate all.length false) cx a (Ext.refl cx) ?_ (by simp)
  refine ⟨by simp, ?_, hi.inv, hi.df, hi.sz, ?_, fun t q _ hq => hi.tm t q hq⟩
  · intro j o ho hl
    have hjl : j < all.length := by
      rcases Nat.lt_or_ge j all.length with h' | h'
      · exact h'
      · rw [List.getElem?_eq_none h'] at ho; cases ho
    simp [hjl] at hl
  · intro j o p d ho hp hd hl
    have hjl : j < all.length := by
      rcases Nat.lt_or_ge j all.length with h' | h'
      · exact h'
      · rw [List.getElem?_eq_none h'] at ho; cases ho
    simp [hjl] at hl

end
end Go.Proofs.YtcemejmegbefgaaGreatDoor.Em

set_option linter.unusedVariables false
set_option linter.unusedSimpArgs false
namespace Go.Proofs.YtcemejmegbefgaaGreatDoor.Em
open Go.RowKit

section
variable {P : Program}

def AWP (P : Program) (c : Code) (s : AS) (Q : Exit → AS → Prop) : Prop :=
  ∀ (cx : Cx) (a : Act), InvS cx s a → c.wp P (fun e a' w' => ∃ cx' s', cx'.w = w' ∧ Ext cx cx' ∧ InvS cx' s' a' ∧ Q e s') a cx.w

def thenA (K : AS → Prop) (Q : Exit → AS → Prop) : Exit → AS → Prop
  | .normal, s => K s
  | e, s => Q e s
def blkA (id : Nat) (Q : Exit → AS → Prop) : Exit → AS → Prop
  | .exit j, s => cond (Nat.beq j id) (Q .normal s) (Q (.exit j) s)
  | e, s => Q e s

theorem AWP.mono {c : Code} {s : AS} {Q Q' : Exit → AS → Prop} (h : AWP P c s Q) (hq : ∀ e s, Q e s → Q' e s) : AWP P c s Q' :=
  fun cx a hi => wp_mono (h cx a hi) fun _ _ _ ⟨cx', s', h1, h2, h3, h4⟩ => ⟨cx', s', h1, h2, h3, hq _ _ h4⟩

theorem a_skip {s : AS} {Q} (h : Q .normal s) : AWP P .skip s Q := fun cx a hi => wp_skip ⟨cx, s, rfl, Ext.refl cx, hi, h⟩
theorem a_ret {s : AS} {Q} (h : Q .ret s) : AWP P .ret s Q := fun cx a hi => wp_ret ⟨cx, s, rfl, Ext.refl cx, hi, h⟩
theorem a_exit {s : AS} {Q} {id : Nat} (h : Q (.exit id) s) : AWP P (.exit id) s Q := fun cx a hi => wp_exit ⟨cx, s, rfl, Ext.refl cx, hi, h⟩
theorem a_label {s : AS} {Q} {l : Nat} (h : Q .normal s) : AWP P (.label l) s Q := fun cx a hi => wp_label ⟨cx, s, rfl, Ext.refl cx, hi, h⟩
theorem a_goto {s : AS} {Q} {l : Nat} (h : Q (.goto l) s) : AWP P (.goto l) s Q := fun cx a hi => wp_goto ⟨cx, s, rfl, Ext.refl cx, hi, h⟩

theorem a_seq {x y : Code} {s : AS} {Q} (h : AWP P x s (thenA (fun s' => AWP P y s' Q) Q)) : AWP P (.seq x y) s Q := by
  intro cx a hi
  refine wp_seq (wp_mono (h cx a hi) ?_)
  rintro e a' w' ⟨cx', s', rfl, he, hi', hq⟩
  cases e with
  | normal =>
    refine wp_mono (hq cx' a' hi') ?_
    rintro e a'' w'' ⟨cx'', s'', rfl, he', hi'', hq'⟩
    exact ⟨cx'', s'', rfl, he.trans he', hi'', hq'⟩
  | _ => exact ⟨cx', s', rfl, he, hi', hq⟩

theorem a_block {id : Nat} {c : Code} {s : AS} {Q} (h : AWP P c s (blkA id Q)) : AWP P (.block id c) s Q := by
  intro cx a hi
  refine wp_block (wp_mono (h cx a hi) ?_)
  rintro e a' w' ⟨cx', s', rfl, he, hi', hq⟩
  cases e with
  | exit j =>
    simp only [blkA] at hq
    simp only [Exit.inBlock]
    by_cases hj : j = id
    · subst hj
      simp only [Nat.beq_refl, cond_true] at hq
      rw [if_pos rfl]
      exact ⟨cx', s', rfl, he, hi', hq⟩
    · have : Nat.beq j id = false := by
        cases hb : Nat.beq j id
        · rfl
        · exact absurd (Nat.eq_of_beq_eq_true hb) hj
      rw [this] at hq
      rw [if_neg hj]
      exact ⟨cx', s', rfl, he, hi', hq⟩
  | _ => exact ⟨cx', s', rfl, he, hi', hq⟩

theorem a_cond {c : Operand} {x y : Code} {nt tm lo ob L} {Q} {b : Bool} (hc : Ev tm c (.d (.v (.bool b))))
    (ht : b = true → AWP P x ⟨nt, tm, lo, ob, L⟩ Q) (hf : b = false → AWP P y ⟨nt, tm, lo, ob, L⟩ Q) : AWP P (.cond c x y) ⟨nt, tm, lo, ob, L⟩ Q := by
  intro cx a hi
  obtain ⟨q, hq, hle⟩ := hc
  have hr := hle cx _ (hi.ev hq)
  simp only [Rep, RepD] at hr
  refine wp_cond_split hr.1 (fun h => ht h cx a hi) (fun h => hf h cx a hi)

/-- A state that tells no more. -/
def SubT (tm : List (Nat × PV)) : List (Nat × PV) → Prop
  | [] => True
  | (t, p) :: r => Ev tm (.tmp t) p ∧ SubT tm r

theorem SubT.look {tm : List (Nat × PV)} : ∀ {tm1 : List (Nat × PV)}, SubT tm tm1 → ∀ t p, look tm1 t = some p → Ev tm (.tmp t) p
  | [], _, t, p, h => by simp [Em.look] at h
  | (k, q) :: r, hs, t, p, h => by
    rw [look_cons] at h
    by_cases e : k = t
    · subst e
      rw [if_pos rfl] at h
      cases h
      exact hs.1
    · rw [if_neg e] at h
      exact hs.2.look t p h

theorem InvS.sub {cx : Cx} {nt tm tm1 lo ob L} {a : Act} (h : InvS cx ⟨nt, tm, lo, ob, L⟩ a) (hs : SubT tm tm1) : InvS cx ⟨nt, tm1, lo, ob, L⟩ a :=
  ⟨h.inv, h.df, h.sz, fun t p hp => by
    obtain ⟨q, hq, hle⟩ := hs.look t p hp
    exact hle cx _ (h.tm t q hq)⟩

theorem Inv.sub {cx : Cx} {ob lo L L'} (h : Inv cx ob lo L) (hs : ∀ k ∈ L', k ∈ L) : Inv cx ob lo L' :=
  ⟨h.sOk, h.baseLe, h.gv, h.oob, h.olo, h.nd, fun k hk => h.live k (hs k hk), fun k hk k' hk' => h.ldist k (hs k hk) k' (hs k' hk')⟩

theorem a_sub {c : Code} {nt tm tm1 lo ob L} {Q} (hs : SubT tm tm1) (h : AWP P c ⟨nt, tm1, lo, ob, L⟩ Q) : AWP P c ⟨nt, tm, lo, ob, L⟩ Q :=
  fun cx a hi => h cx a (hi.sub hs)
theorem a_drop {c : Code} {nt tm lo ob L} (L' : List Nat) {Q} (hs : ∀ k ∈ L', k ∈ L) (h : AWP P c ⟨nt, tm, lo, ob, L'⟩ Q) : AWP P c ⟨nt, tm, lo, ob, L⟩ Q :=
  fun cx a hi => h cx a ⟨hi.inv.sub hs, hi.df, hi.sz, hi.tm⟩

theorem wp_loop_ghost {c : Code} {Q : Exit → Act → World → Prop} {T : Type} (I : T → Act → World → Prop) (μ : T → Nat) {t0 : T} {a : Act} {w : World} (h₀ : I t0 a w)
    (round : ∀ t a w, I t a w → c.wp P (Exit.then (fun a' w' => ∃ t', I t' a' w' ∧ μ t' < μ t) Q) a w) : (Code.loop c).wp P Q a w := by
  intro b k cs
  have key : ∀ n t a w, μ t = n → I t a w →
      ∃ e a' w', Q e a' w' ∧ Arrives P (lone (b.at a (.code c :: .inLoop c :: k)) cs w) b k cs e a' w' := by
    intro n
    induction n using Nat.strongRecOn with
    | _ n ih =>
      intro t a w hn hI
      obtain ⟨e, a₁, w₁, hq, harr⟩ := round t a w hI b (.inLoop c :: k) cs
      cases e with
      | normal =>
        obtain ⟨t', hI₁, hlt⟩ := hq
        obtain ⟨e₂, a₂, w₂, hq₂, harr₂⟩ := ih (μ t') (hn ▸ hlt) t' a₁ w₁ rfl hI₁
        exact ⟨e₂, a₂, w₂, hq₂, .of_steps (Steps.trans harr (.one step_inLoop)) harr₂⟩
      | exit id => exact ⟨_, a₁, w₁, hq, .pass (x := .inLoop c) rfl (fun _ _ => .inl (by simp)) harr⟩
      | goto l => exact ⟨_, a₁, w₁, hq, .pass (x := .inLoop c) rfl (fun _ _ => .inl (by simp)) harr⟩
      | ret => exact ⟨_, a₁, w₁, hq, .pass (x := .inLoop c) rfl (fun _ _ => .inl (by simp)) harr⟩
      | panic ch => exact ⟨_, a₁, w₁, hq, .pass (x := .inLoop c) rfl (fun _ _ => .inl (by simp)) harr⟩
      | outgrown => exact ⟨_, a₁, w₁, hq, .pass (x := .inLoop c) rfl (fun _ _ => .inl (by simp)) harr⟩
  obtain ⟨e, a', w', hq, harr⟩ := key _ t0 a w rfl h₀
  exact ⟨e, a', w', hq, .of_steps (.one step_loop) harr⟩

structure SubS (s s1 : AS) : Prop where
  nt : s1.nt = s.nt
  lo : s1.lo = s.lo
  ob : s1.ob = s.ob
  L : ∀ k ∈ s1.L, k ∈ s.L
  tm : SubT s.tm s1.tm

theorem InvS.subS {cx : Cx} {s s1 : AS} {a : Act} (h : InvS cx s a) (hs : SubS s s1) : InvS cx s1 a := by
  obtain ⟨nt, tm, lo, ob, L⟩ := s
  obtain ⟨nt1, tm1, lo1, ob1, L1⟩ := s1
  obtain ⟨h1, h2, h3, h4, h5⟩ := hs
  simp only at h1 h2 h3 h4 h5
  subst h1; subst h2; subst h3
  have := h.sub h5
  exact ⟨this.inv.sub h4, this.df, this.sz, this.tm⟩

theorem a_loop {c : Code} {Q : Exit → AS → Prop} {s : AS} {T : Type} (I : T → Prop) (μ : T → Nat) (st : T → AS) (t0 : T) (h0 : I t0) (hs : SubS s (st t0))
    (round : ∀ t, I t → AWP P c (st t) (thenA (fun s' => ∃ t', I t' ∧ μ t' < μ t ∧ SubS s' (st t')) Q)) : AWP P (.loop c) s Q := by
  intro cx a hi
  refine wp_loop_ghost (fun t a' w' => ∃ cx', cx'.w = w' ∧ Ext cx cx' ∧ InvS cx' (st t) a' ∧ I t) μ (t0 := t0) ⟨cx, rfl, Ext.refl cx, hi.subS hs, h0⟩ ?_
  rintro t a' w' ⟨cx', rfl, he, hi', hI⟩
  refine wp_mono (round t hI cx' a' hi') ?_
  rintro e a'' w'' ⟨cx'', s'', rfl, he', hi'', hq⟩
  cases e with
  | normal =>
    obtain ⟨t', hI', hm, hsub⟩ := hq
    exact ⟨t', ⟨cx'', rfl, he.trans he', hi''.subS hsub, hI'⟩, hm⟩
  | _ => exact ⟨cx'', s'', rfl, he.trans he', hi'', hq⟩

theorem a_cut {c : Code} {s : AS} (s1 : AS) {Q} (hs : SubS s s1) (h : AWP P c s1 Q) : AWP P c s Q := fun cx a hi => h cx a (hi.subS hs)

/-- A region of operations that turn nothing, in the order of the text. -/
theorem a_reg {id : Nat} {all : List Oper} {nt tm tm' lo ob L} {Q} (h : PL P lo ob L all all tm tm') (hd : dOk nt all = true) (hg : gOk nt all all = true)
    (k : Q .normal ⟨nt, tm', lo, ob, L⟩) : AWP P (.region id all.toArray false) ⟨nt, tm, lo, ob, L⟩ Q := by
  intro cx a hi
  refine wp_region ?_
  have := h.seq (nt := nt) (Q := fun e a' w' => ∃ cx' s', cx'.w = w' ∧ Ext cx cx' ∧ InvS cx' s' a' ∧ Q e s') 0 rfl hd hg cx a hi (fun cx' a' he hi' => ⟨cx', _, rfl, he, hi', k⟩)
  rw [List.range_eq_range']
  simpa using this

/-- .. and where the order is open. -/
theorem a_regd {id : Nat} {all : List Oper} {nt tm tm' lo ob L} {Q} (hm : P.follows .mixedOrders = true) (h : PL P lo ob L all all tm tm') (hd : dOk nt all = true) (hg : gOk nt all all = true) (hdr : drawOk all = true)
    (k : Q .normal ⟨nt, tm', lo, ob, L⟩) : AWP P (.region id all.toArray true) ⟨nt, tm, lo, ob, L⟩ Q := by
  intro cx a hi
  refine wp_region_any hm ?_
  have e : Ext cx { cx with w := cx.w.drew } := ⟨(Below.refl _ _).drew, rfl, fun b o h => ⟨h, rfl⟩, ⟨[], by simp⟩, ⟨[], by simp⟩, ⟨[], by simp⟩⟩
  have hi' : InvS { cx with w := cx.w.drew } ⟨nt, tm, lo, ob, L⟩ a := by
    refine ⟨⟨hi.inv.sOk, hi.inv.baseLe, e.gv hi.inv.gv, ⟨hi.inv.oob.len, ?_⟩, ⟨hi.inv.olo.len, ?_⟩, hi.inv.nd, (fun k hk => by
      obtain ⟨x, h1, h2⟩ := hi.inv.live k hk
      exact ⟨x, h1, fun g s z e' ct hx => by
        obtain ⟨h3, ⟨cur, h4, h5, h6⟩, h7, h8⟩ := h2 g s z e' ct hx
        exact ⟨h3, ⟨cur, h4, h5, RepDs.keep e.keeps _ _ h6⟩, h7, h8⟩⟩), hi.inv.ldist⟩, hi.df, hi.sz, fun t p hp => (hi.tm t p hp).ext e⟩
    · intro i b cs hb hc
      obtain ⟨h1, h2, h4, h5⟩ := hi.inv.oob.at_ i b cs hb hc
      exact ⟨h1, h2.tr rfl (fun _ h3 => Reps.ext e _ _ h3), h4, h5⟩
    · intro i b cs hb hc
      obtain ⟨h1, h2, h4, h5⟩ := hi.inv.olo.at_ i b cs hb hc
      exact ⟨h1, h2.tr rfl (fun _ h3 => Reps.ext e _ _ h3), h4, h5⟩
  have := h.draw (nt := nt) (Q := fun e a' w' => ∃ cx' s', cx'.w = w' ∧ Ext cx cx' ∧ InvS cx' s' a' ∧ Q e s') hd hg hdr _ a hi' (fun cx' a' he hi'' => ⟨cx', _, rfl, e.trans he, hi'', k⟩)
  simpa using this

/-! Functions. -/
def PV.rs0 : PV → Bool
  | .agg _ => true
  | p => p.ms
def PV.rs : PV → Bool
  | .tup xs => xs.all PV.rs0
  | p => p.rs0

def Callable (P : Program) (f : FuncId) : Prop := ∃ fn, P.funcs[f]? = some fn ∧ fn.body.isNone = false ∧ (fn.name == "runtime.NumGoroutine") = false

def FnS (P : Program) (f : FuncId) (args : List PV) (ob : List (List PV)) (L : List Nat) (post : PV → List (List PV) → List Nat → Prop) : Prop :=
  Callable P f ∧ ∀ (cx : Cx) (vs : List Value), cx.n = [] → Inv cx ob [] L → Reps cx args vs →
    Calls P f vs.toArray cx.w (fun e w' => ∃ v cx' r ob' L', e = .returned v ∧ cx'.w = w' ∧ Ext cx cx' ∧ cx'.n = [] ∧ Inv cx' ob' [] L' ∧ Rep cx' r v ∧ post r ob' L')

/-- A function that turns nothing: of its arguments comes one value. -/
def Fn (P : Program) (f : FuncId) (args : List PV) (r : PV) : Prop :=
  ∀ ob L, FnS P f args ob L (fun r' ob' L' => r' = r ∧ ob' = ob ∧ ∀ k ∈ L, k ∈ L')

def numb : Nat → List PV → List (Nat × PV)
  | _, [] => []
  | i, p :: ps => (i, p) :: numb (i + 1) ps

theorem look_numb : ∀ (ps : List PV) (i t : Nat) (p : PV), look (numb i ps) t = some p → i ≤ t ∧ ps[t - i]? = some p
  | [], i, t, p, h => by simp [numb, look] at h
  | q :: ps, i, t, p, h => by
    simp only [numb] at h
    rw [look_cons] at h
    by_cases e : i = t
    · subst e
      rw [if_pos rfl] at h
      cases h
      simp
    · rw [if_neg e] at h
      obtain ⟨h1, h2⟩ := look_numb ps (i + 1) t p h
      refine ⟨by omega, ?_⟩
      have : t - i = (t - (i + 1)) + 1 := by omega
      rw [this]; simpa using h2

theorem Reps.get {cx : Cx} : ∀ {ps : List PV} {vs : List Value}, Reps cx ps vs → ∀ (i : Nat) p, ps[i]? = some p → ∃ v, vs[i]? = some v ∧ Rep cx p v
  | [], vs, _, i, p, h => by simp at h
  | q :: ps, vs, hr, i, p, h => by
    simp only [Reps] at hr
    obtain ⟨v, r, rfl, h3, h4⟩ := hr
    cases i with
    | zero => simp at h; subst h; exact ⟨v, by simp, h3⟩
    | succ i => simp at h ⊢; exact Reps.get h4 i p h
theorem Reps.length {cx : Cx} : ∀ {ps : List PV} {vs : List Value}, Reps cx ps vs → vs.length = ps.length
  | [], vs, h => by simp only [Reps] at h; subst h; rfl
  | q :: ps, vs, hr => by
    simp only [Reps] at hr
    obtain ⟨v, r, rfl, h3, h4⟩ := hr
    simp [Reps.length h4]

/-- What a function hands back. -/
def ResA (P : Program) (fn : Func) (s : AS) (r : PV) : Prop :=
  ∀ cx a, InvS cx s a → ∃ v, (results fn a.tmps).run P cx.w = .ok v cx.w ∧ Rep cx r v

def retA (P : Program) (fn : Func) (post : PV → List (List PV) → List Nat → Prop) : Exit → AS → Prop
  | .normal, s => ∃ r, ResA P fn s r ∧ r.rs = true ∧ post r s.ob s.L
  | .ret, s => ∃ r, ResA P fn s r ∧ r.rs = true ∧ post r s.ob s.L
  | _, _ => False

theorem Rep.rs0 {cx cx' : Cx} (hw : cx'.w = cx.w) (hS : cx'.S = cx.S) (hl : cx'.lv = cx.lv) {p : PV} (hp : p.rs0 = true) {y : Value} (h : Rep cx p y) : Rep cx' p y := by
  cases p with
  | agg cs => simp only [Rep, hw, hS] at h ⊢; exact h
  | _ => exact h.ms hw hS hl (by simpa only [PV.rs0] using hp)
theorem Reps.rs0 {cx cx' : Cx} (hw : cx'.w = cx.w) (hS : cx'.S = cx.S) (hl : cx'.lv = cx.lv) : ∀ {ps : List PV} (hp : ps.all PV.rs0 = true) {ys : List Value} (h : Reps cx ps ys), Reps cx' ps ys
  | [], _, ys, h => by simpa only [Reps] using h
  | p :: ps, hp, ys, h => by
    simp only [Reps] at h ⊢
    simp only [List.all_cons, Bool.and_eq_true] at hp
    obtain ⟨v, r, h1, h2, h3⟩ := h
    exact ⟨v, r, h1, h2.rs0 hw hS hl hp.1, Reps.rs0 hw hS hl hp.2 h3⟩
theorem Rep.rs {cx cx' : Cx} (hw : cx'.w = cx.w) (hS : cx'.S = cx.S) (hl : cx'.lv = cx.lv) {p : PV} (hp : p.rs = true) {y : Value} (h : Rep cx p y) : Rep cx' p y := by
  cases p with
  | tup xs =>
    simp only [PV.rs] at hp
    simp only [Rep] at h ⊢
    obtain ⟨vs, h1, h2⟩ := h
    exact ⟨vs, h1, Reps.rs0 hw hS hl hp h2⟩
  | _ => exact h.rs0 hw hS hl (by simpa only [PV.rs] using hp)

theorem Inv.dropLo {cx : Cx} {ob lo L} (h : Inv cx ob lo L) : Inv { cx with n := [] } ob [] L := by
  refine ⟨h.sOk, h.baseLe, h.gv, ⟨h.oob.len, ?_⟩, ⟨rfl, fun i b cs hb => by simp at hb⟩, by simpa using (List.nodup_append.1 h.nd).1, ?_, h.ldist⟩
  · intro i b cs hb hc
    obtain ⟨h1, h2, h4, h5⟩ := h.oob.at_ i b cs hb hc
    exact ⟨h1, h2.tr rfl (fun _ h3 => Reps.ms (cx := cx) (cx' := { cx with n := [] }) rfl rfl rfl h5 h3), h4, h5⟩
  · intro k hk
    obtain ⟨x, h1, h2⟩ := h.live k hk
    refine ⟨x, h1, fun g s z e ct hx => ?_⟩
    obtain ⟨h3, h4, h5, h6⟩ := h2 g s z e ct hx
    exact ⟨h3, h4, by simp at h5 ⊢; exact h5.1, h6⟩

theorem a_fn {f : FuncId} {fn : Func} {c : Code} {args : List PV} {ob L} {post} (hf : P.funcs[f]? = some fn) (hb : fn.body = some c) (hn : (fn.name == "runtime.NumGoroutine") = false)
    (ha : args.length ≤ fn.ntmps) (h : AWP P c ⟨fn.ntmps, numb 0 args, [], ob, L⟩ (retA P fn post)) : FnS P f args ob L post := by
  refine ⟨⟨fn, hf, by simp [hb], hn⟩, fun cx vs hcn hi hr => ?_⟩
  refine calls_of_wp hf hb ?_
  have hlen := hr.length
  refine wp_mono (h cx _ ⟨hi, rfl, by simp; omega, fun t p hp => ?_⟩) ?_
  · obtain ⟨_, h2⟩ := look_numb args 0 t p hp
    obtain ⟨v, hv, hrv⟩ := hr.get t p (by simpa using h2)
    have : (vs.toArray ++ Array.replicate (fn.ntmps - vs.toArray.size) undef).getD t undef = v := by
      have ht : t < vs.length := by
        rcases Nat.lt_or_ge t vs.length with h' | h'
        · exact h'
        · rw [List.getElem?_eq_none h'] at hv; cases hv
      have hv' : vs[t] = v := by rw [List.getElem?_eq_getElem ht] at hv; exact Option.some.inj hv
      simp [Array.getElem?_append, ht, hv']
    rw [this]; exact hrv
  · rintro e a' w' ⟨cx', s', rfl, he, hi', hq⟩
    have fin : (∃ r, ResA P fn s' r ∧ r.rs = true ∧ post r s'.ob s'.L) → a'.defers = [] ∧ ∃ v, (results fn a'.tmps).run P cx'.w = .ok v cx'.w ∧
        ∃ v_1 cx_1 r ob' L', Ending.returned v = .returned v_1 ∧ cx_1.w = cx'.w ∧ Ext cx cx_1 ∧ cx_1.n = [] ∧ Inv cx_1 ob' [] L' ∧ Rep cx_1 r v_1 ∧ post r ob' L' := by
      rintro ⟨r, hres, hrs, hp⟩
      obtain ⟨v, hv, hrv⟩ := hres cx' a' hi'
      refine ⟨hi'.df, v, hv, v, { cx' with n := [] }, r, s'.ob, s'.L, rfl, rfl, ⟨he.below, he.base, he.keeps, he.m, ⟨[], by simp [hcn]⟩, he.lv⟩, rfl, hi'.inv.dropLo, Rep.rs (cx := cx') (cx' := { cx' with n := [] }) rfl rfl rfl hrs hrv, hp⟩
    cases e with
    | normal => exact fin hq
    | ret => exact fin hq
    | _ => exact hq.elim

theorem resA_one {fn : Func} {t : Nat} {nt tm lo ob L} {r : PV} (hr : fn.results = #[.tmp t]) (h : Ev tm (.tmp t) r) : ResA P fn ⟨nt, tm, lo, ob, L⟩ r := by
  intro cx a hi
  obtain ⟨q, hq, hle⟩ := h
  refine ⟨a.tmps.getD t undef, by simp [results, hr], hle cx _ (hi.ev hq)⟩
theorem resA_two {fn : Func} {t u : Nat} {nt tm lo ob L} {r q : PV} (hr : fn.results = #[.tmp t, .tmp u]) (h : Ev tm (.tmp t) r) (k : Ev tm (.tmp u) q) : ResA P fn ⟨nt, tm, lo, ob, L⟩ (.tup [r, q]) := by
  intro cx a hi
  obtain ⟨q1, hq1, hle1⟩ := h
  obtain ⟨q2, hq2, hle2⟩ := k
  refine ⟨.tuple #[a.tmps.getD t undef, a.tmps.getD u undef], by simp [results, hr], ?_⟩
  simp only [Rep, Reps]
  exact ⟨[a.tmps.getD t undef, a.tmps.getD u undef], rfl, _, _, rfl, hle1 cx _ (hi.ev hq1), _, _, rfl, hle2 cx _ (hi.ev hq2), rfl⟩
theorem resA_three {fn : Func} {t u z : Nat} {nt tm lo ob L} {r q p : PV} (hr : fn.results = #[.tmp t, .tmp u, .tmp z]) (h : Ev tm (.tmp t) r) (k : Ev tm (.tmp u) q) (l : Ev tm (.tmp z) p) : ResA P fn ⟨nt, tm, lo, ob, L⟩ (.tup [r, q, p]) := by
  intro cx a hi
  obtain ⟨q1, hq1, hle1⟩ := h
  obtain ⟨q2, hq2, hle2⟩ := k
  obtain ⟨q3, hq3, hle3⟩ := l
  refine ⟨.tuple #[a.tmps.getD t undef, a.tmps.getD u undef, a.tmps.getD z undef], by simp [results, hr], ?_⟩
  simp only [Rep, Reps]
  exact ⟨[a.tmps.getD t undef, a.tmps.getD u undef, a.tmps.getD z undef], rfl, _, _, rfl, hle1 cx _ (hi.ev hq1), _, _, rfl, hle2 cx _ (hi.ev hq2), _, _, rfl, hle3 cx _ (hi.ev hq3), rfl⟩
theorem resA_none {fn : Func} {s : AS} (hr : fn.results = #[]) : ResA P fn s (.tup []) := by
  intro cx a hi
  exact ⟨.tuple #[], by simp [results, hr], by simp only [Rep, Reps]; exact ⟨[], rfl, rfl⟩⟩

end
end Go.Proofs.YtcemejmegbefgaaGreatDoor.Em
