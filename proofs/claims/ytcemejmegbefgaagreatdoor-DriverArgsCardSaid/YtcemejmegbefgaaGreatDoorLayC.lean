/-
  Laws of objects, functions and rows over abstract values; each under the hypotheses that it states.
-/
import Derived.Test.YtcemejmegbefgaaGreatDoorLayB
import Derived.Laws.IdiomStrings
import Derived.Laws.BytesArg
import Derived.Laws.Small
import Derived.Laws.Cover1
import Derived.Laws.Externs
import Derived.Lib.Bytealg
import Derived.Lib.BytesEntry
import Derived.Laws.MakeOwn
set_option linter.unusedVariables false
set_option linter.unusedSimpArgs false
namespace Go.Proofs.YtcemejmegbefgaaGreatDoor.Em
open Go.RowKit

section
variable {P : Program} {lo ob : List (List PV)} {L : List Nat} {tm : List (Nat × PV)}
variable {ty : TypeId} {pos : String} {aft : Array Edge} {g : Option (Nat × Bool)}

def PV.cellsP : PV → List PV
  | .agg cs => cs.map .d
  | p => [p]
def PV.isP : PV → Bool
  | .agg _ => true
  | p => p.ms && p.isD

theorem reps_map {cx : Cx} : ∀ {ds : List D} {vs : List Value}, RepDs cx.w cx.S ds vs → Reps cx (ds.map .d) vs
  | [], vs, h => by simp only [RepDs] at h; subst h; simp [Reps]
  | d :: ds, vs, h => by
    simp only [RepDs] at h
    obtain ⟨v, r, rfl, h2, h3⟩ := h
    simp only [List.map_cons, Reps]
    exact ⟨v, r, rfl, by simpa only [Rep] using h2, reps_map h3⟩

theorem rep_cellsP {cx : Cx} {p : PV} (h : p.isP = true) {y : Value} (hr : Rep cx p y) : Reps cx p.cellsP y.cells.toList ∧ p.cellsP.all PV.ms = true ∧ ∀ u ∈ y.cells.toList, u.oneCell' = true := by
  have base : p.ms = true → p.isD = true → Reps cx [p] y.cells.toList ∧ [p].all PV.ms = true ∧ ∀ u ∈ y.cells.toList, u.oneCell' = true := by
    intro hm hd
    have h1 := rep_toD hd hr
    have h2 := repD_scalar h1
    rw [h2]
    refine ⟨by simp only [Reps]; exact ⟨y, [], rfl, hr, rfl⟩, by simp [hm], ?_⟩
    have h3 : RepDs cx.w cx.S [p.toD] [y] := by simp only [RepDs]; exact ⟨y, [], rfl, h1, rfl⟩
    exact repDs_one h3
  cases p with
  | agg cs =>
    simp only [Rep] at hr
    obtain ⟨vs, rfl, h2⟩ := hr
    refine ⟨by simpa [Value.cells, PV.cellsP] using reps_map h2, ?_, ?_⟩
    · simp [PV.cellsP, PV.ms]
    · simpa [Value.cells] using repDs_one h2
  | d x => exact base rfl rfl
  | nil => exact base rfl rfl
  | own e sz l k => exact base rfl rfl
  | _ => simp [PV.isP, PV.ms, PV.isD] at h

/-! A new object. -/
def Cx.objG (cx : Cx) (o : Obj) : Cx := { cx with w := cx.w.alloc o, n := cx.n ++ [cx.w.heap.size] }

theorem Inv.objG {cx : Cx} (hi : Inv cx ob lo L) (nb : Obj) {cs : List PV} (hc : ∀ cx', Ext cx cx' → cx'.w = cx.w.alloc nb → ObR cx' cx.w.heap.size cs) (hm : cs.all PV.ms = true) : Ext cx (cx.objG nb) ∧ Inv (cx.objG nb) ob (lo ++ [cs]) L := by
  have keep : ∀ b o, cx.S b o → (cx.objG nb).w.cell? ⟨b, o, none⟩ = cx.w.cell? ⟨b, o, none⟩ := fun b o hs => World.cell?_of_block (heap_old (S_lt hi hs))
  have he : Ext cx (cx.objG nb) := ⟨(Below.refl _ _).alloc hi.baseLe _, rfl, fun b o hs => ⟨hs, keep b o hs⟩, ⟨[], by simp [Cx.objG]⟩, ⟨_, rfl⟩, ⟨[], by simp [Cx.objG]⟩⟩
  have mlt : ∀ b ∈ cx.m ++ cx.n, b < cx.w.heap.size := by
    intro b hb
    rcases List.mem_append.1 hb with h | h
    · obtain ⟨i, hi'⟩ := List.getElem?_of_mem h
      have hlen : cx.m.length = ob.length := hi.oob.len
      have hlt : i < ob.length := by
        rcases Nat.lt_or_ge i cx.m.length with h' | h'
        · omega
        · rw [List.getElem?_eq_none h'] at hi'; cases hi'
      obtain ⟨_, h2, _⟩ := hi.oob.at_ i _ ob[i] hi' (List.getElem?_eq_getElem hlt)
      exact h2.lt
    · obtain ⟨i, hi'⟩ := List.getElem?_of_mem h
      have hlen : cx.n.length = lo.length := hi.olo.len
      have hlt : i < lo.length := by
        rcases Nat.lt_or_ge i cx.n.length with h' | h'
        · omega
        · rw [List.getElem?_eq_none h'] at hi'; cases hi'
      obtain ⟨_, h2, _⟩ := hi.olo.at_ i _ lo[i] hi' (List.getElem?_eq_getElem hlt)
      exact h2.lt
  refine ⟨he, ?_, ?_, he.gv hi.gv, ⟨hi.oob.len, ?_⟩, ⟨by simp [Cx.objG, hi.olo.len], ?_⟩, ?_, ?_, hi.ldist⟩
  · intro b o hs; rw [keep b o hs]; exact hi.sOk b o hs
  · have := hi.baseLe; simp only [Cx.objG, World.size_alloc]; omega
  · intro i b cs' hb hc'
    obtain ⟨h1, h2, h4, h5⟩ := hi.oob.at_ i b cs' hb hc'
    exact ⟨h1, h2.tr (heap_old (h2.lt)) (fun _ h3 => Reps.ext he _ _ h3), h4, h5⟩
  · intro i b cs' hb hc'
    simp only [Cx.objG] at hb
    have hlen : cx.n.length = lo.length := hi.olo.len
    by_cases hlt : i < cx.n.length
    · rw [List.getElem?_append_left hlt] at hb
      rw [List.getElem?_append_left (by omega)] at hc'
      obtain ⟨h1, h2, h4, h5⟩ := hi.olo.at_ i b cs' hb hc'
      exact ⟨h1, h2.tr (heap_old (h2.lt)) (fun _ h3 => Reps.ext he _ _ h3), h4, h5⟩
    · rw [List.getElem?_append_right (by omega)] at hb
      rw [List.getElem?_append_right (by omega), ← hlen] at hc'
      cases hii : i - cx.n.length with
      | zero =>
        rw [hii] at hb hc'
        simp at hb hc'
        subst hb; subst hc'
        refine ⟨hi.baseLe, hc _ he rfl, fun o hs => absurd (S_lt hi hs) (Nat.lt_irrefl _), hm⟩
      | succ j => rw [hii] at hb; simp at hb
  · simp only [Cx.objG, ← List.append_assoc]
    refine List.nodup_append.2 ⟨hi.nd, by simp, ?_⟩
    intro b hb b' hb' e
    simp at hb'
    subst e
    have := mlt b hb
    omega
  · intro k hk
    obtain ⟨x, h1, h2⟩ := hi.live k hk
    refine ⟨x, h1, fun g s z e ct hx => ?_⟩
    obtain ⟨h3, ⟨cur, h4, h4'⟩, h5, h6⟩ := h2 g s z e ct hx
    refine ⟨h3, ⟨cur, (heap_old (heap_lt h4)).trans h4, h4'.1, RepDs.keep he.keeps _ _ h4'.2⟩, ?_, h6⟩
    simp only [Cx.objG, ← List.append_assoc, List.mem_append, List.mem_singleton]
    rintro (h | h)
    · exact h5 (List.mem_append.2 h)
    · have := heap_lt h4; omega

def Cx.obj (cx : Cx) (c : Array Value) (T : TypeId) : Cx := cx.objG (.cells c T (0, 0))
theorem Inv.obj {cx : Cx} (hi : Inv cx ob lo L) (c : Array Value) (T : TypeId) {cs : List PV} (hc : Reps cx cs c.toList) (hm : cs.all PV.ms = true) : Ext cx (cx.obj c T) ∧ Inv (cx.obj c T) ob (lo ++ [cs]) L :=
  hi.objG _ (fun cx' he hw => .inl ⟨c, T, by rw [hw]; exact heap_alloc_new _ _, Reps.ext he _ _ hc⟩) hm

theorem InvS.newObjG {cx : Cx} {s : AS} {a : Act} (h : InvS cx s a) (nb : Obj) {cs : List PV} (hc : ∀ cx', Ext cx cx' → cx'.w = cx.w.alloc nb → ObR cx' cx.w.heap.size cs) (hm : cs.all PV.ms = true) {d : Nat} (hd : d < s.nt) {p : PV} {y : Value} (hr : Rep (cx.objG nb) p y) :
    Ext cx (cx.objG nb) ∧ InvS (cx.objG nb) { s with lo := s.lo ++ [cs], tm := (d, p) :: s.tm } (a.put (some d) y) := by
  obtain ⟨he, hi⟩ := h.inv.objG nb hc hm
  refine ⟨he, hi, h.df, by simpa [Act.put] using h.sz, fun t q hq => ?_⟩
  rw [look_cons] at hq
  have hs := h.sz
  by_cases e : d = t
  · subst e
    rw [if_pos rfl] at hq
    cases hq
    have : (a.put (some d) y).tmps.getD d undef = y := by simp [Act.put, hs, hd]
    rw [this]; exact hr
  · rw [if_neg e] at hq
    have : (a.put (some d) y).tmps.getD t undef = a.tmps.getD t undef := by
      simp [Act.put, Array.getElem?_setIfInBounds_ne e]
    rw [this]
    exact (h.tm t q hq).ext he

theorem InvS.newObj {cx : Cx} {s : AS} {a : Act} (h : InvS cx s a) (c : Array Value) (T : TypeId) {cs : List PV} (hc : Reps cx cs c.toList) (hm : cs.all PV.ms = true) {d : Nat} (hd : d < s.nt) :
    Ext cx (cx.obj c T) ∧ InvS (cx.obj c T) { s with lo := s.lo ++ [cs], tm := (d, .loc s.lo.length 0) :: s.tm } (a.put (some d) (.pointer (some ⟨cx.w.heap.size, 0, none⟩))) := by
  have hlen : cx.n.length = s.lo.length := h.inv.olo.len
  refine h.newObjG _ (fun cx' he hw => .inl ⟨c, T, by rw [hw]; exact heap_alloc_new _ _, Reps.ext he _ _ hc⟩) hm hd ?_
  simp only [Rep, Cx.objG]
  exact ⟨cx.w.heap.size, by rw [← hlen]; simp, rfl⟩

/-- A variable in memory that is written. -/
theorem e_box {x : Operand} {t d nt : Nat} {p : PV} {K : AS → Prop} (hd : Nat.blt d nt = true) (hx : Ev tm x p) (hc : p.isP = true) (hK : K ⟨nt, (d, .loc lo.length 0) :: tm, lo ++ [p.cellsP], ob, L⟩) :
    AOp P ⟨some d, .box t x, ty, pos, aft, none⟩ ⟨nt, tm, lo, ob, L⟩ K := by
  intro cx a hi
  obtain ⟨q, hq, hle⟩ := hx
  have h1 := hle cx _ (hi.ev hq)
  obtain ⟨h2, h3, h4⟩ := rep_cellsP hc h1
  obtain ⟨he, hi'⟩ := hi.newObj (a.eval x).cells t h2 h3 (Nat.le_of_ble_eq_true hd)
  have hrun : (execOp a.eval ⟨some d, .box t x, ty, pos, aft, none⟩).run P cx.w = .ok (.value (.pointer (some ⟨cx.w.heap.size, 0, none⟩))) (cx.w.alloc (.cells (a.eval x).cells t (0, 0))) := by
    simp [execOp, Instr.box, newVar, newRow, newObj, Sem.run]
  unfold Oper.wp
  rw [hrun]
  exact ⟨cx.obj _ t, _, rfl, he, hi', hK⟩

def zeroIs (P : Program) (t : TypeId) (zs : List D) : Bool := match P.info? t with
  | some i => match i.zero with | some z => zMatches z.cells.toList zs | none => false
  | none => false
theorem e_alloc {t d nt : Nat} {zs : List D} {K : AS → Prop} (hz : zeroIs P t zs = true) (hd : Nat.blt d nt = true) (hK : K ⟨nt, (d, .loc lo.length 0) :: tm, lo ++ [zs.map .d], ob, L⟩) :
    AOp P ⟨some d, .alloc t, ty, pos, aft, none⟩ ⟨nt, tm, lo, ob, L⟩ K := by
  intro cx a hi
  unfold zeroIs at hz
  cases hie : P.info? t with
  | none => rw [hie] at hz; cases hz
  | some i =>
    rw [hie] at hz
    simp only at hz
    cases hzz : i.zero with
    | none => rw [hzz] at hz; cases hz
    | some z =>
      rw [hzz] at hz
      have h2 : RepDs cx.w cx.S zs z.cells.toList := zMatches_ok hz
      obtain ⟨he, hi'⟩ := hi.newObj z.cells t (reps_map h2) (by simp [PV.ms]) (Nat.le_of_ble_eq_true hd)
      have hrun : (execOp a.eval ⟨some d, .alloc t, ty, pos, aft, none⟩).run P cx.w = .ok (.value (.pointer (some ⟨cx.w.heap.size, 0, none⟩))) (cx.w.alloc (.cells z.cells t (0, 0))) := by
        simp [execOp, Instr.alloc, zeroValue, typeInfo, program, Sem.run, hie, hzz, newVar, newRow, newObj]
      unfold Oper.wp
      rw [hrun]
      exact ⟨cx.obj _ t, _, rfl, he, hi', hK⟩

/-! A store into an object. -/
theorem Reps.append {cx : Cx} : ∀ {ps qs : List PV} {vs us : List Value}, Reps cx ps vs → Reps cx qs us → Reps cx (ps ++ qs) (vs ++ us)
  | [], qs, vs, us, h, k => by simp only [Reps] at h; subst h; simpa using k
  | p :: ps, qs, vs, us, h, k => by
    simp only [Reps] at h
    obtain ⟨v, r, rfl, h2, h3⟩ := h
    simp only [List.cons_append, Reps]
    exact ⟨v, _, rfl, h2, Reps.append h3 k⟩
theorem Reps.take {cx : Cx} : ∀ {ps : List PV} {vs : List Value} (n : Nat), Reps cx ps vs → Reps cx (ps.take n) (vs.take n)
  | ps, vs, 0, h => by simp [Reps]
  | [], vs, n + 1, h => by simp only [Reps] at h; subst h; simp [Reps]
  | d :: ds, vs, n + 1, h => by
    simp only [Reps] at h
    obtain ⟨v, r, rfl, h2, h3⟩ := h
    simp only [List.take_succ_cons, Reps]
    exact ⟨v, _, rfl, h2, Reps.take n h3⟩
theorem Reps.drop {cx : Cx} : ∀ {ps : List PV} {vs : List Value} (n : Nat), Reps cx ps vs → Reps cx (ps.drop n) (vs.drop n)
  | ps, vs, 0, h => by simpa using h
  | [], vs, n + 1, h => by simp only [Reps] at h; subst h; simp [Reps]
  | d :: ds, vs, n + 1, h => by
    simp only [Reps] at h
    obtain ⟨v, r, rfl, _, h3⟩ := h
    simpa using Reps.drop n h3

/-- One object's block turned. -/
theorem setRow_ok {cx : Cx} (hi : Inv cx ob lo L) {b : Nat} (hb : b ∈ cx.m ++ cx.n) (hbase : cx.base ≤ b) (hS : ∀ o, ¬ cx.S b o) (nw : Array Value) :
    Ext cx { cx with w := cx.w.setRow b nw } ∧ (∀ b', b' ≠ b → (cx.w.setRow b nw).heap[b']? = cx.w.heap[b']?) := by
  have hoth : ∀ b', b' ≠ b → (cx.w.setRow b nw).heap[b']? = cx.w.heap[b']? := fun b' h => setRow_other cx.w b b' nw h
  refine ⟨⟨⟨rfl, rfl, rfl, by simp [World.setRow], fun k hk => hoth k (by omega)⟩, rfl, fun b' o hs => ⟨hs, ?_⟩, ⟨[], by simp⟩, ⟨[], by simp⟩, ⟨[], by simp⟩⟩, hoth⟩
  by_cases e : b' = b
  · subst e; exact absurd hs (hS o)
  · exact World.cell?_of_block (hoth b' e)

theorem nd_get {α : Type} {l : List α} (h : l.Nodup) {i j : Nat} {x : α} (hi : l[i]? = some x) (hj : l[j]? = some x) : i = j := by
  have h1 : i < l.length := by
    rcases Nat.lt_or_ge i l.length with h' | h'
    · exact h'
    · rw [List.getElem?_eq_none h'] at hi; cases hi
  have h2 : j < l.length := by
    rcases Nat.lt_or_ge j l.length with h' | h'
    · exact h'
    · rw [List.getElem?_eq_none h'] at hj; cases hj
  rw [List.getElem?_eq_getElem h1] at hi
  rw [List.getElem?_eq_getElem h2] at hj
  exact (List.getElem_inj h).1 (by rw [Option.some.inj hi, Option.some.inj hj])

/-- One block turned. -/
def setBlk (w : World) (b : Nat) (o : Obj) : World := { w with heap := w.heap.setIfInBounds b o }
theorem setBlk_other {w : World} {b k : Nat} {o : Obj} (h : k ≠ b) : (setBlk w b o).heap[k]? = w.heap[k]? := by simp [setBlk, Ne.symm h]
theorem setBlk_new {w : World} {b : Nat} {o o' : Obj} (h : w.heap[b]? = some o) : (setBlk w b o').heap[b]? = some o' := by
  have := (Array.getElem?_eq_some_iff.1 h).1
  simp [setBlk, this]
theorem setRow_blk {w : World} {b : Nat} {arr nw : Array Value} {T : TypeId} {fr : Nat × Nat} (h : w.heap[b]? = some (.cells arr T fr)) : w.setRow b nw = setBlk w b (.cells nw T fr) := by
  have hlt := (Array.getElem?_eq_some_iff.1 h).1
  have hv := (Array.getElem?_eq_some_iff.1 h).2
  unfold World.setRow setBlk
  congr 1
  apply Array.ext_getElem?
  intro i
  by_cases hi : i = b
  · subst hi
    simp [Array.getElem?_modify, h, hlt, Array.getElem_modify, hv]
  · simp [Array.getElem?_modify, Array.getElem?_setIfInBounds_ne (Ne.symm hi), Ne.symm hi]
theorem setBlk_ok {cx : Cx} (hi : Inv cx ob lo L) {b : Nat} (hb : b ∈ cx.m ++ cx.n) (hbase : cx.base ≤ b) (hS : ∀ o, ¬ cx.S b o) (nb : Obj) :
    Ext cx { cx with w := setBlk cx.w b nb } ∧ ∀ b', b' ≠ b → (setBlk cx.w b nb).heap[b']? = cx.w.heap[b']? := by
  have hoth : ∀ b', b' ≠ b → (setBlk cx.w b nb).heap[b']? = cx.w.heap[b']? := fun b' h => setBlk_other h
  refine ⟨⟨⟨rfl, rfl, rfl, by simp [setBlk], fun b' hb' => hoth b' (by omega)⟩, rfl, fun b' o hs => ⟨hs, ?_⟩, ⟨[], by simp⟩, ⟨[], by simp⟩, ⟨[], by simp⟩⟩, hoth⟩
  exact World.cell?_of_block (hoth b' (fun e => hS o (e ▸ hs)))

theorem Inv.setLoG {cx : Cx} (hi : Inv cx ob lo L) {i b : Nat} {cs cs' : List PV} (hb : cx.n[i]? = some b) (hc : lo[i]? = some cs) {nb : Obj} (hr : ∀ cx' : Cx, Ext cx cx' → cx'.w = setBlk cx.w b nb → ObR cx' b cs')
    (hm : cs'.all PV.ms = true) : Ext cx { cx with w := setBlk cx.w b nb } ∧ Inv { cx with w := setBlk cx.w b nb } ob (lo.set i cs') L := by
  obtain ⟨h1, _, h4, _⟩ := hi.olo.at_ i b cs hb hc
  have hbm : b ∈ cx.m ++ cx.n := List.mem_append_right _ (List.mem_of_getElem? hb)
  obtain ⟨he, hoth⟩ := setBlk_ok hi hbm h1 h4 nb
  have hnd := List.nodup_append.1 hi.nd
  refine ⟨he, fun b' o hs => ?_, by simpa [setBlk] using hi.baseLe, he.gv hi.gv, ⟨hi.oob.len, ?_⟩, ⟨by simp [hi.olo.len], ?_⟩, hi.nd, ?_, hi.ldist⟩
  · rw [(he.keeps b' o hs).2]; exact hi.sOk b' o hs
  · intro j b' cs2 hb' hc'
    obtain ⟨h5, h6, h8, h9⟩ := hi.oob.at_ j b' cs2 hb' hc'
    have hne : b' ≠ b := hnd.2.2 b' (List.mem_of_getElem? hb') b (List.mem_of_getElem? hb)
    exact ⟨h5, h6.tr (hoth b' hne) (fun _ h7 => Reps.ext he _ _ h7), h8, h9⟩
  · intro j b' cs2 hb' hc'
    by_cases hij : i = j
    · subst hij
      rw [hb] at hb'
      cases hb'
      have hlt : i < lo.length := by
        rcases Nat.lt_or_ge i lo.length with h' | h'
        · exact h'
        · rw [List.getElem?_eq_none h'] at hc; cases hc
      rw [List.getElem?_set_self hlt] at hc'
      cases hc'
      exact ⟨h1, hr _ he rfl, h4, hm⟩
    · rw [List.getElem?_set_ne hij] at hc'
      obtain ⟨h5, h6, h8, h9⟩ := hi.olo.at_ j b' cs2 hb' hc'
      have hne : b' ≠ b := fun e => hij (nd_get hnd.2.1 hb (e ▸ hb'))
      exact ⟨h5, h6.tr (hoth b' hne) (fun _ h7 => Reps.ext he _ _ h7), h8, h9⟩
  · intro k hk
    obtain ⟨x, h5, h6⟩ := hi.live k hk
    refine ⟨x, h5, fun g s z e ct hx => ?_⟩
    obtain ⟨h7, ⟨cur, h8, h8'⟩, h9, h10⟩ := h6 g s z e ct hx
    have hne : g ≠ b := fun e => h9 (e ▸ hbm)
    exact ⟨h7, ⟨cur, (hoth g hne).trans h8, h8'.1, RepDs.keep he.keeps _ _ h8'.2⟩, h9, h10⟩

theorem Inv.setObG {cx : Cx} (hi : Inv cx ob lo L) {i b : Nat} {cs cs' : List PV} (hb : cx.m[i]? = some b) (hc : ob[i]? = some cs) {nb : Obj} (hr : ∀ cx' : Cx, Ext cx cx' → cx'.w = setBlk cx.w b nb → ObR cx' b cs')
    (hm : cs'.all PV.ms = true) : Ext cx { cx with w := setBlk cx.w b nb } ∧ Inv { cx with w := setBlk cx.w b nb } (ob.set i cs') lo L := by
  obtain ⟨h1, _, h4, _⟩ := hi.oob.at_ i b cs hb hc
  have hbm : b ∈ cx.m ++ cx.n := List.mem_append_left _ (List.mem_of_getElem? hb)
  obtain ⟨he, hoth⟩ := setBlk_ok hi hbm h1 h4 nb
  have hnd := List.nodup_append.1 hi.nd
  refine ⟨he, fun b' o hs => ?_, by simpa [setBlk] using hi.baseLe, he.gv hi.gv, ⟨by simp [hi.oob.len], ?_⟩, ⟨hi.olo.len, ?_⟩, hi.nd, ?_, hi.ldist⟩
  · rw [(he.keeps b' o hs).2]; exact hi.sOk b' o hs
  · intro j b' cs2 hb' hc'
    by_cases hij : i = j
    · subst hij
      rw [hb] at hb'
      cases hb'
      have hlt : i < ob.length := by
        rcases Nat.lt_or_ge i ob.length with h' | h'
        · exact h'
        · rw [List.getElem?_eq_none h'] at hc; cases hc
      rw [List.getElem?_set_self hlt] at hc'
      cases hc'
      exact ⟨h1, hr _ he rfl, h4, hm⟩
    · rw [List.getElem?_set_ne hij] at hc'
      obtain ⟨h5, h6, h8, h9⟩ := hi.oob.at_ j b' cs2 hb' hc'
      have hne : b' ≠ b := fun e => hij (nd_get hnd.1 hb (e ▸ hb'))
      exact ⟨h5, h6.tr (hoth b' hne) (fun _ h7 => Reps.ext he _ _ h7), h8, h9⟩
  · intro j b' cs2 hb' hc'
    obtain ⟨h5, h6, h8, h9⟩ := hi.olo.at_ j b' cs2 hb' hc'
    have hne : b' ≠ b := fun e => hnd.2.2 b (List.mem_of_getElem? hb) b' (List.mem_of_getElem? hb') e.symm
    exact ⟨h5, h6.tr (hoth b' hne) (fun _ h7 => Reps.ext he _ _ h7), h8, h9⟩
  · intro k hk
    obtain ⟨x, h5, h6⟩ := hi.live k hk
    refine ⟨x, h5, fun g s z e ct hx => ?_⟩
    obtain ⟨h7, ⟨cur, h8, h8'⟩, h9, h10⟩ := h6 g s z e ct hx
    have hne : g ≠ b := fun e => h9 (e ▸ hbm)
    exact ⟨h7, ⟨cur, (hoth g hne).trans h8, h8'.1, RepDs.keep he.keeps _ _ h8'.2⟩, h9, h10⟩

theorem Inv.setLo {cx : Cx} (hi : Inv cx ob lo L) {i b : Nat} {cs cs' : List PV} (hb : cx.n[i]? = some b) (hc : lo[i]? = some cs) {arr nw : Array Value} {T : TypeId} (hh : cx.w.heap[b]? = some (.cells arr T (0, 0)))
    (hr : Reps cx cs' nw.toList) (hm : cs'.all PV.ms = true) : Ext cx { cx with w := cx.w.setRow b nw } ∧ Inv { cx with w := cx.w.setRow b nw } ob (lo.set i cs') L := by
  have e : cx.w.setRow b nw = setBlk cx.w b (.cells nw T (0, 0)) := setRow_blk hh
  rw [e]
  exact hi.setLoG hb hc (fun cx' he hw => .inl ⟨nw, T, by rw [hw]; exact setBlk_new hh, Reps.ext he _ _ hr⟩) hm

theorem Inv.setOb {cx : Cx} (hi : Inv cx ob lo L) {i b : Nat} {cs cs' : List PV} (hb : cx.m[i]? = some b) (hc : ob[i]? = some cs) {arr nw : Array Value} {T : TypeId} (hh : cx.w.heap[b]? = some (.cells arr T (0, 0)))
    (hr : Reps cx cs' nw.toList) (hm : cs'.all PV.ms = true) : Ext cx { cx with w := cx.w.setRow b nw } ∧ Inv { cx with w := cx.w.setRow b nw } (ob.set i cs') lo L := by
  have e : cx.w.setRow b nw = setBlk cx.w b (.cells nw T (0, 0)) := setRow_blk hh
  rw [e]
  exact hi.setObG hb hc (fun cx' he hw => .inl ⟨nw, T, by rw [hw]; exact setBlk_new hh, Reps.ext he _ _ hr⟩) hm

theorem run_storeVar {w : World} {t n b o : Nat} {v : Value} {arr : Array Value} {T : TypeId} (hs : szOf P t = some n) (hv : v.cells.size = n) (hh : w.heap[b]? = some (.cells arr T (0, 0))) (hl : o + n ≤ arr.size) (h1 : ∀ u ∈ v.cells.toList, u.oneCell' = true) :
    (storeVar t ⟨b, o, none⟩ v).run P w = .ok () (w.setRow b (arr.toList.take o ++ v.cells.toList ++ arr.toList.drop (o + n)).toArray) := by
  have h2 := run_storeCells_at P b o T v.cells.toList 0 arr w hh (by simp; omega) h1
  have h3 : v.cells.toList.length = n := by simpa using hv
  simp only [Nat.add_zero, h3] at h2
  simp [storeVar, run_sizeOf hs, hv, h2]

/-- The cells behind a store. -/
def putC (cs : List PV) (o : Nat) (p : PV) : List PV := cs.take o ++ p.cellsP ++ cs.drop (o + p.cellsP.length)

theorem e_st {x y : Operand} {t nt i o n : Nat} {cs : List PV} {p : PV} {K : AS → Prop} (hs : szOf P t = some n) (hx : ev tm x = some (.loc i o)) (hc : lo[i]? = some cs) (hy : Ev tm y p) (hp : p.isP = true) (hn : Nat.beq p.cellsP.length n = true) (hl : Nat.ble (o + n) cs.length = true)
    (hK : K ⟨nt, tm, lo.set i (putC cs o p), ob, L⟩) (hmo : mpo cs = false := by rfl) : AOp P ⟨none, .store t x y, ty, pos, aft, none⟩ ⟨nt, tm, lo, ob, L⟩ K := by
  intro cx a hi
  obtain ⟨q, hq, hle⟩ := hy
  have hy1 := hle cx _ (hi.ev hq)
  have hx1 := hi.ev hx
  simp only [Rep] at hx1
  obtain ⟨b, hb, hx2⟩ := hx1
  obtain ⟨h1, h2, h3⟩ := rep_cellsP hp hy1
  obtain ⟨h4, h5, h7, h8⟩ := hi.inv.olo.at_ i b cs hb hc
  obtain ⟨arr, T, h5, h6⟩ := h5.cells hmo
  have hlen := h6.length
  have hvl := h1.length
  have hn' := Nat.eq_of_beq_eq_true hn
  have hl' := Nat.le_of_ble_eq_true hl
  have hvs : (a.eval y).cells.size = n := by simp at hvl; omega
  have hrun := run_storeVar (P := P) (w := cx.w) (o := o) hs hvs h5 (by simp at hlen; omega) h3
  obtain ⟨he, hi'⟩ := hi.inv.setLo hb hc h5 (nw := (arr.toList.take o ++ (a.eval y).cells.toList ++ arr.toList.drop (o + n)).toArray) (cs' := putC cs o p)
    (by simp only [List.toList_toArray, putC, hn']; exact ((h6.take o).append h1).append (h6.drop (o + n)))
    (by simp only [putC, List.all_append, Bool.and_eq_true]; refine ⟨⟨?_, h2⟩, ?_⟩
        · exact List.all_eq_true.2 fun z hz => List.all_eq_true.1 h8 z (List.mem_of_mem_take hz)
        · exact List.all_eq_true.2 fun z hz => List.all_eq_true.1 h8 z (List.mem_of_mem_drop hz))
  unfold Oper.wp
  have : (execOp a.eval ⟨none, .store t x y, ty, pos, aft, none⟩).run P cx.w = .ok .skip (cx.w.setRow b (arr.toList.take o ++ (a.eval y).cells.toList ++ arr.toList.drop (o + n)).toArray) := by
    simp only [execOp, hx2, Instr.storeAt, Instr.sureAddr, Sem.run_bind, Sem.run_pure, Result.andThen_ok, hrun]
  rw [this]
  refine ⟨_, ⟨nt, tm, lo.set i (putC cs o p), ob, L⟩, rfl, he, ⟨hi', hi.df, hi.sz, fun u q hq => (hi.tm u q hq).ext he⟩, hK⟩

theorem e_stp {x y : Operand} {t nt i o n : Nat} {cs : List PV} {p : PV} {K : AS → Prop} (hs : szOf P t = some n) (hx : ev tm x = some (.ptr i o)) (hc : ob[i]? = some cs) (hy : Ev tm y p) (hp : p.isP = true) (hn : Nat.beq p.cellsP.length n = true) (hl : Nat.ble (o + n) cs.length = true)
    (hK : K ⟨nt, tm, lo, ob.set i (putC cs o p), L⟩) (hmo : mpo cs = false := by rfl) : AOp P ⟨none, .store t x y, ty, pos, aft, none⟩ ⟨nt, tm, lo, ob, L⟩ K := by
  intro cx a hi
  obtain ⟨q, hq, hle⟩ := hy
  have hy1 := hle cx _ (hi.ev hq)
  have hx1 := hi.ev hx
  simp only [Rep] at hx1
  obtain ⟨b, hb, hx2⟩ := hx1
  obtain ⟨h1, h2, h3⟩ := rep_cellsP hp hy1
  obtain ⟨h4, h5, h7, h8⟩ := hi.inv.oob.at_ i b cs hb hc
  obtain ⟨arr, T, h5, h6⟩ := h5.cells hmo
  have hlen := h6.length
  have hvl := h1.length
  have hn' := Nat.eq_of_beq_eq_true hn
  have hl' := Nat.le_of_ble_eq_true hl
  have hvs : (a.eval y).cells.size = n := by simp at hvl; omega
  have hrun := run_storeVar (P := P) (w := cx.w) (o := o) hs hvs h5 (by simp at hlen; omega) h3
  obtain ⟨he, hi'⟩ := hi.inv.setOb hb hc h5 (nw := (arr.toList.take o ++ (a.eval y).cells.toList ++ arr.toList.drop (o + n)).toArray) (cs' := putC cs o p)
    (by simp only [List.toList_toArray, putC, hn']; exact ((h6.take o).append h1).append (h6.drop (o + n)))
    (by simp only [putC, List.all_append, Bool.and_eq_true]; refine ⟨⟨?_, h2⟩, ?_⟩
        · exact List.all_eq_true.2 fun z hz => List.all_eq_true.1 h8 z (List.mem_of_mem_take hz)
        · exact List.all_eq_true.2 fun z hz => List.all_eq_true.1 h8 z (List.mem_of_mem_drop hz))
  unfold Oper.wp
  have : (execOp a.eval ⟨none, .store t x y, ty, pos, aft, none⟩).run P cx.w = .ok .skip (cx.w.setRow b (arr.toList.take o ++ (a.eval y).cells.toList ++ arr.toList.drop (o + n)).toArray) := by
    simp only [execOp, hx2, Instr.storeAt, Instr.sureAddr, Sem.run_bind, Sem.run_pure, Result.andThen_ok, hrun]
  rw [this]
  refine ⟨_, ⟨nt, tm, lo, ob.set i (putC cs o p), L⟩, rfl, he, ⟨hi', hi.df, hi.sz, fun u q hq => (hi.tm u q hq).ext he⟩, hK⟩
end
end Go.Proofs.YtcemejmegbefgaaGreatDoor.Em

set_option linter.unusedVariables false
set_option linter.unusedSimpArgs false
namespace Go.Proofs.YtcemejmegbefgaaGreatDoor.Em
open Go.RowKit

section
variable {P : Program} {lo ob : List (List PV)} {L : List Nat} {tm : List (Nat × PV)}
variable {dst : Option Tmp} {ty : TypeId} {pos : String} {aft : Array Edge} {g : Option (Nat × Bool)}

/-! max, min. -/
theorem p_max2 {x y : Operand} {ts : Array TypeId} {m n : Int} (hx : Ev tm x (i64 m)) (hy : Ev tm y (i64 n)) :
    POp P lo ob L ⟨dst, .call ⟨.builtin .max, #[x, y], ts⟩, ty, pos, aft, g⟩ tm (i64 (max m n)) :=
  POp.same fun cx a hi ho => by
    have h1 := rep_v (opr ho (by simp [Op.operands, Call.operands]) hx)
    have h2 := rep_v (opr ho (by simp [Op.operands, Call.operands]) hy)
    have e : (if n > m then n else m) = max m n := by omega
    have h3 := h1.2; have h4 := h2.2
    refine ⟨.int .i64 (max m n), ?_, mk_v (by
      simp only [okv] at *
      rcases Int.le_total m n with h | h
      · rw [Int.max_eq_right h]; exact h4
      · rw [Int.max_eq_left h]; exact h3)⟩
    simp [execOp, resolve, invoke, builtin, h1.1, h2.1, run_max_int2, e]
theorem p_min2 {x y : Operand} {ts : Array TypeId} {m n : Int} (hx : Ev tm x (i64 m)) (hy : Ev tm y (i64 n)) :
    POp P lo ob L ⟨dst, .call ⟨.builtin .min, #[x, y], ts⟩, ty, pos, aft, g⟩ tm (i64 (min m n)) :=
  POp.same fun cx a hi ho => by
    have h1 := rep_v (opr ho (by simp [Op.operands, Call.operands]) hx)
    have h2 := rep_v (opr ho (by simp [Op.operands, Call.operands]) hy)
    have e : (if n < m then n else m) = min m n := by omega
    have h3 := h1.2; have h4 := h2.2
    refine ⟨.int .i64 (min m n), ?_, mk_v (by
      simp only [okv] at *
      rcases Int.le_total m n with h | h
      · rw [Int.min_eq_left h]; exact h3
      · rw [Int.min_eq_right h]; exact h4)⟩
    simp [execOp, resolve, invoke, builtin, h1.1, h2.1, run_min_int2, e]
theorem p_max3 {x y z : Operand} {ts : Array TypeId} {m n l : Int} (hx : Ev tm x (i64 m)) (hy : Ev tm y (i64 n)) (hz : Ev tm z (i64 l)) :
    POp P lo ob L ⟨dst, .call ⟨.builtin .max, #[x, y, z], ts⟩, ty, pos, aft, g⟩ tm (i64 (max (max m n) l)) :=
  POp.same fun cx a hi ho => by
    have h1 := rep_v (opr ho (by simp [Op.operands, Call.operands]) hx)
    have h2 := rep_v (opr ho (by simp [Op.operands, Call.operands]) hy)
    have h5 := rep_v (opr ho (by simp [Op.operands, Call.operands]) hz)
    have e : (if l > (if n > m then n else m) then l else (if n > m then n else m)) = max (max m n) l := by
      split <;> split <;> omega
    have h3 := h1.2; have h4 := h2.2; have h6 := h5.2
    refine ⟨.int .i64 (max (max m n) l), ?_, mk_v (by
      simp only [okv] at *
      rcases Int.le_total m n with h | h <;> rcases Int.le_total (max m n) l with h' | h'
      · rw [Int.max_eq_right h']; exact h6
      · rw [Int.max_eq_left h', Int.max_eq_right h]; exact h4
      · rw [Int.max_eq_right h']; exact h6
      · rw [Int.max_eq_left h', Int.max_eq_left h]; exact h3)⟩
    simp [execOp, resolve, invoke, builtin, h1.1, h2.1, h5.1, run_max_int3, e]

/-! A pointer that is asked whether it is nil. -/
def PV.isPtr : PV → Bool
  | .loc _ _ => true
  | .ptr _ _ => true
  | .cel _ => true
  | .glo _ _ => true
  | _ => false
theorem p_nck {x : Operand} {p : PV} (hx : Ev tm x p) (hp : p.isPtr = true) : POp P lo ob L ⟨dst, .nilCheck x, ty, pos, aft, g⟩ tm p :=
  POp.same fun cx a hi ho => by
    have h1 := opr ho (by simp [Op.operands]) hx
    refine ⟨a.eval x, ?_, h1⟩
    have : ∃ ad, a.eval x = .pointer (some ad) := by
      cases p <;> simp only [PV.isPtr, Bool.false_eq_true] at hp <;> simp only [Rep] at h1
      · obtain ⟨b, off, vs, h2, _⟩ := h1; exact ⟨_, h2⟩
      · obtain ⟨b, _, h2⟩ := h1; exact ⟨_, h2⟩
      · obtain ⟨b, _, h2⟩ := h1; exact ⟨_, h2⟩
      · exact ⟨_, h1⟩
    obtain ⟨ad, had⟩ := this
    simp [execOp, had]

/-! Division of what isn't below zero. -/
theorem p_quo {x y : Operand} {t t' : TypeId} {m n : Int} (hx : Ev tm x (i64 m)) (hy : Ev tm y (i64 n)) (h : 0 ≤ m ∧ 0 < n) :
    POp P lo ob L ⟨dst, .binOp .quo t x y t', ty, pos, aft, g⟩ tm (i64 (m / n)) := by
  intro cx a hi ho
  have h1 := rep_v (opr ho (by simp [Op.operands]) hx)
  have h3 : 0 ≤ m / n ∧ m / n ≤ m := ⟨Int.ediv_nonneg h.1 (by omega), Int.ediv_le_self _ h.1⟩
  have h4 := h1.2
  simp only [okv, IntKind.min, IntKind.max, IntKind.signed, IntKind.bits, if_true] at h4
  have h5 : IntKind.i64.wrap (m / n) = m / n := wrap_in _ (i64_in (by omega))
  have h6 : m.tdiv n = m / n := Int.tdiv_eq_ediv_of_nonneg h.1
  have h7 : (n == 0) = false := by simp; omega
  exact p_bin hx hy (by simp only [okv]; exact i64_in (by omega)) (fun w => by simp [eqGuard, binOp, Op.intDiv, h6, h5, show n ≠ 0 by omega]) cx a hi ho
theorem p_rem {x y : Operand} {t t' : TypeId} {m n : Int} (hx : Ev tm x (i64 m)) (hy : Ev tm y (i64 n)) (h : 0 ≤ m ∧ 0 < n) :
    POp P lo ob L ⟨dst, .binOp .rem t x y t', ty, pos, aft, g⟩ tm (i64 (m % n)) := by
  intro cx a hi ho
  have h1 := rep_v (opr ho (by simp [Op.operands]) hx)
  have h2 := rep_v (opr ho (by simp [Op.operands]) hy)
  have h3 : 0 ≤ m % n ∧ m % n < n := ⟨Int.emod_nonneg _ (by omega), Int.emod_lt_of_pos _ h.2⟩
  have h4 := h2.2
  simp only [okv, IntKind.min, IntKind.max, IntKind.signed, IntKind.bits, if_true] at h4
  have h5 : IntKind.i64.wrap (m % n) = m % n := wrap_in _ (i64_in (by omega))
  have h6 : m.tmod n = m % n := Int.tmod_eq_emod_of_nonneg h.1
  exact p_bin hx hy (by simp only [okv]; exact i64_in (by omega)) (fun w => by simp [eqGuard, binOp, Op.intDiv, h6, h5, show n ≠ 0 by omega]) cx a hi ho

/-! Bytes. -/
def bs (s : List UInt8) : List (List D) := s.map fun b => [.v (.int .u8 b.toNat)]
theorem bs_length (s : List UInt8) : (bs s).length = s.length := by simp [bs]
theorem okv_u8 (b : UInt8) : okv (.int .u8 (b.toNat : Int)) := by
  have := b.toNat_lt
  simp only [okv, IntKind.min, IntKind.max, IntKind.signed, IntKind.bits]
  simp; omega
theorem repC_bs {w S} : ∀ (s : List UInt8), RepC w S 1 (bs s) (s.map fun b => Value.int .u8 b.toNat)
  | [] => by simp [bs, RepC]
  | b :: s => by
    have ih := repC_bs (w := w) (S := S) s
    simp only [bs, List.map_cons, RepC] at ih ⊢
    exact ⟨[.int .u8 b.toNat], _, rfl, rfl, by simp [RepDs, RepD, okv_u8], ih⟩
theorem repC_bs_inv {w S} : ∀ (s : List UInt8) (vs : List Value), RepC w S 1 (bs s) vs → vs = s.map fun b => Value.int .u8 b.toNat
  | [], vs, h => by simpa [bs, RepC] using h
  | b :: s, vs, h => by
    simp only [bs, List.map_cons, RepC] at h
    obtain ⟨ve, r, rfl, h2, h3, h4⟩ := h
    simp only [RepDs, RepD] at h3
    obtain ⟨v, r', rfl, ⟨rfl, _⟩, rfl⟩ := h3
    rw [repC_bs_inv s r h4]; rfl

theorem p_s2b {x : Operand} {s d e : TypeId} {l : List UInt8} (hs : P.underlying s = some .string) (hd : P.underlying d = some (.slice e)) (he : P.underlying e = some (.int .u8)) (hx : Ev tm x (str l)) :
    POp P lo ob L ⟨dst, .convert s d x, ty, pos, aft, g⟩ tm (lst 1 (bs l)) := by
  intro cx a hi ho
  have h1 := rep_v (opr ho (by simp [Op.operands]) hx)
  have hl : l.length ≤ LIM := by have := h1.2; simpa only [okv, mkS_size] using this
  have hrun := run_bytes_of_string (P := P) cx.w s d e ⟨l.toArray⟩ hs hd he
  generalize hcap : grownCap cx.w (⟨l.toArray⟩ : ByteArray).size 0 e = cap at hrun
  have hrow : (bytesRow ⟨l.toArray⟩ cap).toList = (l.map fun b => Value.int .u8 b.toNat) ++ List.replicate (cap - l.length) (.int .u8 0) := by
    simp [bytesRow, mkS_size]
  have hsz : (bytesRow ⟨l.toArray⟩ cap).size = l.length + (cap - l.length) := by
    have := congrArg List.length hrow; simpa using this
  have hi1 := hi.drew
  obtain ⟨hx2, hi2⟩ := hi1.growN (bytesRow ⟨l.toArray⟩ cap) e l.length (by omega) ((bytesRow ⟨l.toArray⟩ cap).size, (bytesRow ⟨l.toArray⟩ cap).size + 1)
  unfold Oper.wp
  have : (execOp a.eval ⟨dst, .convert s d x, ty, pos, aft, g⟩).run P cx.w = .ok (.value (.slice (some ⟨cx.w.heap.size, 0, none⟩) l.length cap)) (cx.w.drew.alloc (.cells (bytesRow ⟨l.toArray⟩ cap) e ((bytesRow ⟨l.toArray⟩ cap).size, (bytesRow ⟨l.toArray⟩ cap).size + 1))) := by
    simp only [execOp, h1.1, Sem.run_bind, hrun, Result.andThen_ok]
    simp [Sem.run, mkS_size]
  rw [this]
  refine ⟨_, _, rfl, rfl, (drewExt cx).trans hx2, hi2, ?_⟩
  simp only [Rep, RepD]
  refine .inr ⟨cx.w.heap.size, 0, cap, l.map fun b => Value.int .u8 b.toNat, by rw [bs_length], ?_, by rw [bs_length]; exact hl, ?_, repC_bs l⟩
  · rw [bs_length, ← hcap]
    have := grownCap_ge cx.w (⟨l.toArray⟩ : ByteArray).size 0 e
    simpa only [mkS_size] using this
  · intro j v hv
    have hj : j < l.length := by
      rcases Nat.lt_or_ge j l.length with h' | h'
      · exact h'
      · rw [List.getElem?_eq_none (by simpa using h')] at hv; cases hv
    refine ⟨?_, .inr ⟨rfl, by omega⟩⟩
    show ((cx.w.drew.alloc _).cell? _) = _
    have hh : cx.w.drew.heap.size = cx.w.heap.size := rfl
    rw [← hh, cell_alloc, ← Array.getElem?_toList, hrow, Nat.zero_add, List.getElem?_append_left (by simpa using hj)]
    exact hv

theorem strOfNums_bytes (l : List UInt8) : strOfNums (l.map fun b => ((b.toNat : Nat) : Int)) = ⟨l.toArray⟩ := by
  have : (l.map fun b => ((b.toNat : Nat) : Int)).map (fun n => UInt8.ofNat n.toNat) = l := by
    rw [List.map_map]
    conv => rhs; rw [← List.map_id l]
    apply List.map_congr_left
    intro b _
    simp
  unfold strOfNums
  rw [this]

theorem p_b2s {x : Operand} {s d e : TypeId} {l : List UInt8} (hs : P.underlying s = some (.slice e)) (hd : P.underlying d = some .string) (he : P.underlying e = some (.int .u8)) (hx : Ev tm x (lst 1 (bs l))) :
    POp P lo ob L ⟨dst, .convert s d x, ty, pos, aft, g⟩ tm (str l) :=
  POp.same fun cx a hi ho => by
    have h1 := opr ho (by simp [Op.operands]) hx
    simp only [Rep, RepD] at h1
    rcases h1 with ⟨h1, h2⟩ | ⟨b, off, c, vs, h1, h2, h3, h4, h5⟩
    · have hl : l = [] := by cases l with | nil => rfl | cons b l => simp [bs] at h1
      subst hl
      refine ⟨.string ⟨#[]⟩, ?_, mk_v (by simp [okv, ByteArray.size])⟩
      have := run_convert_bytes_nil (P := P) cx.w s e hs he 0 0 d hd
      simp only [execOp, h2, Sem.run_bind, this, Result.andThen_ok]
      rfl
    · have hv := repC_bs_inv l vs h5
      rw [bs_length] at h1 h2 h3
      refine ⟨.string ⟨l.toArray⟩, ?_, mk_v (by simpa only [okv, mkS_size] using h3)⟩
      have := run_convert_bytes_arg (P := P) cx.w s e hs he b off l.length c (l.map fun b => ((b.toNat : Nat) : Int)) (by simp) (fun i hi => by
        have h6 := (h4 i (.int .u8 (l[i].toNat : Int)) (by rw [hv]; simp [hi])).1
        rw [h6]; simp [hi]) d hd
      simp only [execOp, h1, Sem.run_bind, this, Result.andThen_ok, strOfNums_bytes]
      rfl

/-! Functions without a text of their own. -/
theorem p_callx {f : FuncId} {fn : Func} {xs : List Operand} {tys : Array TypeId} {e : Array Value → Sem Value} {ps : List PV} {p : PV} (hf : P.funcs[f]? = some fn) (hname : (fn.name == "runtime.NumGoroutine") = false)
    (hb : fn.body.isNone = true) (hn : Extern.findNext fn = none) (he : Extern.find fn = some e) (hx : Evs tm xs ps)
    (h : ∀ (cx : Cx) (vs : List Value), Inv cx ob lo L → Reps cx ps vs → ∃ v, (e vs.toArray).run P cx.w = .ok v cx.w ∧ Rep cx p v) :
    POp P lo ob L ⟨dst, .call ⟨.value (.func f), xs.toArray, tys⟩, ty, pos, aft, g⟩ tm p :=
  POp.same fun cx a hi ho => by
    have hreps := evs_reps ho (fun x hx => by simp [Op.operands, Call.operands, hx]) hx
    obtain ⟨v, h1, h2⟩ := h cx _ hi hreps
    refine ⟨v, ?_, h2⟩
    have h3 := run_callFunc_extern (P := P) (f := f) hf hname hb hn he (xs.map a.eval).toArray cx.w
    simp only [h1, Result.andThen_ok] at h3
    simp [execOp, resolve, Deferred.ofValue, Act.eval, invoke, h3]

/-! Calls that may turn objects. -/
def inPV (n : Nat) : PV → PV
  | .loc o off => .ptr (n + o) off
  | .mloc o => .mptr (n + o)
  | p => p
def PV.nl1 : PV → Bool
  | .loc _ _ => true
  | .mloc _ => true
  | p => p.nl

theorem Rep.inn1 {cx : Cx} {p : PV} (hp : p.nl1 = true) {y : Value} (h : Rep cx p y) : Rep cx.inn (inPV cx.m.length p) y := by
  cases p with
  | loc o off =>
    simp only [Rep, inPV] at h ⊢
    obtain ⟨b, h1, h2⟩ := h
    refine ⟨b, ?_, h2⟩
    simp only [Cx.inn]
    rw [List.getElem?_append_right (by omega), Nat.add_sub_cancel_left]
    exact h1
  | mloc o =>
    simp only [Rep, inPV] at h ⊢
    obtain ⟨b, h1, h2⟩ := h
    refine ⟨b, ?_, h2⟩
    simp only [Cx.inn]
    rw [List.getElem?_append_right (by omega), Nat.add_sub_cancel_left]
    exact h1
  | _ => simpa only [inPV] using Rep.inn (by simpa only [PV.nl1] using hp) h
theorem Reps.inn1 {cx : Cx} : ∀ {ps : List PV} (hp : ps.all PV.nl1 = true) {ys : List Value} (h : Reps cx ps ys), Reps cx.inn (ps.map (inPV cx.m.length)) ys
  | [], _, ys, h => by simpa only [Reps, List.map_nil] using h
  | p :: ps, hp, ys, h => by
    simp only [Reps, List.map_cons] at h ⊢
    simp only [List.all_cons, Bool.and_eq_true] at hp
    obtain ⟨v, r, h1, h2, h3⟩ := h
    exact ⟨v, r, h1, h2.inn1 hp.1, Reps.inn1 hp.2 h3⟩

theorem e_call {f : FuncId} {xs : List Operand} {tys : Array TypeId} {nt d : Nat} {args : List PV} {post : PV → List (List PV) → List Nat → Prop} {K : AS → Prop}
    (hf : FnS P f (args.map (inPV ob.length)) (ob ++ lo) L post) (he : Evs tm xs args) (hnl : args.all PV.nl1 = true) (hd : Nat.blt d nt = true)
    (hK : ∀ r ob' lo' L', post r (ob' ++ lo') L' → ob'.length = ob.length → lo'.length = lo.length → r.rs = true ∧ K ⟨nt, (d, r) :: tm, lo', ob', L'⟩)
    (hlen : ∀ r o L', post r o L' → o.length = ob.length + lo.length) :
    AOp P ⟨some d, .call ⟨.value (.func f), xs.toArray, tys⟩, ty, pos, aft, none⟩ ⟨nt, tm, lo, ob, L⟩ K := by
  intro cx a hi
  obtain ⟨hc, hcalls⟩ := hf
  have hreps : Reps cx args (xs.map a.eval) := evs_reps (o := ⟨some d, .call ⟨.value (.func f), xs.toArray, tys⟩, ty, pos, aft, none⟩) (fun x _ q hq => hi.ev hq) (fun x hx => by simp [Op.operands, Call.operands, hx]) he
  unfold Oper.wp
  have hrun : (execOp a.eval ⟨some d, .call ⟨.value (.func f), xs.toArray, tys⟩, ty, pos, aft, none⟩).run P cx.w = .ok (.enter f (xs.map a.eval).toArray) cx.w := by
    simp [execOp, resolve, Deferred.ofValue, Act.eval, invoke, run_callFunc hc]
  rw [hrun]
  have hm : cx.m.length = ob.length := hi.inv.oob.len
  refine Calls.mono (hcalls cx.inn (xs.map a.eval) rfl hi.inv.inn (by rw [← hm]; exact Reps.inn1 hnl hreps)) ?_
  rintro e w' ⟨v, cx', r', ob', L', rfl, rfl, hx, hn, hi', hrv, hp⟩
  have hl := hlen _ _ _ hp
  have hsplit : ob' = ob'.take ob.length ++ ob'.drop ob.length := (List.take_append_drop _ _).symm
  rw [hsplit] at hi' hp
  have h1 : (ob'.take ob.length).length = ob.length := by simp; omega
  have h2 : (ob'.drop ob.length).length = lo.length := by simp; omega
  obtain ⟨h3, h4⟩ := back hi.inv hx hn hi' h1 h2
  obtain ⟨hr, hk⟩ := hK _ _ _ _ hp h1 h2
  have h5 : Rep (cx.out cx') r' v := Rep.rs (cx := cx') (cx' := cx.out cx') rfl rfl rfl hr hrv
  refine ⟨cx.out cx', _, rfl, h3, ⟨h4, hi.df, ?_, fun t q hq => ?_⟩, hk⟩
  · have := hi.sz; simpa [Act.put] using this
  · rw [look_cons] at hq
    have hsz := hi.sz
    have hdn : d < nt := Nat.le_of_ble_eq_true hd
    by_cases e : d = t
    · subst e
      rw [if_pos rfl] at hq
      cases hq
      have : (a.put (some d) v).tmps.getD d undef = v := by simp [Act.put, hsz, hdn]
      rw [this]; exact h5
    · rw [if_neg e] at hq
      have : (a.put (some d) v).tmps.getD t undef = a.tmps.getD t undef := by
        simp [Act.put, Array.getElem?_setIfInBounds_ne e]
      rw [this]
      exact (hi.tm t q hq).ext h3

/-! The end of what two ways have in common. -/
theorem a_join {c d : Code} {s : AS} {Q : Exit → AS → Prop} {T : Type} (I : T → Prop) (st : T → AS)
    (h : AWP P c s (thenA (fun s' => ∃ t, I t ∧ SubS s' (st t)) Q)) (k : ∀ t, I t → AWP P d (st t) Q) : AWP P (.seq c d) s Q :=
  a_seq (fun cx a hi => wp_mono (h cx a hi) (by
    rintro e a' w' ⟨cx', s', rfl, he, hi', hq⟩
    cases e with
    | normal =>
      obtain ⟨t, hI, hs⟩ := hq
      exact ⟨cx', s', rfl, he, hi', fun cx a hi => k t hI cx a (hi.subS hs)⟩
    | _ => exact ⟨cx', s', rfl, he, hi', hq⟩))

/-! A result that lies in a cell. -/
theorem resA_cell {fn : Func} {nt lo ob L} {r : PV} {t : Nat} {i : Nat} {cs : List PV} {T : TypeId} (hr : fn.results = #[.cell t T]) (hx : look tm t = some (.loc i 0)) (hc : lo[i]? = some cs) (hp : cs[0]? = some r) (hn : notAgg P T = true) (hmo : mpo cs = false := by rfl) :
    ResA P fn ⟨nt, tm, lo, ob, L⟩ r := by
  intro cx a hi
  have hx1 := hi.tm t _ hx
  simp only [Rep] at hx1
  obtain ⟨b, hb, hx2⟩ := hx1
  obtain ⟨v, h1, h2⟩ := Objs.cell hi.inv.olo hb hc hp hmo
  refine ⟨v, ?_, h2⟩
  have h3 := run_loadVar (P := P) hn h1
  have hx3 : a.tmps[t]?.getD undef = .pointer (some ⟨b, 0, none⟩) := by simpa using hx2
  simp [results, hr, hx3, asAddr, h3]

/-! Loops whose body makes objects that end with it. -/
def PV.lk (k : Nat) : PV → Bool
  | .loc o _ => Nat.blt o k
  | .mloc o => Nat.blt o k
  | .tup xs => xs.all PV.rs0
  | .fn _ a b => a.isEmpty && b.isEmpty
  | .opt _ p => p.lk k
  | _ => true

theorem Rep.dropN {cx : Cx} (k : Nat) : ∀ (p : PV), p.lk k = true → ∀ (y : Value), Rep cx p y → Rep { cx with n := cx.n.take k } p y
  | .loc o off, hp, y, h => by
    simp only [PV.lk] at hp
    have := Nat.le_of_ble_eq_true hp
    simp only [Rep] at h ⊢
    obtain ⟨b, h1, h2⟩ := h
    exact ⟨b, by rw [List.getElem?_take, if_pos (by omega)]; exact h1, h2⟩
  | .tup xs, hp, y, h => by
    simp only [PV.lk] at hp
    simp only [Rep] at h ⊢
    obtain ⟨vs, h1, h2⟩ := h
    exact ⟨vs, h1, Reps.rs0 (cx := cx) (cx' := { cx with n := cx.n.take k }) rfl rfl rfl hp h2⟩
  | .fn f a b, hp, y, h => by
    simp only [PV.lk, Bool.and_eq_true, List.isEmpty_iff] at hp
    obtain ⟨rfl, rfl⟩ := hp
    simp only [Rep, Reps] at h ⊢
    exact h
  | .opt b p, hp, y, h => by
    simp only [PV.lk] at hp
    simp only [Rep] at h ⊢
    exact ⟨fun hb => Rep.dropN k p hp y (h.1 hb), h.2⟩
  | .d x, hp, y, h => by simp only [Rep] at h ⊢; exact h
  | .nil, hp, y, h => by simp only [Rep] at h ⊢; exact h
  | .own e sz l k, hp, y, h => by simp only [Rep] at h ⊢; exact h
  | .row e sz l k, hp, y, h => by simp only [Rep] at h ⊢; exact h
  | .rp e sz l k i off, hp, y, h => by simp only [Rep] at h ⊢; exact h
  | .rp2 e sz l k i off k0, hp, y, h => by simp only [Rep] at h ⊢; exact h
  | .agg cs, hp, y, h => by simp only [Rep] at h ⊢; exact h
  | .cel cs, hp, y, h => by simp only [Rep] at h ⊢; exact h
  | .ptr o off, hp, y, h => by simp only [Rep] at h ⊢; exact h
  | .mptr o, hp, y, h => by simp only [Rep] at h ⊢; exact h
  | .mpc _, hp, y, h => by simp only [Rep] at h
  | .sic _ _, hp, y, h => by simp only [Rep] at h
  | .nx b k c, hp, y, h => by simp only [Rep] at h ⊢; exact h
  | .mloc o, hp, y, h => by
    simp only [PV.lk] at hp
    have := Nat.le_of_ble_eq_true hp
    simp only [Rep] at h ⊢
    obtain ⟨b, h1, h2⟩ := h
    exact ⟨b, by rw [List.getElem?_take, if_pos (by omega)]; exact h1, h2⟩
  | .glo o off, hp, y, h => by simp only [Rep] at h ⊢; exact h
  | .any, hp, y, h => by simp only [Rep] at h ⊢

theorem Inv.dropN {cx : Cx} (k : Nat) {ob lo L} (h : Inv cx ob lo L) : Inv { cx with n := cx.n.take k } ob (lo.take k) L := by
  refine ⟨h.sOk, h.baseLe, h.gv, ⟨h.oob.len, ?_⟩, ⟨by simp [h.olo.len], ?_⟩, ?_, ?_, h.ldist⟩
  · intro i b cs hb hc
    obtain ⟨h1, h2, h4, h5⟩ := h.oob.at_ i b cs hb hc
    exact ⟨h1, h2.tr rfl (fun _ h3 => Reps.ms (cx := cx) (cx' := { cx with n := cx.n.take k }) rfl rfl rfl h5 h3), h4, h5⟩
  · intro i b cs hb hc
    simp only [List.getElem?_take] at hb hc
    split at hb
    · rename_i hik
      rw [if_pos hik] at hc
      obtain ⟨h1, h2, h4, h5⟩ := h.olo.at_ i b cs hb hc
      exact ⟨h1, h2.tr rfl (fun _ h3 => Reps.ms (cx := cx) (cx' := { cx with n := cx.n.take k }) rfl rfl rfl h5 h3), h4, h5⟩
    · cases hb
  · have := h.nd
    exact List.Nodup.sublist (List.Sublist.append (List.Sublist.refl _) (List.take_sublist _ _)) this
  · intro k' hk
    obtain ⟨x, h1, h2⟩ := h.live k' hk
    refine ⟨x, h1, fun g s z e ct hx => ?_⟩
    obtain ⟨h3, h4, h5, h6⟩ := h2 g s z e ct hx
    refine ⟨h3, h4, fun hm => h5 ?_, h6⟩
    simp only [List.mem_append] at hm ⊢
    exact hm.imp id List.mem_of_mem_take

structure SubD (s s1 : AS) : Prop where
  nt : s1.nt = s.nt
  lo : s1.lo = s.lo.take s1.lo.length
  ob : s1.ob = s.ob
  L : ∀ k ∈ s1.L, k ∈ s.L
  tm : SubT s.tm s1.tm
  lk : s1.tm.all (fun x => x.2.lk s1.lo.length) = true

theorem look_mem : ∀ {tm : List (Nat × PV)} {t : Nat} {p : PV}, look tm t = some p → (t, p) ∈ tm
  | [], t, p, h => by simp [look] at h
  | (k, q) :: r, t, p, h => by
    rw [look_cons] at h
    by_cases e : k = t
    · rw [if_pos e] at h; cases h; subst e; exact List.mem_cons_self
    · rw [if_neg e] at h; exact List.mem_cons_of_mem _ (look_mem h)

theorem InvS.subD {cx : Cx} {s s1 : AS} {a : Act} (h : InvS cx s a) (hs : SubD s s1) : InvS { cx with n := cx.n.take s1.lo.length } s1 a := by
  obtain ⟨nt, tm, lo, ob, L⟩ := s
  obtain ⟨nt1, tm1, lo1, ob1, L1⟩ := s1
  obtain ⟨h1, h2, h3, h4, h5, h6⟩ := hs
  simp only at h1 h2 h3 h4 h5 h6 ⊢
  subst h1; subst h3
  have := h.sub h5
  refine ⟨?_, this.df, this.sz, fun t p hp => ?_⟩
  · have h7 := (this.inv.sub h4).dropN lo1.length
    simp only at h7
    rw [← h2] at h7
    exact h7
  · have h8 := List.all_eq_true.1 h6 _ (look_mem hp)
    exact Rep.dropN _ _ h8 _ (this.tm t p hp)

theorem a_loopd {c : Code} {Q : Exit → AS → Prop} {s : AS} {T : Type} (I : T → Prop) (μ : T → Nat) (st : T → AS) (t0 : T) (h0 : I t0) (hs : SubS s (st t0)) (hlo : ∀ t, (st t).lo.length = s.lo.length)
    (round : ∀ t, I t → AWP P c (st t) (thenA (fun s' => ∃ t', I t' ∧ μ t' < μ t ∧ SubD s' (st t')) Q)) : AWP P (.loop c) s Q := by
  intro cx a hi
  have hnl : cx.n.length = s.lo.length := hi.inv.olo.len
  refine wp_loop_ghost (fun t a' w' => ∃ cx', cx'.w = w' ∧ Ext cx cx' ∧ InvS cx' (st t) a' ∧ I t) μ (t0 := t0) ⟨cx, rfl, Ext.refl cx, hi.subS hs, h0⟩ ?_
  rintro t a' w' ⟨cx', rfl, he, hi', hI⟩
  refine wp_mono (round t hI cx' a' hi') ?_
  rintro e a'' w'' ⟨cx'', s'', rfl, he', hi'', hq⟩
  cases e with
  | normal =>
    obtain ⟨t', hI', hm, hsub⟩ := hq
    have hee := he.trans he'
    obtain ⟨u, hu⟩ := hee.n
    have hk : (st t').lo.length = cx.n.length := by rw [hlo, hnl]
    refine ⟨t', ⟨{ cx'' with n := cx''.n.take (st t').lo.length }, rfl, ⟨hee.below, hee.base, hee.keeps, hee.m, ⟨[], ?_⟩, hee.lv⟩, hi''.subD hsub, hI'⟩, hm⟩
    simp [hk, hu]
  | _ => exact ⟨cx'', s'', rfl, he.trans he', hi'', hq⟩
end
end Go.Proofs.YtcemejmegbefgaaGreatDoor.Em

set_option linter.unusedVariables false
set_option linter.unusedSimpArgs false
namespace Go.Proofs.YtcemejmegbefgaaGreatDoor.Em
open Go.RowKit

section
variable {P : Program} {lo ob : List (List PV)} {L : List Nat} {tm : List (Nat × PV)}
variable {dst : Option Tmp} {ty : TypeId} {pos : String} {aft : Array Edge} {g : Option (Nat × Bool)}

/-! Rows that are turned. -/
def splice {α : Type} (c : List α) (off : Nat) (ds : List α) : List α := c.take off ++ ds ++ c.drop (off + ds.length)
theorem splice_length {α : Type} {c : List α} {off : Nat} {ds : List α} (h : off + ds.length ≤ c.length) : (splice c off ds).length = c.length := by
  simp [splice]; omega
theorem flatten_length {α : Type} {sz : Nat} : ∀ {l : List (List α)}, (∀ x ∈ l, x.length = sz) → l.flatten.length = l.length * sz
  | [], _ => by simp
  | x :: xs, h => by
    simp only [List.flatten_cons, List.length_append, List.length_cons, h x List.mem_cons_self, flatten_length (fun y hy => h y (List.mem_cons_of_mem _ hy)), Nat.succ_mul]; omega
theorem flatten_set {α : Type} {sz : Nat} : ∀ {l : List (List α)} {i : Nat} {c : List α} {off : Nat} {ds : List α}, (∀ x ∈ l, x.length = sz) → l[i]? = some c → off + ds.length ≤ c.length →
    (l.set i (splice c off ds)).flatten = splice l.flatten (i * sz + off) ds
  | [], i, c, off, ds, h, hc, hl => by simp at hc
  | x :: xs, 0, c, off, ds, h, hc, hl => by
    simp at hc; subst hc
    simp only [List.set_cons_zero, List.flatten_cons, splice, Nat.zero_mul, Nat.zero_add]
    rw [List.take_append_of_le_length (by omega), List.drop_append_of_le_length hl]
    simp
  | x :: xs, i + 1, c, off, ds, h, hc, hl => by
    simp only [List.getElem?_cons_succ] at hc
    have ih := flatten_set (fun y hy => h y (List.mem_cons_of_mem _ hy)) hc hl
    have hx := h x List.mem_cons_self
    rw [List.set_cons_succ, List.flatten_cons, List.flatten_cons, ih]
    simp only [splice]
    have e1 : (i + 1) * sz + off = x.length + (i * sz + off) := by rw [hx, Nat.succ_mul]; omega
    rw [e1, List.take_length_add_append, show x.length + (i * sz + off) + ds.length = x.length + (i * sz + off + ds.length) by omega, List.drop_length_add_append]
    simp
theorem flatten_get {α : Type} {sz : Nat} : ∀ {l : List (List α)} {i off : Nat} {c : List α}, (∀ x ∈ l, x.length = sz) → l[i]? = some c → off < c.length → l.flatten[i * sz + off]? = c[off]?
  | [], i, off, c, h, hc, ho => by simp at hc
  | x :: xs, 0, off, c, h, hc, ho => by
    simp at hc; subst hc
    simp only [List.flatten_cons, Nat.zero_mul, Nat.zero_add]
    rw [List.getElem?_append_left ho]
  | x :: xs, i + 1, off, c, h, hc, ho => by
    simp only [List.getElem?_cons_succ] at hc
    have hx := h x List.mem_cons_self
    simp only [List.flatten_cons]
    rw [List.getElem?_append_right (by rw [hx, Nat.succ_mul]; omega), show (i + 1) * sz + off - x.length = i * sz + off by rw [hx, Nat.succ_mul]; omega]
    exact flatten_get (fun y hy => h y (List.mem_cons_of_mem _ hy)) hc ho
theorem repC_flatten {w S sz} : ∀ {l : List (List D)} {vs : List Value}, (∀ x ∈ l, x.length = sz) → RepDs w S l.flatten vs → RepC w S sz l vs
  | [], vs, h, hr => by simpa only [List.flatten_nil, RepDs, RepC] using hr
  | x :: xs, vs, h, hr => by
    simp only [List.flatten_cons] at hr
    have h1 := hr.take x.length
    have h2 := hr.drop x.length
    rw [List.take_left'] at h1
    rw [List.drop_left'] at h2
    simp only [RepC]
    refine ⟨vs.take x.length, vs.drop x.length, (List.take_append_drop _ _).symm, h x List.mem_cons_self, h1, repC_flatten (fun y hy => h y (List.mem_cons_of_mem _ hy)) h2⟩
    all_goals rfl
theorem repDs_flatten {w S sz} : ∀ {l : List (List D)} {vs : List Value}, RepC w S sz l vs → RepDs w S l.flatten vs ∧ ∀ x ∈ l, x.length = sz
  | [], vs, h => by simp only [RepC] at h; subst h; simp [RepDs]
  | x :: xs, vs, h => by
    simp only [RepC] at h
    obtain ⟨ve, r, rfl, h2, h3, h4⟩ := h
    obtain ⟨h5, h6⟩ := repDs_flatten h4
    refine ⟨by simpa only [List.flatten_cons] using h3.append h5, fun y hy => ?_⟩
    rcases List.mem_cons.1 hy with rfl | hy
    · exact h2
    · exact h6 y hy

/-- Writing into a live row. -/
theorem Inv.setLive {cx : Cx} (hi : Inv cx ob lo L) {k g z e : Nat} {ct : List D} (hk : k ∈ L) (hlv : cx.lv[k]? = some (some (g, 0, z, e, ct))) (Lr : List Nat) (hL : ∀ j ∈ Lr, j ∈ L ∧ j ≠ k)
    {cur nw : Array Value} (hcur : cx.w.heap[g]? = some (.cells cur e (0, 0))) : Ext cx { cx with w := cx.w.setRow g nw } ∧ Inv { cx with w := cx.w.setRow g nw } ob lo Lr := by
  obtain ⟨x, hx, hlive⟩ := hi.live k hk
  have hxe : x = some (g, 0, z, e, ct) := by rw [hx] at hlv; exact Option.some.inj hlv
  subst hxe
  obtain ⟨hb, _, hgn, hsp⟩ := hlive g 0 z e ct rfl
  have hoth : ∀ b, b ≠ g → (cx.w.setRow g nw).heap[b]? = cx.w.heap[b]? := fun b hb => setRow_other cx.w g b nw hb
  have hSg : ∀ o, ¬ cx.S g o := fun o => hsp o (Nat.zero_le _)
  have he : Ext cx { cx with w := cx.w.setRow g nw } := by
    refine ⟨⟨rfl, rfl, rfl, by simp [World.setRow], fun b hb' => hoth b (by omega)⟩, rfl, fun b o hs => ⟨hs, ?_⟩, ⟨[], by simp⟩, ⟨[], by simp⟩, ⟨[], by simp⟩⟩
    exact World.cell?_of_block (hoth b (fun e => hSg o (e ▸ hs)))
  refine ⟨he, fun b o hs => ?_, by simpa [World.setRow] using hi.baseLe, he.gv hi.gv, ⟨hi.oob.len, ?_⟩, ⟨hi.olo.len, ?_⟩, hi.nd, ?_, fun j hj j' hj' => hi.ldist j (hL j hj).1 j' (hL j' hj').1⟩
  · rw [(he.keeps b o hs).2]; exact hi.sOk b o hs
  · intro i b cs hb' hc
    obtain ⟨h1, h2, h4, h5⟩ := hi.oob.at_ i b cs hb' hc
    have hne : b ≠ g := fun e => hgn (List.mem_append_left _ (e ▸ List.mem_of_getElem? hb'))
    exact ⟨h1, h2.tr (hoth b hne) (fun _ h3 => Reps.ext he _ _ h3), h4, h5⟩
  · intro i b cs hb' hc
    obtain ⟨h1, h2, h4, h5⟩ := hi.olo.at_ i b cs hb' hc
    have hne : b ≠ g := fun e => hgn (List.mem_append_right _ (e ▸ List.mem_of_getElem? hb'))
    exact ⟨h1, h2.tr (hoth b hne) (fun _ h3 => Reps.ext he _ _ h3), h4, h5⟩
  · intro j hj
    obtain ⟨x', h1, h2⟩ := hi.live j (hL j hj).1
    refine ⟨x', h1, fun g' s z' e' ct' hxe => ?_⟩
    obtain ⟨h3, ⟨cur', h4, h4'⟩, h5, h6⟩ := h2 g' s z' e' ct' hxe
    have hne : g ≠ g' := hi.ldist k hk j (hL j hj).1 (Ne.symm (hL j hj).2) g _ g' (s, z', e', ct') hlv (by rw [h1, hxe])
    exact ⟨h3, ⟨cur', (hoth g' (Ne.symm hne)).trans h4, h4'.1, RepDs.keep he.keeps _ _ h4'.2⟩, h5, h6⟩

/-- .. under a new name. -/
theorem Inv.putRow {cx : Cx} (hi : Inv cx ob lo L) {k g z e : Nat} {ct : List D} (hk : k ∈ L) (hlv : cx.lv[k]? = some (some (g, 0, z, e, ct))) (Lr : List Nat) (hL : ∀ j ∈ Lr, j ∈ L ∧ j ≠ k)
    {cur nw : Array Value} (hcur : cx.w.heap[g]? = some (.cells cur e (0, 0))) (hsz : nw.size = cur.size) {ct' : List D} (hct : RepDs cx.w cx.S ct' (nw.toList.take ct'.length)) :
    Ext cx { cx with w := cx.w.setRow g nw, lv := cx.lv ++ [some (g, 0, z, e, ct')] } ∧ Inv { cx with w := cx.w.setRow g nw, lv := cx.lv ++ [some (g, 0, z, e, ct')] } ob lo (cx.lv.length :: Lr) := by
  obtain ⟨he, hi'⟩ := hi.setLive hk hlv Lr hL hcur (nw := nw)
  obtain ⟨x, hx, hlive⟩ := hi.live k hk
  have hxe : x = some (g, 0, z, e, ct) := by rw [hx] at hlv; exact Option.some.inj hlv
  subst hxe
  obtain ⟨hb, ⟨cur', hc1, hc2, _⟩, hgn, hsp⟩ := hlive g 0 z e ct rfl
  have : cur' = cur := by rw [hcur] at hc1; injection hc1 with h; injection h with h; exact h.symm
  subst this
  obtain ⟨he2, hi2⟩ := hi'.name (some (g, 0, z, e, ct')) Lr (fun _ h => h) (fun g' s z' e' ct2 h => by
    simp only [Option.some.injEq, Prod.mk.injEq] at h
    obtain ⟨rfl, rfl, rfl, rfl, rfl⟩ := h
    refine ⟨hb, ⟨nw, setRow_heap cx.w g cur' nw e (0, 0) hcur, by omega, ?_⟩, hgn, hsp, fun j hj g' y' hj' => hi.ldist k hk j (hL j hj).1 (Ne.symm (hL j hj).2) g _ g' y' hlv hj'⟩
    simpa using RepDs.keep he.keeps _ _ hct)
  exact ⟨he.trans he2, hi2⟩

theorem a_accr {c : Code} {nt t : Nat} (e sz : Nat) {Q} (hx : ev tm (.tmp t) = some .nil) (k : ∀ k, k ∉ L → AWP P c ⟨nt, (t, .row e sz [] k) :: tm, lo, ob, k :: L⟩ Q) : AWP P c ⟨nt, tm, lo, ob, L⟩ Q := by
  intro cx a hi
  obtain ⟨he, hi'⟩ := hi.inv.name none L (fun _ h => h) (fun g s z e ct h => by cases h)
  have hk := k cx.lv.length (fun h => Nat.lt_irrefl _ (look_live hi.inv h))
  have hs : InvS { cx with lv := cx.lv ++ [none] } ⟨nt, (t, .row e sz [] cx.lv.length) :: tm, lo, ob, cx.lv.length :: L⟩ a := by
    refine ⟨hi', hi.df, hi.sz, fun u q hq => ?_⟩
    rw [look_cons] at hq
    by_cases e : t = u
    · subst e
      rw [if_pos rfl] at hq
      cases hq
      have := hi.ev hx
      simp only [Rep] at this ⊢
      exact .inl ⟨trivial, this, by simp⟩
    · rw [if_neg e] at hq
      exact (hi.tm u q hq).ext he
  refine wp_mono (hk { cx with lv := cx.lv ++ [none] } a hs) ?_
  rintro e a' w' ⟨cx', s', rfl, he', hi'', hq⟩
  exact ⟨cx', s', rfl, he.trans he', hi'', hq⟩

/-- A row becomes data. -/
theorem a_frz {c : Code} {nt t e sz k : Nat} {l : List (List D)} {Q} {Lr : List Nat} (hx : ev tm (.tmp t) = some (.row e sz l k)) (hk : k ∈ L) (hL : ∀ j ∈ Lr, j ∈ L ∧ j ≠ k)
    (h : AWP P c ⟨nt, (t, lst sz l) :: tm, lo, ob, Lr⟩ Q) : AWP P c ⟨nt, tm, lo, ob, L⟩ Q := by
  intro cx a hi
  have hx1 := hi.ev hx
  simp only [Rep] at hx1
  have same : ∀ (cx1 : Cx), cx1.w = cx.w → Ext cx cx1 → Inv cx1 ob lo Lr → Rep cx1 (lst sz l) (a.eval (.tmp t)) → c.wp P (fun e a' w' => ∃ cx' s', cx'.w = w' ∧ Ext cx cx' ∧ InvS cx' s' a' ∧ Q e s') a cx.w := by
    intro cx1 hw he hi1 hr
    have hs : InvS cx1 ⟨nt, (t, lst sz l) :: tm, lo, ob, Lr⟩ a := by
      refine ⟨hi1, hi.df, hi.sz, fun u q hq => ?_⟩
      rw [look_cons] at hq
      by_cases e : t = u
      · subst e
        rw [if_pos rfl] at hq
        cases hq
        exact hr
      · rw [if_neg e] at hq
        exact (hi.tm u q hq).ext he
    have := h cx1 a hs
    rw [hw] at this
    refine wp_mono this ?_
    rintro e a' w' ⟨cx', s', rfl, he', hi'', hq⟩
    exact ⟨cx', s', rfl, he.trans he', hi'', hq⟩
  rcases hx1 with ⟨rfl, h2, h3⟩ | ⟨g, cp, h2, h3, h4, h5, h6, h7⟩
  · refine same cx rfl (Ext.refl cx) (hi.inv.sub fun j hj => (hL j hj).1) ?_
    simp only [Rep, RepD]
    exact .inl ⟨trivial, h2⟩
  · obtain ⟨x, hx, hlive⟩ := hi.inv.live k hk
    have hxe : x = some (g, 0, cp * sz, e, l.flatten) := by rw [hx] at h7; exact Option.some.inj h7
    subst hxe
    obtain ⟨hb, ⟨cur, hc1, hc2, hc3⟩, hgn, hsp⟩ := hlive g 0 _ e _ rfl
    simp only [List.drop_zero] at hc3
    let cx1 : Cx := { cx with S := fun b o => cx.S b o ∨ (b = g ∧ o < l.length * sz) }
    have he : Ext cx cx1 := ⟨Below.refl _ _, rfl, fun b o hs => ⟨.inl hs, rfl⟩, ⟨[], by simp [cx1]⟩, ⟨[], by simp [cx1]⟩, ⟨[], by simp [cx1]⟩⟩
    have hlen : l.length * sz ≤ cur.size := by rw [hc2]; exact Nat.mul_le_mul_right _ h3
    have hi1 : Inv cx1 ob lo Lr := by
      refine ⟨?_, hi.inv.baseLe, hi.inv.gv, ⟨hi.inv.oob.len, ?_⟩, ⟨hi.inv.olo.len, ?_⟩, hi.inv.nd, ?_, fun j hj j' hj' => hi.inv.ldist j (hL j hj).1 j' (hL j' hj').1⟩
      · rintro b o (hs | ⟨rfl, ho⟩)
        · exact hi.inv.sOk b o hs
        · show (cx.w.cell? _).isSome = true
          rw [cellAt hc1]
          have : o < cur.size := by omega
          simp [this]
      · intro i b cs hb' hc
        obtain ⟨h1, h2, h4, h5⟩ := hi.inv.oob.at_ i b cs hb' hc
        refine ⟨h1, h2.tr rfl (fun _ h3 => Reps.ext he _ _ h3), ?_, h5⟩
        rintro o (h | ⟨h, _⟩)
        · exact h4 o h
        · exact hgn (List.mem_append_left _ (h ▸ List.mem_of_getElem? hb'))
      · intro i b cs hb' hc
        obtain ⟨h1, h2, h4, h5⟩ := hi.inv.olo.at_ i b cs hb' hc
        refine ⟨h1, h2.tr rfl (fun _ h3 => Reps.ext he _ _ h3), ?_, h5⟩
        rintro o (h | ⟨h, _⟩)
        · exact h4 o h
        · exact hgn (List.mem_append_right _ (h ▸ List.mem_of_getElem? hb'))
      · intro j hj
        obtain ⟨x', h1, h2⟩ := hi.inv.live j (hL j hj).1
        refine ⟨x', h1, fun g' s z' e' ct' hxe => ?_⟩
        obtain ⟨h3, ⟨cur', h4, h4'⟩, h5, h6⟩ := h2 g' s z' e' ct' hxe
        have hne : g ≠ g' := hi.inv.ldist k hk j (hL j hj).1 (Ne.symm (hL j hj).2) g _ g' (s, z', e', ct') h7 (by rw [h1, hxe])
        refine ⟨h3, ⟨cur', h4, h4'.1, RepDs.keep he.keeps _ _ h4'.2⟩, h5, ?_⟩
        rintro o ho (h | ⟨h, _⟩)
        · exact h6 o ho h
        · exact hne h.symm
    refine same cx1 rfl he hi1 ?_
    have hfl := flatten_length h6
    rw [hfl] at hc3
    simp only [Rep, RepD]
    refine .inr ⟨g, 0, cp, cur.toList.take (l.length * sz), h2, h3, h5, ?_, RepC.keep he.keeps _ _ _ (repC_flatten h6 hc3)⟩
    intro j v hv
    have hj : j < l.length * sz := by
      rcases Nat.lt_or_ge j (l.length * sz) with h' | h'
      · exact h'
      · rw [List.getElem?_eq_none (by simp; omega)] at hv; cases hv
    rw [List.getElem?_take, if_pos hj] at hv
    refine ⟨?_, .inr ⟨rfl, by omega⟩⟩
    show cx.w.cell? _ = _
    rw [Nat.zero_add, cellAt hc1]; exact hv

/-! Reading. -/
theorem p_lenr {x : Operand} {t e e' sz k : Nat} {l : List (List D)} (hu : P.underlying t = some (.slice e)) (hx : Ev tm x (.row e' sz l k)) :
    POp P lo ob L ⟨dst, .call ⟨.builtin .len, #[x], #[t]⟩, ty, pos, aft, g⟩ tm (i64 l.length) :=
  POp.same fun cx a hi ho => by
    have h1 := opr ho (by simp [Op.operands, Call.operands]) hx
    simp only [Rep] at h1
    rcases h1 with ⟨rfl, h1, _⟩ | ⟨b, c, h1, h2, h3, h4, _⟩
    · exact ⟨.int .i64 0, by simp [execOp, resolve, invoke, builtin, Builtin.len_, h1, run_under hu, goInt], mk_v (len_i64 (n := 0) (by simp))⟩
    · exact ⟨.int .i64 l.length, by simp [execOp, resolve, invoke, builtin, Builtin.len_, h1, run_under hu, goInt], mk_v (len_i64 h4)⟩

theorem live_row {cx : Cx} (hi : Inv cx ob lo L) {k gg z e : Nat} {ct : List D} (hk : k ∈ L) (hlv : cx.lv[k]? = some (some (gg, 0, z, e, ct))) :
    ∃ cur, cx.w.heap[gg]? = some (.cells cur e (0, 0)) ∧ cur.size = z ∧ RepDs cx.w cx.S ct (cur.toList.take ct.length) := by
  obtain ⟨x, hx, hlive⟩ := hi.live k hk
  have hxe : x = some (gg, 0, z, e, ct) := by rw [hx] at hlv; exact Option.some.inj hlv
  subst hxe
  obtain ⟨_, ⟨cur, h1, h2, h3⟩, _⟩ := hlive gg 0 z e ct rfl
  exact ⟨cur, h1, h2, by simpa using h3⟩

theorem p_ldr {x : Operand} {t e sz k i off : Nat} {l : List (List D)} {c : List D} {d : D} (hn : notAgg P t = true) (hx : Ev tm x (.rp e sz l k i off)) (hk : k ∈ L) (hc : l[i]? = some c) (hd : c[off]? = some d) :
    POp P lo ob L ⟨dst, .load t x, ty, pos, aft, g⟩ tm (.d d) :=
  POp.same fun cx a hi ho => by
    have h1 := opr ho (by simp [Op.operands]) hx
    simp only [Rep] at h1
    obtain ⟨gg, z, h2, h3, h4⟩ := h1
    obtain ⟨cur, h5, h6, h7⟩ := live_row hi hk h4
    have ho' : off < c.length := by
      rcases Nat.lt_or_ge off c.length with h' | h'
      · exact h'
      · rw [List.getElem?_eq_none h'] at hd; cases hd
    have hf := flatten_get h3 hc ho'
    obtain ⟨v, hv, hr⟩ := h7.get (i * sz + off) d (by rw [hf]; exact hd)
    have hcell : cx.w.cell? ⟨gg, i * sz + off, none⟩ = some v := by
      rw [cellAt h5]
      rw [List.getElem?_take] at hv
      split at hv
      · exact hv
      · cases hv
    exact ⟨v, by simp [execOp, h2, Instr.loadAt, Instr.sureAddr, run_loadVar hn hcell], by simpa only [Rep] using hr⟩

theorem p_iar {x y : Operand} {t e e' : TypeId} {k' : IntKind} {sz k : Nat} {l : List (List D)} {n : Int} (hu : P.underlying t = some (.slice e)) (hs : szOf P e = some sz)
    (hx : Ev tm x (.row e' sz l k)) (hy : Ev tm y (int k' n)) (h : 0 ≤ n ∧ n < l.length) :
    POp P lo ob L ⟨dst, .indexAddr t x y, ty, pos, aft, g⟩ tm (.rp e' sz l k n.toNat 0) :=
  POp.same fun cx a hi ho => by
    have h1 := opr ho (by simp [Op.operands]) hx
    have h2 := rep_v (opr ho (by simp [Op.operands]) hy)
    simp only [Rep] at h1
    rcases h1 with ⟨rfl, _⟩ | ⟨b, cc, h3, h4, h5, h6, h7, h8⟩
    · simp at h; omega
    refine ⟨.pointer (some ⟨b, n.toNat * sz, none⟩), ?_, ?_⟩
    · simp [execOp, h2.1, h3, Instr.indexAt, asIntOf, run_under hu, run_sizeOf hs, h.1, h.2, addr_add]
    · simp only [Rep]
      exact ⟨b, _, by simp, h7, h8⟩
theorem p_far {x : Operand} {t : TypeId} {f off e sz k i o : Nat} {l : List (List D)} (hf : fieldOk P t f off = true) (hx : Ev tm x (.rp e sz l k i o)) :
    POp P lo ob L ⟨dst, .fieldAddr t x f, ty, pos, aft, g⟩ tm (.rp e sz l k i (o + off)) :=
  POp.same fun cx a hi ho => by
    have h1 := opr ho (by simp [Op.operands]) hx
    simp only [Rep] at h1
    obtain ⟨b, z, h2, h3, h4⟩ := h1
    refine ⟨.pointer (some ⟨b, i * sz + (o + off), none⟩), ?_, by simp only [Rep]; exact ⟨b, z, rfl, h3, h4⟩⟩
    simp [execOp, h2, run_fieldAt hf, Nat.add_assoc]

theorem InvS.renew {cx cx1 : Cx} {a : Act} {nt : Nat} {Lr : List Nat} (h : InvS cx ⟨nt, tm, lo, ob, L⟩ a) (he : Ext cx cx1) (hi : Inv cx1 ob lo Lr) {t : Nat} {p : PV} (hp : Rep cx1 p (a.tmps.getD t undef)) :
    InvS cx1 ⟨nt, (t, p) :: tm, lo, ob, Lr⟩ a := by
  refine ⟨hi, h.df, h.sz, fun u q hq => ?_⟩
  rw [look_cons] at hq
  by_cases e : t = u
  · subst e
    rw [if_pos rfl] at hq
    cases hq
    exact hp
  · rw [if_neg e] at hq
    exact (h.tm u q hq).ext he

/-- A store into a row; 't' holds the row. -/
theorem e_str {x y : Operand} {T nt e sz k i off n t : Nat} {l : List (List D)} {c : List D} {p : PV} {K : AS → Prop} {Lr : List Nat} (hs : szOf P T = some n) (hx : ev tm x = some (.rp e sz l k i off)) (ht : ev tm (.tmp t) = some (.row e sz l k)) (hk : k ∈ L) (hL : ∀ j ∈ Lr, j ∈ L ∧ j ≠ k)
    (hc : l[i]? = some c) (hy : Ev tm y p) (hp : p.isC = true) (hn : Nat.beq p.cellsD.length n = true) (hl : off + n ≤ sz)
    (hK : ∀ k', k' ∉ L → K ⟨nt, (t, .row e sz (l.set i (splice c off p.cellsD)) k') :: tm, lo, ob, k' :: Lr⟩) : AOp P ⟨none, .store T x y, ty, pos, aft, none⟩ ⟨nt, tm, lo, ob, L⟩ K := by
  intro cx a hi
  obtain ⟨q, hq, hle⟩ := hy
  have hy1 := hle cx _ (hi.ev hq)
  have hx1 := hi.ev hx
  have ht1 := hi.ev ht
  simp only [Rep] at hx1 ht1
  obtain ⟨gg, z, h2, h3, h4⟩ := hx1
  have hn' := Nat.eq_of_beq_eq_true hn
  have hcl : c.length = sz := h3 c (List.mem_of_getElem? hc)
  rcases ht1 with ⟨rfl, _⟩ | ⟨g', cp, h5, h6, h7, h8, h9, h10⟩
  · simp at hc
  rw [h4] at h10
  simp only [Option.some.injEq, Prod.mk.injEq, and_true, true_and] at h10
  obtain ⟨rfl, rfl⟩ := h10
  obtain ⟨cur, h11, h12, h13⟩ := live_row hi.inv hk h4
  have hcells := rep_cells hp hy1
  have hvl := hcells.length
  have hvs : (a.eval y).cells.size = n := by simp at hvl; omega
  have hil : i < l.length := (List.getElem?_eq_some_iff.1 hc).1
  have hfl := flatten_length h3
  have hib : i * sz + sz ≤ l.length * sz := by
    have : (i + 1) * sz ≤ l.length * sz := Nat.mul_le_mul_right _ hil
    rw [Nat.succ_mul] at this; omega
  have hlc : l.length * sz ≤ cp * sz := Nat.mul_le_mul_right _ h6
  have hone := repDs_one hcells
  have hrun := run_storeVar (P := P) (w := cx.w) (o := i * sz + off) hs hvs h11 (by omega) hone
  have hct : RepDs cx.w cx.S (l.set i (splice c off p.cellsD)).flatten
      ((cur.toList.take (i * sz + off) ++ (a.eval y).cells.toList ++ cur.toList.drop (i * sz + off + n)).toArray.toList.take (l.set i (splice c off p.cellsD)).flatten.length) := by
    rw [flatten_set h3 hc (by omega)]
    have hsp : (splice l.flatten (i * sz + off) p.cellsD).length = l.flatten.length := splice_length (by rw [hfl]; omega)
    rw [hsp, hfl]
    rw [hfl] at h13
    simp only [splice, hn', List.toList_toArray]
    have e1 : (cur.toList.take (i * sz + off) ++ (a.eval y).cells.toList ++ cur.toList.drop (i * sz + off + n)).take (l.length * sz)
        = (cur.toList.take (l.length * sz)).take (i * sz + off) ++ (a.eval y).cells.toList ++ (cur.toList.take (l.length * sz)).drop (i * sz + off + n) := by
      have hA : (cur.toList.take (i * sz + off) ++ (a.eval y).cells.toList).length = i * sz + off + n := by
        simp only [List.length_append, List.length_take, Array.length_toList, hvs]; omega
      rw [List.take_append, List.take_of_length_le (by omega), hA, List.take_take, Nat.min_eq_left (by omega), List.drop_take]
    rw [e1]
    exact ((h13.take _).append hcells).append (h13.drop _)
  obtain ⟨he, hi'⟩ := hi.inv.putRow hk h4 Lr hL h11 (nw := (cur.toList.take (i * sz + off) ++ (a.eval y).cells.toList ++ cur.toList.drop (i * sz + off + n)).toArray)
    (by simp only [List.size_toArray, List.length_append, List.length_take, List.length_drop, Array.length_toList, hvs]; omega) hct
  unfold Oper.wp
  have : (execOp a.eval ⟨none, .store T x y, ty, pos, aft, none⟩).run P cx.w = .ok .skip (cx.w.setRow gg (cur.toList.take (i * sz + off) ++ (a.eval y).cells.toList ++ cur.toList.drop (i * sz + off + n)).toArray) := by
    simp only [execOp, h2, Instr.storeAt, Instr.sureAddr, Sem.run_bind, Sem.run_pure, Result.andThen_ok, hrun]
  rw [this]
  refine ⟨_, _, rfl, he, hi.renew he hi' (t := t) (p := .row e sz (l.set i (splice c off p.cellsD)) cx.lv.length) ?_, hK _ (fun h => Nat.lt_irrefl _ (look_live hi.inv h))⟩
  have h5' : a.tmps.getD t undef = .slice (some ⟨gg, 0, none⟩) l.length cp := h5
  rw [h5']
  simp only [Rep, List.length_set]
  refine .inr ⟨gg, cp, rfl, h6, h7, h8, fun x hx => ?_, by simp⟩
  rcases List.mem_or_eq_of_mem_set hx with h | rfl
  · exact h3 x h
  · rw [splice_length (by omega)]; exact hcl

theorem replicate_flatten_get {α : Type} (xs : List α) (n j : Nat) (hj : j < n * xs.length) : (List.replicate n xs).flatten[j]? = xs[j % xs.length]? := by
  have hp : 0 < xs.length := by
    rcases Nat.eq_zero_or_pos xs.length with h | h
    · rw [h] at hj; omega
    · exact h
  have h1 : (List.replicate n xs)[j / xs.length]? = some xs := by
    rw [List.getElem?_replicate, if_pos (Nat.div_lt_of_lt_mul (by rw [Nat.mul_comm]; exact hj))]
  have h2 := flatten_get (sz := xs.length) (fun x hx => by rw [List.eq_of_mem_replicate hx]) h1 (Nat.mod_lt j hp)
  rw [← h2]
  congr 1
  have := Nat.div_add_mod j xs.length
  rw [Nat.mul_comm] at this; omega
theorem madeCells_toList (z : Array Value) (n : Nat) (hz : 0 < z.size) : (madeCells z (n * z.size)).toList = (List.replicate n z.toList).flatten := by
  apply List.ext_getElem?
  intro j
  by_cases hj : j < n * z.size
  · rw [replicate_flatten_get _ _ _ (by simpa using hj)]
    have hm : j % z.size < z.size := Nat.mod_lt _ hz
    simp [madeCells, hj, hm]
  · rw [List.getElem?_eq_none (by simp [madeCells]; omega), List.getElem?_eq_none]
    rw [flatten_length (sz := z.size) (fun x hx => by rw [List.eq_of_mem_replicate hx]; simp)]
    simp; omega
theorem repDs_replicate {w S} {zs : List D} {z : List Value} (h : RepDs w S zs z) : ∀ n, RepDs w S (List.replicate n zs).flatten (List.replicate n z).flatten
  | 0 => by simp [RepDs]
  | n + 1 => by simpa only [List.replicate_succ, List.flatten_cons] using h.append (repDs_replicate h n)

/-- make([]T, n). -/
theorem e_mk {x y : Operand} {t e d nt sz : Nat} {n : Int} {zs : List D} {K : AS → Prop} (hu : P.underlying t = some (.slice e)) (hz : zeroIs P e zs = true) (hs : szOf P e = some sz) (hzl : Nat.beq zs.length sz = true) (hsz : Nat.blt 0 sz = true) (hby : bytesLe P e 1024 = true) (hd : Nat.blt d nt = true)
    (hx : Ev tm x (i64 n)) (hy : Ev tm y (i64 n)) (hn : 0 ≤ n ∧ n ≤ 4294967296)
    (hK : ∀ k', k' ∉ L → K ⟨nt, (d, .row e sz (List.replicate n.toNat zs) k') :: tm, lo, ob, k' :: L⟩) :
    AOp P ⟨some d, .makeSlice t x y, ty, pos, aft, none⟩ ⟨nt, tm, lo, ob, L⟩ K := by
  intro cx a hi
  obtain ⟨q1, hq1, hle1⟩ := hx
  obtain ⟨q2, hq2, hle2⟩ := hy
  have h1 := (rep_v (hle1 cx _ (hi.ev hq1))).1
  have h2 := (rep_v (hle2 cx _ (hi.ev hq2))).1
  have hzl' := Nat.eq_of_beq_eq_true hzl
  have hsz' : 0 < sz := Nat.le_of_ble_eq_true hsz
  unfold zeroIs at hz
  unfold szOf at hs
  unfold bytesLe at hby
  cases hie : P.info? e with
  | none => rw [hie] at hz; cases hz
  | some i =>
    rw [hie] at hz hs hby
    simp only [Option.map_some, Option.some.injEq] at hz hs
    have hbb : i.bytes ≤ 1024 := Nat.le_of_ble_eq_true hby
    cases hzz : i.zero with
    | none => rw [hzz] at hz; cases hz
    | some z =>
      rw [hzz] at hz
      have hzr : RepDs cx.w cx.S zs z.cells.toList := zMatches_ok hz
      have hzs : z.cells.size = sz := by have := hzr.length; simp at this; omega
      have hbytes : (i.bytes : Int) * n ≤ 281474976710656 := by
        have h : (i.bytes : Int) * n ≤ 1024 * 4294967296 := Int.mul_le_mul (by omega) hn.2 hn.1 (by omega)
        omega
      have hrun := run_make (P := P) cx.w t e i z hu hie hzz .i64 .i64 n n hn.1 (Int.le_refl _) hbytes (by omega)
      obtain ⟨he1, hi1⟩ := hi.inv.growN (madeCells z.cells (n.toNat * i.size)) e 0 (Nat.zero_le _)
      have hcl : (madeCells z.cells (n.toNat * i.size)).toList = (List.replicate n.toNat z.cells.toList).flatten := by
        rw [hs, ← hzs]; exact madeCells_toList _ _ (by omega)
      have hfl : (List.replicate n.toNat zs).flatten.length = n.toNat * sz := by
        rw [flatten_length (sz := sz) (fun x hx => by rw [List.eq_of_mem_replicate hx]; exact hzl')]; simp
      obtain ⟨he2, hi2⟩ := hi1.name (some (cx.w.heap.size, 0, n.toNat * sz, e, (List.replicate n.toNat zs).flatten)) L (fun _ h => h) (fun g' s z' e' ct h => by
        simp only [Option.some.injEq, Prod.mk.injEq] at h
        obtain ⟨rfl, rfl, rfl, rfl, rfl⟩ := h
        refine ⟨hi.inv.baseLe, ⟨_, heap_alloc_new _ _, by rw [size_madeCells, hs], ?_⟩, ?_, ?_, ?_⟩
        · rw [hcl, List.drop_zero, List.take_of_length_le (by
            rw [hfl, flatten_length (sz := sz) (fun x hx => by rw [List.eq_of_mem_replicate hx]; simpa using hzs)]; simp)]
          exact RepDs.keep he1.keeps _ _ (repDs_replicate hzr _)
        · intro hmem
          rcases List.mem_append.1 hmem with h | h
          · obtain ⟨i', hi'⟩ := List.getElem?_of_mem h
            have hlt : i' < ob.length := by
              have : cx.m.length = ob.length := hi.inv.oob.len
              rcases Nat.lt_or_ge i' cx.m.length with h' | h'
              · omega
              · simp only [Cx.growN] at hi'; rw [List.getElem?_eq_none h'] at hi'; cases hi'
            obtain ⟨_, h2, _⟩ := hi.inv.oob.at_ i' _ ob[i'] hi' (List.getElem?_eq_getElem hlt)
            exact absurd (h2.lt) (Nat.lt_irrefl _)
          · obtain ⟨i', hi'⟩ := List.getElem?_of_mem h
            have hlt : i' < lo.length := by
              have : cx.n.length = lo.length := hi.inv.olo.len
              rcases Nat.lt_or_ge i' cx.n.length with h' | h'
              · omega
              · simp only [Cx.growN] at hi'; rw [List.getElem?_eq_none h'] at hi'; cases hi'
            obtain ⟨_, h2, _⟩ := hi.inv.olo.at_ i' _ lo[i'] hi' (List.getElem?_eq_getElem hlt)
            exact absurd (h2.lt) (Nat.lt_irrefl _)
        · rintro o ho (h | ⟨_, h⟩)
          · exact absurd (S_lt hi.inv h) (Nat.lt_irrefl _)
          · omega
        · intro j hj g' y' hj' hgg
          obtain ⟨x', h1, h2⟩ := hi.inv.live j hj
          have h3 : cx.lv[j]? = some (some (g', y')) := hj'
          rw [h1] at h3
          obtain ⟨s', z'', e'', ct'⟩ := y'
          obtain ⟨_, ⟨cur, h4, _⟩, _⟩ := h2 g' s' z'' e'' ct' (Option.some.inj h3)
          rw [← hgg] at h4
          exact absurd (heap_lt h4) (Nat.lt_irrefl _))
      unfold Oper.wp
      have : (execOp a.eval ⟨some d, .makeSlice t x y, ty, pos, aft, none⟩).run P cx.w = .ok (.value (.slice (some ⟨cx.w.heap.size, 0, none⟩) n.toNat n.toNat)) (cx.w.alloc (.cells (madeCells z.cells (n.toNat * i.size)) e)) := by
        simp only [execOp, h1, h2, Sem.run_bind, hrun, Result.andThen_ok]; rfl
      rw [this]
      have hname : cx.lv.length ∉ L := fun h => Nat.lt_irrefl _ (look_live hi.inv h)
      refine ⟨_, ⟨nt, (d, .row e sz (List.replicate n.toNat zs) cx.lv.length) :: tm, lo, ob, cx.lv.length :: L⟩, rfl, he1.trans he2, ?_, hK _ hname⟩
      have h0 : InvS cx ⟨nt, tm, lo, ob, L⟩ a := hi
      have := h0.put (he1.trans he2) (hi2.sub fun j hj => List.mem_cons_of_mem _ hj) (Nat.le_of_ble_eq_true hd) (v := .slice (some ⟨cx.w.heap.size, 0, none⟩) n.toNat n.toNat) (p := .row e sz (List.replicate n.toNat zs) cx.lv.length) (by
        simp only [Rep, List.length_replicate]
        refine .inr ⟨cx.w.heap.size, n.toNat, rfl, Nat.le_refl _, by unfold maxLen; omega, by unfold LIM; omega, fun x hx => by rw [List.eq_of_mem_replicate hx]; exact hzl', by simp [Cx.growN]⟩)
      exact ⟨hi2, this.df, this.sz, this.tm⟩

theorem fresh_not {cx : Cx} (hi : Inv cx ob lo L) : cx.w.heap.size ∉ cx.m ++ cx.n := by
  intro hmem
  rcases List.mem_append.1 hmem with h | h
  · obtain ⟨i', hi'⟩ := List.getElem?_of_mem h
    have hlt : i' < ob.length := by
      have : cx.m.length = ob.length := hi.oob.len
      rcases Nat.lt_or_ge i' cx.m.length with h' | h'
      · omega
      · rw [List.getElem?_eq_none h'] at hi'; cases hi'
    obtain ⟨_, h2, _⟩ := hi.oob.at_ i' _ ob[i'] hi' (List.getElem?_eq_getElem hlt)
    exact absurd (h2.lt) (Nat.lt_irrefl _)
  · obtain ⟨i', hi'⟩ := List.getElem?_of_mem h
    have hlt : i' < lo.length := by
      have : cx.n.length = lo.length := hi.olo.len
      rcases Nat.lt_or_ge i' cx.n.length with h' | h'
      · omega
      · rw [List.getElem?_eq_none h'] at hi'; cases hi'
    obtain ⟨_, h2, _⟩ := hi.olo.at_ i' _ lo[i'] hi' (List.getElem?_eq_getElem hlt)
    exact absurd (h2.lt) (Nat.lt_irrefl _)

theorem Inv.newLive {cx : Cx} (hi : Inv cx ob lo L) (c : Array Value) (e : Nat) (ct : List D) (hct : RepDs cx.w cx.S ct (c.toList.take ct.length)) :
    Ext cx { cx.growN c e 0 with lv := cx.lv ++ [some (cx.w.heap.size, 0, c.size, e, ct)] } ∧ Inv { cx.growN c e 0 with lv := cx.lv ++ [some (cx.w.heap.size, 0, c.size, e, ct)] } ob lo (cx.lv.length :: L) := by
  obtain ⟨he1, hi1⟩ := hi.growN c e 0 (Nat.zero_le _)
  obtain ⟨he2, hi2⟩ := hi1.name (some (cx.w.heap.size, 0, c.size, e, ct)) L (fun _ h => h) (fun g' s z' e' ct h => by
    simp only [Option.some.injEq, Prod.mk.injEq] at h
    obtain ⟨rfl, rfl, rfl, rfl, rfl⟩ := h
    refine ⟨hi.baseLe, ⟨_, heap_alloc_new _ _, rfl, ?_⟩, fresh_not hi, ?_, ?_⟩
    · rw [List.drop_zero]; exact RepDs.keep he1.keeps _ _ hct
    · rintro o ho (h | ⟨_, h⟩)
      · exact absurd (S_lt hi h) (Nat.lt_irrefl _)
      · omega
    · intro j hj g' y' hj' hgg
      obtain ⟨x', h1, h2⟩ := hi.live j hj
      have h3 : cx.lv[j]? = some (some (g', y')) := hj'
      rw [h1] at h3
      obtain ⟨s', z'', e'', ct'⟩ := y'
      obtain ⟨_, ⟨cur, h4, _⟩, _⟩ := h2 g' s' z'' e'' ct' (Option.some.inj h3)
      rw [← hgg] at h4
      exact absurd (heap_lt h4) (Nat.lt_irrefl _))
  exact ⟨he1.trans he2, hi2⟩

/-- append on a row. -/
theorem e_appr {x y : Operand} {t e d nt sz k : Nat} {l m : List (List D)} {K : AS → Prop} {Lr : List Nat} (hu : P.underlying t = some (.slice e)) (hz : zeroOk P e sz = true) (hsz : Nat.blt 0 sz = true) (hby : bytesLe P e 1024 = true) (hd : Nat.blt d nt = true)
    (hx : ev tm x = some (.row e sz l k)) (hk : k ∈ L) (hy : Ev tm y (lst sz m)) (hlen : l.length + m.length ≤ 4294967296) (hL : ∀ j ∈ Lr, j ∈ L ∧ j ≠ k)
    (hK : ∀ k', k' ∉ L → K ⟨nt, (d, .row e sz (l ++ m) k') :: tm, lo, ob, k' :: Lr⟩) :
    AOp P ⟨some d, .call ⟨.builtin .append, #[x, y], #[t, t]⟩, ty, pos, aft, none⟩ ⟨nt, tm, lo, ob, L⟩ K := by
  intro cx a hi
  have hsz' : 0 < sz := Nat.le_of_ble_eq_true hsz
  have hx' := hi.ev hx
  obtain ⟨qy, hqy, hley⟩ := hy
  have hy' := hley cx _ (hi.ev hqy)
  have hname : cx.lv.length ∉ L := fun h => Nat.lt_irrefl _ (look_live hi.inv h)
  have hrunE : ∀ {v : Value} {w' : World}, (Builtin.append_ #[t, t] ty #[a.eval x, a.eval y]).run P cx.w = .ok v w' →
      (execOp a.eval ⟨some d, .call ⟨.builtin .append, #[x, y], #[t, t]⟩, ty, pos, aft, none⟩).run P cx.w = .ok (.value v) w' := by
    intro v w' h
    simp [execOp, resolve, invoke, builtin, h]
  have fin : ∀ (cx1 : Cx) (v : Value), Ext cx cx1 → Inv cx1 ob lo (cx.lv.length :: Lr) → (Builtin.append_ #[t, t] ty #[a.eval x, a.eval y]).run P cx.w = .ok v cx1.w →
      Rep cx1 (.row e sz (l ++ m) cx.lv.length) v →
      (Oper.wp P ⟨some d, .call ⟨.builtin .append, #[x, y], #[t, t]⟩, ty, pos, aft, none⟩ a cx.w (fun a' w' => ∃ cx' s', cx'.w = w' ∧ Ext cx cx' ∧ InvS cx' s' a' ∧ K s') (fun _ _ _ => False)) := by
    intro cx1 v he hi1 hrun hrep
    unfold Oper.wp
    rw [hrunE hrun]
    refine ⟨cx1, ⟨nt, (d, .row e sz (l ++ m) cx.lv.length) :: tm, lo, ob, cx.lv.length :: Lr⟩, rfl, he, ?_, hK _ hname⟩
    have h0 : InvS cx ⟨nt, tm, lo, ob, Lr⟩ a := ⟨hi.inv.sub fun j hj => (hL j hj).1, hi.df, hi.sz, hi.tm⟩
    have : InvS cx1 ⟨nt, (d, .row e sz (l ++ m) cx.lv.length) :: tm, lo, ob, Lr⟩ (a.put (some d) v) :=
      h0.put he (hi1.sub fun j hj => List.mem_cons_of_mem _ hj) (Nat.le_of_ble_eq_true hd) hrep
    exact ⟨hi1, this.df, this.sz, this.tm⟩
  unfold zeroOk at hz
  cases hie : P.info? e with
  | none => rw [hie] at hz; cases hz
  | some i =>
    rw [hie] at hz
    simp only at hz
    cases hzz : i.zero with
    | none => rw [hzz] at hz; simp at hz
    | some z =>
      rw [hzz] at hz
      simp only [Bool.and_eq_true, beq_iff_eq] at hz
      obtain ⟨hz1, hz2⟩ := hz
      have hbb : i.bytes ≤ 1024 := by unfold bytesLe at hby; rw [hie] at hby; exact Nat.le_of_ble_eq_true hby
      simp only [Rep, RepD] at hx' hy'
      have hLr : Inv cx ob lo Lr := hi.inv.sub fun j hj => (hL j hj).1
      obtain ⟨xk, hlk, hlive⟩ := hi.inv.live k hk
      rcases hy' with ⟨rfl, hy0⟩ | ⟨bm, offm, cm, vm, hy1, hy2, hy3, hy4, hy5⟩
      · -- nothing is appended, out of a nil slice
        simp only [List.append_nil] at fin ⊢
        have hdist : ∀ g y, cx.lv[k]? = some (some (g, y)) → ∀ j ∈ Lr, ∀ g' y', cx.lv[j]? = some (some (g', y')) → g ≠ g' :=
          fun g y h j hj g' y' h' => hi.inv.ldist k hk j (hL j hj).1 (Ne.symm (hL j hj).2) g y g' y' h h'
        obtain ⟨he2, hi2⟩ := hLr.name xk Lr (fun _ h => h) (fun g s z e' ct hxe => by
          subst hxe
          obtain ⟨h1, h2, h3, h4⟩ := hlive g s z e' ct rfl
          exact ⟨h1, h2, h3, h4, hdist g _ hlk⟩)
        refine fin _ (a.eval x) he2 hi2 ?_ ?_
        · rw [hy0]
          rcases hx' with ⟨_, hx0, _⟩ | ⟨gx, cxx, hx1, hx2, _⟩
          · rw [hx0]; simp [Builtin.append_, run_under hu, sizeOf, typeInfo, program, Sem.run, hie, Builtin.lenOf, Builtin.firstCells]
          · rw [hx1]; simp [Builtin.append_, run_under hu, sizeOf, typeInfo, program, Sem.run, hie, Builtin.lenOf, Builtin.firstCells, hx2, storeCells]
        · simp only [Rep]
          rcases hx' with ⟨h1, h2, h3⟩ | ⟨gx, cxx, h1, h2, h3, h4, h5, h6⟩
          · exact .inl ⟨h1, h2, by rw [hlk] at h3; simp; exact Option.some.inj h3⟩
          · exact .inr ⟨gx, cxx, h1, h2, h3, h4, h5, by rw [hlk] at h6; simp; exact Option.some.inj h6⟩
      · have hnews : ∀ (j : Nat) u, vm[j]? = some u → cx.w.cell? ((⟨bm, offm, none⟩ : Addr).add j) = some u := fun j u hu => by rw [addr_add]; exact (hy4 j u hu).1
        have hml : vm.length = m.length * i.size := by rw [hz1]; exact hy5.length
        have hone := repC_one hy5
        obtain ⟨hmf, hmsz⟩ := repDs_flatten hy5
        have hbytes : (l.length + m.length) * i.bytes ≤ 140737488355328 := by
          have : (l.length + m.length) * i.bytes ≤ 4294967296 * 1024 := Nat.mul_le_mul hlen hbb
          omega
        have hlim : (l ++ m).length ≤ LIM := by simp only [List.length_append, LIM]; omega
        rcases hx' with ⟨rfl, hx0, hx1⟩ | ⟨gx, capx, hx1, hx2, hx2', hx3, hx4, hx6⟩
        · by_cases hm0 : m.length = 0
          · have : m = [] := List.eq_nil_of_length_eq_zero hm0
            subst this
            obtain ⟨he2, hi2⟩ := hLr.name none Lr (fun _ h => h) (fun g s z e ct h => by cases h)
            refine fin _ (a.eval x) he2 hi2 ?_ ?_
            · rw [hx0, hy1]
              have : vm = [] := List.eq_nil_of_length_eq_zero (by simpa using hml)
              simp [Builtin.append_, run_under hu, sizeOf, typeInfo, program, Sem.run, hie, Builtin.lenOf, Builtin.firstCells, loadCells, loadCellsFrom]
            · simp only [Rep]
              exact .inl ⟨by simp, hx0, by simp⟩
          · have hr := run_append_nil (P := P) (w := cx.w) t ty e i z hu hie hzz ⟨bm, offm, none⟩ m.length cm vm hml hnews (by omega) (by omega) (by simp at hbytes; omega)
            have hge := grownCap_ge cx.w m.length 0 e
            have hgl := grownCap_le_maxLen cx.w m.length 0 e (by unfold maxLen; omega)
            have hasz : (vm.toArray ++ Builtin.zeroCells z.cells (grownCap cx.w m.length 0 e - m.length)).size = grownCap cx.w m.length 0 e * sz := by
              simp only [Array.size_append, List.size_toArray, size_zeroCells, hz2, hml, hz1, ← Nat.add_mul]
              congr 1; omega
            have hfl := flatten_length hmsz
            obtain ⟨he1, hi1⟩ := hLr.drew.newLive (vm.toArray ++ Builtin.zeroCells z.cells (grownCap cx.w m.length 0 e - m.length)) e m.flatten (by
              simp only [Array.toList_append, List.toList_toArray]
              rw [List.take_left' (by rw [hfl, hml, hz1])]
              exact RepDs.keep (drewExt cx).keeps _ _ hmf)
            refine fin _ _ ((drewExt cx).trans he1) hi1 (by rw [hx0, hy1]; exact hr) ?_
            simp only [Rep, List.nil_append]
            refine .inr ⟨cx.w.heap.size, grownCap cx.w m.length 0 e, rfl, hge, hgl, by simpa using hlim, hmsz, ?_⟩
            rw [hasz]; simp [Cx.growN]
        · have hxk : xk = some (gx, 0, capx * sz, e, l.flatten) := by rw [hlk] at hx6; exact Option.some.inj hx6
          subst hxk
          obtain ⟨cur, hcur, hcs, hcr⟩ := live_row hi.inv hk hx6
          have hfl := flatten_length hx4
          have hfm := flatten_length hmsz
          rw [hfl] at hcr
          have hlm : l.length * sz ≤ capx * sz := Nat.mul_le_mul_right _ hx2
          have hall : ∀ y ∈ l ++ m, y.length = sz := fun y hy => (List.mem_append.1 hy).elim (hx4 y) (hmsz y)
          have hflm : (l ++ m).flatten.length = l.length * sz + m.length * sz := by rw [List.flatten_append, List.length_append, hfl, hfm]
          by_cases hroom : l.length + m.length ≤ capx
          · have hfit : l.length * i.size + vm.length ≤ cur.size := by rw [hml, hcs, ← hz1, ← Nat.add_mul]; exact Nat.mul_le_mul_right _ hroom
            have hfit' : l.length * sz + vm.length ≤ cur.size := by rw [← hz1]; exact hfit
            have hr := run_append_room (P := P) cx.w t ty e i hu hie gx l.length capx cur hcur ⟨bm, offm, none⟩ m.length cm vm hml hnews hone hroom hfit
            have htl : (cur.toList.take (l.length * i.size)).length = l.length * sz := by simp only [List.length_take, Array.length_toList, hz1]; omega
            obtain ⟨he1, hi1⟩ := hi.inv.putRow hk hx6 Lr hL hcur (nw := (cur.toList.take (l.length * i.size) ++ vm ++ cur.toList.drop (l.length * i.size + vm.length)).toArray)
              (by simp only [List.size_toArray, List.length_append, List.length_take, List.length_drop, Array.length_toList]; omega)
              (ct' := (l ++ m).flatten) (by
                rw [List.toList_toArray, hflm, List.take_left' (by rw [List.length_append, htl, hml, hz1]), List.flatten_append, hz1]
                exact hcr.append hmf)
            refine fin _ _ he1 hi1 (by rw [hx1, hy1]; exact hr) ?_
            simp only [Rep, List.length_append]
            exact .inr ⟨gx, capx, rfl, hroom, hx2', by simpa using hlim, hall, by simp⟩
          · have holds : ∀ (j : Nat) u, (cur.toList.take (l.length * sz))[j]? = some u → cx.w.cell? ((⟨gx, 0, none⟩ : Addr).add j) = some u := fun j u hu => by
              rw [addr_add, Nat.zero_add, cellAt hcur]
              rw [List.getElem?_take] at hu
              split at hu
              · exact hu
              · cases hu
            have hvl : (cur.toList.take (l.length * sz)).length = l.length * i.size := by simp only [List.length_take, Array.length_toList, hz1]; omega
            have hr := run_append_grow (P := P) cx.w t ty e i z hu hie hzz ⟨gx, 0, none⟩ l.length capx (cur.toList.take (l.length * sz)) hvl holds ⟨bm, offm, none⟩ m.length cm vm hml hnews (by omega) (by omega) (growslice_fits (by omega) hbytes)
            have hge := grownCap_ge cx.w (l.length + m.length) capx e
            have hgl := grownCap_le_maxLen cx.w (l.length + m.length) capx e (by unfold maxLen; omega)
            have hasz : ((cur.toList.take (l.length * sz)).toArray ++ vm.toArray ++ Builtin.zeroCells z.cells (grownCap cx.w (l.length + m.length) capx e - (l.length + m.length))).size = grownCap cx.w (l.length + m.length) capx e * sz := by
              simp only [Array.size_append, List.size_toArray, size_zeroCells, hz2, hml, hvl, hz1, ← Nat.add_mul]
              congr 1; omega
            obtain ⟨he1, hi1⟩ := hLr.drew.newLive ((cur.toList.take (l.length * sz)).toArray ++ vm.toArray ++ Builtin.zeroCells z.cells (grownCap cx.w (l.length + m.length) capx e - (l.length + m.length))) e (l ++ m).flatten (by
              simp only [Array.toList_append, List.toList_toArray]
              rw [hflm, List.take_left' (by rw [List.length_append, hvl, hml, hz1]), List.flatten_append]
              exact RepDs.keep (drewExt cx).keeps _ _ (hcr.append hmf))
            refine fin _ _ ((drewExt cx).trans he1) hi1 (by rw [hx1, hy1]; exact hr) ?_
            simp only [Rep, List.length_append]
            refine .inr ⟨cx.w.heap.size, grownCap cx.w (l.length + m.length) capx e, rfl, hge, hgl, by simpa using hlim, hall, ?_⟩
            rw [hasz]; simp [Cx.growN]
end
end Go.Proofs.YtcemejmegbefgaaGreatDoor.Em
