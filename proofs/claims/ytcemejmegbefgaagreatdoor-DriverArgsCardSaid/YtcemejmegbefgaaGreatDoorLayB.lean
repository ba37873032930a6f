/-
  Laws of single operations over abstract values; each under the hypotheses that it states.
-/
import Derived.Test.YtcemejmegbefgaaGreatDoorLayA
import Derived.WalkKit
import Derived.Laws.StructEq
import Derived.Laws.Small
import Derived.Laws.Slices
import Derived.Laws.Build
import Derived.Laws.Strings2
import Derived.Laws.Tables
import Derived.Laws.IdiomStrings
import Derived.Laws.AppendOwn
import Derived.Laws.OwnMore
set_option linter.unusedVariables false
set_option linter.unusedSimpArgs false
namespace Go.Proofs.YtcemejmegbefgaaGreatDoor.Em
open Go.RowKit

section
variable {P : Program} {lo ob : List (List PV)} {L : List Nat} {tm : List (Nat × PV)}

abbrev int (k : IntKind) (n : Int) : PV := .d (.v (.int k n))
abbrev i64 (n : Int) : PV := .d (.v (.int .i64 n))
abbrev u8 (n : Int) : PV := .d (.v (.int .u8 n))
abbrev bool (b : Bool) : PV := .d (.v (.bool b))
abbrev str (s : List UInt8) : PV := .d (.v (.string ⟨s.toArray⟩))
abbrev lst (sz : Nat) (l : List (List D)) : PV := .d (.lst sz l)

def bt (s : List UInt8) (i : Int) : Int := (s[i.toNat]?.getD 0).toNat
theorem bt_range (s : List UInt8) (i : Int) : 0 ≤ bt s i ∧ bt s i ≤ 255 := by
  unfold bt
  have := (s[i.toNat]?.getD 0).toNat_lt
  omega

theorem POp.same {o : Oper} {p : PV} (h : ∀ (cx : Cx) (a : Act), Inv cx ob lo L → (∀ x ∈ o.op.operands.toList, ∀ q, ev tm x = some q → Rep cx q (a.eval x)) →
    ∃ v, (execOp a.eval o).run P cx.w = .ok (.value v) cx.w ∧ Rep cx p v) : POp P lo ob L o tm p := by
  intro cx a hi ho
  obtain ⟨v, hv, hr⟩ := h cx a hi ho
  unfold Oper.wp
  rw [hv]
  exact ⟨v, cx, rfl, rfl, Ext.refl cx, hi, hr⟩

theorem opr {o : Oper} {cx : Cx} {a : Act} {x : Operand} {p : PV} (ho : ∀ x ∈ o.op.operands.toList, ∀ q, ev tm x = some q → Rep cx q (a.eval x))
    (hx : x ∈ o.op.operands.toList) (he : Ev tm x p) : Rep cx p (a.eval x) := by
  obtain ⟨q, hq, hle⟩ := he
  exact hle cx _ (ho x hx q hq)

theorem rep_v {cx : Cx} {x y : Value} (h : Rep cx (.d (.v x)) y) : y = x ∧ okv x := by simpa only [Rep, RepD] using h
theorem mk_v {cx : Cx} {x : Value} (h : okv x) : Rep cx (.d (.v x)) x := by simp only [Rep, RepD, true_and]; exact h

variable {dst : Option Tmp} {ty : TypeId} {pos : String} {aft : Array Edge} {g : Option (Nat × Bool)}

theorem p_mv {x : Operand} {p : PV} (h : Ev tm x p) : POp P lo ob L ⟨dst, .move x, ty, pos, aft, g⟩ tm p :=
  POp.same fun cx a hi ho => ⟨a.eval x, rfl, opr ho (by simp [Op.operands]) h⟩
theorem p_as {x : Operand} {p : PV} (h : Ev tm x p) : POp P lo ob L ⟨dst, .assign x, ty, pos, aft, g⟩ tm p :=
  POp.same fun cx a hi ho => ⟨a.eval x, rfl, opr ho (by simp [Op.operands]) h⟩

theorem p_pick {c x y : Operand} {b : Bool} {p : PV} (hc : Ev tm c (bool b)) (hx : b = true → Ev tm x p) (hy : b = false → Ev tm y p) :
    POp P lo ob L ⟨dst, .pick c x y, ty, pos, aft, g⟩ tm p :=
  POp.same fun cx a hi ho => by
    have h1 := rep_v (opr ho (by simp [Op.operands]) hc)
    cases b with
    | true => exact ⟨a.eval x, by simp [execOp, h1.1, asBool], opr ho (by simp [Op.operands]) (hx rfl)⟩
    | false => exact ⟨a.eval y, by simp [execOp, h1.1, asBool], opr ho (by simp [Op.operands]) (hy rfl)⟩
theorem p_and {c x y : Operand} {b z g' : Bool} (hc : Ev tm c (bool b)) (hx : ev tm x = some (.opt g' (bool z))) (hy : ev tm y = some (bool false)) (hg : b = true → g' = true) :
    POp P lo ob L ⟨dst, .pick c x y, ty, pos, aft, g⟩ tm (bool (b && z)) :=
  p_pick hc (fun h => by subst h; exact Eo hx (hg rfl)) (fun h => by subst h; exact E hy)
theorem p_or {c x y : Operand} {b z g' : Bool} (hc : Ev tm c (bool b)) (hx : ev tm x = some (bool true)) (hy : ev tm y = some (.opt g' (bool z))) (hg : b = false → g' = true) :
    POp P lo ob L ⟨dst, .pick c x y, ty, pos, aft, g⟩ tm (bool (b || z)) :=
  p_pick hc (fun h => by subst h; exact E hx) (fun h => by subst h; exact Eo hy (hg rfl))

theorem wrap_in {k : IntKind} (n : Int) (h : k.min ≤ n ∧ n ≤ k.max) : k.wrap n = n := by
  cases k <;> simp [IntKind.min, IntKind.max, IntKind.signed, IntKind.bits] at h <;> simp [IntKind.wrap, IntKind.signed, IntKind.bits] <;> omega
theorem wrap_ok (k : IntKind) (n : Int) : k.min ≤ k.wrap n ∧ k.wrap n ≤ k.max := by
  cases k <;> simp [IntKind.wrap, IntKind.min, IntKind.max, IntKind.signed, IntKind.bits] <;> (try split) <;> omega
theorem i64_in {n : Int} (h : -9223372036854775808 ≤ n ∧ n ≤ 9223372036854775807) : IntKind.i64.min ≤ n ∧ n ≤ IntKind.i64.max := by
  simp [IntKind.min, IntKind.max, IntKind.signed, IntKind.bits]; omega

theorem p_bin {op : BinOp} {x y : Operand} {t t' : TypeId} {u v r : Value} (hx : Ev tm x (.d (.v u))) (hy : Ev tm y (.d (.v v))) (hr : okv r)
    (h : ∀ w, ((do eqGuard op t x y u v; binOp op t u v) : Sem Value).run P w = .ok r w) : POp P lo ob L ⟨dst, .binOp op t x y t', ty, pos, aft, g⟩ tm (.d (.v r)) :=
  POp.same fun cx a hi ho => by
    have h1 := rep_v (opr ho (by simp [Op.operands]) hx)
    have h2 := rep_v (opr ho (by simp [Op.operands]) hy)
    refine ⟨r, ?_, mk_v hr⟩
    have h3 := h cx.w
    simp only [execOp, h1.1, h2.1]
    simp only [Sem.run_bind] at h3 ⊢
    rw [h3]; rfl

theorem p_addw {k : IntKind} {x y : Operand} {t t' : TypeId} {m n : Int} (hx : Ev tm x (int k m)) (hy : Ev tm y (int k n)) :
    POp P lo ob L ⟨dst, .binOp .add t x y t', ty, pos, aft, g⟩ tm (int k (k.wrap (m + n))) :=
  p_bin hx hy (wrap_ok _ _) fun w => by simp [eqGuard, binOp, Op.intArith]
theorem p_subw {k : IntKind} {x y : Operand} {t t' : TypeId} {m n : Int} (hx : Ev tm x (int k m)) (hy : Ev tm y (int k n)) :
    POp P lo ob L ⟨dst, .binOp .sub t x y t', ty, pos, aft, g⟩ tm (int k (k.wrap (m - n))) :=
  p_bin hx hy (wrap_ok _ _) fun w => by simp [eqGuard, binOp, Op.intArith]
theorem p_mulw {k : IntKind} {x y : Operand} {t t' : TypeId} {m n : Int} (hx : Ev tm x (int k m)) (hy : Ev tm y (int k n)) :
    POp P lo ob L ⟨dst, .binOp .mul t x y t', ty, pos, aft, g⟩ tm (int k (k.wrap (m * n))) :=
  p_bin hx hy (wrap_ok _ _) fun w => by simp [eqGuard, binOp, Op.intArith]
theorem p_add {x y : Operand} {t t' : TypeId} {m n : Int} (hx : Ev tm x (i64 m)) (hy : Ev tm y (i64 n)) (h : -9223372036854775808 ≤ m + n ∧ m + n ≤ 9223372036854775807) :
    POp P lo ob L ⟨dst, .binOp .add t x y t', ty, pos, aft, g⟩ tm (i64 (m + n)) := by
  have := p_addw (P := P) (lo := lo) (ob := ob) (L := L) (dst := dst) (ty := ty) (pos := pos) (aft := aft) (g := g) (t := t) (t' := t') hx hy
  rwa [wrap_in _ (i64_in h)] at this
theorem p_sub {x y : Operand} {t t' : TypeId} {m n : Int} (hx : Ev tm x (i64 m)) (hy : Ev tm y (i64 n)) (h : -9223372036854775808 ≤ m - n ∧ m - n ≤ 9223372036854775807) :
    POp P lo ob L ⟨dst, .binOp .sub t x y t', ty, pos, aft, g⟩ tm (i64 (m - n)) := by
  have := p_subw (P := P) (lo := lo) (ob := ob) (L := L) (dst := dst) (ty := ty) (pos := pos) (aft := aft) (g := g) (t := t) (t' := t') hx hy
  rwa [wrap_in _ (i64_in h)] at this
theorem p_mul {x y : Operand} {t t' : TypeId} {m n : Int} (hx : Ev tm x (i64 m)) (hy : Ev tm y (i64 n)) (h : -9223372036854775808 ≤ m * n ∧ m * n ≤ 9223372036854775807) :
    POp P lo ob L ⟨dst, .binOp .mul t x y t', ty, pos, aft, g⟩ tm (i64 (m * n)) := by
  have := p_mulw (P := P) (lo := lo) (ob := ob) (L := L) (dst := dst) (ty := ty) (pos := pos) (aft := aft) (g := g) (t := t) (t' := t') hx hy
  rwa [wrap_in _ (i64_in h)] at this

theorem p_lss {k : IntKind} {x y : Operand} {t t' : TypeId} {m n : Int} (hx : Ev tm x (int k m)) (hy : Ev tm y (int k n)) :
    POp P lo ob L ⟨dst, .binOp .lss t x y t', ty, pos, aft, g⟩ tm (bool (decide (m < n))) :=
  p_bin hx hy trivial fun w => by simp [eqGuard, binOp, Op.intCmp]
theorem p_leq {k : IntKind} {x y : Operand} {t t' : TypeId} {m n : Int} (hx : Ev tm x (int k m)) (hy : Ev tm y (int k n)) :
    POp P lo ob L ⟨dst, .binOp .leq t x y t', ty, pos, aft, g⟩ tm (bool (decide (m ≤ n))) :=
  p_bin hx hy trivial fun w => by simp [eqGuard, binOp, Op.intCmp]
theorem p_gtr {k : IntKind} {x y : Operand} {t t' : TypeId} {m n : Int} (hx : Ev tm x (int k m)) (hy : Ev tm y (int k n)) :
    POp P lo ob L ⟨dst, .binOp .gtr t x y t', ty, pos, aft, g⟩ tm (bool (decide (n < m))) :=
  p_bin hx hy trivial fun w => by simp [eqGuard, binOp, Op.intCmp]
theorem p_geq {k : IntKind} {x y : Operand} {t t' : TypeId} {m n : Int} (hx : Ev tm x (int k m)) (hy : Ev tm y (int k n)) :
    POp P lo ob L ⟨dst, .binOp .geq t x y t', ty, pos, aft, g⟩ tm (bool (decide (n ≤ m))) :=
  p_bin hx hy trivial fun w => by simp [eqGuard, binOp, Op.intCmp]
theorem p_eq {k : IntKind} {x y : Operand} {t t' : TypeId} {m n : Int} (hx : Ev tm x (int k m)) (hy : Ev tm y (int k n)) :
    POp P lo ob L ⟨dst, .binOp .eql t x y t', ty, pos, aft, g⟩ tm (bool (decide (m = n))) :=
  p_bin hx hy trivial fun w => by simp [eqGuard, binOp, Op.intCmp]; rfl
theorem p_ne {k : IntKind} {x y : Operand} {t t' : TypeId} {m n : Int} (hx : Ev tm x (int k m)) (hy : Ev tm y (int k n)) :
    POp P lo ob L ⟨dst, .binOp .neq t x y t', ty, pos, aft, g⟩ tm (bool (!decide (m = n))) :=
  p_bin hx hy trivial fun w => by simp [eqGuard, binOp, Op.intCmp]; rfl

theorem mkS_inj {s t : List UInt8} : ((⟨s.toArray⟩ : ByteArray) = ⟨t.toArray⟩) ↔ s = t := by
  constructor
  · intro h
    injection h with h
    have := congrArg Array.toList h
    simpa using this
  · rintro rfl; rfl
theorem mkS_toList (s : List UInt8) : (⟨s.toArray⟩ : ByteArray).toList = s := by rw [ByteArray.toList_eq]
theorem mkS_size (s : List UInt8) : (⟨s.toArray⟩ : ByteArray).size = s.length := by simp [ByteArray.size]
theorem mkS_append (s t : List UInt8) : (⟨s.toArray⟩ ++ ⟨t.toArray⟩ : ByteArray) = ⟨(s ++ t).toArray⟩ := by
  ext1
  simp
theorem p_eqs {x y : Operand} {t t' : TypeId} {m n : List UInt8} (hx : Ev tm x (str m)) (hy : Ev tm y (str n)) :
    POp P lo ob L ⟨dst, .binOp .eql t x y t', ty, pos, aft, g⟩ tm (bool (decide (m = n))) :=
  p_bin hx hy trivial fun w => by
    simp only [eqGuard_at_string, binOp_string_eql, mkS_toList]
    by_cases h : m = n <;> simp [h]
theorem p_nes {x y : Operand} {t t' : TypeId} {m n : List UInt8} (hx : Ev tm x (str m)) (hy : Ev tm y (str n)) :
    POp P lo ob L ⟨dst, .binOp .neq t x y t', ty, pos, aft, g⟩ tm (bool (!decide (m = n))) :=
  p_bin hx hy trivial fun w => by
    simp only [eqGuard_at_string, binOp_string_neq, mkS_toList]
    by_cases h : m = n <;> simp [h]
theorem p_lts {x y : Operand} {t t' : TypeId} {m n : List UInt8} (hx : Ev tm x (str m)) (hy : Ev tm y (str n)) :
    POp P lo ob L ⟨dst, .binOp .lss t x y t', ty, pos, aft, g⟩ tm (bool (Op.bytesLess m n)) :=
  p_bin hx hy trivial fun w => by simp [eqGuard, binOp, Op.stringOp, mkS_toList]
theorem p_ges {x y : Operand} {t t' : TypeId} {m n : List UInt8} (hx : Ev tm x (str m)) (hy : Ev tm y (str n)) :
    POp P lo ob L ⟨dst, .binOp .geq t x y t', ty, pos, aft, g⟩ tm (bool (!Op.bytesLess m n)) :=
  p_bin hx hy trivial fun w => by simp [eqGuard, binOp, Op.stringOp, mkS_toList]
theorem p_cat {x y : Operand} {t t' : TypeId} {m n : List UInt8} (hx : Ev tm x (str m)) (hy : Ev tm y (str n)) (h : m.length + n.length ≤ LIM) :
    POp P lo ob L ⟨dst, .binOp .add t x y t', ty, pos, aft, g⟩ tm (str (m ++ n)) :=
  p_bin hx hy (by simp only [okv, mkS_size, List.length_append]; exact h) fun w => by
    have : ¬ (((⟨m.toArray⟩ : ByteArray).size + (⟨n.toArray⟩ : ByteArray).size : Nat) : Int) > IntKind.i64.max := by
      rw [mkS_size, mkS_size]
      unfold LIM at h; simp only [IntKind.max, IntKind.signed, IntKind.bits, if_true]; omega
    simp only [eqGuard, binOp, Op.stringOp]
    rw [if_neg this, mkS_append]
    rfl
theorem p_eqb {x y : Operand} {t t' : TypeId} {m n : Bool} (hu : P.underlying t = some .bool) (hx : Ev tm x (bool m)) (hy : Ev tm y (bool n)) :
    POp P lo ob L ⟨dst, .binOp .eql t x y t', ty, pos, aft, g⟩ tm (bool (m == n)) :=
  p_bin hx hy trivial fun w => by rw [eqGuard_at_bool]; exact run_eql_bool w t m n hu
theorem p_neb {x y : Operand} {t t' : TypeId} {m n : Bool} (hu : P.underlying t = some .bool) (hx : Ev tm x (bool m)) (hy : Ev tm y (bool n)) :
    POp P lo ob L ⟨dst, .binOp .neq t x y t', ty, pos, aft, g⟩ tm (bool (!(m == n))) :=
  p_bin hx hy trivial fun w => by rw [eqGuard_at_bool]; exact run_neq_bool w t m n hu

theorem p_not {x : Operand} {t : TypeId} {b : Bool} (hx : Ev tm x (bool b)) : POp P lo ob L ⟨dst, .unOp .not t x, ty, pos, aft, g⟩ tm (bool (!b)) :=
  POp.same fun cx a hi ho => by
    have h1 := rep_v (opr ho (by simp [Op.operands]) hx)
    exact ⟨.bool (!b), by simp [execOp, h1.1, Op.unary], mk_v trivial⟩

theorem p_ext {x : Operand} {i : Nat} {xs : List PV} {p : PV} (hx : Ev tm x (.tup xs)) (hp : xs[i]? = some p) : POp P lo ob L ⟨dst, .extract x i, ty, pos, aft, g⟩ tm p :=
  POp.same fun cx a hi ho => by
    have h1 := opr ho (by simp [Op.operands]) hx
    simp only [Rep] at h1
    obtain ⟨vs, h1, h2⟩ := h1
    have : ∀ (xs : List PV) (vs : List Value) (i : Nat), Reps cx xs vs → xs[i]? = some p → ∃ v, vs[i]? = some v ∧ Rep cx p v := by
      intro xs
      induction xs with
      | nil => intro vs i _ h; simp at h
      | cons q qs ih =>
        intro vs i hr h
        simp only [Reps] at hr
        obtain ⟨v, r, rfl, h3, h4⟩ := hr
        cases i with
        | zero => simp at h; subst h; exact ⟨v, by simp, h3⟩
        | succ i => simp at h ⊢; exact ih r i h4 h
    obtain ⟨v, hv, hr⟩ := this xs vs i h2 hp
    exact ⟨v, by simp [execOp, h1, Instr.extract, hv], hr⟩

theorem p_idx {x y : Operand} {t : TypeId} {k : IntKind} {s : List UInt8} {n : Int} (hu : P.underlying t = some .string) (hx : Ev tm x (str s)) (hy : Ev tm y (int k n)) (h0 : 0 ≤ n ∧ n < s.length) :
    POp P lo ob L ⟨dst, .index t x y, ty, pos, aft, g⟩ tm (u8 (bt s n)) :=
  POp.same fun cx a hi ho => by
    have h2 := rep_v (opr ho (by simp [Op.operands]) hx)
    have h3 := rep_v (opr ho (by simp [Op.operands]) hy)
    have h4 : n.toNat < s.length := by omega
    refine ⟨.int .u8 (bt s n), ?_, mk_v ?_⟩
    · have h5 : (⟨s.toArray⟩ : ByteArray)[n.toNat]? = some (s[n.toNat]'h4) := by
        have : n.toNat < (⟨s.toArray⟩ : ByteArray).size := by rw [mkS_size]; exact h4
        exact getElem?_pos (⟨s.toArray⟩ : ByteArray) n.toNat this
      simp [execOp, h2.1, h3.1, Instr.index, asIntOf, underlying, program, hu, Sem.run, h0.1, h5, bt, h4]
    · have := bt_range s n
      simp [okv, IntKind.min, IntKind.max, IntKind.signed, IntKind.bits]; omega
end
end Go.Proofs.YtcemejmegbefgaaGreatDoor.Em

set_option linter.unusedVariables false
set_option linter.unusedSimpArgs false
namespace Go.Proofs.YtcemejmegbefgaaGreatDoor.Em
open Go.RowKit

/-! Reading. -/
theorem RepDs.length {w S} : ∀ {ds : List D} {vs : List Value}, RepDs w S ds vs → vs.length = ds.length
  | [], vs, h => by simp only [RepDs] at h; subst h; rfl
  | d :: ds, vs, h => by
    simp only [RepDs] at h
    obtain ⟨v, r, rfl, _, h3⟩ := h
    simp [RepDs.length h3]
theorem RepDs.get {w S} : ∀ {ds : List D} {vs : List Value}, RepDs w S ds vs → ∀ (i : Nat) d, ds[i]? = some d → ∃ v, vs[i]? = some v ∧ RepD w S d v
  | [], vs, h, i, d, hd => by simp at hd
  | e :: ds, vs, h, i, d, hd => by
    simp only [RepDs] at h
    obtain ⟨v, r, rfl, h2, h3⟩ := h
    cases i with
    | zero => simp at hd; subst hd; exact ⟨v, by simp, h2⟩
    | succ i => simp at hd ⊢; exact RepDs.get h3 i d hd
theorem RepDs.drop {w S} : ∀ {ds : List D} {vs : List Value} (n : Nat), RepDs w S ds vs → RepDs w S (ds.drop n) (vs.drop n)
  | ds, vs, 0, h => by simpa using h
  | [], vs, n + 1, h => by simp only [RepDs] at h; subst h; simp [RepDs]
  | d :: ds, vs, n + 1, h => by
    simp only [RepDs] at h
    obtain ⟨v, r, rfl, _, h3⟩ := h
    simpa using RepDs.drop n h3
theorem RepDs.take {w S} : ∀ {ds : List D} {vs : List Value} (n : Nat), RepDs w S ds vs → RepDs w S (ds.take n) (vs.take n)
  | ds, vs, 0, h => by simp [RepDs]
  | [], vs, n + 1, h => by simp only [RepDs] at h; subst h; simp [RepDs]
  | d :: ds, vs, n + 1, h => by
    simp only [RepDs] at h
    obtain ⟨v, r, rfl, h2, h3⟩ := h
    simp only [List.take_succ_cons, RepDs]
    exact ⟨v, _, rfl, h2, RepDs.take n h3⟩
theorem RepDs.append {w S} : ∀ {ds es : List D} {vs us : List Value}, RepDs w S ds vs → RepDs w S es us → RepDs w S (ds ++ es) (vs ++ us)
  | [], es, vs, us, h, k => by simp only [RepDs] at h; subst h; simpa using k
  | d :: ds, es, vs, us, h, k => by
    simp only [RepDs] at h
    obtain ⟨v, r, rfl, h2, h3⟩ := h
    simp only [List.cons_append, RepDs]
    exact ⟨v, _, rfl, h2, RepDs.append h3 k⟩

theorem RepC.length {w S sz} : ∀ {l : List (List D)} {vs : List Value}, RepC w S sz l vs → vs.length = l.length * sz
  | [], vs, h => by simp only [RepC] at h; subst h; simp
  | e :: es, vs, h => by
    simp only [RepC] at h
    obtain ⟨ve, r, rfl, h2, h3, h4⟩ := h
    simp [RepC.length h4, h3.length, h2, Nat.succ_mul]; omega
theorem RepC.get {w S sz} : ∀ {l : List (List D)} {vs : List Value}, RepC w S sz l vs → ∀ (i : Nat) e, l[i]? = some e → e.length = sz ∧ RepDs w S e ((vs.drop (i * sz)).take sz)
  | [], vs, h, i, e, he => by simp at he
  | x :: es, vs, h, i, e, he => by
    simp only [RepC] at h
    obtain ⟨ve, r, rfl, h2, h3, h4⟩ := h
    have hl := h3.length
    cases i with
    | zero =>
      simp at he; subst he
      refine ⟨h2, ?_⟩
      simp only [Nat.zero_mul, List.drop_zero]
      rw [List.take_append_of_le_length (by omega), List.take_of_length_le (by omega)]
      exact h3
    | succ i =>
      simp at he
      have := RepC.get h4 i e he
      refine ⟨this.1, ?_⟩
      have e1 : (i + 1) * sz = ve.length + i * sz := by rw [hl, h2, Nat.succ_mul]; omega
      rw [e1, ← List.drop_drop, List.drop_left]
      exact this.2
theorem RepC.drop {w S sz} : ∀ {l : List (List D)} {vs : List Value} (n : Nat), RepC w S sz l vs → RepC w S sz (l.drop n) (vs.drop (n * sz))
  | l, vs, 0, h => by simpa using h
  | [], vs, n + 1, h => by simp only [RepC] at h; subst h; simp [RepC]
  | x :: es, vs, n + 1, h => by
    simp only [RepC] at h
    obtain ⟨ve, r, rfl, h2, h3, h4⟩ := h
    have hl := h3.length
    have e1 : (n + 1) * sz = ve.length + n * sz := by rw [hl, h2, Nat.succ_mul]; omega
    have e2 : (ve ++ r).drop (ve.length + n * sz) = r.drop (n * sz) := by rw [← List.drop_drop, List.drop_left]
    rw [e1, e2]
    simpa using RepC.drop n h4
theorem RepC.take {w S sz} : ∀ {l : List (List D)} {vs : List Value} (n : Nat), RepC w S sz l vs → RepC w S sz (l.take n) (vs.take (n * sz))
  | l, vs, 0, h => by simp [RepC]
  | [], vs, n + 1, h => by simp only [RepC] at h; subst h; simp [RepC]
  | x :: es, vs, n + 1, h => by
    simp only [RepC] at h
    obtain ⟨ve, r, rfl, h2, h3, h4⟩ := h
    have hl := h3.length
    have e1 : (n + 1) * sz = ve.length + n * sz := by rw [hl, h2, Nat.succ_mul]; omega
    rw [e1, List.take_length_add_append]
    simp only [List.take_succ_cons, RepC]
    exact ⟨ve, _, rfl, h2, h3, RepC.take n h4⟩
theorem RepC.append {w S sz} : ∀ {l m : List (List D)} {vs us : List Value}, RepC w S sz l vs → RepC w S sz m us → RepC w S sz (l ++ m) (vs ++ us)
  | [], m, vs, us, h, k => by simp only [RepC] at h; subst h; simpa using k
  | e :: es, m, vs, us, h, k => by
    simp only [RepC] at h
    obtain ⟨ve, r, rfl, h2, h3, h4⟩ := h
    simp only [List.cons_append, RepC]
    exact ⟨ve, r ++ us, by simp, h2, h3, RepC.append h4 k⟩

theorem At.drop {w S b off vs} (n : Nat) (h : At w S b off vs) : At w S b (off + n) (vs.drop n) := fun j v hv => by
  rw [List.getElem?_drop] at hv
  have := h (n + j) v hv
  rw [Nat.add_assoc]; exact this
theorem At.take {w S b off vs} (n : Nat) (h : At w S b off vs) : At w S b off (vs.take n) := fun j v hv => by
  rw [List.getElem?_take] at hv
  split at hv
  · exact h j v hv
  · cases hv

section
variable {P : Program} {lo ob : List (List PV)} {L : List Nat} {tm : List (Nat × PV)}
variable {dst : Option Tmp} {ty : TypeId} {pos : String} {aft : Array Edge} {g : Option (Nat × Bool)}

/-- What is said of a type. -/
def szOf (P : Program) (t : TypeId) : Option Nat := (P.info? t).map (·.size)

theorem run_sizeOf {w : World} {t n : Nat} (h : szOf P t = some n) : (sizeOf t).run P w = .ok n w := by
  unfold szOf at h
  cases hi : P.info? t with
  | none => rw [hi] at h; cases h
  | some i => rw [hi] at h; cases h; simp [sizeOf, typeInfo, program, Sem.run, hi]
theorem run_under {w : World} {t : TypeId} {d : TypeDesc} (h : P.underlying t = some d) : (underlying t).run P w = .ok d w := by
  simp [underlying, program, Sem.run, h]

theorem addr_add (b off n : Nat) : Addr.add ⟨b, off, none⟩ n = ⟨b, off + n, none⟩ := by
  unfold Addr.add
  split
  · rename_i h; subst h; rfl
  · rfl

theorem p_ia {x y : Operand} {t e : TypeId} {k : IntKind} {sz : Nat} {l : List (List D)} {n : Int} {c : List D} (hu : P.underlying t = some (.slice e)) (hs : szOf P e = some sz)
    (hx : Ev tm x (lst sz l)) (hy : Ev tm y (int k n)) (h0 : 0 ≤ n) (h : l[n.toNat]? = some c) :
    POp P lo ob L ⟨dst, .indexAddr t x y, ty, pos, aft, g⟩ tm (.cel c) :=
  POp.same fun cx a hi ho => by
    have h1 := opr ho (by simp [Op.operands]) hx
    have h2 := rep_v (opr ho (by simp [Op.operands]) hy)
    simp only [Rep, RepD] at h1
    have hlt : n.toNat < l.length := by
      rcases Nat.lt_or_ge n.toNat l.length with h' | h'
      · exact h'
      · rw [List.getElem?_eq_none h'] at h; cases h
    rcases h1 with ⟨rfl, _⟩ | ⟨b, off, cc, vs, h3, h4, h5, h6, h7⟩
    · simp at hlt
    obtain ⟨h8, h9⟩ := h7.get n.toNat c h
    refine ⟨.pointer (some ⟨b, off + n.toNat * sz, none⟩), ?_, ?_⟩
    · have : n < (l.length : Int) := by omega
      simp [execOp, h2.1, h3, Instr.indexAt, asIntOf, run_under hu, run_sizeOf hs, h0, this, addr_add]
    · simp only [Rep]
      exact ⟨b, _, _, rfl, (h6.drop (n.toNat * sz)).take sz, h9⟩

def notAgg (P : Program) (t : TypeId) : Bool := match P.underlying t with
  | some (.struct _) => false
  | some (.array ..) => false
  | some _ => true
  | none => false
theorem run_isAgg {w : World} {t : TypeId} (h : notAgg P t = true) : (isAgg t).run P w = .ok false w := by
  unfold notAgg at h
  cases hd : P.underlying t with
  | none => rw [hd] at h; cases h
  | some d =>
    rw [hd] at h
    cases d <;> first | (cases h; done) | (simp only [isAgg, Sem.run_bind, run_under hd, Result.andThen_ok]; rfl)
def aggOf (P : Program) (t : TypeId) (n : Nat) : Bool := (match P.underlying t with
  | some (.struct _) => true
  | some (.array ..) => true
  | _ => false) && (szOf P t == some n)
theorem run_isAgg' {w : World} {t n : Nat} (h : aggOf P t n = true) : (isAgg t).run P w = .ok true w := by
  unfold aggOf at h
  rw [Bool.and_eq_true] at h
  cases hd : P.underlying t with
  | none => rw [hd] at h; cases h.1
  | some d =>
    rw [hd] at h
    cases d <;> first | (exfalso; simpa using h.1; done) | (simp only [isAgg, Sem.run_bind, run_under hd, Result.andThen_ok]; rfl)

theorem run_load {w : World} {a : Addr} {v : Value} (h : w.cell? a = some v) : (load a).run P w = .ok v w := by
  simp [load, Sem.run, h]

theorem run_loadVar {w : World} {t : TypeId} {a : Addr} {v : Value} (hn : notAgg P t = true) (h : w.cell? a = some v) : (loadVar t a).run P w = .ok v w := by
  simp only [loadVar, Sem.run_bind, run_isAgg hn, Result.andThen_ok, Bool.false_eq_true, if_false, run_load h]

theorem run_loadCells {w : World} {b : Nat} : ∀ (vs : List Value) (off i : Nat) (acc : Array Value), (∀ (j : Nat) v, vs[j]? = some v → w.cell? ⟨b, off + (i + j), none⟩ = some v) →
    (loadCellsFrom ⟨b, off, none⟩ i vs.length acc).run P w = .ok (acc ++ vs.toArray) w
  | [], off, i, acc, h => by simp [loadCellsFrom]
  | v :: vs, off, i, acc, h => by
    have h0 := h 0 v (by simp)
    simp only [List.length_cons, loadCellsFrom, addr_add, Sem.run_bind, run_load (P := P) (show w.cell? ⟨b, off + i, none⟩ = some v from by simpa using h0), Result.andThen_ok]
    rw [run_loadCells vs off (i + 1) (acc.push v) (fun j u hu => by have := h (j + 1) u (by simpa using hu); rw [show i + 1 + j = i + (j + 1) from by omega]; exact this)]
    simp

theorem p_ld {x : Operand} {t : TypeId} {c : D} {cs : List D} (hn : notAgg P t = true) (hx : Ev tm x (.cel (c :: cs))) :
    POp P lo ob L ⟨dst, .load t x, ty, pos, aft, g⟩ tm (.d c) :=
  POp.same fun cx a hi ho => by
    have h1 := opr ho (by simp [Op.operands]) hx
    simp only [Rep, RepDs] at h1
    obtain ⟨b, off, vs, h2, h3, v, r, rfl, h4, _⟩ := h1
    refine ⟨v, ?_, by simp only [Rep]; exact h4⟩
    have := (h3 0 v (by simp)).1
    simp only [Nat.add_zero] at this
    simp [execOp, h2, Instr.loadAt, Instr.sureAddr, run_loadVar hn this]

theorem p_lda {x : Operand} {t : TypeId} {n : Nat} {cs : List D} (hn : aggOf P t n = true) (hx : Ev tm x (.cel cs)) (hl : n ≤ cs.length) :
    POp P lo ob L ⟨dst, .load t x, ty, pos, aft, g⟩ tm (.agg (cs.take n)) :=
  POp.same fun cx a hi ho => by
    have h1 := opr ho (by simp [Op.operands]) hx
    simp only [Rep] at h1
    obtain ⟨b, off, vs, h2, h3, h4⟩ := h1
    have hlen := h4.length
    refine ⟨.agg (vs.take n).toArray, ?_, by simp only [Rep]; exact ⟨vs.take n, rfl, h4.take n⟩⟩
    have hs : szOf P t = some n := by unfold aggOf at hn; simp at hn; exact hn.2
    have h5 := run_loadCells (P := P) (w := cx.w) (b := b) (vs.take n) off 0 #[] (fun j v hv => by have := ((h3.take n) j v hv).1; simpa using this)
    rw [List.length_take, Nat.min_eq_left (by omega)] at h5
    simp [execOp, h2, Instr.loadAt, Instr.sureAddr, loadVar, run_isAgg' hn, run_sizeOf hs, loadCells, h5]

/-- A field of a struct type: where it begins; it has cells. -/
def fieldOk (P : Program) (t : TypeId) (f off : Nat) : Bool := match P.underlying t with
  | some (.struct fs) => match fs[f]? with
    | some fd => fd.offset == off && (match szOf P fd.type with | some n => n != 0 | none => false)
    | none => false
  | _ => false

theorem run_fieldAt {w : World} {t : TypeId} {f off b o : Nat} (h : fieldOk P t f off = true) : (Instr.fieldAt t (.pointer (some ⟨b, o, none⟩)) f).run P w = .ok (.pointer (some ⟨b, o + off, none⟩)) w := by
  unfold fieldOk at h
  cases hd : P.underlying t with
  | none => rw [hd] at h; cases h
  | some d =>
    rw [hd] at h
    cases d <;> try cases h
    rename_i fs
    simp only at h
    cases hf : fs[f]? with
    | none => rw [hf] at h; cases h
    | some fd =>
      rw [hf] at h
      simp only [Bool.and_eq_true, beq_iff_eq] at h
      cases hs : szOf P fd.type with
      | none => rw [hs] at h; cases h.2
      | some n =>
        rw [hs] at h
        have hn : n ≠ 0 := by simpa using h.2
        simp [Instr.fieldAt, run_under hd, hf, Instr.sureAddr, fieldPlace, run_sizeOf hs, hn, h.1, addr_add]

theorem p_fa {x : Operand} {t : TypeId} {f off : Nat} {cs : List D} (hf : fieldOk P t f off = true) (hx : Ev tm x (.cel cs)) :
    POp P lo ob L ⟨dst, .fieldAddr t x f, ty, pos, aft, g⟩ tm (.cel (cs.drop off)) :=
  POp.same fun cx a hi ho => by
    have h1 := opr ho (by simp [Op.operands]) hx
    simp only [Rep] at h1
    obtain ⟨b, o, vs, h2, h3, h4⟩ := h1
    refine ⟨.pointer (some ⟨b, o + off, none⟩), ?_, by simp only [Rep]; exact ⟨b, _, _, rfl, h3.drop off, h4.drop off⟩⟩
    simp [execOp, h2, run_fieldAt hf]
theorem p_fal {x : Operand} {t : TypeId} {f off i o : Nat} (hf : fieldOk P t f off = true) (hx : Ev tm x (.loc i o)) :
    POp P lo ob L ⟨dst, .fieldAddr t x f, ty, pos, aft, g⟩ tm (.loc i (o + off)) :=
  POp.same fun cx a hi ho => by
    have h1 := opr ho (by simp [Op.operands]) hx
    simp only [Rep] at h1
    obtain ⟨b, h2, h3⟩ := h1
    refine ⟨.pointer (some ⟨b, o + off, none⟩), ?_, by simp only [Rep]; exact ⟨b, h2, rfl⟩⟩
    simp [execOp, h3, run_fieldAt hf]
theorem p_fap {x : Operand} {t : TypeId} {f off i o : Nat} (hf : fieldOk P t f off = true) (hx : Ev tm x (.ptr i o)) :
    POp P lo ob L ⟨dst, .fieldAddr t x f, ty, pos, aft, g⟩ tm (.ptr i (o + off)) :=
  POp.same fun cx a hi ho => by
    have h1 := opr ho (by simp [Op.operands]) hx
    simp only [Rep] at h1
    obtain ⟨b, h2, h3⟩ := h1
    refine ⟨.pointer (some ⟨b, o + off, none⟩), ?_, by simp only [Rep]; exact ⟨b, h2, rfl⟩⟩
    simp [execOp, h3, run_fieldAt hf]

/-- An object's cell. -/
theorem Objs.cell {cx : Cx} {bs : List Nat} {os : List (List PV)} (h : Objs cx bs os) {i b : Nat} {cs : List PV} (hb : bs[i]? = some b) (hc : os[i]? = some cs) {o : Nat} {p : PV} (hp : cs[o]? = some p) (hm : mpo cs = false) :
    ∃ v, cx.w.cell? ⟨b, o, none⟩ = some v ∧ Rep cx p v := by
  obtain ⟨_, h2, _⟩ := h.at_ i b cs hb hc
  obtain ⟨arr, T, h2, h3⟩ := h2.cells hm
  obtain ⟨v, hv, hr⟩ := h3.get o p hp
  refine ⟨v, ?_, hr⟩
  simp [World.cell?, h2]
  simpa using hv

theorem p_ldl {x : Operand} {t : TypeId} {i o : Nat} {cs : List PV} {p : PV} (hn : notAgg P t = true) (hx : Ev tm x (.loc i o)) (hc : lo[i]? = some cs) (hp : cs[o]? = some p) (hm : mpo cs = false := by rfl) :
    POp P lo ob L ⟨dst, .load t x, ty, pos, aft, g⟩ tm p :=
  POp.same fun cx a hi ho => by
    have h1 := opr ho (by simp [Op.operands]) hx
    simp only [Rep] at h1
    obtain ⟨b, h2, h3⟩ := h1
    obtain ⟨v, hv, hr⟩ := hi.olo.cell h2 hc hp hm
    exact ⟨v, by simp [execOp, h3, Instr.loadAt, Instr.sureAddr, run_loadVar hn hv], hr⟩
theorem p_ldp {x : Operand} {t : TypeId} {i o : Nat} {cs : List PV} {p : PV} (hn : notAgg P t = true) (hx : Ev tm x (.ptr i o)) (hc : ob[i]? = some cs) (hp : cs[o]? = some p) (hm : mpo cs = false := by rfl) :
    POp P lo ob L ⟨dst, .load t x, ty, pos, aft, g⟩ tm p :=
  POp.same fun cx a hi ho => by
    have h1 := opr ho (by simp [Op.operands]) hx
    simp only [Rep] at h1
    obtain ⟨b, h2, h3⟩ := h1
    obtain ⟨v, hv, hr⟩ := hi.oob.cell h2 hc hp hm
    exact ⟨v, by simp [execOp, h3, Instr.loadAt, Instr.sureAddr, run_loadVar hn hv], hr⟩

/-- Cells of data. -/
def PV.toD : PV → D
  | .d x => x
  | .nil => .lst 0 []
  | .own _ sz l _ => .lst sz l
  | _ => .v (.bool false)
def PV.isD : PV → Bool
  | .d _ => true
  | .nil => true
  | .own _ _ _ _ => true
  | _ => false
theorem rep_toD {cx : Cx} {p : PV} (h : p.isD = true) {y : Value} (hr : Rep cx p y) : RepD cx.w cx.S p.toD y := by
  cases p <;> simp only [PV.isD, Bool.false_eq_true] at h
  · simpa only [Rep, PV.toD] using hr
  · have := PLe.nil 0 cx y hr; simpa only [Rep, PV.toD] using this
  · have := PLe.own _ _ _ _ cx y hr; simpa only [Rep, PV.toD] using this
theorem reps_toD {cx : Cx} : ∀ {ps : List PV} (h : ps.all PV.isD = true) {vs : List Value} (hr : Reps cx ps vs), RepDs cx.w cx.S (ps.map PV.toD) vs
  | [], _, vs, hr => by simpa only [Reps, RepDs, List.map_nil] using hr
  | p :: ps, h, vs, hr => by
    simp only [List.all_cons, Bool.and_eq_true] at h
    simp only [Reps] at hr
    obtain ⟨v, r, rfl, h1, h2⟩ := hr
    simp only [List.map_cons, RepDs]
    exact ⟨v, r, rfl, rep_toD h.1 h1, reps_toD h.2 h2⟩

theorem p_ldla {x : Operand} {t : TypeId} {i o n : Nat} {cs : List PV} (hn : aggOf P t n = true) (hx : Ev tm x (.loc i o)) (hc : lo[i]? = some cs) (hl : o + n ≤ cs.length) (hd : ((cs.drop o).take n).all PV.isD = true) (hm : mpo cs = false := by rfl) :
    POp P lo ob L ⟨dst, .load t x, ty, pos, aft, g⟩ tm (.agg (((cs.drop o).take n).map PV.toD)) :=
  POp.same fun cx a hi ho => by
    have h1 := opr ho (by simp [Op.operands]) hx
    simp only [Rep] at h1
    obtain ⟨b, h2, h3⟩ := h1
    obtain ⟨_, h4, _⟩ := hi.olo.at_ i b cs h2 hc
    obtain ⟨arr, T, h4, h5⟩ := h4.cells hm
    have hlen := h5.length
    have hs : szOf P t = some n := by unfold aggOf at hn; simp at hn; exact hn.2
    have sub : ∀ (ps : List PV) (vs : List Value) (o n : Nat), Reps cx ps vs → Reps cx ((ps.drop o).take n) ((vs.drop o).take n) := by
      intro ps
      induction ps with
      | nil => intro vs o n h; simp only [Reps] at h; subst h; simp [Reps]
      | cons q qs ih =>
        intro vs o n h
        have h0 := h
        simp only [Reps] at h
        obtain ⟨v, r, rfl, h6, h7⟩ := h
        cases o with
        | succ o => simpa using ih r o n h7
        | zero =>
          cases n with
          | zero => simp [Reps]
          | succ n =>
            simp only [List.drop_zero, List.take_succ_cons, Reps]
            refine ⟨v, _, rfl, h6, ?_⟩
            have := ih r 0 n h7
            simpa using this
    refine ⟨.agg ((arr.toList.drop o).take n).toArray, ?_, by simp only [Rep]; exact ⟨_, rfl, reps_toD hd (sub _ _ o n h5)⟩⟩
    have h6 := run_loadCells (P := P) (w := cx.w) (b := b) ((arr.toList.drop o).take n) o 0 #[] (fun j v hv => by
      rw [List.getElem?_take] at hv
      split at hv
      · rw [List.getElem?_drop] at hv
        simp [World.cell?, h4]
        simpa using hv
      · cases hv)
    rw [List.length_take, List.length_drop, Nat.min_eq_left (by omega)] at h6
    simp [execOp, h3, Instr.loadAt, Instr.sureAddr, loadVar, run_isAgg' hn, run_sizeOf hs, loadCells, h6]
end
end Go.Proofs.YtcemejmegbefgaaGreatDoor.Em

set_option linter.unusedVariables false
set_option linter.unusedSimpArgs false
namespace Go.Proofs.YtcemejmegbefgaaGreatDoor.Em
open Go.RowKit

section
variable {P : Program} {lo ob : List (List PV)} {L : List Nat} {tm : List (Nat × PV)}
variable {dst : Option Tmp} {ty : TypeId} {pos : String} {aft : Array Edge} {g : Option (Nat × Bool)}

theorem len_i64 {n : Nat} (h : n ≤ LIM) : okv (.int .i64 (n : Int)) := by
  unfold LIM at h
  simp only [okv, IntKind.min, IntKind.max, IntKind.signed, IntKind.bits, if_true]
  omega

theorem p_lens {x : Operand} {t : TypeId} {s : List UInt8} (hu : P.underlying t = some .string) (hx : Ev tm x (str s)) :
    POp P lo ob L ⟨dst, .call ⟨.builtin .len, #[x], #[t]⟩, ty, pos, aft, g⟩ tm (i64 s.length) :=
  POp.same fun cx a hi ho => by
    have h1 := rep_v (opr ho (by simp [Op.operands, Call.operands]) hx)
    have h2 : s.length ≤ LIM := by have := h1.2; simp only [okv, mkS_size] at this; exact this
    refine ⟨.int .i64 s.length, ?_, mk_v (len_i64 h2)⟩
    simp [execOp, resolve, invoke, builtin, Builtin.len_, h1.1, run_under hu, goInt, mkS_size]
theorem p_lenl {x : Operand} {t e : TypeId} {sz : Nat} {l : List (List D)} (hu : P.underlying t = some (.slice e)) (hx : Ev tm x (lst sz l)) :
    POp P lo ob L ⟨dst, .call ⟨.builtin .len, #[x], #[t]⟩, ty, pos, aft, g⟩ tm (i64 l.length) :=
  POp.same fun cx a hi ho => by
    have h1 := opr ho (by simp [Op.operands, Call.operands]) hx
    simp only [Rep, RepD] at h1
    rcases h1 with ⟨rfl, h1⟩ | ⟨b, off, c, vs, h1, h2, h3, _⟩
    · exact ⟨.int .i64 0, by simp [execOp, resolve, invoke, builtin, Builtin.len_, h1, run_under hu, goInt], mk_v (len_i64 (n := 0) (by simp))⟩
    · exact ⟨.int .i64 l.length, by simp [execOp, resolve, invoke, builtin, Builtin.len_, h1, run_under hu, goInt], mk_v (len_i64 h3)⟩

/-! Calls. -/
def Evs (tm : List (Nat × PV)) : List Operand → List PV → Prop
  | [], ps => ps = []
  | x :: xs, ps => ∃ p r, ps = p :: r ∧ Ev tm x p ∧ Evs tm xs r
theorem Evs.nil : Evs tm [] [] := rfl
theorem Evs.cons {x : Operand} {xs : List Operand} {p : PV} {ps : List PV} (h : Ev tm x p) (k : Evs tm xs ps) : Evs tm (x :: xs) (p :: ps) := ⟨p, ps, rfl, h, k⟩

def PV.nl0 : PV → Bool
  | .loc _ _ => false
  | .mloc _ => false
  | .tup _ => false
  | .fn _ _ _ => false
  | .opt _ _ => false
  | _ => true
def PV.nl : PV → Bool
  | .fn _ a b => a.all PV.nl0 && b.all PV.nl0
  | p => p.nl0

def Cx.inn (cx : Cx) : Cx := { cx with m := cx.m ++ cx.n, n := [] }

theorem Rep.inn0 {cx : Cx} {p : PV} (hp : p.nl0 = true) {y : Value} (h : Rep cx p y) : Rep cx.inn p y := by
  cases p <;> simp only [PV.nl0, Bool.false_eq_true] at hp
  case ptr o off =>
    simp only [Rep] at h ⊢
    obtain ⟨b, h1, h2⟩ := h
    exact ⟨b, pre_get h1, h2⟩
  case mptr o =>
    simp only [Rep] at h ⊢
    obtain ⟨b, h1, h2⟩ := h
    exact ⟨b, pre_get h1, h2⟩
  all_goals (simp only [Rep, Cx.inn] at h ⊢; try exact h)
theorem Reps.inn0 {cx : Cx} : ∀ {ps : List PV} (hp : ps.all PV.nl0 = true) {ys : List Value} (h : Reps cx ps ys), Reps cx.inn ps ys
  | [], _, ys, h => by simpa only [Reps] using h
  | p :: ps, hp, ys, h => by
    simp only [Reps] at h ⊢
    simp only [List.all_cons, Bool.and_eq_true] at hp
    obtain ⟨v, r, h1, h2, h3⟩ := h
    exact ⟨v, r, h1, h2.inn0 hp.1, Reps.inn0 hp.2 h3⟩
theorem Rep.inn {cx : Cx} {p : PV} (hp : p.nl = true) {y : Value} (h : Rep cx p y) : Rep cx.inn p y := by
  cases p with
  | fn f a b =>
    simp only [PV.nl, Bool.and_eq_true] at hp
    simp only [Rep] at h ⊢
    obtain ⟨vf, vc, h1, h2, h3⟩ := h
    exact ⟨vf, vc, h1, Reps.inn0 hp.1 h2, Reps.inn0 hp.2 h3⟩
  | _ => exact Rep.inn0 (by simpa only [PV.nl] using hp) h

theorem Inv.inn {cx : Cx} (h : Inv cx ob lo L) : Inv cx.inn (ob ++ lo) [] L := by
  refine ⟨h.sOk, h.baseLe, h.gv, ⟨by simp [Cx.inn, h.oob.len, h.olo.len], ?_⟩, ⟨rfl, fun i b cs hb => by simp [Cx.inn] at hb⟩, by simpa [Cx.inn] using h.nd, ?_, h.ldist⟩
  · intro i b cs hb hc
    simp only [Cx.inn] at hb
    by_cases hi : i < cx.m.length
    · rw [List.getElem?_append_left hi] at hb
      rw [List.getElem?_append_left (by rw [← h.oob.len]; exact hi)] at hc
      obtain ⟨h1, h2, h4, h5⟩ := h.oob.at_ i b cs hb hc
      exact ⟨h1, h2.tr rfl (fun _ h3 => Reps.ms (cx := cx) (cx' := cx.inn) rfl rfl rfl h5 h3), h4, h5⟩
    · rw [List.getElem?_append_right (by omega)] at hb
      rw [List.getElem?_append_right (by rw [← h.oob.len]; omega), ← h.oob.len] at hc
      obtain ⟨h1, h2, h4, h5⟩ := h.olo.at_ _ b cs hb hc
      exact ⟨h1, h2.tr rfl (fun _ h3 => Reps.ms (cx := cx) (cx' := cx.inn) rfl rfl rfl h5 h3), h4, h5⟩
  · intro k hk
    obtain ⟨x, h1, h2⟩ := h.live k hk
    refine ⟨x, h1, fun g s z e ct hx => ?_⟩
    obtain ⟨h3, h4, h5, h6⟩ := h2 g s z e ct hx
    exact ⟨h3, h4, by simpa [Cx.inn] using h5, h6⟩

/-- Back from a call that left the objects as many as they were. -/
def Cx.out (cx cx' : Cx) : Cx := { cx' with m := cx.m, n := cx.n }

theorem back {cx cx' : Cx} {ob' lo' : List (List PV)} {L'} (hi : Inv cx ob lo L) (he : Ext cx.inn cx') (hn : cx'.n = []) (hi' : Inv cx' (ob' ++ lo') [] L') (ho : ob'.length = ob.length) (hl : lo'.length = lo.length) :
    Ext cx (cx.out cx') ∧ Inv (cx.out cx') ob' lo' L' := by
  obtain ⟨t, ht⟩ := he.m
  have hlen := hi'.oob.len
  have ht0 : t = [] := by
    have : cx'.m.length = (cx.m ++ cx.n ++ t).length := by rw [ht]; rfl
    rw [hlen] at this
    simp only [List.length_append, hi.oob.len, hi.olo.len, ho, hl] at this
    exact List.eq_nil_of_length_eq_zero (by omega)
  have hm : cx'.m = cx.m ++ cx.n := by rw [ht, ht0]; simp [Cx.inn]
  refine ⟨⟨he.below, he.base, he.keeps, ⟨[], by simp [Cx.out]⟩, ⟨[], by simp [Cx.out]⟩, he.lv⟩, ?_⟩
  refine ⟨hi'.sOk, hi'.baseLe, hi'.gv, ⟨by simp [Cx.out, ho, hi.oob.len], ?_⟩, ⟨by simp [Cx.out, hl, hi.olo.len], ?_⟩, hi.nd, ?_, hi'.ldist⟩
  · intro i b cs hb hc
    have hil : i < cx.m.length := by
      rcases Nat.lt_or_ge i cx.m.length with h' | h'
      · exact h'
      · simp only [Cx.out] at hb; rw [List.getElem?_eq_none h'] at hb; cases hb
    obtain ⟨h1, h2, h4, h5⟩ := hi'.oob.at_ i b cs (by rw [hm]; exact pre_get hb) (by rw [List.getElem?_append_left (by rw [ho, ← hi.oob.len]; exact hil)]; exact hc)
    exact ⟨h1, h2.tr rfl (fun _ h3 => Reps.ms (cx := cx') (cx' := cx.out cx') rfl rfl rfl h5 h3), h4, h5⟩
  · intro i b cs hb hc
    simp only [Cx.out] at hb
    obtain ⟨h1, h2, h4, h5⟩ := hi'.oob.at_ (cx.m.length + i) b cs (by rw [hm, List.getElem?_append_right (by omega)]; simpa using hb)
      (by rw [List.getElem?_append_right (by rw [ho, ← hi.oob.len]; omega), ho, ← hi.oob.len]; simpa using hc)
    exact ⟨h1, h2.tr rfl (fun _ h3 => Reps.ms (cx := cx') (cx' := cx.out cx') rfl rfl rfl h5 h3), h4, h5⟩
  · intro k hk
    obtain ⟨x, h1, h2⟩ := hi'.live k hk
    refine ⟨x, h1, fun g s z e ct hx => ?_⟩
    obtain ⟨h3, h4, h5, h6⟩ := h2 g s z e ct hx
    exact ⟨h3, h4, by rw [hm, hn] at h5; simpa [Cx.out] using h5, h6⟩

theorem run_callFunc {w : World} {f : FuncId} (h : Callable P f) (args : Array Value) : (callFunc f args).run P w = .ok (.enter f args) w := by
  obtain ⟨fn, h1, h2, h3⟩ := h
  have h4 : fn.name ≠ "runtime.NumGoroutine" := by simpa using h3
  have h5 : fn.body ≠ none := by intro e; rw [e] at h2; cases h2
  simp only [callFunc, program, Sem.run_bind]
  simp [Sem.run, h1, h4, h5]

theorem evs_reps {cx : Cx} {o : Oper} {a : Act} (ho : ∀ x ∈ o.op.operands.toList, ∀ q, ev tm x = some q → Rep cx q (a.eval x)) :
    ∀ {xs : List Operand} {ps : List PV}, (∀ x ∈ xs, x ∈ o.op.operands.toList) → Evs tm xs ps → Reps cx ps (xs.map a.eval)
  | [], ps, _, h => by simp only [Evs] at h; subst h; simp [Reps]
  | x :: xs, ps, hs, h => by
    simp only [Evs] at h
    obtain ⟨p, r, rfl, h1, h2⟩ := h
    simp only [List.map_cons, Reps]
    exact ⟨_, _, rfl, opr ho (hs x List.mem_cons_self) h1, evs_reps ho (fun y hy => hs y (List.mem_cons_of_mem _ hy)) h2⟩

theorem Reps.inn {cx : Cx} : ∀ {ps : List PV} (hp : ps.all PV.nl = true) {ys : List Value} (h : Reps cx ps ys), Reps cx.inn ps ys
  | [], _, ys, h => by simpa only [Reps] using h
  | p :: ps, hp, ys, h => by
    simp only [Reps] at h ⊢
    simp only [List.all_cons, Bool.and_eq_true] at hp
    obtain ⟨v, r, h1, h2, h3⟩ := h
    exact ⟨v, r, h1, h2.inn hp.1, Reps.inn hp.2 h3⟩

theorem p_call {f : FuncId} {xs : List Operand} {tys : Array TypeId} {args : List PV} {r : PV} (hf : Fn P f args r) (he : Evs tm xs args) (hnl : args.all PV.nl = true) (hr : r.rs = true) :
    POp P lo ob L ⟨dst, .call ⟨.value (.func f), xs.toArray, tys⟩, ty, pos, aft, g⟩ tm r := by
  intro cx a hi ho
  obtain ⟨hc, hcalls⟩ := hf (ob ++ lo) L
  have hreps := evs_reps ho (fun x hx => by simp [Op.operands, Call.operands, hx]) he
  unfold Oper.wp
  have hrun : (execOp a.eval ⟨dst, .call ⟨.value (.func f), xs.toArray, tys⟩, ty, pos, aft, g⟩).run P cx.w = .ok (.enter f (xs.map a.eval).toArray) cx.w := by
    simp [execOp, resolve, Deferred.ofValue, Act.eval, invoke, run_callFunc hc]
  rw [hrun]
  refine Calls.mono (hcalls cx.inn (xs.map a.eval) rfl hi.inn (Reps.inn hnl hreps)) ?_
  rintro e w' ⟨v, cx', r', ob', L', rfl, rfl, hx, hn, hi', hrv, rfl, rfl, hL⟩
  obtain ⟨h1, h2⟩ := back hi hx hn (ob' := ob) (lo' := lo) hi' rfl rfl
  exact ⟨v, cx.out cx', rfl, rfl, h1, h2.sub hL, Rep.rs (cx := cx') (cx' := cx.out cx') rfl rfl rfl hr hrv⟩

theorem al {a b : Bool} (h : (a && b) = true) : a = true := by cases a <;> simp_all
theorem ai {a b : Bool} (h : a = true) (k : b = true) : (a && b) = true := by rw [h, k]; rfl
theorem bqt {b : Bool} (h : b = true) : (b == true) = true := by rw [h]; rfl
theorem bqf {b : Bool} (h : b = false) : (b == false) = true := by rw [h]; rfl
theorem bt' {b : Bool} (h : (b == true) = true) : b = true := by simpa using h
theorem bf' {b : Bool} (h : (b == false) = true) : b = false := by simpa using h
theorem mg {α β : Type} {f : α → β} {xs : List α} {k : Nat} {x : α} (h : xs[k]? = some x) : (xs.map f)[k]? = some (f x) := by simp [h]

/-! The chain's links. -/
theorem o1 {all os : List Oper} {op : Op} {ty : TypeId} {pos : String} {aft : Array Edge} {d : Nat} {p : PV} {tm' : List (Nat × PV)} (hp : POp P lo ob L ⟨some d, op, ty, pos, aft, none⟩ tm p) (k : PL P lo ob L all os ((d, p) :: tm) tm') :
    PL P lo ob L all (⟨some d, op, ty, pos, aft, none⟩ :: os) tm tm' := .cons rfl (.op rfl hp) k
theorem g1 {all os : List Oper} {op : Op} {ty : TypeId} {pos : String} {aft : Array Edge} {d : Nat} {p : PV} {tm' : List (Nat × PV)} {b want : Bool} {j t : Nat} (hj : gdst all j = some t) (hl : look tm t = some (.d (.v (.bool b))))
    (hp : (b == want) = true → POp P lo ob L ⟨some d, op, ty, pos, aft, some (j, want)⟩ tm p) (k : PL P lo ob L all os ((d, .opt (b == want) p) :: tm) tm') :
    PL P lo ob L all (⟨some d, op, ty, pos, aft, some (j, want)⟩ :: os) tm tm' := .cons rfl (.gd b want j t rfl hj hl hp) k
theorem g2 {all os : List Oper} {op : Op} {ty : TypeId} {pos : String} {aft : Array Edge} {d : Nat} {p : PV} {tm' : List (Nat × PV)} {c b want : Bool} {j t : Nat} (hj : gdst all j = some t) (hl : look tm t = some (.opt c (.d (.v (.bool b)))))
    (hp : (c && (b == want)) = true → POp P lo ob L ⟨some d, op, ty, pos, aft, some (j, want)⟩ tm p) (k : PL P lo ob L all os ((d, .opt (c && (b == want)) p) :: tm) tm') :
    PL P lo ob L all (⟨some d, op, ty, pos, aft, some (j, want)⟩ :: os) tm tm' := .cons rfl (.gd2 c b want j t rfl hj hl hp) k
theorem oz {all : List Oper} : PL P lo ob L all [] tm tm := .nil

/-! Facts that a value brings. -/
theorem a_fstr {c : Code} {nt t} {s : List UInt8} {Q} (hx : Ev tm (.tmp t) (str s)) (k : s.length ≤ 140737488355328 → AWP P c ⟨nt, tm, lo, ob, L⟩ Q) : AWP P c ⟨nt, tm, lo, ob, L⟩ Q := by
  intro cx a hi
  obtain ⟨q, hq, hle⟩ := hx
  have := (rep_v (hle cx _ (hi.ev hq))).2
  simp only [okv, mkS_size] at this
  exact k this cx a hi
theorem a_flst {c : Code} {nt t sz} {l : List (List D)} {Q} (hx : Ev tm (.tmp t) (lst sz l)) (k : l.length ≤ 140737488355328 → AWP P c ⟨nt, tm, lo, ob, L⟩ Q) : AWP P c ⟨nt, tm, lo, ob, L⟩ Q := by
  intro cx a hi
  obtain ⟨q, hq, hle⟩ := hx
  have h1 := hle cx _ (hi.ev hq)
  simp only [Rep, RepD] at h1
  refine k ?_ cx a hi
  rcases h1 with ⟨rfl, h1⟩ | ⟨b, off, c, vs, h1, h2, h3, _⟩
  · simp
  · exact h3
theorem a_fint {c : Code} {nt t} {n : Int} {Q} (hx : Ev tm (.tmp t) (i64 n)) (k : (-9223372036854775808 ≤ n ∧ n ≤ 9223372036854775807) → AWP P c ⟨nt, tm, lo, ob, L⟩ Q) : AWP P c ⟨nt, tm, lo, ob, L⟩ Q := by
  intro cx a hi
  obtain ⟨q, hq, hle⟩ := hx
  have := (rep_v (hle cx _ (hi.ev hq))).2
  simp only [okv, IntKind.min, IntKind.max, IntKind.signed, IntKind.bits, if_true] at this
  exact k (by omega) cx a hi

end
end Go.Proofs.YtcemejmegbefgaaGreatDoor.Em

set_option linter.unusedVariables false
set_option linter.unusedSimpArgs false
namespace Go.Proofs.YtcemejmegbefgaaGreatDoor.Em
open Go.RowKit

section
variable {P : Program} {lo ob : List (List PV)} {L : List Nat} {tm : List (Nat × PV)}
variable {dst : Option Tmp} {ty : TypeId} {pos : String} {aft : Array Edge} {g : Option (Nat × Bool)}

/-! A new block that stays as it is. -/
def Cx.grow (cx : Cx) (c : Array Value) (T : TypeId) (fr : Nat × Nat) : Cx :=
  { cx with w := cx.w.alloc (.cells c T fr), S := fun b o => cx.S b o ∨ (b = cx.w.heap.size ∧ o < c.size) }

theorem cell_alloc {w : World} {c : Array Value} {T : TypeId} {fr : Nat × Nat} (o : Nat) : (w.alloc (.cells c T fr)).cell? ⟨w.heap.size, o, none⟩ = c[o]? := by
  simp only [World.cell?]
  rw [show (w.alloc (.cells c T fr)).heap = w.heap.push (.cells c T fr) from rfl]
  simp

theorem S_lt {cx : Cx} (hi : Inv cx ob lo L) {b o : Nat} (h : cx.S b o) : b < cx.w.heap.size := by
  have := hi.sOk b o h
  cases hc : cx.w.cell? ⟨b, o, none⟩ with
  | none => rw [hc] at this; cases this
  | some v => exact World.block_lt_of_cell? cx.w _ hc

theorem heap_old {w : World} {o : Obj} {k : Nat} (h : k < w.heap.size) : (w.alloc o).heap[k]? = w.heap[k]? := by
  show (w.heap.push o)[k]? = _
  rw [Array.getElem?_push, if_neg (by omega)]
theorem heap_lt {w : World} {k : Nat} {o : Obj} (h : w.heap[k]? = some o) : k < w.heap.size := (Array.getElem?_eq_some_iff.1 h).1

theorem Inv.grow {cx : Cx} (hi : Inv cx ob lo L) (c : Array Value) (T : TypeId) (fr : Nat × Nat) : Ext cx (cx.grow c T fr) ∧ Inv (cx.grow c T fr) ob lo L := by
  have he : Ext cx (cx.grow c T fr) := by
    refine ⟨(Below.refl _ _).alloc hi.baseLe _, rfl, fun b o hs => ⟨.inl hs, ?_⟩, ⟨[], by simp [Cx.grow]⟩, ⟨[], by simp [Cx.grow]⟩, ⟨[], by simp [Cx.grow]⟩⟩
    exact World.cell?_of_block (heap_old (S_lt hi hs))
  refine ⟨he, ?_, ?_, he.gv hi.gv, ?_, ?_, hi.nd, ?_, hi.ldist⟩
  · rintro b o (hs | ⟨rfl, ho⟩)
    · have := hi.sOk b o hs
      rw [show (cx.grow c T fr).w.cell? ⟨b, o, none⟩ = cx.w.cell? ⟨b, o, none⟩ from World.cell?_of_block (heap_old (S_lt hi hs))]
      exact this
    · show ((cx.w.alloc _).cell? _).isSome = true
      rw [cell_alloc]; simp [ho]
  · have := hi.baseLe; simp only [Cx.grow, World.size_alloc]; omega
  · refine ⟨hi.oob.len, fun i b cs hb hc => ?_⟩
    obtain ⟨h1, h2, h4, h5⟩ := hi.oob.at_ i b cs hb hc
    refine ⟨h1, h2.tr (heap_old h2.lt) (fun _ h3 => Reps.ext he _ _ h3), ?_, h5⟩
    · rintro o (hs | ⟨rfl, _⟩)
      · exact h4 o hs
      · exact absurd (h2.lt) (Nat.lt_irrefl _)
  · refine ⟨hi.olo.len, fun i b cs hb hc => ?_⟩
    obtain ⟨h1, h2, h4, h5⟩ := hi.olo.at_ i b cs hb hc
    refine ⟨h1, h2.tr (heap_old h2.lt) (fun _ h3 => Reps.ext he _ _ h3), ?_, h5⟩
    · rintro o (hs | ⟨rfl, _⟩)
      · exact h4 o hs
      · exact absurd (h2.lt) (Nat.lt_irrefl _)
  · intro k hk
    obtain ⟨x, h1, h2⟩ := hi.live k hk
    refine ⟨x, h1, fun g s z e ct hx => ?_⟩
    obtain ⟨h3, ⟨cur, h4, h4'⟩, h5, h6⟩ := h2 g s z e ct hx
    refine ⟨h3, ⟨cur, ?_, h4'.1, RepDs.keep he.keeps _ _ h4'.2⟩, h5, ?_⟩
    · show (cx.w.alloc _).heap[g]? = _
      rw [heap_old (heap_lt h4)]; exact h4
    · rintro o ho (hs | ⟨rfl, _⟩)
      · exact h6 o ho hs
      · exact absurd (heap_lt h4) (Nat.lt_irrefl _)

theorem grow_at {cx : Cx} {c : Array Value} {T : TypeId} {fr : Nat × Nat} : At (cx.grow c T fr).w (cx.grow c T fr).S cx.w.heap.size 0 c.toList := by
  intro j v hv
  have hj : j < c.size := by
    rcases Nat.lt_or_ge j c.size with h' | h'
    · exact h'
    · rw [List.getElem?_eq_none (by simpa using h')] at hv; cases hv
  refine ⟨?_, .inr ⟨rfl, by omega⟩⟩
  show (cx.w.alloc _).cell? _ = _
  rw [Nat.zero_add, cell_alloc]
  simpa using hv

/-! The cells of a value. -/
def PV.cellsD : PV → List D
  | .agg cs => cs
  | p => [p.toD]
def PV.isC : PV → Bool
  | .agg _ => true
  | p => p.isD

theorem repD_scalar {w S} {d : D} {y : Value} (h : RepD w S d y) : y.cells = #[y] := by
  cases d with
  | v x => simp only [RepD] at h; obtain ⟨rfl, h2⟩ := h; cases y <;> first | rfl | cases h2
  | lst sz l =>
    simp only [RepD] at h
    rcases h with ⟨_, rfl⟩ | ⟨_, _, _, _, rfl, _⟩ <;> rfl

theorem rep_cells {cx : Cx} {p : PV} (h : p.isC = true) {y : Value} (hr : Rep cx p y) : RepDs cx.w cx.S p.cellsD y.cells.toList := by
  have base : p.isD = true → RepDs cx.w cx.S [p.toD] y.cells.toList := by
    intro hd
    have := rep_toD hd hr
    rw [repD_scalar this]
    simp only [RepDs]
    exact ⟨y, [], rfl, this, rfl⟩
  cases p with
  | agg cs =>
    simp only [Rep] at hr
    obtain ⟨vs, rfl, h2⟩ := hr
    simpa [Value.cells, PV.cellsD] using h2
  | d x => exact base h
  | nil => exact base h
  | own e sz l k => exact base h
  | _ => simp only [PV.isC, PV.isD, Bool.false_eq_true] at h

/-- A box that is only read. -/
theorem p_box {x : Operand} {t : TypeId} {p : PV} (hx : Ev tm x p) (hc : p.isC = true) : POp P lo ob L ⟨dst, .box t x, ty, pos, aft, g⟩ tm (.cel p.cellsD) := by
  intro cx a hi ho
  have h1 := opr ho (by simp [Op.operands]) hx
  obtain ⟨he, hi'⟩ := hi.grow (a.eval x).cells t (0, 0)
  have hrun : (execOp a.eval ⟨dst, .box t x, ty, pos, aft, g⟩).run P cx.w = .ok (.value (.pointer (some ⟨cx.w.heap.size, 0, none⟩))) (cx.w.alloc (.cells (a.eval x).cells t (0, 0))) := by
    simp [execOp, Instr.box, newVar, newRow, newObj, Sem.run]
  unfold Oper.wp
  rw [hrun]
  refine ⟨_, cx.grow (a.eval x).cells t (0, 0), rfl, rfl, he, hi', ?_⟩
  simp only [Rep]
  exact ⟨_, _, (a.eval x).cells.toList, rfl, grow_at, RepDs.keep he.keeps _ _ (rep_cells hc h1)⟩

/-! Literals of slices. -/
theorem setRun : ∀ (vs : List Value) (n : Nat) (cs : Array Value) (off : Nat), off + n + vs.length ≤ cs.size →
    ((vs.zipIdx n).foldl (fun cs (p : Value × Nat) => cs.setIfInBounds (off + p.2) p.1) cs).toList = cs.toList.take (off + n) ++ vs ++ cs.toList.drop (off + n + vs.length)
  | [], n, cs, off, h => by simp
  | v :: vs, n, cs, off, h => by
    simp only [List.length_cons] at h
    simp only [List.zipIdx_cons, List.foldl_cons]
    rw [setRun vs (n + 1) _ off (by simp; omega)]
    simp only [Array.toList_setIfInBounds, List.length_cons]
    have e1 : (cs.toList.set (off + n) v).take (off + (n + 1)) = cs.toList.take (off + n) ++ [v] := by
      rw [show off + (n + 1) = (off + n) + 1 from by omega, List.take_succ_eq_append_getElem (by simp; omega)]
      simp only [List.take_set, List.getElem_set_self]
      rw [List.set_eq_of_length_le (by simp; omega)]
    rw [e1, List.drop_set_of_lt (by omega)]
    simp only [List.append_assoc, List.cons_append, List.nil_append]
    rw [show off + (n + 1) + vs.length = off + n + (vs.length + 1) from by omega]

theorem fill_cons (place : Nat → Option (Nat × Nat)) (cells : Array Value) (i : Nat) (v : Value) (rest : List (Nat × Value)) (off size : Nat) (hp : place i = some (off, size)) (hs : v.cells.size = size) (hb : off + size ≤ cells.size) :
    Instr.fill place cells ((i, v) :: rest) = Instr.fill place (cells.toList.take off ++ v.cells.toList ++ cells.toList.drop (off + size)).toArray rest := by
  have h1 : ¬ (v.cells.size ≠ size || off + v.cells.size > cells.size) = true := by simp [hs]; omega
  simp only [Instr.fill, hp]
  rw [if_neg h1]
  congr 1
  apply Array.toList_inj.1
  have := setRun v.cells.toList 0 cells off (by simp; omega)
  rw [← Array.foldl_toList, Array.toList_zipIdx]
  simp only [Nat.add_zero] at this
  simp only [this, Array.length_toList, hs]

theorem fill_all (size : Nat) : ∀ (vs : List Value) (i : Nat) (done rest : List Value), (∀ v ∈ vs, v.cells.size = size) → done.length = i * size → rest.length = vs.length * size →
    Instr.fill (fun i => some (i * size, size)) (done ++ rest).toArray ((vs.zipIdx i).map fun p => (p.2, p.1)) = some (done ++ (vs.map fun v => v.cells.toList).flatten).toArray
  | [], i, done, rest, hv, hd, hr => by
    have : rest = [] := List.eq_nil_of_length_eq_zero (by simpa using hr)
    subst this
    simp [Instr.fill]
  | v :: vs, i, done, rest, hv, hd, hr => by
    have hs := hv v List.mem_cons_self
    simp only [List.length_cons, Nat.succ_mul] at hr
    simp only [List.zipIdx_cons, List.map_cons]
    rw [fill_cons _ _ i v _ (i * size) size rfl hs (by simp; omega)]
    have e1 : (done ++ rest).take (i * size) = done := by rw [← hd, List.take_left]
    have e2 : (done ++ rest).drop (i * size + size) = rest.drop size := by rw [← hd, ← List.drop_drop, List.drop_left]
    simp only [e1, e2]
    rw [fill_all size vs (i + 1) (done ++ v.cells.toList) (rest.drop size) (fun u hu => hv u (List.mem_cons_of_mem _ hu)) (by simp [hd, hs, Nat.succ_mul]) (by simp; omega)]
    simp

/-- An element type: its zero value, its cells. -/
def zeroOk (P : Program) (e : TypeId) (size : Nat) : Bool := match P.info? e with
  | some i => i.size == size && (match i.zero with | some z => z.cells.size == size | none => false)
  | none => false

theorem run_buildSlice {w : World} {t e : TypeId} {size : Nat} (hu : P.underlying t = some (.slice e)) (hz : zeroOk P e size = true) (hsz : 0 < size) (vs : List Value) (hv : ∀ v ∈ vs, v.cells.size = size) (hb : vs.length * size ≤ 16777216) :
    (Instr.buildSlice t vs.length ((vs.zipIdx).map fun p => (p.2, p.1)).toArray).run P w =
      .ok (.slice (some ⟨w.heap.size, 0, none⟩) vs.length vs.length) (w.alloc (.cells (vs.map fun v => v.cells.toList).flatten.toArray e (0, 0))) := by
  unfold zeroOk at hz
  cases hi : P.info? e with
  | none => rw [hi] at hz; cases hz
  | some i =>
    rw [hi] at hz
    simp only at hz
    cases hzz : i.zero with
    | none => rw [hzz] at hz; simp at hz
    | some z =>
      rw [hzz] at hz
      simp only [Bool.and_eq_true, beq_iff_eq] at hz
      obtain ⟨hz1, hz2⟩ := hz
      have h1 : ¬ vs.length * size > 2 ^ 24 := by omega
      simp only [Instr.buildSlice, Sem.run_bind, run_under hu, Result.andThen_ok]
      simp only [sizeOf, typeInfo, program, Sem.run_bind, Sem.run, hi, Result.andThen_ok, Sem.run_pure, hz1]
      rw [if_neg h1]
      by_cases h0 : vs.length * size = 0
      · have : vs = [] := by
          rcases Nat.mul_eq_zero.1 h0 with h | h
          · exact List.eq_nil_of_length_eq_zero h
          · omega
        subst this
        simp [Instr.fill, newRow, newObj, Sem.run, show Array.range 0 = #[] from rfl]
      · simp only [h0, if_false, Sem.run_bind, zeroValue, typeInfo, program, Sem.run, hi, Result.andThen_ok, Sem.run_pure, hzz]
        have hf := fill_all size vs 0 [] ((Array.range (vs.length * size)).map (z.cells[· % z.cells.size]!)).toList hv (by simp) (by simp)
        simp only [List.nil_append, Array.toArray_toList] at hf
        simp [hf, newRow, newObj, Sem.run]

inductive F2 {α β : Type} (R : α → β → Prop) : List α → List β → Prop
  | nil : F2 R [] []
  | cons {a b as bs} : R a b → F2 R as bs → F2 R (a :: as) (b :: bs)

theorem repC_of {w S sz} {l : List (List D)} {vss : List (List Value)} (hl : ∀ e ∈ l, e.length = sz) (h : F2 (RepDs w S) l vss) : RepC w S sz l vss.flatten := by
  induction h with
  | nil => simp [RepC]
  | @cons e ve es vs h hs ih =>
    simp only [List.flatten_cons, RepC]
    exact ⟨ve, _, rfl, hl e List.mem_cons_self, h, ih (fun x hx => hl x (List.mem_cons_of_mem _ hx))⟩

theorem parts_eq (ρ : Operand → Value) : ∀ (xs : List Operand) (n : Nat), ((xs.zipIdx n).map fun p => (p.2, p.1)).map (fun (p : Nat × Operand) => (p.1, ρ p.2)) = ((xs.map ρ).zipIdx n).map fun p => (p.2, p.1)
  | [], n => rfl
  | x :: xs, n => by simp only [List.zipIdx_cons, List.map_cons, parts_eq ρ xs (n + 1)]

/-- A slice's literal, whole. -/
theorem p_bs {xs : List Operand} {t e : TypeId} {sz : Nat} {ps : List PV} {parts : Array (Nat × Operand)} {n : Nat} (hu : P.underlying t = some (.slice e)) (hz : zeroOk P e sz = true) (hsz : Nat.blt 0 sz = true)
    (hp : parts = ((xs.zipIdx).map fun p => (p.2, p.1)).toArray) (hn : n = xs.length) (hx : Evs tm xs ps) (hc : ps.all PV.isC = true) (hl : (ps.map PV.cellsD).all (fun e => Nat.beq e.length sz) = true) (hb : Nat.ble (n * sz) 16777216 = true) :
    POp P lo ob L ⟨dst, .buildSlice t n parts, ty, pos, aft, g⟩ tm (lst sz (ps.map PV.cellsD)) := by
  subst hp
  subst hn
  intro cx a hi ho
  have hsz' : 0 < sz := Nat.le_of_ble_eq_true hsz
  have hreps := evs_reps ho (xs := xs) (ps := ps) (fun x hx => by
    obtain ⟨i, hi⟩ := List.getElem?_of_mem hx
    have : (x, i) ∈ xs.zipIdx := List.mem_zipIdx_iff_getElem?.2 hi
    simp only [Op.operands, List.toList_toArray, List.map_map, List.mem_map]
    exact ⟨(x, i), this, rfl⟩) hx
  have hlen : ∀ {ps : List PV} {vs : List Value}, ps.all PV.isC = true → (ps.map PV.cellsD).all (fun e => Nat.beq e.length sz) = true → Reps cx ps vs → (∀ v ∈ vs, v.cells.size = sz) ∧ F2 (RepDs cx.w cx.S) (ps.map PV.cellsD) (vs.map fun v => v.cells.toList) := by
    intro ps
    induction ps with
    | nil => intro vs _ _ h; simp only [Reps] at h; subst h; exact ⟨by simp, .nil⟩
    | cons p ps ih =>
      intro vs h1 h2 h
      simp only [List.all_cons, Bool.and_eq_true, List.map_cons] at h1 h2
      simp only [Reps] at h
      obtain ⟨v, r, rfl, h3, h4⟩ := h
      obtain ⟨h5, h6⟩ := ih h1.2 h2.2 h4
      have h7 := rep_cells h1.1 h3
      refine ⟨?_, .cons h7 h6⟩
      intro u hu
      rcases List.mem_cons.1 hu with rfl | hu
      · have := h7.length
        have h8 := Nat.eq_of_beq_eq_true h2.1
        simp at this; omega
      · exact h5 u hu
  obtain ⟨h1, h2⟩ := hlen hc hl hreps
  have hbs := run_buildSlice (P := P) (w := cx.w) hu hz hsz' (xs.map a.eval) h1 (by have := Nat.le_of_ble_eq_true hb; simpa using this)
  simp only [List.length_map] at hbs
  obtain ⟨he, hi'⟩ := hi.grow ((xs.map a.eval).map fun v => v.cells.toList).flatten.toArray e (0, 0)
  have hrun : (execOp a.eval ⟨dst, .buildSlice t xs.length ((xs.zipIdx).map fun p => (p.2, p.1)).toArray, ty, pos, aft, g⟩).run P cx.w =
      .ok (.value (.slice (some ⟨cx.w.heap.size, 0, none⟩) xs.length xs.length)) (cx.w.alloc (.cells ((xs.map a.eval).map fun v => v.cells.toList).flatten.toArray e (0, 0))) := by
    have := parts_eq a.eval xs 0
    simp only [execOp, List.map_toArray]
    rw [this, Sem.run_bind, hbs]
    rfl
  unfold Oper.wp
  rw [hrun]
  refine ⟨_, cx.grow _ e (0, 0), rfl, rfl, he, hi', ?_⟩
  simp only [Rep, RepD]
  have hpl := hreps.length
  have hlim : xs.length ≤ LIM := by
    have := Nat.le_of_ble_eq_true hb
    have : xs.length * 1 ≤ xs.length * sz := Nat.mul_le_mul_left _ hsz'
    unfold LIM; omega
  refine .inr ⟨_, 0, xs.length, _, ?_, ?_, ?_, grow_at, ?_⟩
  · simp at hpl ⊢; exact hpl
  · simp at hpl ⊢; omega
  · simp at hpl ⊢; omega
  · simp only [List.toList_toArray]
    refine RepC.keep he.keeps sz _ _ (repC_of ?_ h2)
    intro e' he'
    exact Nat.eq_of_beq_eq_true (List.all_eq_true.1 hl e' he')
end
end Go.Proofs.YtcemejmegbefgaaGreatDoor.Em

set_option linter.unusedVariables false
set_option linter.unusedSimpArgs false
namespace Go.Proofs.YtcemejmegbefgaaGreatDoor.Em
open Go.RowKit

section
variable {P : Program} {lo ob : List (List PV)} {L : List Nat} {tm : List (Nat × PV)}
variable {dst : Option Tmp} {ty : TypeId} {pos : String} {aft : Array Edge} {g : Option (Nat × Bool)}

/-! Pieces of strings. -/
def cut (s : List UInt8) (i j : Nat) : List UInt8 := (s.drop i).take (j - i)
theorem mkS_extract (s : List UInt8) (i j : Nat) : (⟨s.toArray⟩ : ByteArray).extract i j = ⟨(cut s i j).toArray⟩ := by
  ext1
  apply Array.toList_inj.1
  simp [cut, ByteArray.data_extract]
theorem cut_length_le (s : List UInt8) (i j : Nat) : (cut s i j).length ≤ s.length := by simp [cut]; omega

theorem p_ss {x y z : Operand} {t : TypeId} {k k' : IntKind} {s : List UInt8} {i j : Int} (hu : P.underlying t = some .string) (hx : Ev tm x (str s)) (hy : Ev tm y (int k i)) (hz : Ev tm z (int k' j)) (h : 0 ≤ i ∧ i ≤ j ∧ j ≤ s.length) :
    POp P lo ob L ⟨dst, .slice t x (some y) (some z) none, ty, pos, aft, g⟩ tm (str (cut s i.toNat j.toNat)) :=
  POp.same fun cx a hi ho => by
    have h1 := rep_v (opr ho (by simp [Op.operands]) hx)
    have h2 := rep_v (opr ho (by simp [Op.operands]) hy)
    have h3 := rep_v (opr ho (by simp [Op.operands]) hz)
    have h4 : s.length ≤ LIM := by have := h1.2; simp only [okv, mkS_size] at this; exact this
    refine ⟨_, ?_, mk_v (x := .string ⟨(cut s i.toNat j.toNat).toArray⟩) (by simp only [okv, mkS_size]; exact Nat.le_trans (cut_length_le ..) h4)⟩
    have := run_slice_string (P := P) cx.w t ⟨s.toArray⟩ k k' i j hu h.1 h.2.1 (by rw [mkS_size]; exact h.2.2)
    simp [execOp, h1.1, h2.1, h3.1, run_sliceAt_string, hu, this, mkS_extract]
theorem p_ss_l {x y : Operand} {t : TypeId} {k : IntKind} {s : List UInt8} {i : Int} (hu : P.underlying t = some .string) (hx : Ev tm x (str s)) (hy : Ev tm y (int k i)) (h : 0 ≤ i ∧ i ≤ s.length) :
    POp P lo ob L ⟨dst, .slice t x (some y) none none, ty, pos, aft, g⟩ tm (str (s.drop i.toNat)) :=
  POp.same fun cx a hi ho => by
    have h1 := rep_v (opr ho (by simp [Op.operands]) hx)
    have h2 := rep_v (opr ho (by simp [Op.operands]) hy)
    have h4 : s.length ≤ LIM := by have := h1.2; simp only [okv, mkS_size] at this; exact this
    refine ⟨_, ?_, mk_v (x := .string ⟨(s.drop i.toNat).toArray⟩) (by simp only [okv, mkS_size, List.length_drop]; omega)⟩
    have := run_slice_string_l (P := P) cx.w t ⟨s.toArray⟩ hu k i h.1 (by rw [mkS_size]; exact h.2)
    have e : cut s i.toNat s.length = s.drop i.toNat := by unfold cut; rw [List.take_of_length_le (by simp)]
    simp [execOp, h1.1, h2.1, run_sliceAt_string, hu, this, mkS_extract, mkS_size, e]
theorem p_ss_h {x z : Operand} {t : TypeId} {k' : IntKind} {s : List UInt8} {j : Int} (hu : P.underlying t = some .string) (hx : Ev tm x (str s)) (hz : Ev tm z (int k' j)) (h : 0 ≤ j ∧ j ≤ s.length) :
    POp P lo ob L ⟨dst, .slice t x none (some z) none, ty, pos, aft, g⟩ tm (str (s.take j.toNat)) :=
  POp.same fun cx a hi ho => by
    have h1 := rep_v (opr ho (by simp [Op.operands]) hx)
    have h3 := rep_v (opr ho (by simp [Op.operands]) hz)
    have h4 : s.length ≤ LIM := by have := h1.2; simp only [okv, mkS_size] at this; exact this
    refine ⟨_, ?_, mk_v (x := .string ⟨(s.take j.toNat).toArray⟩) (by simp only [okv, mkS_size, List.length_take]; omega)⟩
    have := run_slice_string_h (P := P) cx.w t ⟨s.toArray⟩ hu k' j h.1 (by rw [mkS_size]; exact h.2)
    have e : cut s 0 j.toNat = s.take j.toNat := by simp [cut]
    simp [execOp, h1.1, h3.1, run_sliceAt_string, hu, this, mkS_extract, e]

/-! Pieces of slices. -/
theorem elem_of {t e : TypeId} (hu : P.underlying t = some (.slice e)) : P.elem t = e := by simp [Program.elem, hu]

theorem rep_sliced {w S} {sz : Nat} {l : List (List D)} {y : Value} (h : RepD w S (.lst sz l) y) :
    ∃ a len cap, y = .slice a len cap ∧ len = l.length ∧ len ≤ cap ∧ ∀ i j : Nat, i ≤ j → j ≤ l.length → RepD w S (.lst sz ((l.drop i).take (j - i))) (sliced a i j cap sz) := by
  simp only [RepD] at h
  rcases h with ⟨rfl, rfl⟩ | ⟨b, off, c, vs, rfl, h2, h3, h4, h5⟩
  · refine ⟨none, 0, 0, rfl, rfl, Nat.le_refl _, fun i j hij hj => ?_⟩
    simp at hj
    subst hj
    simp at hij
    subst hij
    simp [RepD, sliced]
  · refine ⟨some ⟨b, off, none⟩, l.length, c, rfl, rfl, h2, fun i j hij hj => ?_⟩
    have hlen : ((l.drop i).take (j - i)).length = j - i := by simp; omega
    by_cases hc : c = i
    · have : l.drop i = [] := by apply List.drop_eq_nil_of_le; omega
      simp only [RepD, this, List.take_nil]
      refine .inr ⟨b, off, c - i, [], ?_, by simp, by simp, fun j v hv => by simp at hv, by simp [RepC]⟩
      simp [sliced, hc]; omega
    · simp only [RepD]
      refine .inr ⟨b, off + i * sz, c - i, (vs.drop (i * sz)).take ((j - i) * sz), ?_, by rw [hlen]; omega, by rw [hlen]; omega, (h4.drop _).take _, (h5.drop i).take _⟩
      simp only [sliced, if_neg hc, Option.map_some, addr_add, hlen]

theorem p_sl {x y z : Operand} {t e : TypeId} {k k' : IntKind} {sz : Nat} {l : List (List D)} {i j : Int} (hu : P.underlying t = some (.slice e)) (hs : szOf P e = some sz) (hx : Ev tm x (lst sz l)) (hy : Ev tm y (int k i)) (hz : Ev tm z (int k' j)) (h : 0 ≤ i ∧ i ≤ j ∧ j ≤ l.length) :
    POp P lo ob L ⟨dst, .slice t x (some y) (some z) none, ty, pos, aft, g⟩ tm (lst sz ((l.drop i.toNat).take (j.toNat - i.toNat))) :=
  POp.same fun cx a hi ho => by
    have h1 := opr ho (by simp [Op.operands]) hx
    have h2 := rep_v (opr ho (by simp [Op.operands]) hy)
    have h3 := rep_v (opr ho (by simp [Op.operands]) hz)
    simp only [Rep] at h1
    obtain ⟨ad, len, cap, h4, h5, h6, h7⟩ := rep_sliced h1
    refine ⟨sliced ad i.toNat j.toNat cap sz, ?_, by simp only [Rep]; exact h7 _ _ (by omega) (by omega)⟩
    have := run_slice_lh (P := P) cx.w t ad len cap (by rw [elem_of hu]; exact hu) k k' i j h.1 h.2.1 (by omega)
    simp [execOp, h4, h2.1, h3.1, run_sliceAt_slice, elem_of hu, hu, this, run_sizeOf hs]
theorem p_sl_l {x y : Operand} {t e : TypeId} {k : IntKind} {sz : Nat} {l : List (List D)} {i : Int} (hu : P.underlying t = some (.slice e)) (hs : szOf P e = some sz) (hx : Ev tm x (lst sz l)) (hy : Ev tm y (int k i)) (h : 0 ≤ i ∧ i ≤ l.length) :
    POp P lo ob L ⟨dst, .slice t x (some y) none none, ty, pos, aft, g⟩ tm (lst sz (l.drop i.toNat)) :=
  POp.same fun cx a hi ho => by
    have h1 := opr ho (by simp [Op.operands]) hx
    have h2 := rep_v (opr ho (by simp [Op.operands]) hy)
    simp only [Rep] at h1
    obtain ⟨ad, len, cap, h4, h5, h6, h7⟩ := rep_sliced h1
    refine ⟨sliced ad i.toNat len cap sz, ?_, ?_⟩
    · have := run_slice_l (P := P) cx.w t ad len cap (by rw [elem_of hu]; exact hu) k i h.1 (by omega)
      simp [execOp, h4, h2.1, run_sliceAt_slice, elem_of hu, hu, this, run_sizeOf hs]
    · simp only [Rep]
      have := h7 i.toNat len (by omega) (by omega)
      rwa [List.take_of_length_le (by simp; omega)] at this
theorem p_sl_h {x z : Operand} {t e : TypeId} {k' : IntKind} {sz : Nat} {l : List (List D)} {j : Int} (hu : P.underlying t = some (.slice e)) (hs : szOf P e = some sz) (hx : Ev tm x (lst sz l)) (hz : Ev tm z (int k' j)) (h : 0 ≤ j ∧ j ≤ l.length) :
    POp P lo ob L ⟨dst, .slice t x none (some z) none, ty, pos, aft, g⟩ tm (lst sz (l.take j.toNat)) :=
  POp.same fun cx a hi ho => by
    have h1 := opr ho (by simp [Op.operands]) hx
    have h3 := rep_v (opr ho (by simp [Op.operands]) hz)
    simp only [Rep] at h1
    obtain ⟨ad, len, cap, h4, h5, h6, h7⟩ := rep_sliced h1
    refine ⟨sliced ad 0 j.toNat cap sz, ?_, ?_⟩
    · have := run_slice_h (P := P) cx.w t ad len cap (by rw [elem_of hu]; exact hu) k' j h.1 (by omega)
      simp [execOp, h4, h3.1, run_sliceAt_slice, elem_of hu, hu, this, run_sizeOf hs]
    · simp only [Rep]
      have := h7 0 j.toNat (by omega) (by omega)
      simpa using this

/-! Conversions. -/
def intOf? (P : Program) (t : TypeId) (k : IntKind) : Bool := match P.underlying t with
  | some (.int k') => k == k'
  | _ => false
theorem p_cvw {x : Operand} {s d : TypeId} {k k' : IntKind} {n : Int} (hs : intOf? P s k = true) (hd : intOf? P d k' = true) (hx : Ev tm x (int k n)) :
    POp P lo ob L ⟨dst, .convert s d x, ty, pos, aft, g⟩ tm (int k' (k'.wrap n)) :=
  POp.same fun cx a hi ho => by
    have h1 := rep_v (opr ho (by simp [Op.operands]) hx)
    refine ⟨_, ?_, mk_v (x := .int k' (k'.wrap n)) (wrap_ok _ _)⟩
    unfold intOf? at hs hd
    cases h2 : P.underlying s with
    | none => rw [h2] at hs; cases hs
    | some d2 =>
      cases h3 : P.underlying d with
      | none => rw [h3] at hd; cases hd
      | some d3 =>
        rw [h2] at hs
        rw [h3] at hd
        cases d2 <;> simp at hs
        cases d3 <;> simp at hd
        subst hs; subst hd
        simp [execOp, h1.1, convert, run_under h2, run_under h3, Conv.intToInt]
theorem p_cv {x : Operand} {s d : TypeId} {k k' : IntKind} {n : Int} (hs : intOf? P s k = true) (hd : intOf? P d k' = true) (hx : Ev tm x (int k n)) (hr : k'.min ≤ n ∧ n ≤ k'.max) :
    POp P lo ob L ⟨dst, .convert s d x, ty, pos, aft, g⟩ tm (int k' n) := by
  have := p_cvw (P := P) (lo := lo) (ob := ob) (L := L) (dst := dst) (ty := ty) (pos := pos) (aft := aft) (g := g) hs hd hx
  rwa [wrap_in _ hr] at this
/-- A byte as an int. -/
theorem p_cvb {x : Operand} {s d : TypeId} {n : Int} (hs : intOf? P s .u8 = true) (hd : intOf? P d .i64 = true) (hx : Ev tm x (u8 n)) :
    POp P lo ob L ⟨dst, .convert s d x, ty, pos, aft, g⟩ tm (i64 n) :=
  POp.same fun cx a hi ho => by
    have h1 := rep_v (opr ho (by simp [Op.operands]) hx)
    have h2 : IntKind.i64.min ≤ n ∧ n ≤ IntKind.i64.max := by
      have := h1.2
      simp [okv, IntKind.min, IntKind.max, IntKind.signed, IntKind.bits] at this ⊢
      omega
    obtain ⟨v, hv, hr⟩ : ∃ v, (execOp a.eval ⟨dst, .convert s d x, ty, pos, aft, g⟩).run P cx.w = .ok (.value v) cx.w ∧ Rep cx (i64 n) v := by
      refine ⟨.int .i64 n, ?_, mk_v h2⟩
      unfold intOf? at hs hd
      cases h4 : P.underlying s with
      | none => rw [h4] at hs; cases hs
      | some d2 =>
        cases h3 : P.underlying d with
        | none => rw [h3] at hd; cases hd
        | some d3 =>
          rw [h4] at hs
          rw [h3] at hd
          cases d2 <;> simp at hs
          cases d3 <;> simp at hd
          subst hs; subst hd
          simp [execOp, h1.1, convert, run_under h4, run_under h3, Conv.intToInt, wrap_in _ h2]
    exact ⟨v, hv, hr⟩

/-! A struct out of its parts. -/
def zMatch : Value → D → Bool
  | .slice none 0 0, .lst _ [] => true
  | .int k n, .v (.int k' n') => k == k' && n == n' && inR k n
  | .bool b, .v (.bool c) => b == c
  | .string s, .v (.string u) => s.size == 0 && u.size == 0
  | .nilIface, .v .nilIface => true
  | .nilFunc, .v .nilFunc => true
  | .pointer none, .v (.pointer none) => true
  | .map none, .v (.map none) => true
  | _, _ => false

theorem size0 {s : ByteArray} (h : s.size = 0) : s = ⟨#[]⟩ := by
  ext1
  exact Array.eq_empty_of_size_eq_zero h
theorem zMatch_ok {w S} {v : Value} {d : D} (h : zMatch v d = true) : RepD w S d v := by
  unfold zMatch at h
  split at h
  · simp [RepD]
  · simp at h
    obtain ⟨⟨rfl, rfl⟩, h3⟩ := h
    simp only [RepD, okv, true_and]; exact inR_ok h3
  · simp at h; subst h; simp [RepD, okv]
  · simp only [Bool.and_eq_true, beq_iff_eq] at h
    rw [size0 h.1, size0 h.2]
    simp [RepD, okv, ByteArray.size]
  all_goals first | (simp [RepD, okv]; done) | cases h

def zMatches : List Value → List D → Bool
  | [], [] => true
  | v :: vs, d :: ds => zMatch v d && zMatches vs ds
  | _, _ => false
theorem zMatches_ok {w S} : ∀ {vs : List Value} {ds : List D}, zMatches vs ds = true → RepDs w S ds vs
  | [], [], _ => by simp [RepDs]
  | v :: vs, d :: ds, h => by
    simp only [zMatches, Bool.and_eq_true] at h
    simp only [RepDs]
    exact ⟨v, vs, rfl, zMatch_ok h.1, zMatches_ok h.2⟩
  | [], _ :: _, h => by cases h
  | _ :: _, [], h => by cases h

/-- A struct type: where its fields lie; its zero value's cells. -/
def structOk (P : Program) (t : TypeId) (places : List (Nat × Nat)) (zs : List D) : Bool := match P.info? t, P.underlying t with
  | some it, some (.struct fields) => (fields.toList.mapM (fun f => (P.info? f.type).map fun i => (f.offset, i.size)) == some places) && (match it.zero with | some z => zMatches z.cells.toList zs | none => false)
  | _, _ => false

def fillA (places : List (Nat × Nat)) : List D → List (Nat × PV) → Option (List D)
  | cs, [] => some cs
  | cs, (i, p) :: r => match places[i]? with
    | some (off, size) => cond (p.isC && Nat.beq p.cellsD.length size && Nat.ble (off + size) cs.length) (fillA places (cs.take off ++ p.cellsD ++ cs.drop (off + size)) r) none
    | none => none

def Parts (tm : List (Nat × PV)) : List (Nat × Operand) → List (Nat × PV) → Prop
  | [], ps => ps = []
  | (i, x) :: xs, ps => ∃ p r, ps = (i, p) :: r ∧ Ev tm x p ∧ Parts tm xs r
theorem Parts.nil : Parts tm [] [] := rfl
theorem Parts.cons {i : Nat} {x : Operand} {xs : List (Nat × Operand)} {p : PV} {ps : List (Nat × PV)} (h : Ev tm x p) (k : Parts tm xs ps) : Parts tm ((i, x) :: xs) ((i, p) :: ps) := ⟨p, ps, rfl, h, k⟩

theorem fillA_ok {cx : Cx} {places : List (Nat × Nat)} {ρ : Operand → Value} : ∀ {xs : List (Nat × Operand)} {ps : List (Nat × PV)} {cs ds : List D} {vs : Array Value}, fillA places cs ps = some ds → Parts tm xs ps →
    (∀ x ∈ xs.map (·.2), ∀ p, Ev tm x p → Rep cx p (ρ x)) → RepDs cx.w cx.S cs vs.toList →
    ∃ us, Instr.fill (places.toArray[·]?) vs (xs.map fun (i, x) => (i, ρ x)) = some us ∧ RepDs cx.w cx.S ds us.toList
  | [], ps, cs, ds, vs, hf, hp, _, hr => by
    simp only [Parts] at hp
    subst hp
    simp only [fillA, Option.some.injEq] at hf
    subst hf
    exact ⟨vs, by simp [Instr.fill], hr⟩
  | (i, x) :: xs, ps, cs, ds, vs, hf, hp, ho, hr => by
    simp only [Parts] at hp
    obtain ⟨p, r, rfl, h1, h2⟩ := hp
    simp only [fillA] at hf
    cases hpl : places[i]? with
    | none => rw [hpl] at hf; cases hf
    | some q =>
      obtain ⟨off, size⟩ := q
      rw [hpl] at hf
      simp only at hf
      cases hc : (p.isC && Nat.beq p.cellsD.length size && Nat.ble (off + size) cs.length) with
      | false => rw [hc] at hf; cases hf
      | true =>
        rw [hc] at hf
        simp only [cond_true] at hf
        simp only [Bool.and_eq_true] at hc
        have h3 := ho x (by simp) p h1
        have h4 := rep_cells hc.1.1 h3
        have h5 := Nat.eq_of_beq_eq_true hc.1.2
        have h6 := Nat.le_of_ble_eq_true hc.2
        have h7 := h4.length
        have h8 := hr.length
        obtain ⟨us, h9, h10⟩ := fillA_ok (vs := (vs.toList.take off ++ (ρ x).cells.toList ++ vs.toList.drop (off + size)).toArray) hf h2 (fun y hy p hp => ho y (by simp at hy ⊢; exact .inr hy) p hp)
          (by simp only [List.toList_toArray]; exact (((hr.take off).append h4).append (hr.drop (off + size))))
        refine ⟨us, ?_, h10⟩
        simp only [List.map_cons]
        rw [fill_cons _ _ i (ρ x) _ off size (by simpa using hpl) (by simp at h7; omega) (by simp at h8; omega)]
        exact h9

theorem p_bd {t : TypeId} {places : List (Nat × Nat)} {zs ds : List D} {xs : List (Nat × Operand)} {ps : List (Nat × PV)} (hs : structOk P t places zs = true) (hp : Parts tm xs ps) (hf : fillA places zs ps = some ds) :
    POp P lo ob L ⟨dst, .build t xs.toArray, ty, pos, aft, g⟩ tm (.agg ds) :=
  POp.same fun cx a hi ho => by
    unfold structOk at hs
    cases h1 : P.info? t with
    | none => rw [h1] at hs; cases hs
    | some it =>
      cases h2 : P.underlying t with
      | none => rw [h1, h2] at hs; cases hs
      | some d =>
        rw [h1, h2] at hs
        cases d <;> try (cases hs; done)
        rename_i fields
        simp only [Bool.and_eq_true, beq_iff_eq] at hs
        cases hz : it.zero with
        | none => rw [hz] at hs; cases hs.2
        | some z =>
          rw [hz] at hs
          obtain ⟨us, h3, h4⟩ := fillA_ok (cx := cx) (ρ := a.eval) (vs := z.cells) hf hp (fun x hx p he => opr ho (by simp only [Op.operands, List.toList_toArray]; exact hx) he) (zMatches_ok hs.2)
          refine ⟨.agg us, ?_, by simp only [Rep]; exact ⟨us.toList, by simp, h4⟩⟩
          have := run_build (P := P) cx.w t (xs.toArray.map fun (i, x) => (i, a.eval x)) us (by
            simp only [Program.built, h1, h2, hz, hs.1]
            simpa using h3)
          simp only [execOp, Sem.run_bind, this]
          rfl
end
end Go.Proofs.YtcemejmegbefgaaGreatDoor.Em

set_option linter.unusedVariables false
set_option linter.unusedSimpArgs false
namespace Go.Proofs.YtcemejmegbefgaaGreatDoor.Em
open Go.RowKit

section
variable {P : Program} {lo ob : List (List PV)} {L : List Nat} {tm : List (Nat × PV)}

/-! Operations that turn something, one by one. -/
def AOp (P : Program) (o : Oper) (s : AS) (K : AS → Prop) : Prop :=
  ∀ (cx : Cx) (a : Act), InvS cx s a → o.wp P a cx.w (fun a' w' => ∃ cx' s', cx'.w = w' ∧ Ext cx cx' ∧ InvS cx' s' a' ∧ K s') (fun _ _ _ => False)

def AL (P : Program) (all : List Oper) (i : Nat) (os : List Oper) (s : AS) (Q : Exit → AS → Prop) : Prop :=
  all.drop i = os → ∀ (cx : Cx) (a : Act), InvS cx s a → wpOps P all.toArray (fun e a' w' => ∃ cx' s', cx'.w = w' ∧ Ext cx cx' ∧ InvS cx' s' a' ∧ Q e s') (List.range' i os.length) a cx.w

theorem l_nil {all : List Oper} {i : Nat} {s : AS} {Q} (h : Q .normal s) : AL P all i [] s Q := fun _ cx a hi => ⟨cx, s, rfl, Ext.refl cx, hi, h⟩

theorem drop_cons {all os : List Oper} {i : Nat} {o : Oper} (h : all.drop i = o :: os) : all[i]? = some o ∧ all.drop (i + 1) = os := by
  have hlt : i < all.length := by
    rcases Nat.lt_or_ge i all.length with h' | h'
    · exact h'
    · rw [List.drop_eq_nil_of_le h'] at h; cases h
  have := List.drop_eq_getElem_cons hlt
  rw [h] at this
  injection this with h1 h2
  exact ⟨by rw [List.getElem?_eq_getElem hlt, ← h1], h2.symm⟩

theorem wpOps_mono {ops : Array Oper} {Q Q' : Exit → Act → World → Prop} (h : ∀ e a w, Q e a w → Q' e a w) : ∀ (l : List Nat) (a : Act) (w : World), wpOps P ops Q l a w → wpOps P ops Q' l a w := by
  have lets : LetsOut Q → LetsOut Q' := fun ⟨a, w, hq⟩ => ⟨a, w, h _ _ _ hq⟩
  have upon : ∀ (o : Oper) (a : Act) (w : World) (K K' : Act → World → Prop), (∀ a w, K a w → K' a w) → o.wp P a w K Q → o.wp P a w K' Q' := by
    intro o a w K K' hk hh
    unfold Oper.wp at *
    generalize (execOp a.eval o).run P w = r at *
    cases r with
    | ok n w' =>
      cases n <;> simp only [Oper.upon] at hh ⊢ <;>
        first
          | exact hk _ _ hh
          | exact Calls.mono hh (fun e w'' he => by
              cases e with
              | returned v => exact hk _ _ he
              | panicked c => exact h _ _ _ he
              | outgrown => exact lets he)
          | exact Rows.mono hh (fun _ _ he => hk _ _ he)
    | halt x w' => cases x <;> simp only [Oper.upon] at hh ⊢ <;> first | exact h _ _ _ hh | exact hh
  intro l
  induction l with
  | nil => intro a w hh; exact h _ _ _ hh
  | cons i l ih =>
    intro a w hh
    rw [wpOps_cons] at hh ⊢
    unfold wpOp at *
    split
    · rename_i ho; simp only [ho] at hh; exact ih _ _ hh
    · rename_i o ho
      simp only [ho] at hh
      split
      · rename_i hw
        simp only [hw, if_true] at hh
        rcases hh with hh | ⟨h1, h2⟩
        · exact .inl (upon o a w _ _ ih hh)
        · exact .inr ⟨h1, lets h2⟩
      · rename_i hw; simp only [hw] at hh; exact ih _ _ hh

theorem l_e {all os : List Oper} {i : Nat} {dst : Option Tmp} {op : Op} {ty : TypeId} {pos : String} {aft : Array Edge} {s : AS} {Q} (h : AOp P ⟨dst, op, ty, pos, aft, none⟩ s (fun s' => AL P all (i + 1) os s' Q)) :
    AL P all i (⟨dst, op, ty, pos, aft, none⟩ :: os) s Q := by
  intro hd cx a hi
  obtain ⟨h1, h2⟩ := drop_cons hd
  simp only [List.length_cons, List.range'_succ]
  rw [wpOps_cons]
  unfold wpOp
  simp only [List.getElem?_toArray, h1]
  rw [if_pos (by simp [Region.wanted])]
  refine .inl (wp_monoQ (Oper.wp_mono ?_ (h cx a hi)))
  rintro a' w' ⟨cx', s', rfl, he, hi', hk⟩
  refine wpOps_mono ?_ _ _ _ (hk h2 cx' a' hi')
  rintro e a'' w'' ⟨cx'', s'', rfl, he', hi'', hq⟩
  exact ⟨cx'', s'', rfl, he.trans he', hi'', hq⟩

theorem l_c {all os : List Oper} {i : Nat} {o : Oper} {nt d : Nat} {p : PV} {Q} (hd : o.dst = some d) (hn : Nat.blt d nt = true) (hg : gOk nt all [o] = true) (h : OpOk P lo ob L all o tm p) (k : AL P all (i + 1) os ⟨nt, (d, p) :: tm, lo, ob, L⟩ Q) :
    AL P all i (o :: os) ⟨nt, tm, lo, ob, L⟩ Q := by
  intro hdr cx a hi
  obtain ⟨h1, h2⟩ := drop_cons hdr
  simp only [List.length_cons, List.range'_succ]
  rw [wpOps_cons]
  unfold wpOp
  simp only [List.getElem?_toArray, h1]
  refine h cx a _ _ hi.inv (fun x _ q hq => hi.ev hq) ?_ ?_
  · intro j want t hgd hj q hq
    refine ⟨hi.tm t q hq, ?_⟩
    simp only [gOk, hgd, hj, Bool.and_true] at hg
    have h3 := hi.sz
    simp only at h3
    rw [h3]
    exact Nat.le_of_ble_eq_true hg
  · intro v cx' he hi' hv
    rw [hd]
    refine wpOps_mono ?_ _ _ _ (k h2 cx' _ (hi.put he hi' (Nat.le_of_ble_eq_true hn) hv))
    rintro e a'' w'' ⟨cx'', s'', rfl, he', hi'', hq⟩
    exact ⟨cx'', s'', rfl, he.trans he', hi'', hq⟩

theorem l_o {all os : List Oper} {i : Nat} {op : Op} {ty : TypeId} {pos : String} {aft : Array Edge} {nt d : Nat} {p : PV} {Q} (h : POp P lo ob L ⟨some d, op, ty, pos, aft, none⟩ tm p) (hn : Nat.blt d nt = true) (k : AL P all (i + 1) os ⟨nt, (d, p) :: tm, lo, ob, L⟩ Q) :
    AL P all i (⟨some d, op, ty, pos, aft, none⟩ :: os) ⟨nt, tm, lo, ob, L⟩ Q := l_c rfl hn rfl (.op rfl h) k

theorem a_regl {id : Nat} {all : List Oper} {s : AS} {Q} (h : AL P all 0 all s Q) : AWP P (.region id all.toArray false) s Q := by
  intro cx a hi
  refine wp_region ?_
  rw [List.range_eq_range']
  simpa using h rfl cx a hi

variable {ty : TypeId} {pos : String} {aft : Array Edge} {g : Option (Nat × Bool)}

/-! append -/
def bytesLe (P : Program) (e n : Nat) : Bool := match P.info? e with
  | some i => Nat.ble i.bytes n
  | none => false

theorem repDs_one {w S} : ∀ {ds : List D} {vs : List Value}, RepDs w S ds vs → ∀ u ∈ vs, u.oneCell' = true
  | [], vs, h, u, hu => by simp only [RepDs] at h; subst h; cases hu
  | d :: ds, vs, h, u, hu => by
    simp only [RepDs] at h
    obtain ⟨v, r, rfl, h2, h3⟩ := h
    rcases List.mem_cons.1 hu with rfl | hu
    · cases d with
      | v x => simp only [RepD] at h2; obtain ⟨rfl, h4⟩ := h2; cases u <;> first | rfl | cases h4
      | lst sz l =>
        simp only [RepD] at h2
        rcases h2 with ⟨_, rfl⟩ | ⟨_, _, _, _, rfl, _⟩ <;> rfl
    · exact repDs_one h3 u hu
theorem repC_one {w S sz} : ∀ {l : List (List D)} {vs : List Value}, RepC w S sz l vs → ∀ u ∈ vs, u.oneCell' = true
  | [], vs, h, u, hu => by simp only [RepC] at h; subst h; cases hu
  | e :: es, vs, h, u, hu => by
    simp only [RepC] at h
    obtain ⟨ve, r, rfl, h2, h3, h4⟩ := h
    rcases List.mem_append.1 hu with hu | hu
    · exact repDs_one h3 u hu
    · exact repC_one h4 u hu

theorem look_live {cx : Cx} (hi : Inv cx ob lo L) {k : Nat} (hk : k ∈ L) : k < cx.lv.length := by
  obtain ⟨x, h1, _⟩ := hi.live k hk
  rcases Nat.lt_or_ge k cx.lv.length with h' | h'
  · exact h'
  · rw [List.getElem?_eq_none h'] at h1; cases h1

/-- A new name. -/
theorem Inv.name {cx : Cx} (hi : Inv cx ob lo L) (x : Option (Nat × Nat × Nat × Nat × List D)) (Lr : List Nat) (hL : ∀ j ∈ Lr, j ∈ L)
    (hx : ∀ g s z e ct, x = some (g, s, z, e, ct) → cx.base ≤ g ∧ (∃ cur, cx.w.heap[g]? = some (.cells cur e (0, 0)) ∧ cur.size = z ∧ RepDs cx.w cx.S ct ((cur.toList.drop s).take ct.length)) ∧ g ∉ cx.m ++ cx.n ∧ (∀ o, s ≤ o → ¬ cx.S g o) ∧ ∀ j ∈ Lr, ∀ g' y', cx.lv[j]? = some (some (g', y')) → g ≠ g') :
    Ext cx { cx with lv := cx.lv ++ [x] } ∧ Inv { cx with lv := cx.lv ++ [x] } ob lo (cx.lv.length :: Lr) := by
  have he : Ext cx { cx with lv := cx.lv ++ [x] } := ⟨Below.refl _ _, rfl, Keeps.refl _ _, ⟨[], by simp⟩, ⟨[], by simp⟩, ⟨[x], rfl⟩⟩
  have old : ∀ j ∈ Lr, (cx.lv ++ [x])[j]? = cx.lv[j]? := fun j hj => List.getElem?_append_left (look_live hi (hL j hj))
  have new : (cx.lv ++ [x])[cx.lv.length]? = some x := by simp
  refine ⟨he, hi.sOk, hi.baseLe, hi.gv, ⟨hi.oob.len, ?_⟩, ⟨hi.olo.len, ?_⟩, hi.nd, ?_, ?_⟩
  · intro i b cs hb hc
    obtain ⟨h1, h2, h4, h5⟩ := hi.oob.at_ i b cs hb hc
    exact ⟨h1, h2.tr rfl (fun _ h3 => Reps.ext he _ _ h3), h4, h5⟩
  · intro i b cs hb hc
    obtain ⟨h1, h2, h4, h5⟩ := hi.olo.at_ i b cs hb hc
    exact ⟨h1, h2.tr rfl (fun _ h3 => Reps.ext he _ _ h3), h4, h5⟩
  · intro j hj
    rcases List.mem_cons.1 hj with rfl | hj
    · refine ⟨x, new, fun g s z e ct h => ?_⟩
      obtain ⟨h1, h2, h3, h4, _⟩ := hx g s z e ct h
      exact ⟨h1, h2, h3, h4⟩
    · obtain ⟨y, h1, h2⟩ := hi.live j (hL j hj)
      exact ⟨y, by rw [old j hj]; exact h1, h2⟩
  · intro j hj j' hj' hne g y g' y' h1 h2
    rcases List.mem_cons.1 hj with rfl | hj <;> rcases List.mem_cons.1 hj' with rfl | hj'
    · exact absurd rfl hne
    · simp only at h1 h2
      rw [new] at h1
      rw [old j' hj'] at h2
      obtain ⟨s, z, e, ct⟩ := y
      have := (hx g s z e ct (by simpa using h1)).2.2.2.2
      exact this j' hj' g' y' h2
    · simp only at h1 h2
      rw [old j hj] at h1
      rw [new] at h2
      obtain ⟨s, z, e, ct⟩ := y'
      have := (hx g' s z e ct (by simpa using h2)).2.2.2.2
      exact fun e => this j hj g y h1 e.symm
    · simp only at h1 h2
      rw [old j hj] at h1
      rw [old j' hj'] at h2
      exact hi.ldist j (hL j hj) j' (hL j' hj') hne g y g' y' h1 h2

/-- A nil slice becomes a slice of the call's own. -/
theorem a_acc {c : Code} {nt t : Nat} (e sz : Nat) {Q} (hx : ev tm (.tmp t) = some .nil) (k : ∀ k, k ∉ L → AWP P c ⟨nt, (t, .own e sz [] k) :: tm, lo, ob, k :: L⟩ Q) : AWP P c ⟨nt, tm, lo, ob, L⟩ Q := by
  intro cx a hi
  obtain ⟨he, hi'⟩ := hi.inv.name none L (fun _ h => h) (fun g s z e ct h => by cases h)
  have hk := k cx.lv.length (fun h => Nat.lt_irrefl _ (look_live hi.inv h))
  have hs : InvS { cx with lv := cx.lv ++ [none] } ⟨nt, (t, .own e sz [] cx.lv.length) :: tm, lo, ob, cx.lv.length :: L⟩ a := by
    refine ⟨hi', hi.df, hi.sz, fun u q hq => ?_⟩
    rw [look_cons] at hq
    by_cases e : t = u
    · subst e
      rw [if_pos rfl] at hq
      cases hq
      have := hi.ev hx
      simp only [Rep] at this ⊢
      exact .inl ⟨trivial, this, by simp⟩
    · rw [if_neg e] at hq
      exact (hi.tm u q hq).ext he
  refine wp_mono (hk { cx with lv := cx.lv ++ [none] } a hs) ?_
  rintro e a' w' ⟨cx', s', rfl, he', hi'', hq⟩
  exact ⟨cx', s', rfl, he.trans he', hi'', hq⟩

theorem drewExt (cx : Cx) : Ext cx { cx with w := cx.w.drew } := ⟨(Below.refl _ _).drew, rfl, fun b o h => ⟨h, rfl⟩, ⟨[], by simp⟩, ⟨[], by simp⟩, ⟨[], by simp⟩⟩
theorem Inv.drew {cx : Cx} (hi : Inv cx ob lo L) : Inv { cx with w := cx.w.drew } ob lo L := by
  have e := drewExt cx
  refine ⟨hi.sOk, hi.baseLe, e.gv hi.gv, ⟨hi.oob.len, ?_⟩, ⟨hi.olo.len, ?_⟩, hi.nd, (fun k hk => by
      obtain ⟨x, h1, h2⟩ := hi.live k hk
      exact ⟨x, h1, fun g s z e' ct hx => by
        obtain ⟨h3, ⟨cur, h4, h5, h6⟩, h7, h8⟩ := h2 g s z e' ct hx
        exact ⟨h3, ⟨cur, h4, h5, RepDs.keep e.keeps _ _ h6⟩, h7, h8⟩⟩), hi.ldist⟩
  · intro i b cs hb hc
    obtain ⟨h1, h2, h4, h5⟩ := hi.oob.at_ i b cs hb hc
    exact ⟨h1, h2.tr rfl (fun _ h3 => Reps.ext e _ _ h3), h4, h5⟩
  · intro i b cs hb hc
    obtain ⟨h1, h2, h4, h5⟩ := hi.olo.at_ i b cs hb hc
    exact ⟨h1, h2.tr rfl (fun _ h3 => Reps.ext e _ _ h3), h4, h5⟩

/-- A new block, its first cells stable, the others spare. -/
def Cx.growN (cx : Cx) (c : Array Value) (T : TypeId) (n : Nat) (fr : Nat × Nat := (0, 0)) : Cx :=
  { cx with w := cx.w.alloc (.cells c T fr), S := fun b o => cx.S b o ∨ (b = cx.w.heap.size ∧ o < n) }
theorem Inv.growN {cx : Cx} (hi : Inv cx ob lo L) (c : Array Value) (T : TypeId) (n : Nat) (hn : n ≤ c.size) (fr : Nat × Nat := (0, 0)) : Ext cx (cx.growN c T n fr) ∧ Inv (cx.growN c T n fr) ob lo L := by
  obtain ⟨he, hi'⟩ := hi.grow c T fr
  have he' : Ext cx (cx.growN c T n fr) := by
    refine ⟨he.below, rfl, fun b o hs => ⟨.inl hs, (he.keeps b o hs).2⟩, ⟨[], by simp [Cx.growN]⟩, ⟨[], by simp [Cx.growN]⟩, ⟨[], by simp [Cx.growN]⟩⟩
  have sub : ∀ b o, (cx.growN c T n fr).S b o → (cx.grow c T fr).S b o := by
    rintro b o (h | ⟨h1, h2⟩)
    · exact .inl h
    · exact .inr ⟨h1, by omega⟩
  refine ⟨he', fun b o h => hi'.sOk b o (sub b o h), hi'.baseLe, hi'.gv, ⟨hi.oob.len, ?_⟩, ⟨hi.olo.len, ?_⟩, hi.nd, ?_, hi.ldist⟩
  · intro i b cs hb hc
    obtain ⟨h1, h2, h4, h5⟩ := hi'.oob.at_ i b cs hb hc
    obtain ⟨_, h6, _⟩ := hi.oob.at_ i b cs hb hc
    exact ⟨h1, h6.tr (heap_old h6.lt) (fun _ h3 => Reps.ext he' _ _ h3), fun o h => h4 o (sub b o h), h5⟩
  · intro i b cs hb hc
    obtain ⟨h1, h2, h4, h5⟩ := hi'.olo.at_ i b cs hb hc
    obtain ⟨_, h6, _⟩ := hi.olo.at_ i b cs hb hc
    exact ⟨h1, h6.tr (heap_old h6.lt) (fun _ h3 => Reps.ext he' _ _ h3), fun o h => h4 o (sub b o h), h5⟩
  · intro k hk
    obtain ⟨x, h1, h2⟩ := hi.live k hk
    refine ⟨x, h1, fun g s z e ct hx => ?_⟩
    obtain ⟨h3, ⟨cur, h4, h4', h4''⟩, h5, h6⟩ := h2 g s z e ct hx
    refine ⟨h3, ⟨cur, ?_, h4', RepDs.keep he'.keeps _ _ h4''⟩, h5, ?_⟩
    · show (cx.w.alloc _).heap[g]? = _
      rw [heap_old (heap_lt h4)]; exact h4
    · rintro o ho (hs | ⟨rfl, _⟩)
      · exact h6 o ho hs
      · exact absurd (heap_lt h4) (Nat.lt_irrefl _)

theorem cellAt {w : World} {b o : Nat} {cur : Array Value} {T : TypeId} {fr : Nat × Nat} (h : w.heap[b]? = some (.cells cur T fr)) : w.cell? ⟨b, o, none⟩ = cur.toList[o]? := by
  simp [World.cell?, h]

/-- An element, or some, behind what the call owns. -/
theorem e_app {x y : Operand} {t e d nt sz k : Nat} {l m : List (List D)} {K : AS → Prop} {Lr : List Nat} (hu : P.underlying t = some (.slice e)) (hz : zeroOk P e sz = true) (hsz : Nat.blt 0 sz = true) (hby : bytesLe P e 1024 = true) (hd : Nat.blt d nt = true)
    (hx : ev tm x = some (.own e sz l k)) (hk : k ∈ L) (hy : Ev tm y (lst sz m)) (hlen : l.length + m.length ≤ 4294967296) (hL : ∀ j ∈ Lr, j ∈ L ∧ j ≠ k)
    (hK : ∀ k', k' ∉ L → K ⟨nt, (d, .own e sz (l ++ m) k') :: tm, lo, ob, k' :: Lr⟩) :
    AOp P ⟨some d, .call ⟨.builtin .append, #[x, y], #[t, t]⟩, ty, pos, aft, none⟩ ⟨nt, tm, lo, ob, L⟩ K := by
  intro cx a hi
  have hsz' : 0 < sz := Nat.le_of_ble_eq_true hsz
  have hx' := hi.ev hx
  obtain ⟨qy, hqy, hley⟩ := hy
  have hy' := hley cx _ (hi.ev hqy)
  have hname : cx.lv.length ∉ L := fun h => Nat.lt_irrefl _ (look_live hi.inv h)
  have hrunE : ∀ {v : Value} {w' : World}, (Builtin.append_ #[t, t] ty #[a.eval x, a.eval y]).run P cx.w = .ok v w' →
      (execOp a.eval ⟨some d, .call ⟨.builtin .append, #[x, y], #[t, t]⟩, ty, pos, aft, none⟩).run P cx.w = .ok (.value v) w' := by
    intro v w' h
    simp [execOp, resolve, invoke, builtin, h]
  -- the end, however it went
  have fin : ∀ (cx1 : Cx) (v : Value) (xi : Option (Nat × Nat × Nat × Nat × List D)), Ext cx cx1 → Inv cx1 ob lo Lr → cx1.lv = cx.lv → (Builtin.append_ #[t, t] ty #[a.eval x, a.eval y]).run P cx.w = .ok v cx1.w →
      (∀ g s z e ct, xi = some (g, s, z, e, ct) → cx1.base ≤ g ∧ (∃ cur, cx1.w.heap[g]? = some (.cells cur e (0, 0)) ∧ cur.size = z ∧ RepDs cx1.w cx1.S ct ((cur.toList.drop s).take ct.length)) ∧ g ∉ cx1.m ++ cx1.n ∧ (∀ o, s ≤ o → ¬ cx1.S g o) ∧ ∀ j ∈ Lr, ∀ g' y', cx1.lv[j]? = some (some (g', y')) → g ≠ g') →
      Rep { cx1 with lv := cx1.lv ++ [xi] } (.own e sz (l ++ m) cx.lv.length) v →
      (Oper.wp P ⟨some d, .call ⟨.builtin .append, #[x, y], #[t, t]⟩, ty, pos, aft, none⟩ a cx.w (fun a' w' => ∃ cx' s', cx'.w = w' ∧ Ext cx cx' ∧ InvS cx' s' a' ∧ K s') (fun _ _ _ => False)) := by
    intro cx1 v xi he hi1 hlv hrun hxi hrep
    obtain ⟨he2, hi2⟩ := hi1.name xi Lr (fun _ h => h) hxi
    unfold Oper.wp
    rw [hrunE hrun]
    refine ⟨{ cx1 with lv := cx1.lv ++ [xi] }, ⟨nt, (d, .own e sz (l ++ m) cx.lv.length) :: tm, lo, ob, cx.lv.length :: Lr⟩, rfl, he.trans he2, ?_, hK _ hname⟩
    rw [hlv] at hi2 he2 ⊢
    have h0 : InvS cx ⟨nt, tm, lo, ob, Lr⟩ a := ⟨hi.inv.sub fun j hj => (hL j hj).1, hi.df, hi.sz, hi.tm⟩
    have : InvS { cx1 with lv := cx.lv ++ [xi] } ⟨nt, (d, .own e sz (l ++ m) cx.lv.length) :: tm, lo, ob, Lr⟩ (a.put (some d) v) :=
      h0.put (he.trans he2) (hi2.sub fun j hj => List.mem_cons_of_mem _ hj) (Nat.le_of_ble_eq_true hd) (by rw [hlv] at hrep; exact hrep)
    exact ⟨hi2, this.df, this.sz, this.tm⟩
  unfold zeroOk at hz
  cases hie : P.info? e with
  | none => rw [hie] at hz; cases hz
  | some i =>
    rw [hie] at hz
    simp only at hz
    cases hzz : i.zero with
    | none => rw [hzz] at hz; simp at hz
    | some z =>
      rw [hzz] at hz
      simp only [Bool.and_eq_true, beq_iff_eq] at hz
      obtain ⟨hz1, hz2⟩ := hz
      have hbb : i.bytes ≤ 1024 := by unfold bytesLe at hby; rw [hie] at hby; exact Nat.le_of_ble_eq_true hby
      simp only [Rep, RepD] at hx' hy'
      -- what the call owns
      obtain ⟨xk, hlk, hlive⟩ := hi.inv.live k hk
      have hLr : Inv cx ob lo Lr := hi.inv.sub fun j hj => (hL j hj).1
      have hdist : ∀ g y, cx.lv[k]? = some (some (g, y)) → ∀ j ∈ Lr, ∀ g' y', cx.lv[j]? = some (some (g', y')) → g ≠ g' :=
        fun g y h j hj g' y' h' => hi.inv.ldist k hk j (hL j hj).1 (Ne.symm (hL j hj).2) g y g' y' h h'
      rcases hy' with ⟨rfl, hy0⟩ | ⟨bm, offm, cm, vm, hy1, hy2, hy3, hy4, hy5⟩
      · -- nothing is appended, out of a nil slice
        simp only [List.append_nil] at fin ⊢
        refine fin cx (a.eval x) xk (Ext.refl cx) hLr rfl ?_ ?_ ?_
        · rw [hy0]
          rcases hx' with ⟨_, hx0, _⟩ | ⟨gx, cxx, vx, hx1, hx2, _⟩
          · rw [hx0]; simp [Builtin.append_, run_under hu, sizeOf, typeInfo, program, Sem.run, hie, Builtin.lenOf, Builtin.firstCells]
          · rw [hx1]; simp [Builtin.append_, run_under hu, sizeOf, typeInfo, program, Sem.run, hie, Builtin.lenOf, Builtin.firstCells, hx2, storeCells]
        · intro g s z e' ct hxe
          subst hxe
          obtain ⟨h1, h2, h3, h4⟩ := hlive g s z e' ct rfl
          exact ⟨h1, h2, h3, h4, hdist g _ hlk⟩
        · simp only [Rep]
          rcases hx' with ⟨h1, h2, h3⟩ | ⟨gx, cxx, vx, h1, h2, h2', h3, h4, h5, h6⟩
          · exact .inl ⟨h1, h2, by rw [hlk] at h3; simp; exact Option.some.inj h3⟩
          · exact .inr ⟨gx, cxx, vx, h1, h2, h2', h3, h4, h5, by rw [hlk] at h6; simp; exact Option.some.inj h6⟩
      · have hnews : ∀ (j : Nat) u, vm[j]? = some u → cx.w.cell? ((⟨bm, offm, none⟩ : Addr).add j) = some u := fun j u hu => by rw [addr_add]; exact (hy4 j u hu).1
        have hml : vm.length = m.length * i.size := by rw [hz1]; exact hy5.length
        have hone := repC_one hy5
        have hbytes : (l.length + m.length) * i.bytes ≤ 140737488355328 := by
          have : (l.length + m.length) * i.bytes ≤ 4294967296 * 1024 := Nat.mul_le_mul hlen hbb
          omega
        have hlim : (l ++ m).length ≤ LIM := by simp only [List.length_append, LIM]; omega
        rcases hx' with ⟨rfl, hx0, hx1⟩ | ⟨gx, capx, vx, hx1, hx2, hx2', hx3, hx4, hx5, hx6⟩
        · by_cases hm0 : m.length = 0
          · have : m = [] := List.eq_nil_of_length_eq_zero hm0
            subst this
            refine fin cx (a.eval x) none (Ext.refl cx) hLr rfl ?_ (fun g s z e ct h => by cases h) ?_
            · rw [hx0, hy1]
              have : vm = [] := List.eq_nil_of_length_eq_zero (by simpa using hml)
              simp [Builtin.append_, run_under hu, sizeOf, typeInfo, program, Sem.run, hie, Builtin.lenOf, Builtin.firstCells, loadCells, loadCellsFrom]
            · simp only [Rep]
              exact .inl ⟨by simp, hx0, by simp⟩
          · have hr := run_append_nil (P := P) (w := cx.w) t ty e i z hu hie hzz ⟨bm, offm, none⟩ m.length cm vm hml hnews (by omega) (by omega) (by simp at hbytes; omega)
            obtain ⟨he1, hi1⟩ := hLr.drew.growN (vm.toArray ++ Builtin.zeroCells z.cells (grownCap cx.w m.length 0 e - m.length)) e (m.length * sz) (by simp [hml, hz1])
            have hge := grownCap_ge cx.w m.length 0 e
            have hgl := grownCap_le_maxLen cx.w m.length 0 e (by unfold maxLen; omega)
            have hasz : (vm.toArray ++ Builtin.zeroCells z.cells (grownCap cx.w m.length 0 e - m.length)).size = grownCap cx.w m.length 0 e * sz := by
              simp only [Array.size_append, List.size_toArray, size_zeroCells, hz2, hml, hz1, ← Nat.add_mul]
              congr 1; omega
            refine fin (Cx.growN { cx with w := cx.w.drew } _ e (m.length * sz)) _ (some (cx.w.heap.size, m.length * sz, grownCap cx.w m.length 0 e * sz, e, [])) ((drewExt cx).trans he1) hi1 rfl (by rw [hx0, hy1]; exact hr) ?_ ?_
            · intro g s z' e' ct hxe
              simp only [Option.some.injEq, Prod.mk.injEq] at hxe
              obtain ⟨rfl, rfl, rfl, rfl, rfl⟩ := hxe
              refine ⟨hi.inv.baseLe, ⟨_, heap_alloc_new _ _, hasz, by simp [RepDs]⟩, ?_, ?_, ?_⟩
              · intro hmem
                rcases List.mem_append.1 hmem with h | h
                · obtain ⟨i', hi'⟩ := List.getElem?_of_mem h
                  have hlt : i' < ob.length := by
                    have : cx.m.length = ob.length := hi.inv.oob.len
                    rcases Nat.lt_or_ge i' cx.m.length with h' | h'
                    · omega
                    · simp only [Cx.growN] at hi'; rw [List.getElem?_eq_none h'] at hi'; cases hi'
                  obtain ⟨_, h2, _⟩ := hi.inv.oob.at_ i' _ ob[i'] hi' (List.getElem?_eq_getElem hlt)
                  exact absurd (h2.lt) (Nat.lt_irrefl _)
                · obtain ⟨i', hi'⟩ := List.getElem?_of_mem h
                  have hlt : i' < lo.length := by
                    have : cx.n.length = lo.length := hi.inv.olo.len
                    rcases Nat.lt_or_ge i' cx.n.length with h' | h'
                    · omega
                    · simp only [Cx.growN] at hi'; rw [List.getElem?_eq_none h'] at hi'; cases hi'
                  obtain ⟨_, h2, _⟩ := hi.inv.olo.at_ i' _ lo[i'] hi' (List.getElem?_eq_getElem hlt)
                  exact absurd (h2.lt) (Nat.lt_irrefl _)
              · rintro o ho (h | ⟨_, h⟩)
                · exact absurd (S_lt hi.inv h) (Nat.lt_irrefl _)
                · omega
              · intro j hj g' y' hj' hgg
                obtain ⟨x', h1, h2⟩ := hi.inv.live j (hL j hj).1
                have h3 : cx.lv[j]? = some (some (g', y')) := hj'
                rw [h1] at h3
                obtain ⟨s', z'', e'', ct'⟩ := y'
                obtain ⟨_, ⟨cur, h4, _⟩, _⟩ := h2 g' s' z'' e'' ct' (Option.some.inj h3)
                rw [← hgg] at h4
                exact absurd (heap_lt h4) (Nat.lt_irrefl _)
            · simp only [Rep, List.nil_append]
              refine .inr ⟨cx.w.heap.size, grownCap cx.w m.length 0 e, vm, rfl, hge, hgl, by simpa using hlim, ?_, RepC.keep ((drewExt cx).trans he1).keeps _ _ _ hy5, by simp [Cx.growN]⟩
              intro j v hv
              have hjl : j < vm.length := by
                rcases Nat.lt_or_ge j vm.length with h' | h'
                · exact h'
                · rw [List.getElem?_eq_none h'] at hv; cases hv
              refine ⟨?_, .inr ⟨rfl, by rw [hml, hz1] at hjl; omega⟩⟩
              show ((cx.w.drew).alloc _).cell? ⟨(cx.w.drew).heap.size, 0 + j, none⟩ = some v
              rw [Nat.zero_add, cell_alloc]
              simp only [Array.getElem?_append, List.size_toArray, hjl, if_true, List.getElem?_toArray]
              exact hv
        · -- a row of the call's own
          have hxk : xk = some (gx, l.length * sz, capx * sz, e, []) := by rw [hlk] at hx6; exact Option.some.inj hx6
          subst hxk
          obtain ⟨hb1, ⟨cur, hcur, hcs, _⟩, hgn, hsp⟩ := hlive gx _ _ _ _ rfl
          have hvl : vx.length = l.length * i.size := by rw [hz1]; exact hx5.length
          have htake : cur.toList.take (l.length * sz) = vx := by
            apply List.ext_getElem?
            intro j
            rw [List.getElem?_take]
            by_cases hj : j < l.length * sz
            · rw [if_pos hj]
              have hjl : j < vx.length := by rw [hvl, hz1]; exact hj
              have := (hx4 j vx[j] (List.getElem?_eq_getElem hjl)).1
              rw [Nat.zero_add, cellAt hcur] at this
              rw [this, List.getElem?_eq_getElem hjl]
            · rw [if_neg hj, List.getElem?_eq_none (by rw [hvl, hz1]; omega)]
          have hgm : ∀ i' b', cx.m[i']? = some b' → b' ≠ gx := fun i' b' h e => hgn (List.mem_append_left _ (e ▸ List.mem_of_getElem? h))
          have hgn' : ∀ i' b', cx.n[i']? = some b' → b' ≠ gx := fun i' b' h e => hgn (List.mem_append_right _ (e ▸ List.mem_of_getElem? h))
          by_cases hroom : l.length + m.length ≤ capx
          · have hfit : l.length * i.size + vm.length ≤ cur.size := by rw [hml, hcs, ← hz1, ← Nat.add_mul]; exact Nat.mul_le_mul_right _ hroom
            have hfit' : l.length * sz + vm.length ≤ cur.size := by rw [← hz1]; exact hfit
            have hr := run_append_room (P := P) cx.w t ty e i hu hie gx l.length capx cur hcur ⟨bm, offm, none⟩ m.length cm vm hml hnews hone hroom hfit
            let nw : Array Value := (cur.toList.take (l.length * i.size) ++ vm ++ cur.toList.drop (l.length * i.size + vm.length)).toArray
            have hnsz : nw.size = cur.size := by
              show (cur.toList.take (l.length * i.size) ++ vm ++ cur.toList.drop (l.length * i.size + vm.length)).toArray.size = _
              simp only [List.size_toArray, List.length_append, List.length_take, List.length_drop, Array.length_toList]; omega
            let cx1 : Cx := { cx with w := cx.w.setRow gx nw, S := fun b o => cx.S b o ∨ (b = gx ∧ o < (l.length + m.length) * sz) }
            have hh : (cx.w.setRow gx nw).heap[gx]? = some (.cells nw e (0, 0)) := setRow_heap cx.w gx cur nw e (0, 0) hcur
            have hoth : ∀ b, b ≠ gx → (cx.w.setRow gx nw).heap[b]? = cx.w.heap[b]? := fun b hb => setRow_other cx.w gx b nw hb
            have hpre : ∀ o, o < l.length * sz → nw.toList[o]? = cur.toList[o]? := by
              intro o ho
              show (cur.toList.take (l.length * i.size) ++ vm ++ cur.toList.drop (l.length * i.size + vm.length)).toArray.toList[o]? = _
              simp only [List.toList_toArray, List.append_assoc]
              rw [List.getElem?_append_left (by simp only [List.length_take, Array.length_toList, hz1]; omega), List.getElem?_take, if_pos (by rw [hz1]; exact ho)]
            have hmid : ∀ (j : Nat) u, vm[j]? = some u → nw.toList[l.length * sz + j]? = some u := by
              intro j u hu
              have hjl : j < vm.length := by
                rcases Nat.lt_or_ge j vm.length with h' | h'
                · exact h'
                · rw [List.getElem?_eq_none h'] at hu; cases hu
              have hlt : (cur.toList.take (l.length * i.size)).length = l.length * sz := by simp only [List.length_take, Array.length_toList, hz1]; rw [hz1] at hfit; omega
              show (cur.toList.take (l.length * i.size) ++ vm ++ cur.toList.drop (l.length * i.size + vm.length)).toArray.toList[l.length * sz + j]? = _
              simp only [List.toList_toArray, List.append_assoc]
              rw [List.getElem?_append_right (by omega), hlt, Nat.add_sub_cancel_left, List.getElem?_append_left hjl]
              exact hu
            have hSg : ∀ o, cx.S gx o → o < l.length * sz := fun o ho => by
              rcases Nat.lt_or_ge o (l.length * sz) with h' | h'
              · exact h'
              · exact absurd ho (hsp o h')
            have he1 : Ext cx cx1 := by
              refine ⟨⟨rfl, rfl, rfl, by simp [cx1, World.setRow], fun b hb => hoth b (by omega)⟩, rfl, fun b o hs => ⟨.inl hs, ?_⟩, ⟨[], by simp [cx1]⟩, ⟨[], by simp [cx1]⟩, ⟨[], by simp [cx1]⟩⟩
              by_cases hbg : b = gx
              · subst hbg
                show (cx.w.setRow b nw).cell? _ = _
                rw [cellAt hh, cellAt hcur, hpre o (hSg o hs)]
              · exact World.cell?_of_block (hoth b hbg)
            have hi1 : Inv cx1 ob lo Lr := by
              refine ⟨?_, by simpa [cx1, World.setRow] using hi.inv.baseLe, he1.gv hi.inv.gv, ⟨hi.inv.oob.len, ?_⟩, ⟨hi.inv.olo.len, ?_⟩, hi.inv.nd, ?_, fun j hj j' hj' => hi.inv.ldist j (hL j hj).1 j' (hL j' hj').1⟩
              · rintro b o (hs | ⟨rfl, ho⟩)
                · rw [(he1.keeps b o hs).2]; exact hi.inv.sOk b o hs
                · show ((cx.w.setRow b nw).cell? _).isSome = true
                  rw [cellAt hh]
                  have : o < nw.size := by
                    rw [hnsz, hcs]
                    exact Nat.lt_of_lt_of_le ho (Nat.mul_le_mul_right _ hroom)
                  simp [this]
              · intro i' b' cs hb hc
                obtain ⟨h1, h2, h4, h5⟩ := hi.inv.oob.at_ i' b' cs hb hc
                have hne := hgm i' b' hb
                refine ⟨h1, h2.tr (hoth b' hne) (fun _ h3 => Reps.ext he1 _ _ h3), ?_, h5⟩
                · rintro o (h | ⟨h, _⟩)
                  · exact h4 o h
                  · exact hne h
              · intro i' b' cs hb hc
                obtain ⟨h1, h2, h4, h5⟩ := hi.inv.olo.at_ i' b' cs hb hc
                have hne := hgn' i' b' hb
                refine ⟨h1, h2.tr (hoth b' hne) (fun _ h3 => Reps.ext he1 _ _ h3), ?_, h5⟩
                · rintro o (h | ⟨h, _⟩)
                  · exact h4 o h
                  · exact hne h
              · intro j hj
                obtain ⟨x', h1, h2⟩ := hi.inv.live j (hL j hj).1
                refine ⟨x', h1, fun g s z' e' ct hxe => ?_⟩
                obtain ⟨h3, ⟨cur', h4, h4'⟩, h5, h6⟩ := h2 g s z' e' ct hxe
                have hne : gx ≠ g := hdist gx _ hlk j hj g (s, z', e', ct) (by rw [h1, hxe])
                refine ⟨h3, ⟨cur', ?_, h4'.1, RepDs.keep he1.keeps _ _ h4'.2⟩, h5, ?_⟩
                · show (cx.w.setRow gx nw).heap[g]? = _; rw [hoth g (Ne.symm hne)]; exact h4
                · rintro o ho (h | ⟨h, _⟩)
                  · exact h6 o ho h
                  · exact hne h.symm
            refine fin cx1 _ (some (gx, (l.length + m.length) * sz, capx * sz, e, [])) he1 hi1 rfl (by rw [hx1, hy1]; exact hr) ?_ ?_
            · intro g s z' e' ct hxe
              simp only [Option.some.injEq, Prod.mk.injEq] at hxe
              obtain ⟨rfl, rfl, rfl, rfl, rfl⟩ := hxe
              refine ⟨hb1, ⟨nw, hh, by rw [hnsz, hcs], by simp [RepDs]⟩, hgn, ?_, fun j hj g' y' h' => hdist gx _ hlk j hj g' y' h'⟩
              rintro o ho (h | ⟨_, h⟩)
              · have := hSg o h
                have : l.length * sz ≤ (l.length + m.length) * sz := Nat.mul_le_mul_right _ (by omega)
                omega
              · omega
            · simp only [Rep, List.length_append]
              refine .inr ⟨gx, capx, vx ++ vm, rfl, hroom, hx2', by simpa using hlim, ?_, (RepC.keep he1.keeps _ _ _ hx5).append (RepC.keep he1.keeps _ _ _ hy5), by simp [cx1]⟩
              intro j v hv
              have hvs : vx.length = l.length * sz := by rw [hvl, hz1]
              have hjj : j < (l.length + m.length) * sz := by
                rcases Nat.lt_or_ge j (vx ++ vm).length with h' | h'
                · rw [List.length_append, hvs, hml, hz1, ← Nat.add_mul] at h'; exact h'
                · rw [List.getElem?_eq_none h'] at hv; cases hv
              refine ⟨?_, .inr ⟨rfl, by omega⟩⟩
              show (cx.w.setRow gx nw).cell? _ = _
              rw [cellAt hh, Nat.zero_add]
              by_cases hj : j < l.length * sz
              · rw [hpre j hj]
                rw [List.getElem?_append_left (by omega)] at hv
                rw [← htake, List.getElem?_take, if_pos hj] at hv
                exact hv
              · rw [List.getElem?_append_right (by omega), hvs] at hv
                have := hmid _ v hv
                rwa [show l.length * sz + (j - l.length * sz) = j from by omega] at this
          · have holds : ∀ (j : Nat) u, vx[j]? = some u → cx.w.cell? ((⟨gx, 0, none⟩ : Addr).add j) = some u := fun j u hu => by rw [addr_add]; exact (hx4 j u hu).1
            have hr := run_append_grow (P := P) cx.w t ty e i z hu hie hzz ⟨gx, 0, none⟩ l.length capx vx hvl holds ⟨bm, offm, none⟩ m.length cm vm hml hnews (by omega) (by omega) (growslice_fits (by omega) hbytes)
            have hge := grownCap_ge cx.w (l.length + m.length) capx e
            have hgl := grownCap_le_maxLen cx.w (l.length + m.length) capx e (by unfold maxLen; omega)
            have hasz : (vx.toArray ++ vm.toArray ++ Builtin.zeroCells z.cells (grownCap cx.w (l.length + m.length) capx e - (l.length + m.length))).size = grownCap cx.w (l.length + m.length) capx e * sz := by
              simp only [Array.size_append, List.size_toArray, size_zeroCells, hz2, hml, hvl, hz1, ← Nat.add_mul]
              congr 1; omega
            obtain ⟨he1, hi1⟩ := hLr.drew.growN (vx.toArray ++ vm.toArray ++ Builtin.zeroCells z.cells (grownCap cx.w (l.length + m.length) capx e - (l.length + m.length))) e ((l.length + m.length) * sz) (by
              rw [hasz]; exact Nat.mul_le_mul_right _ hge)
            refine fin (Cx.growN { cx with w := cx.w.drew } _ e ((l.length + m.length) * sz)) _ (some (cx.w.heap.size, (l.length + m.length) * sz, grownCap cx.w (l.length + m.length) capx e * sz, e, [])) ((drewExt cx).trans he1) hi1 rfl (by rw [hx1, hy1]; exact hr) ?_ ?_
            · intro g s z' e' ct hxe
              simp only [Option.some.injEq, Prod.mk.injEq] at hxe
              obtain ⟨rfl, rfl, rfl, rfl, rfl⟩ := hxe
              refine ⟨hi.inv.baseLe, ⟨_, heap_alloc_new _ _, hasz, by simp [RepDs]⟩, ?_, ?_, ?_⟩
              · intro hmem
                rcases List.mem_append.1 hmem with h | h
                · obtain ⟨i', hi'⟩ := List.getElem?_of_mem h
                  have hlt : i' < ob.length := by
                    have : cx.m.length = ob.length := hi.inv.oob.len
                    rcases Nat.lt_or_ge i' cx.m.length with h' | h'
                    · omega
                    · simp only [Cx.growN] at hi'; rw [List.getElem?_eq_none h'] at hi'; cases hi'
                  obtain ⟨_, h2, _⟩ := hi.inv.oob.at_ i' _ ob[i'] hi' (List.getElem?_eq_getElem hlt)
                  exact absurd (h2.lt) (Nat.lt_irrefl _)
                · obtain ⟨i', hi'⟩ := List.getElem?_of_mem h
                  have hlt : i' < lo.length := by
                    have : cx.n.length = lo.length := hi.inv.olo.len
                    rcases Nat.lt_or_ge i' cx.n.length with h' | h'
                    · omega
                    · simp only [Cx.growN] at hi'; rw [List.getElem?_eq_none h'] at hi'; cases hi'
                  obtain ⟨_, h2, _⟩ := hi.inv.olo.at_ i' _ lo[i'] hi' (List.getElem?_eq_getElem hlt)
                  exact absurd (h2.lt) (Nat.lt_irrefl _)
              · rintro o ho (h | ⟨_, h⟩)
                · exact absurd (S_lt hi.inv h) (Nat.lt_irrefl _)
                · omega
              · intro j hj g' y' hj' hgg
                obtain ⟨x', h1, h2⟩ := hi.inv.live j (hL j hj).1
                have h3 : cx.lv[j]? = some (some (g', y')) := hj'
                rw [h1] at h3
                obtain ⟨s', z'', e'', ct'⟩ := y'
                obtain ⟨_, ⟨cur', h4, _⟩, _⟩ := h2 g' s' z'' e'' ct' (Option.some.inj h3)
                rw [← hgg] at h4
                exact absurd (heap_lt h4) (Nat.lt_irrefl _)
            · simp only [Rep, List.length_append]
              have hk1 := ((drewExt cx).trans he1).keeps
              refine .inr ⟨cx.w.heap.size, grownCap cx.w (l.length + m.length) capx e, vx ++ vm, rfl, hge, hgl, by simpa using hlim, ?_, (RepC.keep hk1 _ _ _ hx5).append (RepC.keep hk1 _ _ _ hy5), by simp [Cx.growN]⟩
              intro j v hv
              have hjj : j < (l.length + m.length) * sz := by
                rcases Nat.lt_or_ge j (vx ++ vm).length with h' | h'
                · rw [List.length_append, hvl, hml, hz1, ← Nat.add_mul] at h'; exact h'
                · rw [List.getElem?_eq_none h'] at hv; cases hv
              refine ⟨?_, .inr ⟨rfl, by omega⟩⟩
              show ((cx.w.drew).alloc _).cell? ⟨(cx.w.drew).heap.size, 0 + j, none⟩ = some v
              rw [Nat.zero_add, cell_alloc]
              have : j < (vx.toArray ++ vm.toArray).size := by
                simp only [Array.size_append, List.size_toArray, hvl, hml, hz1, ← Nat.add_mul]; exact hjj
              rw [Array.getElem?_append_left this]
              simpa using hv
end
end Go.Proofs.YtcemejmegbefgaaGreatDoor.Em
