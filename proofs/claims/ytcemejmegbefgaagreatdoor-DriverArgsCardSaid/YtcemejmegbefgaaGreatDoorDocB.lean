/-
  What the merge of three short documents and the decoding of arguments return; each under the hypotheses that it states.
-/
import Derived.Test.YtcemejmegbefgaaGreatDoorDocA
import Derived.Test.YtcemejmegbefgaaGreatDoorLibB
import Derived.Laws.StructEq
set_option maxRecDepth 100000
set_option linter.unusedVariables false
set_option linter.unusedSimpArgs false
namespace Go.Proofs.YtcemejmegbefgaaGreatDoor.Em
open Go.Proofs

/-! Documents' blocks. -/
def eq2 {α : Type} (R : α → α → Bool) : List α → List α → Bool
  | [], [] => true
  | x :: xs, y :: ys => R x y && eq2 R xs ys
  | _, _ => false
theorem eq2_len {α : Type} (R : α → α → Bool) : ∀ (a b : List α), ¬ a.length = b.length → eq2 R a b = false
  | [], [], h => by simp at h
  | [], _ :: _, _ => rfl
  | _ :: _, [], _ => rfl
  | x :: xs, y :: ys, h => by
    rw [eq2, eq2_len R xs ys (by simpa using h), Bool.and_false]
inductive Bl where
  | mk (kind level : Int) (info : List UInt8) (lines : List (List UInt8)) (spans : List Sp) (kids : List Bl)
def Bl.kind : Bl → Int | .mk k _ _ _ _ _ => k
def Bl.level : Bl → Int | .mk _ l _ _ _ _ => l
def Bl.info : Bl → List UInt8 | .mk _ _ i _ _ _ => i
def Bl.lines : Bl → List (List UInt8) | .mk _ _ _ l _ _ => l
def Bl.spans : Bl → List Sp | .mk _ _ _ _ s _ => s
def Bl.kids : Bl → List Bl | .mk _ _ _ _ _ k => k
mutual
def Bl.enc : Bl → List D
  | .mk k l i ls ss ks => [.v (.int .i64 k), .v (.int .i64 l), .v (.string ⟨i.toArray⟩), .lst 1 (encStrs ls), .lst 3 (encs ss), .lst 6 (encBs ks)]
def encBs : List Bl → List (List D)
  | [] => []
  | x :: xs => x.enc :: encBs xs
end
theorem encBs_map : ∀ l, encBs l = l.map Bl.enc
  | [] => by simp [encBs]
  | x :: xs => by simp [encBs, encBs_map xs]
theorem encBs_length (l : List Bl) : (encBs l).length = l.length := by simp [encBs_map]
def encXB (x : Bl) : List D := [.v (.int .i64 x.kind), .v (.int .i64 x.level), .v (.string ⟨x.info.toArray⟩), .lst 1 (encStrs x.lines), .lst 3 (encs x.spans), .lst 6 (encBs x.kids)]
theorem encB_X (x : Bl) : x.enc = encXB x := by cases x; simp [Bl.enc, encXB, Bl.kind, Bl.level, Bl.info, Bl.lines, Bl.spans, Bl.kids]
theorem encBs_get {l : List Bl} {j : Nat} {x : Bl} (h : l[j]? = some x) : (encBs l)[j]? = some (encXB x) := by rw [encBs_map, List.getElem?_map, h, Option.map_some, encB_X]
mutual
def eqSp : Sp → Sp → Bool
  | .mk k s l, y => decide (k = y.kind) && decide (s = y.s) && eqSps l y.kids
def eqSps : List Sp → List Sp → Bool
  | [], [] => true
  | x :: xs, y :: ys => eqSp x y && eqSps xs ys
  | _, _ => false
end
theorem eqSps_2 : ∀ (a b : List Sp), eqSps a b = eq2 eqSp a b
  | [], [] => by simp [eqSps, eq2]
  | [], _ :: _ => by simp [eqSps, eq2]
  | _ :: _, [] => by simp [eqSps, eq2]
  | x :: xs, y :: ys => by simp [eqSps, eq2, eqSps_2 xs ys]
mutual
def eqBl : Bl → Bl → Bool
  | .mk k l i ls ss ks, y => decide (k = y.kind) && decide (l = y.level) && decide (i = y.info) && eq2 (fun s t => decide (s = t)) ls y.lines && eqSps ss y.spans && eqBls ks y.kids
def eqBls : List Bl → List Bl → Bool
  | [], [] => true
  | x :: xs, y :: ys => eqBl x y && eqBls xs ys
  | _, _ => false
end
theorem eqBls_2 : ∀ (a b : List Bl), eqBls a b = eq2 eqBl a b
  | [], [] => by simp [eqBls, eq2]
  | [], _ :: _ => by simp [eqBls, eq2]
  | _ :: _, [] => by simp [eqBls, eq2]
  | x :: xs, y :: ys => by simp [eqBls, eq2, eqBls_2 xs ys]
theorem eqSp_eq (x y : Sp) : eqSp x y = (decide (x.kind = y.kind) && decide (x.s = y.s) && eqSps x.kids y.kids) := by cases x; rw [eqSp]; rfl
theorem eqBl_eq (x y : Bl) : eqBl x y = (decide (x.kind = y.kind) && decide (x.level = y.level) && decide (x.info = y.info) && eq2 (fun s t => decide (s = t)) x.lines y.lines && eqSps x.spans y.spans && eqBls x.kids y.kids) := by
  cases x; rw [eqBl]; rfl

theorem c_EqSp (a b : List Sp) (cb : Nat) (R : Sp → Sp → Bool) (hcb : ∀ x ∈ a, ∀ y ∈ b, Fn Tryz.prog cb [.agg (encX x), .agg (encX y)] (bool (R x y))) : Fn Tryz.prog 226 [lst 3 (encs a), lst 3 (encs b), .fn (.func cb) [] []] (bool (eq2 R a b)) := by
  intro ob L
  refine a_fn Tryz.func226 rfl (by decide) (Nat.le_of_ble_eq_true rfl) ?_
  show AWP _ _ ⟨32, [(0, lst 3 (encs a)), (1, lst 3 (encs b)), (2, .fn (.func cb) [] [])], [], ob, L⟩ _
  refine a_flst (t := 0) (E rfl) fun hA0 => ?_
  refine a_flst (t := 1) (E rfl) fun hA1 => ?_
  refine a_seq ?_
  refine a_reg (o1 (p_as (E rfl)) oz) rfl rfl ?_
  refine a_seq ?_
  refine a_seq ?_
  refine a_reg (o1 (p_mv (E rfl)) (o1 (p_lenl Tryz.underlying22 (E rfl)) (o1 (p_mv (E rfl)) (o1 (p_lenl Tryz.underlying22 (E rfl)) (o1 (p_ne (E rfl) (E rfl)) oz))))) rfl rfl ?_
  refine a_cond (E rfl) (fun h => ?_) (fun h => ?_)
  · refine a_seq ?_
    refine a_reg (o1 (p_as (E rfl)) oz) rfl rfl ?_
    refine a_ret ?_
    refine ⟨_, resA_one rfl (E rfl), rfl, ?_, rfl, fun _ h => h⟩
    rw [eq2_len R a b (by simp [encs_length] at h; omega)]
  · have hl : a.length = b.length := by
      simp [encs_length] at h
      omega
    refine a_skip ?_
    refine a_seq ?_
    refine a_seq ?_
    refine a_reg (o1 (p_mv (E rfl)) (o1 (p_lenl Tryz.underlying22 (E rfl)) (o1 (p_mv (E rfl)) oz))) rfl rfl ?_
    refine a_block ?_
    refine a_loopd (fun j : Nat => j ≤ a.length ∧ eq2 R (a.drop j) (b.drop j) = eq2 R a b) (fun j => a.length - j) (fun j => ⟨32, [(1, lst 3 (encs b)), (2, .fn (.func cb) [] []), (15, lst 3 (encs a)), (16, i64 a.length), (17, i64 j)], [], ob, L⟩) 0 ⟨Nat.zero_le _, rfl⟩ ⟨rfl, rfl, rfl, fun _ h => h, E rfl, E rfl, E rfl, Eq_ rfl (by rw [encs_length]), E rfl, trivial⟩ (fun _ => rfl) fun j hj => ?_
    obtain ⟨hj, hR⟩ := hj
    refine a_seq ?_
    refine a_reg (o1 (p_lss (E rfl) (E rfl)) oz) rfl rfl ?_
    refine a_seq ?_
    refine a_cond (E rfl) (fun h => ?_) (fun h => ?_)
    · have hlt : j < a.length := by simpa using h
      obtain ⟨x, hx⟩ : ∃ x, a[j]? = some x := ⟨a[j], List.getElem?_eq_getElem hlt⟩
      obtain ⟨y, hy⟩ : ∃ y, b[j]? = some y := ⟨b[j]'(by omega), List.getElem?_eq_getElem (by omega)⟩
      rw [drop_get hx, drop_get hy, eq2] at hR
      refine a_skip ?_
      refine a_seq ?_
      refine a_block ?_
      refine a_seq ?_
      refine a_regl ?_
      refine l_o (p_mv (E rfl)) rfl ?_
      refine l_o (p_ia Tryz.underlying22 ty_sz_61 (E rfl) (E rfl) (by omega) (encs_get hx)) rfl ?_
      refine l_o (p_lda ty_ag_61 (E rfl) (Nat.le_of_ble_eq_true rfl)) rfl ?_
      refine l_e (e_alloc ty_zi_61 rfl ?_)
      refine l_o (p_as (E rfl)) rfl ?_
      refine l_e (e_st ty_sz_61 rfl rfl (E rfl) rfl rfl rfl ?_)
      refine l_nil ?_
      refine a_seq ?_
      refine a_regl ?_
      refine l_o (p_mv (E rfl)) rfl ?_
      refine l_o (p_mv (E rfl)) rfl ?_
      refine l_o (p_ia Tryz.underlying22 ty_sz_61 (E rfl) (E rfl) (by omega) (encs_get hy)) rfl ?_
      refine l_o (p_lda ty_ag_61 (E rfl) (Nat.le_of_ble_eq_true rfl)) rfl ?_
      refine l_e (e_alloc ty_zi_61 rfl ?_)
      refine l_e (e_st ty_sz_61 rfl rfl (E rfl) rfl rfl rfl ?_)
      refine l_nil ?_
      refine a_seq ?_
      refine a_reg (o1 (p_mv (E rfl)) (o1 (p_ldla ty_ag_61 (E rfl) rfl (Nat.le_of_ble_eq_true rfl) rfl) (o1 (p_ldla ty_ag_61 (E rfl) rfl (Nat.le_of_ble_eq_true rfl) rfl) (o1 (p_callv (E rfl) (hcb x (List.mem_of_getElem? hx) y (List.mem_of_getElem? hy)) (.cons (E rfl) (.cons (E rfl) .nil)) rfl rfl) (o1 (p_not (E rfl)) oz))))) rfl rfl ?_
      refine a_cond (E rfl) (fun h => ?_) (fun h => ?_)
      · have hxy : R x y = false := by simpa using h
        rw [hxy, Bool.false_and] at hR
        refine a_seq ?_
        refine a_reg (o1 (p_as (E rfl)) oz) rfl rfl ?_
        refine a_ret ?_
        refine ⟨_, resA_one rfl (E rfl), rfl, ?_, rfl, fun _ h => h⟩
        rw [← hR]
      · have hxy : R x y = true := by simpa using h
        rw [hxy, Bool.true_and] at hR
        refine a_skip ?_
        refine a_reg (o1 (p_addf (E rfl) (E rfl) (fun _ _ => (by have := encs_length b; omega))) (o1 (p_mv (E rfl)) oz)) rfl rfl ?_
        exact ⟨j + 1, ⟨hlt, hR⟩, by omega, ⟨rfl, rfl, rfl, fun _ h => h, ⟨E rfl, E rfl, E rfl, E rfl, E rfl, trivial⟩, rfl⟩⟩
    · have hje : j = a.length := by simp at h; omega
      subst hje
      rw [List.drop_length, hl, List.drop_length, eq2] at hR
      refine a_exit ?_
      refine a_seq ?_
      refine a_reg (o1 (p_as (E rfl)) oz) rfl rfl ?_
      refine a_ret ?_
      refine ⟨_, resA_one rfl (E rfl), rfl, ?_, rfl, fun _ h => h⟩
      rw [← hR]

theorem c_EqBl (a b : List Bl) (cb : Nat) (R : Bl → Bl → Bool) (hcb : ∀ x ∈ a, ∀ y ∈ b, Fn Tryz.prog cb [.agg (encXB x), .agg (encXB y)] (bool (R x y))) : Fn Tryz.prog 113 [lst 6 (encBs a), lst 6 (encBs b), .fn (.func cb) [] []] (bool (eq2 R a b)) := by
  intro ob L
  refine a_fn Tryz.func113 rfl (by decide) (Nat.le_of_ble_eq_true rfl) ?_
  show AWP _ _ ⟨32, [(0, lst 6 (encBs a)), (1, lst 6 (encBs b)), (2, .fn (.func cb) [] [])], [], ob, L⟩ _
  refine a_flst (t := 0) (E rfl) fun hA0 => ?_
  refine a_flst (t := 1) (E rfl) fun hA1 => ?_
  refine a_seq ?_
  refine a_reg (o1 (p_as (E rfl)) oz) rfl rfl ?_
  refine a_seq ?_
  refine a_seq ?_
  refine a_reg (o1 (p_mv (E rfl)) (o1 (p_lenl Tryz.underlying114 (E rfl)) (o1 (p_mv (E rfl)) (o1 (p_lenl Tryz.underlying114 (E rfl)) (o1 (p_ne (E rfl) (E rfl)) oz))))) rfl rfl ?_
  refine a_cond (E rfl) (fun h => ?_) (fun h => ?_)
  · refine a_seq ?_
    refine a_reg (o1 (p_as (E rfl)) oz) rfl rfl ?_
    refine a_ret ?_
    refine ⟨_, resA_one rfl (E rfl), rfl, ?_, rfl, fun _ h => h⟩
    rw [eq2_len R a b (by simp [encBs_length] at h; omega)]
  · have hl : a.length = b.length := by
      simp [encBs_length] at h
      omega
    refine a_skip ?_
    refine a_seq ?_
    refine a_seq ?_
    refine a_reg (o1 (p_mv (E rfl)) (o1 (p_lenl Tryz.underlying114 (E rfl)) (o1 (p_mv (E rfl)) oz))) rfl rfl ?_
    refine a_block ?_
    refine a_loopd (fun j : Nat => j ≤ a.length ∧ eq2 R (a.drop j) (b.drop j) = eq2 R a b) (fun j => a.length - j) (fun j => ⟨32, [(1, lst 6 (encBs b)), (2, .fn (.func cb) [] []), (15, lst 6 (encBs a)), (16, i64 a.length), (17, i64 j)], [], ob, L⟩) 0 ⟨Nat.zero_le _, rfl⟩ ⟨rfl, rfl, rfl, fun _ h => h, E rfl, E rfl, E rfl, Eq_ rfl (by rw [encBs_length]), E rfl, trivial⟩ (fun _ => rfl) fun j hj => ?_
    obtain ⟨hj, hR⟩ := hj
    refine a_seq ?_
    refine a_reg (o1 (p_lss (E rfl) (E rfl)) oz) rfl rfl ?_
    refine a_seq ?_
    refine a_cond (E rfl) (fun h => ?_) (fun h => ?_)
    · have hlt : j < a.length := by simpa using h
      obtain ⟨x, hx⟩ : ∃ x, a[j]? = some x := ⟨a[j], List.getElem?_eq_getElem hlt⟩
      obtain ⟨y, hy⟩ : ∃ y, b[j]? = some y := ⟨b[j]'(by omega), List.getElem?_eq_getElem (by omega)⟩
      rw [drop_get hx, drop_get hy, eq2] at hR
      refine a_skip ?_
      refine a_seq ?_
      refine a_block ?_
      refine a_seq ?_
      refine a_regl ?_
      refine l_o (p_mv (E rfl)) rfl ?_
      refine l_o (p_ia Tryz.underlying114 ty_sz_167 (E rfl) (E rfl) (by omega) (encBs_get hx)) rfl ?_
      refine l_o (p_lda ty_ag_167 (E rfl) (Nat.le_of_ble_eq_true rfl)) rfl ?_
      refine l_e (e_alloc ty_zi_167 rfl ?_)
      refine l_o (p_as (E rfl)) rfl ?_
      refine l_e (e_st ty_sz_167 rfl rfl (E rfl) rfl rfl rfl ?_)
      refine l_nil ?_
      refine a_seq ?_
      refine a_regl ?_
      refine l_o (p_mv (E rfl)) rfl ?_
      refine l_o (p_mv (E rfl)) rfl ?_
      refine l_o (p_ia Tryz.underlying114 ty_sz_167 (E rfl) (E rfl) (by omega) (encBs_get hy)) rfl ?_
      refine l_o (p_lda ty_ag_167 (E rfl) (Nat.le_of_ble_eq_true rfl)) rfl ?_
      refine l_e (e_alloc ty_zi_167 rfl ?_)
      refine l_e (e_st ty_sz_167 rfl rfl (E rfl) rfl rfl rfl ?_)
      refine l_nil ?_
      refine a_seq ?_
      refine a_reg (o1 (p_mv (E rfl)) (o1 (p_ldla ty_ag_167 (E rfl) rfl (Nat.le_of_ble_eq_true rfl) rfl) (o1 (p_ldla ty_ag_167 (E rfl) rfl (Nat.le_of_ble_eq_true rfl) rfl) (o1 (p_callv (E rfl) (hcb x (List.mem_of_getElem? hx) y (List.mem_of_getElem? hy)) (.cons (E rfl) (.cons (E rfl) .nil)) rfl rfl) (o1 (p_not (E rfl)) oz))))) rfl rfl ?_
      refine a_cond (E rfl) (fun h => ?_) (fun h => ?_)
      · have hxy : R x y = false := by simpa using h
        rw [hxy, Bool.false_and] at hR
        refine a_seq ?_
        refine a_reg (o1 (p_as (E rfl)) oz) rfl rfl ?_
        refine a_ret ?_
        refine ⟨_, resA_one rfl (E rfl), rfl, ?_, rfl, fun _ h => h⟩
        rw [← hR]
      · have hxy : R x y = true := by simpa using h
        rw [hxy, Bool.true_and] at hR
        refine a_skip ?_
        refine a_reg (o1 (p_addf (E rfl) (E rfl) (fun _ _ => (by have := encBs_length b; omega))) (o1 (p_mv (E rfl)) oz)) rfl rfl ?_
        exact ⟨j + 1, ⟨hlt, hR⟩, by omega, ⟨rfl, rfl, rfl, fun _ h => h, ⟨E rfl, E rfl, E rfl, E rfl, E rfl, trivial⟩, rfl⟩⟩
    · have hje : j = a.length := by simp at h; omega
      subst hje
      rw [List.drop_length, hl, List.drop_length, eq2] at hR
      refine a_exit ?_
      refine a_seq ?_
      refine a_reg (o1 (p_as (E rfl)) oz) rfl rfl ?_
      refine a_ret ?_
      refine ⟨_, resA_one rfl (E rfl), rfl, ?_, rfl, fun _ h => h⟩
      rw [← hR]

theorem c_EqStr (a b : List (List UInt8)) : Fn Tryz.prog 179 [lst 1 (encStrs a), lst 1 (encStrs b)] (bool (eq2 (fun s t => decide (s = t)) a b)) := by
  intro ob L
  refine a_fn Tryz.func179 rfl (by decide) (Nat.le_of_ble_eq_true rfl) ?_
  show AWP _ _ ⟨26, [(0, lst 1 (encStrs a)), (1, lst 1 (encStrs b))], [], ob, L⟩ _
  refine a_flst (t := 0) (E rfl) fun hA0 => ?_
  refine a_flst (t := 1) (E rfl) fun hA1 => ?_
  refine a_seq ?_
  refine a_reg (o1 (p_as (E rfl)) oz) rfl rfl ?_
  refine a_seq ?_
  refine a_seq ?_
  refine a_reg (o1 (p_mv (E rfl)) (o1 (p_lenl Tryz.underlying33 (E rfl)) (o1 (p_mv (E rfl)) (o1 (p_lenl Tryz.underlying33 (E rfl)) (o1 (p_ne (E rfl) (E rfl)) oz))))) rfl rfl ?_
  refine a_cond (E rfl) (fun h => ?_) (fun h => ?_)
  · refine a_seq ?_
    refine a_reg (o1 (p_as (E rfl)) oz) rfl rfl ?_
    refine a_ret ?_
    refine ⟨_, resA_one rfl (E rfl), rfl, ?_, rfl, fun _ h => h⟩
    rw [eq2_len _ a b (by simp [encStrs_length] at h; omega)]
  · have hl : a.length = b.length := by
      simp [encStrs_length] at h
      omega
    refine a_skip ?_
    refine a_seq ?_
    refine a_seq ?_
    refine a_reg (o1 (p_mv (E rfl)) (o1 (p_lenl Tryz.underlying33 (E rfl)) (o1 (p_mv (E rfl)) oz))) rfl rfl ?_
    refine a_block ?_
    refine a_loop (fun j : Nat => j ≤ a.length ∧ eq2 (fun s t => decide (s = t)) (a.drop j) (b.drop j) = eq2 (fun s t => decide (s = t)) a b) (fun j => a.length - j) (fun j => ⟨26, [(0, lst 1 (encStrs a)), (1, lst 1 (encStrs b)), (12, i64 a.length), (13, i64 j)], [], ob, L⟩) 0 ⟨Nat.zero_le _, rfl⟩ ⟨rfl, rfl, rfl, fun _ h => h, E rfl, E rfl, Eq_ rfl (by rw [encStrs_length]), E rfl, trivial⟩ fun j hj => ?_
    obtain ⟨hj, hR⟩ := hj
    refine a_seq ?_
    refine a_reg (o1 (p_lss (E rfl) (E rfl)) oz) rfl rfl ?_
    refine a_seq ?_
    refine a_cond (E rfl) (fun h => ?_) (fun h => ?_)
    · have hlt : j < a.length := by simpa using h
      obtain ⟨x, hx⟩ : ∃ x, a[j]? = some x := ⟨a[j], List.getElem?_eq_getElem hlt⟩
      obtain ⟨y, hy⟩ : ∃ y, b[j]? = some y := ⟨b[j]'(by omega), List.getElem?_eq_getElem (by omega)⟩
      rw [drop_get hx, drop_get hy, eq2] at hR
      refine a_skip ?_
      refine a_seq ?_
      refine a_block ?_
      refine a_seq ?_
      refine a_reg (o1 (p_mv (E rfl)) (o1 (p_as (E rfl)) oz)) rfl rfl ?_
      refine a_seq ?_
      refine a_regd mix (o1 (p_mv (E rfl)) (o1 (p_mv (E rfl)) (o1 (p_ia Tryz.underlying33 ty_sz_9 (E rfl) (E rfl) (by have := encStrs_length a; omega) (mg hx)) (o1 (p_ld ty_na_9 (E rfl)) (o1 (p_mv (E rfl)) (o1 (p_mv (E rfl)) (o1 (p_ia Tryz.underlying33 ty_sz_9 (E rfl) (E rfl) (by have := encStrs_length b; omega) (mg hy)) (o1 (p_ld ty_na_9 (E rfl)) (o1 (p_nes (E rfl) (E rfl)) oz))))))))) rfl rfl (by kernel_rfl) ?_
      refine a_cond (E rfl) (fun h => ?_) (fun h => ?_)
      · have hxy : decide (x = y) = false := by simpa using h
        rw [hxy, Bool.false_and] at hR
        refine a_seq ?_
        refine a_reg (o1 (p_as (E rfl)) oz) rfl rfl ?_
        refine a_ret ?_
        refine ⟨_, resA_one rfl (E rfl), rfl, ?_, rfl, fun _ h => h⟩
        rw [← hR]
      · have hxy : decide (x = y) = true := by simpa using h
        rw [hxy, Bool.true_and] at hR
        refine a_skip ?_
        refine a_reg (o1 (p_addf (E rfl) (E rfl) (fun _ _ => (by have := encStrs_length a; omega))) (o1 (p_mv (E rfl)) oz)) rfl rfl ?_
        exact ⟨j + 1, ⟨hlt, hR⟩, by omega, rfl, rfl, rfl, fun _ h => h, E rfl, E rfl, E rfl, E rfl, trivial⟩
    · have hje : j = a.length := by simp at h; omega
      subst hje
      rw [List.drop_length, hl, List.drop_length, eq2] at hR
      refine a_exit ?_
      refine a_seq ?_
      refine a_reg (o1 (p_as (E rfl)) oz) rfl rfl ?_
      refine a_ret ?_
      refine ⟨_, resA_one rfl (E rfl), rfl, ?_, rfl, fun _ h => h⟩
      rw [← hR]

theorem same_one (x y : Sp) (all : Fn Tryz.prog 180 [lst 3 (encs x.kids), lst 3 (encs y.kids)] (bool (eqSps x.kids y.kids))) : Fn Tryz.prog 227 [.agg (encX x), .agg (encX y)] (bool (eqSp x y)) := by
  intro ob L
  refine a_fn Tryz.func227 rfl (by decide) (Nat.le_of_ble_eq_true rfl) ?_
  show AWP _ _ ⟨24, [(0, .agg (encX x)), (1, .agg (encX y))], [], ob, L⟩ _
  refine a_seq ?_
  refine a_reg (o1 (p_box (E rfl) rfl) (o1 (p_box (E rfl) rfl) (o1 (p_as (E rfl)) oz))) rfl rfl ?_
  refine a_seq ?_
  refine a_reg (o1 (p_fa ty_fo_61_0 (E rfl)) (o1 (p_ld ty_na_3 (E rfl)) (o1 (p_fa ty_fo_61_0 (E rfl)) (o1 (p_ld ty_na_3 (E rfl)) (o1 (p_eq (E rfl) (E rfl)) (o1 (p_mv (E rfl)) (g1 rfl rfl (fun h6 => p_fa ty_fo_61_1 (E rfl)) (g1 rfl rfl (fun h7 => p_ld ty_na_9 (Eo rfl h7)) (g1 rfl rfl (fun h8 => p_fa ty_fo_61_1 (E rfl)) (g1 rfl rfl (fun h9 => p_ld ty_na_9 (Eo rfl h9)) (g1 rfl rfl (fun h10 => p_eqs (Eo rfl h10) (Eo rfl h10)) (o1 (p_and (E rfl) rfl rfl (fun h => bqt h)) (o1 (p_mv (E rfl)) (g1 rfl rfl (fun h13 => p_fa ty_fo_61_2 (E rfl)) (g1 rfl rfl (fun h14 => p_ld ty_na_22 (Eo rfl h14)) (g1 rfl rfl (fun h15 => p_fa ty_fo_61_2 (E rfl)) (g1 rfl rfl (fun h16 => p_ld ty_na_22 (Eo rfl h16)) (g1 rfl rfl (fun h17 => p_call (all) (.cons (Eo rfl h17) (.cons (Eo rfl h17) .nil)) rfl rfl) (o1 (p_and (E rfl) rfl rfl (fun h => bqt h)) (o1 (p_as (E rfl)) oz)))))))))))))))))))) rfl rfl ?_
  refine a_ret ?_
  refine ⟨_, resA_one rfl (E rfl), rfl, ?_, rfl, fun _ h => h⟩
  refine congrArg bool ?_
  rw [eqSp_eq]

theorem same_all (a b : List Sp) (one : ∀ x ∈ a, ∀ y ∈ b, Fn Tryz.prog 227 [.agg (encX x), .agg (encX y)] (bool (eqSp x y))) : Fn Tryz.prog 180 [lst 3 (encs a), lst 3 (encs b)] (bool (eqSps a b)) := by
  intro ob L
  refine a_fn Tryz.func180 rfl (by decide) (Nat.le_of_ble_eq_true rfl) ?_
  show AWP _ _ ⟨8, [(0, lst 3 (encs a)), (1, lst 3 (encs b))], [], ob, L⟩ _
  refine a_flst (t := 0) (E rfl) fun hA0 => ?_
  refine a_flst (t := 1) (E rfl) fun hA1 => ?_
  refine a_seq ?_
  refine a_reg (o1 (p_as (E rfl)) oz) rfl rfl ?_
  refine a_seq ?_
  refine a_reg (o1 (p_mv (E rfl)) (o1 (p_mv (E rfl)) (o1 (p_call (c_EqSp a b 227 eqSp one) (.cons (E rfl) (.cons (E rfl) (.cons (E rfl) .nil))) rfl rfl) (o1 (p_as (E rfl)) oz)))) rfl rfl ?_
  refine a_ret ?_
  refine ⟨_, resA_one rfl (E rfl), rfl, ?_, rfl, fun _ h => h⟩
  rw [eqSps_2]

theorem alike_of (x y : Bl) (sp : ∀ a b, Fn Tryz.prog 180 [lst 3 (encs a), lst 3 (encs b)] (bool (eqSps a b))) (all : Fn Tryz.prog 67 [lst 6 (encBs x.kids), lst 6 (encBs y.kids)] (bool (eqBls x.kids y.kids))) : Fn Tryz.prog 114 [.agg (encXB x), .agg (encXB y)] (bool (eqBl x y)) := by
  intro ob L
  refine a_fn Tryz.func114 rfl (by decide) (Nat.le_of_ble_eq_true rfl) ?_
  show AWP _ _ ⟨45, [(0, .agg (encXB x)), (1, .agg (encXB y))], [], ob, L⟩ _
  refine a_seq ?_
  refine a_reg (o1 (p_box (E rfl) rfl) (o1 (p_box (E rfl) rfl) (o1 (p_as (E rfl)) oz))) rfl rfl ?_
  refine a_seq ?_
  refine a_reg (o1 (p_fa ty_fo_167_0 (E rfl)) (o1 (p_ld ty_na_3 (E rfl)) (o1 (p_fa ty_fo_167_0 (E rfl)) (o1 (p_ld ty_na_3 (E rfl)) (o1 (p_eq (E rfl) (E rfl)) (o1 (p_mv (E rfl)) (g1 rfl rfl (fun h6 => p_fa ty_fo_167_1 (E rfl)) (g1 rfl rfl (fun h7 => p_ld ty_na_3 (Eo rfl h7)) (g1 rfl rfl (fun h8 => p_fa ty_fo_167_1 (E rfl)) (g1 rfl rfl (fun h9 => p_ld ty_na_3 (Eo rfl h9)) (g1 rfl rfl (fun h10 => p_eq (Eo rfl h10) (Eo rfl h10)) (o1 (p_and (E rfl) rfl rfl (fun h => bqt h)) (o1 (p_mv (E rfl)) (g1 rfl rfl (fun h13 => p_fa ty_fo_167_2 (E rfl)) (g1 rfl rfl (fun h14 => p_ld ty_na_9 (Eo rfl h14)) (g1 rfl rfl (fun h15 => p_fa ty_fo_167_2 (E rfl)) (g1 rfl rfl (fun h16 => p_ld ty_na_9 (Eo rfl h16)) (g1 rfl rfl (fun h17 => p_eqs (Eo rfl h17) (Eo rfl h17)) (o1 (p_and (E rfl) rfl rfl (fun h => bqt h)) (o1 (p_mv (E rfl)) (g1 rfl rfl (fun h20 => p_fa ty_fo_167_3 (E rfl)) (g1 rfl rfl (fun h21 => p_ld ty_na_33 (Eo rfl h21)) (g1 rfl rfl (fun h22 => p_fa ty_fo_167_3 (E rfl)) (g1 rfl rfl (fun h23 => p_ld ty_na_33 (Eo rfl h23)) (g1 rfl rfl (fun h24 => p_call (c_EqStr _ _) (.cons (Eo rfl h24) (.cons (Eo rfl h24) .nil)) rfl rfl) (o1 (p_and (E rfl) rfl rfl (fun h => bqt h)) (o1 (p_mv (E rfl)) (g1 rfl rfl (fun h27 => p_fa ty_fo_167_4 (E rfl)) (g1 rfl rfl (fun h28 => p_ld ty_na_22 (Eo rfl h28)) (g1 rfl rfl (fun h29 => p_fa ty_fo_167_4 (E rfl)) (g1 rfl rfl (fun h30 => p_ld ty_na_22 (Eo rfl h30)) (g1 rfl rfl (fun h31 => p_call (sp _ _) (.cons (Eo rfl h31) (.cons (Eo rfl h31) .nil)) rfl rfl) (o1 (p_and (E rfl) rfl rfl (fun h => bqt h)) (o1 (p_mv (E rfl)) (g1 rfl rfl (fun h34 => p_fa ty_fo_167_5 (E rfl)) (g1 rfl rfl (fun h35 => p_ld ty_na_114 (Eo rfl h35)) (g1 rfl rfl (fun h36 => p_fa ty_fo_167_5 (E rfl)) (g1 rfl rfl (fun h37 => p_ld ty_na_114 (Eo rfl h37)) (g1 rfl rfl (fun h38 => p_call (all) (.cons (Eo rfl h38) (.cons (Eo rfl h38) .nil)) rfl rfl) (o1 (p_and (E rfl) rfl rfl (fun h => bqt h)) (o1 (p_as (E rfl)) oz))))))))))))))))))))))))))))))))))))))))) rfl rfl ?_
  refine a_ret ?_
  refine ⟨_, resA_one rfl (E rfl), rfl, ?_, rfl, fun _ h => h⟩
  refine congrArg bool ?_
  rw [eqBl_eq]

theorem sameB_all (a b : List Bl) (one : ∀ x ∈ a, ∀ y ∈ b, Fn Tryz.prog 114 [.agg (encXB x), .agg (encXB y)] (bool (eqBl x y))) : Fn Tryz.prog 67 [lst 6 (encBs a), lst 6 (encBs b)] (bool (eqBls a b)) := by
  intro ob L
  refine a_fn Tryz.func67 rfl (by decide) (Nat.le_of_ble_eq_true rfl) ?_
  show AWP _ _ ⟨8, [(0, lst 6 (encBs a)), (1, lst 6 (encBs b))], [], ob, L⟩ _
  refine a_flst (t := 0) (E rfl) fun hA0 => ?_
  refine a_flst (t := 1) (E rfl) fun hA1 => ?_
  refine a_seq ?_
  refine a_reg (o1 (p_as (E rfl)) oz) rfl rfl ?_
  refine a_seq ?_
  refine a_reg (o1 (p_mv (E rfl)) (o1 (p_mv (E rfl)) (o1 (p_call (c_EqBl a b 114 eqBl one) (.cons (E rfl) (.cons (E rfl) (.cons (E rfl) .nil))) rfl rfl) (o1 (p_as (E rfl)) oz)))) rfl rfl ?_
  refine a_ret ?_
  refine ⟨_, resA_one rfl (E rfl), rfl, ?_, rfl, fun _ h => h⟩
  rw [eqBls_2]


mutual
theorem c_same1 : ∀ (x y : Sp), Fn Tryz.prog 227 [.agg (encX x), .agg (encX y)] (bool (eqSp x y))
  | .mk k s kids, y => same_one (.mk k s kids) y (same_all kids y.kids (fun x hx y' _ => c_same1s kids x hx y'))
theorem c_same1s : ∀ (l : List Sp) (x : Sp), x ∈ l → ∀ y, Fn Tryz.prog 227 [.agg (encX x), .agg (encX y)] (bool (eqSp x y))
  | [], x, hx, y => absurd hx List.not_mem_nil
  | z :: zs, x, hx, y => (List.mem_cons.1 hx).elim (fun e => e ▸ c_same1 z y) (fun h => c_same1s zs x h y)
end
theorem c_span_Same (a b : List Sp) : Fn Tryz.prog 180 [lst 3 (encs a), lst 3 (encs b)] (bool (eqSps a b)) := same_all a b (fun x hx y _ => c_same1 x y)
mutual
theorem c_alike : ∀ (x y : Bl), Fn Tryz.prog 114 [.agg (encXB x), .agg (encXB y)] (bool (eqBl x y))
  | .mk k l i ls ss kids, y => alike_of (.mk k l i ls ss kids) y c_span_Same (sameB_all kids y.kids (fun x hx y' _ => c_alikes kids x hx y'))
theorem c_alikes : ∀ (l : List Bl) (x : Bl), x ∈ l → ∀ y, Fn Tryz.prog 114 [.agg (encXB x), .agg (encXB y)] (bool (eqBl x y))
  | [], x, hx, y => absurd hx List.not_mem_nil
  | z :: zs, x, hx, y => (List.mem_cons.1 hx).elim (fun e => e ▸ c_alike z y) (fun h => c_alikes zs x h y)
end
theorem c_tree_Same (a b : List Bl) : Fn Tryz.prog 67 [lst 6 (encBs a), lst 6 (encBs b)] (bool (eqBls a b)) := sameB_all a b (fun x hx y _ => c_alike x y)

end Go.Proofs.YtcemejmegbefgaaGreatDoor.Em

set_option maxRecDepth 100000
set_option linter.unusedVariables false
set_option linter.unusedSimpArgs false
namespace Go.Proofs.YtcemejmegbefgaaGreatDoor.Em
open Go.Proofs

def docBl (s : List UInt8) : List Bl := [.mk 1 0 [] [] [.mk 1 [s.headD 0] []] []]
theorem take_succ_get {α : Type} {l : List α} {j : Nat} {x : α} (h : l[j]? = some x) : l.take (j + 1) = l.take j ++ [x] := by
  have hj := (List.getElem?_eq_some_iff.1 h).1
  have := (List.getElem?_eq_some_iff.1 h).2
  rw [List.take_succ_eq_append_getElem hj, this]
def encDoc (Dc : List UInt8 → List Bl) (s : List UInt8) : List D := [.v (.string ⟨s.toArray⟩), .lst 6 (encBs (Dc s))]

theorem c_Lines_one (c : UInt8) (hc : c = 97 ∨ c = 98) : Fn Tryz.prog 176 [lst 1 (encStrs [[c]])] (.tup [lst 6 [blk1 c], i64 0]) := by
  intro ob L
  refine a_fn Tryz.func176 rfl (by decide) (Nat.le_of_ble_eq_true rfl) ?_
  show AWP _ _ ⟨10, [(0, lst 1 (encStrs [[c]]))], [], ob, L⟩ _
  refine a_flst (t := 0) (E rfl) fun hA0 => ?_
  refine a_seq ?_
  refine a_reg (o1 (p_as (E rfl)) (o1 (p_as (E rfl)) oz)) rfl rfl ?_
  refine a_seq ?_
  refine a_regl ?_
  refine l_o (p_mv (E rfl)) rfl ?_
  refine l_o (p_bd ty_so_277 (.cons (E rfl) .nil) rfl) rfl ?_
  refine l_e (e_box rfl (E rfl) rfl ?_)
  refine l_e (e_callm (c_parse_reader_all c hc) (.cons (E rfl) .nil) rfl rfl rfl rfl rfl ?_)
  refine l_o (p_ext (E rfl) rfl) rfl ?_
  refine l_o (p_ext (E rfl) rfl) rfl ?_
  refine l_o (p_as (E rfl)) rfl ?_
  refine l_o (p_as (E rfl)) rfl ?_
  refine l_nil ?_
  refine a_ret ?_
  refine ⟨_, resA_two rfl (E rfl) (E rfl), rfl, ?_, rfl, fun _ h => h⟩
  rfl

theorem c_Document_one (c : UInt8) (hc : c = 97 ∨ c = 98) : Fn Tryz.prog 108 [str [c, 10]] (.tup [lst 6 (encBs (docBl [c, 10])), i64 0]) := by
  intro ob L
  refine a_fn Tryz.func108 rfl (by decide) (Nat.le_of_ble_eq_true rfl) ?_
  show AWP _ _ ⟨22, [(0, str [c, 10])], [], ob, L⟩ _
  refine a_fstr (t := 0) (E rfl) fun hA0 => ?_
  refine a_seq ?_
  refine a_reg (o1 (p_as (E rfl)) (o1 (p_as (E rfl)) oz)) rfl rfl ?_
  refine a_seq ?_
  refine a_seq ?_
  refine a_reg (o1 (p_mv (E rfl)) (o1 (p_s2b Tryz.underlying9 Tryz.underlying84 Tryz.underlying5 (E rfl)) (o1 (p_call (c_Check_short [c, 10] (by rcases hc with rfl | rfl <;> decide) (by rcases hc with rfl | rfl <;> decide) (by simp)) (.cons (E rfl) .nil) rfl rfl) (o1 (p_as (E rfl)) oz)))) rfl rfl ?_
  refine a_seq ?_
  refine a_reg (o1 (p_mv (E rfl)) (o1 (p_ne (E rfl) (E rfl)) oz)) rfl rfl ?_
  refine a_cond (E rfl) (fun h => ?_) (fun h => ?_)
  · exfalso; simp at h
  · refine a_skip ?_
    refine a_seq ?_
    refine a_reg (o1 (p_mv (E rfl)) (o1 (p_call (c_Split_one c hc) (.cons (E rfl) .nil) rfl rfl) (o1 (p_mv (E rfl)) (o1 (p_ext (E rfl) rfl) (o1 (p_ext (E rfl) rfl) (o1 (p_as (E rfl)) (o1 (p_as (E rfl)) oz))))))) rfl rfl ?_
    refine a_seq ?_
    refine a_reg (o1 (p_mv (E rfl)) (o1 (p_call (c_Lines_one c hc) (.cons (E rfl) .nil) rfl rfl) (o1 (p_ext (E rfl) rfl) (o1 (p_ext (E rfl) rfl) (o1 (p_as (E rfl)) (o1 (p_as (E rfl)) oz)))))) rfl rfl ?_
    refine a_ret ?_
    refine ⟨_, resA_two rfl (E rfl) (E rfl), rfl, ?_, rfl, fun _ h => h⟩
    rfl

theorem c_driver_documents (l : List (List UInt8)) (hl : l.length ≤ 4294967296) (Dc : List UInt8 → List Bl) (hD : ∀ s ∈ l, Fn Tryz.prog 108 [str s] (.tup [lst 6 (encBs (Dc s)), i64 0])) : Fn Tryz.prog 65 [lst 1 (encStrs l)] (.tup [lst 2 (l.map (encDoc Dc)), bool true]) := by
  intro ob L
  refine a_fn Tryz.func65 rfl (by decide) (Nat.le_of_ble_eq_true rfl) ?_
  show AWP _ _ ⟨30, [(0, lst 1 (encStrs l))], [], ob, L⟩ _
  refine a_flst (t := 0) (E rfl) fun hA0 => ?_
  refine a_seq ?_
  refine a_reg (o1 (p_as (E rfl)) (o1 (p_as (E rfl)) oz)) rfl rfl ?_
  refine a_seq ?_
  refine a_reg (o1 (p_as (E rfl)) oz) rfl rfl ?_
  refine a_seq ?_
  refine a_seq ?_
  refine a_reg (o1 (p_mv (E rfl)) (o1 (p_lenl Tryz.underlying33 (E rfl)) (o1 (p_mv (E rfl)) oz))) rfl rfl ?_
  refine a_block ?_
  refine a_accr (t := 4) 116 2 rfl fun k hk0 => ?_
  refine a_loop (fun p : Nat × Nat => p.1 ≤ l.length ∧ p.2 ∉ L) (fun p => l.length - p.1) (fun p => ⟨30, [(4, .row 116 2 ((l.take p.1).map (encDoc Dc)) p.2), (9, lst 1 (encStrs l)), (10, i64 l.length), (11, i64 p.1)], [], ob, p.2 :: L⟩) (0, k) ⟨Nat.zero_le _, hk0⟩ ⟨rfl, rfl, rfl, fun _ h => h, E rfl, E rfl, Eq_ rfl (by rw [encStrs_length]), E rfl, trivial⟩ fun p hp => ?_
  obtain ⟨j, k⟩ := p
  obtain ⟨hj, hk0⟩ := hp
  simp only at hj hk0
  show AWP _ _ ⟨30, [(4, .row 116 2 ((l.take j).map (encDoc Dc)) k), (9, lst 1 (encStrs l)), (10, i64 l.length), (11, i64 j)], [], ob, k :: L⟩ _
  have hk : k ∈ k :: L := List.mem_cons_self
  refine a_seq ?_
  refine a_reg (o1 (p_lss (E rfl) (E rfl)) oz) rfl rfl ?_
  refine a_seq ?_
  refine a_cond (E rfl) (fun h => ?_) (fun h => ?_)
  · have hlt : j < l.length := by simpa using h
    obtain ⟨x, hx⟩ : ∃ x, l[j]? = some x := ⟨l[j], List.getElem?_eq_getElem hlt⟩
    refine a_skip ?_
    refine a_seq ?_
    refine a_block ?_
    refine a_seq ?_
    refine a_reg (o1 (p_ia Tryz.underlying33 ty_sz_9 (E rfl) (E rfl) (by have := encStrs_length l; omega) (mg hx)) (o1 (p_ld ty_na_9 (E rfl)) (o1 (p_as (E rfl)) oz))) rfl rfl ?_
    refine a_seq ?_
    refine a_reg (o1 (p_mv (E rfl)) (o1 (p_call (hD x (List.mem_of_getElem? hx)) (.cons (E rfl) .nil) rfl rfl) (o1 (p_mv (E rfl)) (o1 (p_ext (E rfl) rfl) (o1 (p_ext (E rfl) rfl) (o1 (p_as (E rfl)) (o1 (p_as (E rfl)) oz))))))) rfl rfl ?_
    refine a_seq ?_
    refine a_seq ?_
    refine a_reg (o1 (p_mv (E rfl)) (o1 (p_ne (E rfl) (E rfl)) oz)) rfl rfl ?_
    refine a_cond (E rfl) (fun h => ?_) (fun h => ?_)
    · exfalso; simp at h
    · refine a_skip ?_
      refine a_regl ?_
      refine l_o (p_mv (E rfl)) rfl ?_
      refine l_o (p_mv (E rfl)) rfl ?_
      refine l_o (p_mv (E rfl)) rfl ?_
      refine l_o (p_bd ty_so_116 (.cons (E rfl) (.cons (E rfl) .nil)) rfl) rfl ?_
      refine l_o (p_bs (xs := [.tmp 25]) (sz := 2) Tryz.underlying110 ty_zo_116 rfl rfl rfl (.cons (E rfl) .nil) rfl rfl rfl) rfl ?_
      refine l_e (e_appr (Lr := L) Tryz.underlying110 ty_zo_116 rfl ty_by_116 rfl rfl hk (E rfl) (by simp; omega) (fun j hj => ⟨List.mem_cons_of_mem _ hj, fun e => hk0 (e ▸ hj)⟩) (fun k' hk' => ?_))
      have hk0 : k' ∉ L := fun h => hk' (List.mem_cons_of_mem _ h)
      refine l_o (p_as (E rfl)) rfl ?_
      refine l_nil ?_
      have hk0 : k' ∉ L := fun h => hk' (List.mem_cons_of_mem _ h)
      refine a_reg (o1 (p_addf (E rfl) (E rfl) (fun _ _ => (by omega))) (o1 (p_mv (E rfl)) oz)) rfl rfl ?_
      exact ⟨(j + 1, k'), ⟨hlt, hk0⟩, by simp only; omega, rfl, rfl, rfl, fun _ h => h, Eq_ rfl (by simp only [take_succ_get hx, List.map_append]; rfl), E rfl, E rfl, E rfl, trivial⟩
  · have hje : j = l.length := by simp at h; omega
    subst hje
    refine a_exit ?_
    refine a_seq ?_
    refine a_reg (o1 (p_mv (E rfl)) (o1 (p_as (E rfl)) (o1 (p_as (E rfl)) oz))) rfl rfl ?_
    refine a_frz (t := 2) (Lr := L) rfl List.mem_cons_self (fun j hj => ⟨List.mem_cons_of_mem _ hj, fun e => hk0 (e ▸ hj)⟩) ?_
    refine a_ret ?_
    refine ⟨_, resA_two rfl (E rfl) (E rfl), rfl, ?_, rfl, fun _ h => h⟩
    rw [List.take_length]


end Go.Proofs.YtcemejmegbefgaaGreatDoor.Em

set_option maxRecDepth 100000
set_option linter.unusedVariables false
set_option linter.unusedSimpArgs false
namespace Go.Proofs.YtcemejmegbefgaaGreatDoor.Em
open Go.Proofs

theorem three_docs : ∀ s ∈ ([[97, 10], [98, 10], [97, 10]] : List (List UInt8)), Fn Tryz.prog 108 [str s] (.tup [lst 6 (encBs (docBl s)), i64 0]) := by
  intro s hs
  simp only [List.mem_cons, List.not_mem_nil, or_false] at hs
  rcases hs with rfl | rfl | rfl
  · exact c_Document_one 97 (.inl rfl)
  · exact c_Document_one 98 (.inr rfl)
  · exact c_Document_one 97 (.inl rfl)

theorem c_Merge_awake  : Fn Tryz.prog 34 [.agg [.v (.int .i64 7), .v (.string ⟨#[]⟩), .v (.string ⟨#[]⟩), .v (.string ⟨#[]⟩)], str [97, 10], str [98, 10], str [97, 10]] (.tup [.agg [.v (.string ⟨[98, 10].toArray⟩), .v (.int .i64 0), .v (.int .i64 1)], i64 0]) := by
  intro ob L
  refine a_fn Tryz.func34 rfl (by decide) (Nat.le_of_ble_eq_true rfl) ?_
  show AWP _ _ ⟨88, [(0, .agg [.v (.int .i64 7), .v (.string ⟨#[]⟩), .v (.string ⟨#[]⟩), .v (.string ⟨#[]⟩)]), (1, str [97, 10]), (2, str [98, 10]), (3, str [97, 10])], [], ob, L⟩ _
  refine a_fstr (t := 1) (E rfl) fun hA1 => ?_
  refine a_fstr (t := 2) (E rfl) fun hA2 => ?_
  refine a_fstr (t := 3) (E rfl) fun hA3 => ?_
  refine a_seq ?_
  refine a_regl ?_
  refine l_o (p_box (E rfl) rfl) rfl ?_
  refine l_e (e_alloc ty_zi_70 rfl ?_)
  refine l_o (p_as (E rfl)) rfl ?_
  refine l_nil ?_
  refine a_seq ?_
  refine a_seq ?_
  refine a_reg (o1 (p_mv (E rfl)) (o1 (p_lens Tryz.underlying9 (E rfl)) (o1 (p_mv (E rfl)) (o1 (p_lens Tryz.underlying9 (E rfl)) (o1 (p_mv (E rfl)) (o1 (p_lens Tryz.underlying9 (E rfl)) (o1 (p_max3 (E rfl) (E rfl) (E rfl)) (o1 (p_gtr (E rfl) (E rfl)) oz)))))))) rfl rfl ?_
  refine a_cond (E rfl) (fun h => ?_) (fun h => ?_)
  · exfalso; simp at h
  · refine a_skip ?_
    refine a_seq ?_
    refine a_reg (o1 (p_mv (E rfl)) (o1 (p_mv (E rfl)) (o1 (p_mv (E rfl)) (o1 (p_bs (xs := [.tmp 27, .tmp 28, .tmp 29]) (sz := 1) Tryz.underlying33 ty_zo_9 rfl rfl rfl (.cons (E rfl) (.cons (E rfl) (.cons (E rfl) .nil))) rfl rfl rfl) (o1 (p_call (c_driver_documents [[97, 10], [98, 10], [97, 10]] (by simp) docBl three_docs) (.cons (E rfl) .nil) rfl rfl) (o1 (p_mv (E rfl)) (o1 (p_ext (E rfl) rfl) (o1 (p_ext (E rfl) rfl) (o1 (p_as (E rfl)) (o1 (p_as (E rfl)) oz)))))))))) rfl rfl ?_
    refine a_seq ?_
    refine a_seq ?_
    refine a_reg (o1 (p_mv (E rfl)) (o1 (p_not (E rfl)) oz)) rfl rfl ?_
    refine a_cond (E rfl) (fun h => ?_) (fun h => ?_)
    · exfalso; simp at h
    · refine a_skip ?_
      refine a_join (T := List (List PV) × Nat × Nat × Nat) (fun t => t.1[0]? = some [.d (.v (.string ⟨#[]⟩)), .d (.v (.int .i64 0)), .d (.v (.int .i64 0))] ∧ t.1[t.2.1]? = some [.d (.v (.string ⟨[97, 10].toArray⟩)), .d (.lst 6 (encBs [.mk 1 0 [] [] [.mk 1 [97] []] []]))] ∧ t.1[t.2.2.1]? = some [.d (.v (.string ⟨[98, 10].toArray⟩)), .d (.lst 6 (encBs [.mk 1 0 [] [] [.mk 1 [98] []] []]))] ∧ t.1[t.2.2.2]? = some [.d (.v (.string ⟨[97, 10].toArray⟩)), .d (.lst 6 (encBs [.mk 1 0 [] [] [.mk 1 [97] []] []]))]) (fun t => ⟨88, [(2, str [98, 10]), (3, str [97, 10]), (8, .loc 0 0), (9, i64 0), (12, .loc t.2.1 0), (13, .loc t.2.2.1 0), (14, .loc t.2.2.2 0)], t.1, ob, L⟩) ?_ (fun t ht => ?_)
      · refine a_regde (fun _ _ _ => True) [9, 10, 11, 12, 13, 14] mix (.free rfl rfl (fun _ _ _ hG => .op rfl (p_mv (E rfl))) (.free rfl rfl (fun _ _ _ hG => .op rfl (p_ia Tryz.underlying110 ty_sz_116 (E rfl) (E rfl) (by simp) (c := [.v (.string ⟨[97, 10].toArray⟩), .lst 6 (encBs [.mk 1 0 [] [] [.mk 1 [97] []] []])]) rfl)) (.free rfl rfl (fun _ _ _ hG => .op rfl (p_lda ty_ag_116 (E rfl) (Nat.le_of_ble_eq_true rfl))) (.free rfl rfl (fun _ _ _ hG => .op rfl (p_mv (E rfl))) (.free rfl rfl (fun _ _ _ hG => .op rfl (p_ia Tryz.underlying110 ty_sz_116 (E rfl) (E rfl) (by simp) (c := [.v (.string ⟨[98, 10].toArray⟩), .lst 6 (encBs [.mk 1 0 [] [] [.mk 1 [98] []] []])]) rfl)) (.free rfl rfl (fun _ _ _ hG => .op rfl (p_lda ty_ag_116 (E rfl) (Nat.le_of_ble_eq_true rfl))) (.free rfl rfl (fun _ _ _ hG => .op rfl (p_mv (E rfl))) (.free rfl rfl (fun _ _ _ hG => .op rfl (p_ia Tryz.underlying110 ty_sz_116 (E rfl) (E rfl) (by simp) (c := [.v (.string ⟨[97, 10].toArray⟩), .lst 6 (encBs [.mk 1 0 [] [] [.mk 1 [97] []] []])]) rfl)) (.free rfl rfl (fun _ _ _ hG => .op rfl (p_lda ty_ag_116 (E rfl) (Nat.le_of_ble_eq_true rfl))) (.chain rfl (.chain rfl (.chain rfl (.chain rfl (.chain rfl (.chain rfl .nil))))))))))))))) rfl rfl (by kernel_rfl) ?_
        refine ch_n [9, 10, 11] trivial (by simp) (by kernel_rfl) (fa_cons ?_ (fa_cons ?_ (fa_cons ?_ fa_nil)))
        · refine nx_e rfl rfl ?_
          refine (e_alloc ty_zi_116 rfl ?_)
          refine ⟨rfl, [_], rfl, rfl, rfl, ?_⟩
          refine ch_n [10, 11] trivial (by simp) (by kernel_rfl) (fa_cons ?_ (fa_cons ?_ fa_nil))
          · refine nx_e rfl rfl ?_
            refine (e_alloc ty_zi_116 rfl ?_)
            refine ⟨rfl, [_], rfl, rfl, rfl, ?_⟩
            refine ch_e trivial rfl (by kernel_rfl) (e_alloc ty_zi_116 rfl ?_)
            refine ⟨rfl, [_], rfl, rfl, rfl, ?_⟩
            refine ch_e trivial rfl (by kernel_rfl) (e_st ty_sz_116 rfl rfl (E rfl) rfl rfl rfl ?_)
            refine ⟨rfl, [], rfl, rfl, rfl, ?_⟩
            refine ch_e trivial rfl (by kernel_rfl) (e_st ty_sz_116 rfl rfl (E rfl) rfl rfl rfl ?_)
            refine ⟨rfl, [], rfl, rfl, rfl, ?_⟩
            refine ch_e trivial rfl (by kernel_rfl) (e_st ty_sz_116 rfl rfl (E rfl) rfl rfl rfl ?_)
            refine ⟨rfl, [], rfl, rfl, rfl, ?_⟩
            refine ch_nil trivial ?_
            exact ⟨(_, 1, 2, 3), ⟨rfl, rfl, rfl, rfl⟩, rfl, rfl, rfl, fun _ h => h, E rfl, E rfl, E rfl, E rfl, E rfl, E rfl, E rfl, trivial⟩
          · refine nx_e rfl rfl ?_
            refine (e_alloc ty_zi_116 rfl ?_)
            refine ⟨rfl, [_], rfl, rfl, rfl, ?_⟩
            refine ch_e trivial rfl (by kernel_rfl) (e_alloc ty_zi_116 rfl ?_)
            refine ⟨rfl, [_], rfl, rfl, rfl, ?_⟩
            refine ch_e trivial rfl (by kernel_rfl) (e_st ty_sz_116 rfl rfl (E rfl) rfl rfl rfl ?_)
            refine ⟨rfl, [], rfl, rfl, rfl, ?_⟩
            refine ch_e trivial rfl (by kernel_rfl) (e_st ty_sz_116 rfl rfl (E rfl) rfl rfl rfl ?_)
            refine ⟨rfl, [], rfl, rfl, rfl, ?_⟩
            refine ch_e trivial rfl (by kernel_rfl) (e_st ty_sz_116 rfl rfl (E rfl) rfl rfl rfl ?_)
            refine ⟨rfl, [], rfl, rfl, rfl, ?_⟩
            refine ch_nil trivial ?_
            exact ⟨(_, 1, 3, 2), ⟨rfl, rfl, rfl, rfl⟩, rfl, rfl, rfl, fun _ h => h, E rfl, E rfl, E rfl, E rfl, E rfl, E rfl, E rfl, trivial⟩
        · refine nx_e rfl rfl ?_
          refine (e_alloc ty_zi_116 rfl ?_)
          refine ⟨rfl, [_], rfl, rfl, rfl, ?_⟩
          refine ch_n [9, 11] trivial (by simp) (by kernel_rfl) (fa_cons ?_ (fa_cons ?_ fa_nil))
          · refine nx_e rfl rfl ?_
            refine (e_alloc ty_zi_116 rfl ?_)
            refine ⟨rfl, [_], rfl, rfl, rfl, ?_⟩
            refine ch_e trivial rfl (by kernel_rfl) (e_alloc ty_zi_116 rfl ?_)
            refine ⟨rfl, [_], rfl, rfl, rfl, ?_⟩
            refine ch_e trivial rfl (by kernel_rfl) (e_st ty_sz_116 rfl rfl (E rfl) rfl rfl rfl ?_)
            refine ⟨rfl, [], rfl, rfl, rfl, ?_⟩
            refine ch_e trivial rfl (by kernel_rfl) (e_st ty_sz_116 rfl rfl (E rfl) rfl rfl rfl ?_)
            refine ⟨rfl, [], rfl, rfl, rfl, ?_⟩
            refine ch_e trivial rfl (by kernel_rfl) (e_st ty_sz_116 rfl rfl (E rfl) rfl rfl rfl ?_)
            refine ⟨rfl, [], rfl, rfl, rfl, ?_⟩
            refine ch_nil trivial ?_
            exact ⟨(_, 2, 1, 3), ⟨rfl, rfl, rfl, rfl⟩, rfl, rfl, rfl, fun _ h => h, E rfl, E rfl, E rfl, E rfl, E rfl, E rfl, E rfl, trivial⟩
          · refine nx_e rfl rfl ?_
            refine (e_alloc ty_zi_116 rfl ?_)
            refine ⟨rfl, [_], rfl, rfl, rfl, ?_⟩
            refine ch_e trivial rfl (by kernel_rfl) (e_alloc ty_zi_116 rfl ?_)
            refine ⟨rfl, [_], rfl, rfl, rfl, ?_⟩
            refine ch_e trivial rfl (by kernel_rfl) (e_st ty_sz_116 rfl rfl (E rfl) rfl rfl rfl ?_)
            refine ⟨rfl, [], rfl, rfl, rfl, ?_⟩
            refine ch_e trivial rfl (by kernel_rfl) (e_st ty_sz_116 rfl rfl (E rfl) rfl rfl rfl ?_)
            refine ⟨rfl, [], rfl, rfl, rfl, ?_⟩
            refine ch_e trivial rfl (by kernel_rfl) (e_st ty_sz_116 rfl rfl (E rfl) rfl rfl rfl ?_)
            refine ⟨rfl, [], rfl, rfl, rfl, ?_⟩
            refine ch_nil trivial ?_
            exact ⟨(_, 3, 1, 2), ⟨rfl, rfl, rfl, rfl⟩, rfl, rfl, rfl, fun _ h => h, E rfl, E rfl, E rfl, E rfl, E rfl, E rfl, E rfl, trivial⟩
        · refine nx_e rfl rfl ?_
          refine (e_alloc ty_zi_116 rfl ?_)
          refine ⟨rfl, [_], rfl, rfl, rfl, ?_⟩
          refine ch_n [9, 10] trivial (by simp) (by kernel_rfl) (fa_cons ?_ (fa_cons ?_ fa_nil))
          · refine nx_e rfl rfl ?_
            refine (e_alloc ty_zi_116 rfl ?_)
            refine ⟨rfl, [_], rfl, rfl, rfl, ?_⟩
            refine ch_e trivial rfl (by kernel_rfl) (e_alloc ty_zi_116 rfl ?_)
            refine ⟨rfl, [_], rfl, rfl, rfl, ?_⟩
            refine ch_e trivial rfl (by kernel_rfl) (e_st ty_sz_116 rfl rfl (E rfl) rfl rfl rfl ?_)
            refine ⟨rfl, [], rfl, rfl, rfl, ?_⟩
            refine ch_e trivial rfl (by kernel_rfl) (e_st ty_sz_116 rfl rfl (E rfl) rfl rfl rfl ?_)
            refine ⟨rfl, [], rfl, rfl, rfl, ?_⟩
            refine ch_e trivial rfl (by kernel_rfl) (e_st ty_sz_116 rfl rfl (E rfl) rfl rfl rfl ?_)
            refine ⟨rfl, [], rfl, rfl, rfl, ?_⟩
            refine ch_nil trivial ?_
            exact ⟨(_, 2, 3, 1), ⟨rfl, rfl, rfl, rfl⟩, rfl, rfl, rfl, fun _ h => h, E rfl, E rfl, E rfl, E rfl, E rfl, E rfl, E rfl, trivial⟩
          · refine nx_e rfl rfl ?_
            refine (e_alloc ty_zi_116 rfl ?_)
            refine ⟨rfl, [_], rfl, rfl, rfl, ?_⟩
            refine ch_e trivial rfl (by kernel_rfl) (e_alloc ty_zi_116 rfl ?_)
            refine ⟨rfl, [_], rfl, rfl, rfl, ?_⟩
            refine ch_e trivial rfl (by kernel_rfl) (e_st ty_sz_116 rfl rfl (E rfl) rfl rfl rfl ?_)
            refine ⟨rfl, [], rfl, rfl, rfl, ?_⟩
            refine ch_e trivial rfl (by kernel_rfl) (e_st ty_sz_116 rfl rfl (E rfl) rfl rfl rfl ?_)
            refine ⟨rfl, [], rfl, rfl, rfl, ?_⟩
            refine ch_e trivial rfl (by kernel_rfl) (e_st ty_sz_116 rfl rfl (E rfl) rfl rfl rfl ?_)
            refine ⟨rfl, [], rfl, rfl, rfl, ?_⟩
            refine ch_nil trivial ?_
            exact ⟨(_, 3, 2, 1), ⟨rfl, rfl, rfl, rfl⟩, rfl, rfl, rfl, fun _ h => h, E rfl, E rfl, E rfl, E rfl, E rfl, E rfl, E rfl, trivial⟩
      · obtain ⟨lo', q1, q2, q3⟩ := t
        obtain ⟨h0, h1, h2, h3⟩ := ht
        simp only at h0 h1 h2 h3
        show AWP _ _ ⟨88, [(2, str [98, 10]), (3, str [97, 10]), (8, .loc 0 0), (9, i64 0), (12, .loc q1 0), (13, .loc q2 0), (14, .loc q3 0)], lo', ob, L⟩ _
        refine a_seq ?_
        refine a_block ?_
        refine a_seq ?_
        refine a_reg (o1 (p_fal ty_fo_116_1 (E rfl)) (o1 (p_ldl ty_na_114 (E rfl) h3 rfl) (o1 (p_fal ty_fo_116_1 (E rfl)) (o1 (p_ldl ty_na_114 (E rfl) h1 rfl) (o1 (p_call (c_tree_Same _ _) (.cons (E rfl) (.cons (E rfl) .nil)) rfl rfl) (o1 (p_mv (E rfl)) (g1 rfl rfl (fun h6 => p_fal ty_fo_116_1 (E rfl)) (g1 rfl rfl (fun h7 => p_ldl ty_na_114 (Eo rfl h7) h3 rfl) (g1 rfl rfl (fun h8 => p_fal ty_fo_116_1 (E rfl)) (g1 rfl rfl (fun h9 => p_ldl ty_na_114 (Eo rfl h9) h2 rfl) (g1 rfl rfl (fun h10 => p_call (c_tree_Same _ _) (.cons (Eo rfl h10) (.cons (Eo rfl h10) .nil)) rfl rfl) (o1 (p_or (E rfl) rfl rfl (fun h => bqf h)) (o1 (p_as (E rfl)) oz))))))))))))) rfl rfl ?_
        refine a_cond (E rfl) (fun h => ?_) (fun h => ?_)
        · refine a_seq ?_
          refine a_regl ?_
          refine l_o (p_mv (E rfl)) rfl ?_
          refine l_o (p_bd ty_so_70 (.cons (E rfl) (.cons (E rfl) .nil)) rfl) rfl ?_
          refine l_e (e_st ty_sz_70 rfl h0 (E rfl) rfl rfl rfl ?_)
          refine l_o (p_as (E rfl)) rfl ?_
          refine l_nil ?_
          refine a_ret ?_
          refine ⟨_, resA_agg1 rfl ty_ag_70 rfl (set_get h0 _) rfl rfl (E rfl), rfl, ?_, rfl, fun _ h => h⟩
          rfl
        · exfalso; revert h; decide


end Go.Proofs.YtcemejmegbefgaaGreatDoor.Em

set_option maxRecDepth 100000
namespace Go.Proofs.YtcemejmegbefgaaGreatDoor.Em
open Go.Proofs Go.RowKit
theorem su37 : Tryz.prog.stoodInHeld 37 = false := by kernel_rfl
theorem su35 : Tryz.prog.stoodInHeld 35 = false := by kernel_rfl
theorem eg37 : Tryz.prog.eqGuardType Tryz.prog.depth 37 = false := by kernel_rfl
theorem na3 : notAgg Tryz.prog 3 = true := by kernel_rfl
theorem na9 : notAgg Tryz.prog 9 = true := by kernel_rfl
theorem ag35 : aggOf Tryz.prog 35 3 = true := by kernel_rfl
theorem sz35 : szOf Tryz.prog 35 = some 3 := by kernel_rfl
theorem fl37 : (Tryz.prog.fieldsOf 37).toList = [⟨ "Size", 3, 0, false, "", "", 0⟩, ⟨ "Sides", 35, 1, false, "", "", 8⟩] := by simp [Program.fieldsOf, Tryz.underlying37]
theorem fl35 : ∃ a b c a' b' c', (Tryz.prog.fieldsOf 35).toList = [⟨ "Ours", 9, 0, false, a, a', 0⟩, ⟨ "Base", 9, 1, false, b, b', 16⟩, ⟨ "Theirs", 9, 2, false, c, c', 32⟩] := by simp [Program.fieldsOf, Tryz.underlying35]
theorem run_eq35 (w : World) (d : Nat) (s1 s2 s3 t1 t2 t3 : ByteArray) : (Op.equalIn (d + 2) 35 (.agg #[.string s1, .string s2, .string s3]) (.agg #[.string t1, .string t2, .string t3])).run Tryz.prog w =
    .ok (s1.toList == t1.toList && (s2.toList == t2.toList && s3.toList == t3.toList)) w := by
  obtain ⟨a, b, c, a', b', c', hf⟩ := fl35
  rw [run_equalIn_struct w (d + 1) 35 _ _ (by simp [Program.fieldsOf, Tryz.underlying35]) su35, hf]
  cases h1 : (s1.toList == t1.toList) <;> cases h2 : (s2.toList == t2.toList) <;> cases h3 : (s3.toList == t3.toList) <;>
    simp [Op.eqFields, part, run_isAgg na9, run_equalIn_string w d 9 _ _ Tryz.underlying9, Result.andThen, h1, h2, h3]
theorem run_eq37 (w : World) (d : Nat) (a a' : Int) (s1 s2 s3 t1 t2 t3 : ByteArray) : (Op.equalIn (d + 3) 37 (.agg #[.int .i64 a, .string s1, .string s2, .string s3]) (.agg #[.int .i64 a', .string t1, .string t2, .string t3])).run Tryz.prog w =
    .ok (a == a' && (s1.toList == t1.toList && (s2.toList == t2.toList && s3.toList == t3.toList))) w := by
  rw [run_equalIn_struct w (d + 2) 37 _ _ (by simp [Program.fieldsOf, Tryz.underlying37]) su37, fl37]
  have h35 := run_eq35 w d s1 s2 s3 t1 t2 t3
  generalize (s1.toList == t1.toList && (s2.toList == t2.toList && s3.toList == t3.toList)) = r at h35 ⊢
  cases h1 : (a == a') <;> cases r <;>
    simp [Op.eqFields, part, run_isAgg na3, run_isAgg' ag35, run_sizeOf sz35, run_equalIn_int w (d + 1) 3 _ _ _ _ Tryz.underlying3, Result.andThen, h1, h35]

section
variable {lo ob : List (List PV)} {L : List Nat} {tm : List (Nat × PV)}
variable {dst : Option Tmp} {ty : TypeId} {pos : String} {aft : Array Edge} {g : Option (Nat × Bool)}
theorem mkS_tl (s t : List UInt8) : ((⟨s.toArray⟩ : ByteArray).toList == (⟨t.toArray⟩ : ByteArray).toList) = decide (s = t) := by
  rw [mkS_toList, mkS_toList, Bool.eq_iff_iff]; simp
/-- Options held against options. -/
theorem p_eqopt {x y : Operand} {t' : TypeId} {a a' : Int} {s1 s2 s3 t1 t2 t3 : List UInt8} (hx : Ev tm x (.agg [.v (.int .i64 a), .v (.string ⟨s1.toArray⟩), .v (.string ⟨s2.toArray⟩), .v (.string ⟨s3.toArray⟩)]))
    (hy : Ev tm y (.agg [.v (.int .i64 a'), .v (.string ⟨t1.toArray⟩), .v (.string ⟨t2.toArray⟩), .v (.string ⟨t3.toArray⟩)])) :
    POp Tryz.prog lo ob L ⟨dst, .binOp .eql 37 x y t', ty, pos, aft, g⟩ tm (bool (decide (a = a') && (decide (s1 = t1) && (decide (s2 = t2) && decide (s3 = t3))))) :=
  POp.same fun cx act hi ho => by
    have h1 := opr ho (by simp [Op.operands]) hx
    have h2 := opr ho (by simp [Op.operands]) hy
    simp only [Rep, RepDs, RepD] at h1 h2
    obtain ⟨vs, hv, _, _, rfl, ⟨rfl, _⟩, _, _, rfl, ⟨rfl, _⟩, _, _, rfl, ⟨rfl, _⟩, _, _, rfl, ⟨rfl, _⟩, rfl⟩ := h1
    obtain ⟨us, hu, _, _, rfl, ⟨rfl, _⟩, _, _, rfl, ⟨rfl, _⟩, _, _, rfl, ⟨rfl, _⟩, _, _, rfl, ⟨rfl, _⟩, rfl⟩ := h2
    have hr := run_eq37 cx.w 9997 a a' ⟨s1.toArray⟩ ⟨s2.toArray⟩ ⟨s3.toArray⟩ ⟨t1.toArray⟩ ⟨t2.toArray⟩ ⟨t3.toArray⟩
    rw [mkS_tl, mkS_tl, mkS_tl] at hr
    refine ⟨_, ?_, mk_v trivial⟩
    have he : (a == a') = decide (a = a') := by rw [Bool.eq_iff_iff]; simp
    rw [← he]
    simp [execOp, hv, hu, run_eqGuard_agg cx.w .eql 37 x y _ _ eg37, run_eql_struct, hr, Result.andThen]
theorem p_eqnil {P : Program} {x : Operand} {c : Value} {t t' : TypeId} (hu : P.underlying t = some (.interface (P.methodsAt t))) (hx : Ev tm x (.d (.v .nilIface))) (hy : Ev tm (.const c) (.d (.v .nilIface))) :
    POp P lo ob L ⟨dst, .binOp .eql t x (.const c) t', ty, pos, aft, g⟩ tm (bool true) :=
  p_bin hx hy trivial fun w => by rw [eqGuard_nil_constR]; simp [run_eql_nil_nil w t hu]
theorem p_nenil {P : Program} {x : Operand} {c : Value} {t t' : TypeId} (hu : P.underlying t = some (.interface (P.methodsAt t))) (hx : Ev tm x (.d (.v .nilIface))) (hy : Ev tm (.const c) (.d (.v .nilIface))) :
    POp P lo ob L ⟨dst, .binOp .neq t x (.const c) t', ty, pos, aft, g⟩ tm (bool false) :=
  p_bin hx hy trivial fun w => by rw [eqGuard_nil_constR]; simp [run_neq_nil_nil w t hu]
end
end Go.Proofs.YtcemejmegbefgaaGreatDoor.Em

set_option maxRecDepth 100000
set_option linter.unusedVariables false
set_option linter.unusedSimpArgs false
namespace Go.Proofs.YtcemejmegbefgaaGreatDoor.Em
open Go.Proofs

/-! The driver's arguments. -/
theorem bff {b : Bool} (h : (b == false) = false) : b = true := by cases b <;> simp_all
def numV (s : List UInt8) : Int := s.foldl (fun n b => n * 10 + ((b.toNat : Int) - 48)) 0
theorem numV_snoc (s : List UInt8) (x : UInt8) : numV (s ++ [x]) = numV s * 10 + ((x.toNat : Int) - 48) := by simp [numV]
def digB (b : UInt8) : Bool := decide (48 ≤ b.toNat ∧ b.toNat ≤ 57)
theorem numV_bd (s : List UInt8) (hd : ∀ b ∈ s, digB b = true) : ∀ j : Nat, j ≤ 4 → j ≤ s.length → 0 ≤ numV (s.take j) ∧ (j = 0 → numV (s.take j) < 1) ∧ (j = 1 → numV (s.take j) < 10) ∧ (j = 2 → numV (s.take j) < 100) ∧ (j = 3 → numV (s.take j) < 1000) ∧ (j = 4 → numV (s.take j) < 10000)
  | 0, _, _ => by simp [numV]
  | j + 1, h4, hl => by
    have ih := numV_bd s hd j (by omega) (by omega)
    have hj : j < s.length := by omega
    rw [List.take_succ_eq_append_getElem hj, numV_snoc]
    have hb := hd _ (List.getElem_mem hj)
    unfold digB at hb
    simp at hb
    omega
theorem dropWhile_nil {f : UInt8 → Bool} : ∀ {l : List UInt8}, l.dropWhile f = [] → ∀ b ∈ l, f b = true
  | [], _, b, hb => absurd hb List.not_mem_nil
  | x :: xs, h, b, hb => by
    rw [List.dropWhile_cons] at h
    split at h
    · rename_i hx
      rcases List.mem_cons.1 hb with rfl | hb
      · exact hx
      · exact dropWhile_nil h b hb
    · cases h
theorem all_dropWhile {f : UInt8 → Bool} : ∀ {l : List UInt8}, (∀ b ∈ l, f b = true) → l.dropWhile f = []
  | [], _ => rfl
  | x :: xs, h => by rw [List.dropWhile_cons, if_pos (h x List.mem_cons_self)]; exact all_dropWhile fun b hb => h b (List.mem_cons_of_mem _ hb)
theorem trimA_nil (c s : List UInt8) : trimA c s = [] ↔ ∀ b ∈ s, inS c b.toNat = true := by
  unfold trimA trimRA trimLA
  constructor
  · intro h b hb
    have h1 := dropWhile_nil h
    have hb' : b ∈ s.reverse := List.mem_reverse.2 hb
    rw [← List.takeWhile_append_dropWhile (p := fun b => inS c b.toNat) (l := s.reverse)] at hb'
    rcases List.mem_append.1 hb' with h2 | h2
    · exact List.all_eq_true.1 (List.all_takeWhile (p := fun b : UInt8 => inS c b.toNat) (l := s.reverse)) b h2
    · exact h1 b (List.mem_reverse.2 h2)
  · intro h
    rw [all_dropWhile (l := s.reverse) fun b hb => h b (List.mem_reverse.1 hb)]
    rfl
theorem dig_in (b : UInt8) : inS [48, 49, 50, 51, 52, 53, 54, 55, 56, 57] b.toNat = digB b := by
  have h : ∀ n : Fin 256, inS [48, 49, 50, 51, 52, 53, 54, 55, 56, 57] n.val = decide (48 ≤ n.val ∧ n.val ≤ 57) := by decide
  exact h ⟨b.toNat, b.toNat_lt⟩
theorem c_cut_eq (x : List UInt8) : Fn Tryz.prog 35 [str x, str [61]] (.tup [str (cutAt x 1 (idxI 61 x)).1, str (cutAt x 1 (idxI 61 x)).2.1, bool (cutAt x 1 (idxI 61 x)).2.2]) := by
  have hcI := idxI_bd 61 x
  exact c_strings_CutI x [61] (idxI 61 x) (c_Index1 x 61) (by rcases hcI with h1 | ⟨rfl, h1⟩ <;> first | (left; exact h1; done) | (simp; omega))
def sizeF (s : List UInt8) : Int × Bool := if s ≠ [] ∧ s.length ≤ 4 ∧ s.all digB = true then (numV s, true) else (0, false)
structure OptS where
  size : Int
  ours : List UInt8
  base : List UInt8
  theirs : List UInt8
abbrev OP (o : OptS) : List PV := [i64 o.size, str o.ours, str o.base, str o.theirs]
def OD (o : OptS) : List D := [.v (.int .i64 o.size), .v (.string ⟨o.ours.toArray⟩), .v (.string ⟨o.base.toArray⟩), .v (.string ⟨o.theirs.toArray⟩)]
def o0 : OptS := ⟨0, [], [], []⟩
def o7 : OptS := ⟨7, [], [], []⟩
def setO (o : OptS) (n v : List UInt8) : OptS × Bool :=
  if n = [115, 105, 122, 101] then ({ o with size := (sizeF v).1 }, (sizeF v).2 && !crlf v)
  else if n = [111, 117, 114, 115] then ({ o with ours := v }, true && !crlf v)
  else if n = [98, 97, 115, 101] then ({ o with base := v }, true && !crlf v)
  else if n = [116, 104, 101, 105, 114, 115] then ({ o with theirs := v }, true && !crlf v)
  else (o, false && !crlf v)
def decG : List (List UInt8) → OptS → List (List UInt8 × Bool) → OptS × Int
  | [], o, _ => (o, 0)
  | x :: r, o, seen => if (((!(cutAt x 1 (idxI 61 x)).2.2) || (mget seen (cutAt x 1 (idxI 61 x)).1).getD false) || !(setO o (cutAt x 1 (idxI 61 x)).1 (cutAt x 1 (idxI 61 x)).2.1).2) = true then (o0, 1) else decG r (setO o (cutAt x 1 (idxI 61 x)).1 (cutAt x 1 (idxI 61 x)).2.1).1 (mput seen (cutAt x 1 (idxI 61 x)).1 true)

theorem c_iAtoi (s : List UInt8) (hd : ∀ b ∈ s, digB b = true) (h1 : 1 ≤ s.length) (h4 : s.length ≤ 4) : Fn Tryz.prog 191 [str s] (.tup [i64 (numV s), .d (.v .nilIface)]) := by
  intro ob L
  refine a_fn Tryz.func191 rfl (by decide) (Nat.le_of_ble_eq_true rfl) ?_
  show AWP _ _ ⟨77, [(0, str s)], [], ob, L⟩ _
  refine a_fstr (t := 0) (E rfl) fun hA0 => ?_
  have hb0 : 48 ≤ bt s 0 ∧ bt s 0 ≤ 57 := by
    cases s with
    | nil => simp at h1
    | cons x r => have := hd x List.mem_cons_self; unfold digB at this; simp at this; simp [bt]; omega
  refine a_seq ?_
  refine a_reg (o1 (p_as (E rfl)) (o1 (p_as (E rfl)) oz)) rfl rfl ?_
  refine a_seq ?_
  refine a_reg (o1 (p_mv (E rfl)) (o1 (p_lens Tryz.underlying9 (E rfl)) (o1 (p_as (E rfl)) oz))) rfl rfl ?_
  refine a_seq ?_
  refine a_seq ?_
  refine a_reg (o1 (p_mv (E rfl)) (g1 rfl rfl (fun h1 => p_mv (E rfl)) (g1 rfl rfl (fun h2 => p_lss (E rfl) (Eo rfl h2)) (g1 rfl rfl (fun h3 => p_mv (Eo rfl h3)) (g2 rfl rfl (fun h4 => p_mv (E rfl)) (g2 rfl rfl (fun h5 => p_lss (Eo rfl h5) (E rfl)) (g1 rfl rfl (fun h6 => p_and (Eo rfl h6) rfl rfl (fun h => ai h6 (bqt h))) (o1 (p_and (E rfl) rfl rfl (fun h => bqt h)) (o1 (p_mv (E rfl)) (g1 rfl rfl (fun h9 => p_mv (E rfl)) (g2 rfl rfl (fun h10 => p_mv (E rfl)) (g2 rfl rfl (fun h11 => p_lss (E rfl) (Eo rfl h11)) (g2 rfl rfl (fun h12 => p_mv (Eo rfl h12)) (g2 rfl rfl (fun h13 => p_mv (E rfl)) (g2 rfl rfl (fun h14 => p_lss (Eo rfl h14) (E rfl)) (g2 rfl rfl (fun h15 => p_and (Eo rfl h15) rfl rfl (fun h => ai h15 (bqt h))) (g1 rfl rfl (fun h16 => p_and (Eo rfl h16) rfl rfl (fun h => ai h16 (bqt h))) (o1 (p_or (E rfl) rfl rfl (fun h => bqf h)) oz)))))))))))))))))) rfl rfl ?_
  refine a_cond (E rfl) (fun h => ?_) (fun h => ?_)
  · refine a_seq ?_
    refine a_reg (o1 (p_mv (E rfl)) (o1 (p_as (E rfl)) oz)) rfl rfl ?_
    refine a_seq ?_
    refine a_seq ?_
    refine a_reg (o1 (p_mv (E rfl)) (o1 (p_idx Tryz.underlying9 (E rfl) (E rfl) (by omega)) (o1 (p_eq (E rfl) (E rfl)) (o1 (p_mv (E rfl)) (g1 rfl rfl (fun h4 => p_mv (E rfl)) (g1 rfl rfl (fun h5 => p_idx Tryz.underlying9 (Eo rfl h5) (E rfl) (by omega)) (g1 rfl rfl (fun h6 => p_eq (Eo rfl h6) (E rfl)) (o1 (p_or (E rfl) rfl rfl (fun h => bqf h)) oz)))))))) rfl rfl ?_
    refine a_cond (E rfl) (fun h => ?_) (fun h => ?_)
    · exfalso; simp at h; omega
    · refine a_skip ?_
      refine a_seq ?_
      refine a_reg (o1 (p_as (E rfl)) oz) rfl rfl ?_
      refine a_seq ?_
      refine a_seq ?_
      refine a_reg (o1 (p_mv (E rfl)) (o1 (p_s2b Tryz.underlying9 Tryz.underlying84 Tryz.underlying5 (E rfl)) (o1 (p_lenl Tryz.underlying84 (E rfl)) (o1 (p_mv (E rfl)) oz)))) rfl rfl ?_
      refine a_block ?_
      refine a_loop (fun j : Nat => j ≤ s.length) (fun j => s.length - j) (fun j => ⟨77, [(5, str s), (6, i64 (numV (s.take j))), (47, lst 1 (bs s)), (48, i64 s.length), (49, i64 j)], [], ob, L⟩) 0 (Nat.zero_le _) ⟨rfl, rfl, rfl, fun _ h => h, E rfl, E rfl, E rfl, Eq_ rfl (by rw [bs_length]), E rfl, trivial⟩ fun j hj => ?_
      have hn := numV_bd s hd j (by omega) hj
      refine a_seq ?_
      refine a_reg (o1 (p_lss (E rfl) (E rfl)) oz) rfl rfl ?_
      refine a_seq ?_
      refine a_cond (E rfl) (fun h => ?_) (fun h => ?_)
      · have hlt : j < s.length := by simpa using h
        obtain ⟨x, hx⟩ : ∃ x, s[j]? = some x := ⟨s[j], List.getElem?_eq_getElem hlt⟩
        have hxd : 48 ≤ x.toNat ∧ x.toNat ≤ 57 := by have := hd x (List.mem_of_getElem? hx); unfold digB at this; simpa using this
        have hw : IntKind.u8.wrap ((x.toNat : Int) - 48) = x.toNat - 48 := wrap_in _ (by simp [IntKind.min, IntKind.max, IntKind.signed, IntKind.bits]; omega)
        refine a_skip ?_
        refine a_seq ?_
        refine a_block ?_
        refine a_seq ?_
        refine a_reg (o1 (p_ia Tryz.underlying84 ty_sz_5 (E rfl) (E rfl) (by have := bs_length s; omega) (bs_get hx)) (o1 (p_ld ty_na_5 (E rfl)) (o1 (p_as (E rfl)) oz))) rfl rfl ?_
        refine a_seq ?_
        refine a_reg (o1 (p_mv (E rfl)) (o1 (p_subw (E rfl) (E rfl)) (o1 (p_as (E rfl)) oz))) rfl rfl ?_
        refine a_seq ?_
        refine a_seq ?_
        refine a_reg (o1 (p_mv (E rfl)) (o1 (p_gtr (E rfl) (E rfl)) oz)) rfl rfl ?_
        refine a_cond (E rfl) (fun h => ?_) (fun h => ?_)
        · exfalso; rw [hw] at h; simp at h; omega
        · refine a_skip ?_
          refine a_reg (o1 (p_mv (E rfl)) (o1 (p_mulf (E rfl) (E rfl) (fun _ _ => (by omega))) (o1 (p_mv (E rfl)) (o1 (p_cvb ty_iu_5 ty_iu_3 (E rfl)) (o1 (p_addf (E rfl) (E rfl) (fun _ _ => (by omega))) (o1 (p_as (E rfl)) oz)))))) rfl rfl ?_
          refine a_reg (o1 (p_addf (E rfl) (E rfl) (fun _ _ => (by omega))) (o1 (p_mv (E rfl)) oz)) rfl rfl ?_
          exact ⟨j + 1, hlt, by omega, rfl, rfl, rfl, fun _ h => h, E rfl, Eq_ rfl (by rw [take_succ_get hx, numV_snoc, hw]), E rfl, E rfl, E rfl, trivial⟩
      · have hje : j = s.length := by simp at h; omega
        subst hje
        refine a_exit ?_
        refine a_seq ?_
        refine a_seq ?_
        refine a_reg (o1 (p_mv (E rfl)) (o1 (p_idx Tryz.underlying9 (E rfl) (E rfl) (by omega)) (o1 (p_eq (E rfl) (E rfl)) oz))) rfl rfl ?_
        refine a_cond (E rfl) (fun h => ?_) (fun h => ?_)
        · exfalso; simp at h; omega
        · refine a_skip ?_
          refine a_seq ?_
          refine a_reg (o1 (p_mv (E rfl)) (o1 (p_as (E rfl)) (o1 (p_as (E rfl)) oz))) rfl rfl ?_
          refine a_ret ?_
          refine ⟨_, resA_two rfl (E rfl) (E rfl), rfl, ?_, rfl, fun _ h => h⟩
          rw [List.take_length]
  · exfalso; simp at h; omega

theorem c_strconv_Atoi (s : List UInt8) (hd : ∀ b ∈ s, digB b = true) (h1 : 1 ≤ s.length) (h4 : s.length ≤ 4) : Fn Tryz.prog 123 [str s] (.tup [i64 (numV s), .d (.v .nilIface)]) := by
  intro ob L
  refine a_fn Tryz.func123 rfl (by decide) (Nat.le_of_ble_eq_true rfl) ?_
  show AWP _ _ ⟨18, [(0, str s)], [], ob, L⟩ _
  refine a_fstr (t := 0) (E rfl) fun hA0 => ?_
  refine a_seq ?_
  refine a_reg (o1 (p_as (E rfl)) (o1 (p_as (E rfl)) oz)) rfl rfl ?_
  refine a_seq ?_
  refine a_reg (o1 (p_mv (E rfl)) (o1 (p_call (c_iAtoi s hd h1 h4) (.cons (E rfl) .nil) rfl rfl) (o1 (p_mv (E rfl)) (o1 (p_ext (E rfl) rfl) (o1 (p_ext (E rfl) rfl) (o1 (p_as (E rfl)) (o1 (p_as (E rfl)) oz))))))) rfl rfl ?_
  refine a_seq ?_
  refine a_seq ?_
  refine a_reg (o1 (p_mv (E rfl)) (o1 (p_nenil Tryz.underlying124 (E rfl) (E rfl)) oz)) rfl rfl ?_
  refine a_cond (E rfl) (fun h => ?_) (fun h => ?_)
  · cases h
  · refine a_skip ?_
    refine a_seq ?_
    refine a_reg (o1 (p_mv (E rfl)) (o1 (p_as (E rfl)) (o1 (p_as (E rfl)) oz))) rfl rfl ?_
    refine a_ret ?_
    refine ⟨_, resA_two rfl (E rfl) (E rfl), rfl, ?_, rfl, fun _ h => h⟩
    rfl

theorem c_driver_size (s : List UInt8) : Fn Tryz.prog 70 [str s] (.tup [i64 (sizeF s).1, bool (sizeF s).2]) := by
  intro ob L
  refine a_fn Tryz.func70 rfl (by decide) (Nat.le_of_ble_eq_true rfl) ?_
  show AWP _ _ ⟨26, [(0, str s)], [], ob, L⟩ _
  refine a_fstr (t := 0) (E rfl) fun hA0 => ?_
  refine a_seq ?_
  refine a_reg (o1 (p_as (E rfl)) (o1 (p_as (E rfl)) oz)) rfl rfl ?_
  refine a_seq ?_
  refine a_seq ?_
  refine a_reg (o1 (p_mv (E rfl)) (o1 (p_eqs (E rfl) (E rfl)) (o1 (p_mv (E rfl)) (g1 rfl rfl (fun h3 => p_mv (E rfl)) (g1 rfl rfl (fun h4 => p_lens Tryz.underlying9 (Eo rfl h4)) (g1 rfl rfl (fun h5 => p_gtr (Eo rfl h5) (E rfl)) (o1 (p_or (E rfl) rfl rfl (fun h => bqf h)) (o1 (p_mv (E rfl)) (g1 rfl rfl (fun h8 => p_mv (E rfl)) (g1 rfl rfl (fun h9 => p_call (c_strings_TrimA _ [48, 49, 50, 51, 52, 53, 54, 55, 56, 57] (by decide) (by decide)) (.cons (Eo rfl h9) (.cons (E rfl) .nil)) rfl rfl) (g1 rfl rfl (fun h10 => p_nes (Eo rfl h10) (E rfl)) (o1 (p_or (E rfl) rfl rfl (fun h => bqf h)) oz)))))))))))) rfl rfl ?_
  refine a_cond (E rfl) (fun h => ?_) (fun h => ?_)
  · refine a_seq ?_
    refine a_reg (o1 (p_as (E rfl)) (o1 (p_as (E rfl)) oz)) rfl rfl ?_
    refine a_ret ?_
    refine ⟨_, resA_two rfl (E rfl) (E rfl), rfl, ?_, rfl, fun _ h => h⟩
    rw [sizeF, if_neg]
    rintro ⟨h1, h2, h3⟩
    have h5 : trimA [48, 49, 50, 51, 52, 53, 54, 55, 56, 57] s = [] := (trimA_nil _ _).2 fun b hb => by rw [dig_in]; exact List.all_eq_true.1 h3 b hb
    simp [h1, h5] at h; omega
  · have hs : s ≠ [] ∧ s.length ≤ 4 ∧ ∀ b ∈ s, digB b = true := by
      simp only [Bool.or_eq_false_iff, decide_eq_false_iff_not, Bool.not_eq_false', decide_eq_true_eq] at h
      refine ⟨h.1.1, by omega, fun b hb => ?_⟩
      rw [← dig_in]; exact (trimA_nil _ _).1 h.2 b hb
    refine a_skip ?_
    refine a_seq ?_
    refine a_reg (o1 (p_mv (E rfl)) (o1 (p_call (c_strconv_Atoi s hs.2.2 (List.length_pos_iff.2 hs.1) hs.2.1) (.cons (E rfl) .nil) rfl rfl) (o1 (p_mv (E rfl)) (o1 (p_ext (E rfl) rfl) (o1 (p_ext (E rfl) rfl) (o1 (p_as (E rfl)) (o1 (p_as (E rfl)) oz))))))) rfl rfl ?_
    refine a_seq ?_
    refine a_regd mix (o1 (p_mv (E rfl)) (o1 (p_mv (E rfl)) (o1 (p_eqnil Tryz.underlying124 (E rfl) (E rfl)) (o1 (p_as (E rfl)) (o1 (p_as (E rfl)) oz))))) rfl rfl (by kernel_rfl) ?_
    refine a_ret ?_
    refine ⟨_, resA_two rfl (E rfl) (E rfl), rfl, ?_, rfl, fun _ h => h⟩
    rw [sizeF, if_pos ⟨hs.1, hs.2.1, List.all_eq_true.2 hs.2.2⟩]

theorem c_driver_Options_set (o : OptS) (n v : List UInt8) : FnM Tryz.prog 36 (fun k => [.ptr k 0, str n, str v]) (OP o) (OP (setO o n v).1) (bool (setO o n v).2) := by
  intro ob L k hob
  refine a_fn Tryz.func36 rfl (by decide) (Nat.le_of_ble_eq_true rfl) ?_
  show AWP _ _ ⟨46, [(0, .ptr k 0), (1, str n), (2, str v)], [], ob, L⟩ _
  refine a_fstr (t := 1) (E rfl) fun hA1 => ?_
  refine a_fstr (t := 2) (E rfl) fun hA2 => ?_
  refine a_seq ?_
  refine a_reg (o1 (p_as (E rfl)) oz) rfl rfl ?_
  refine a_seq ?_
  refine a_reg (o1 (p_as (E rfl)) oz) rfl rfl ?_
  refine a_seq ?_
  refine a_seq ?_
  refine a_reg (o1 (p_mv (E rfl)) oz) rfl rfl ?_
  refine a_block ?_
  refine a_seq ?_
  refine a_reg (o1 (p_eqs (E rfl) (E rfl)) (o1 (p_as (E rfl)) oz)) rfl rfl ?_
  refine a_cond (E rfl) (fun h => ?_) (fun h => ?_)
  · have hn : n = [115, 105, 122, 101] := by simpa using h
    have hS : setO o n v = ({ o with size := (sizeF v).1 }, (sizeF v).2 && !crlf v) := by rw [setO, if_pos hn]
    refine a_regl ?_
    refine l_o (p_mv (E rfl)) rfl ?_
    refine l_o (p_mv (E rfl)) rfl ?_
    refine l_o (p_call (c_driver_size v) (.cons (E rfl) .nil) rfl rfl) rfl ?_
    refine l_o (p_mv (E rfl)) rfl ?_
    refine l_o (p_ext (E rfl) rfl) rfl ?_
    refine l_o (p_ext (E rfl) rfl) rfl ?_
    refine l_o (p_nck (E rfl) rfl) rfl ?_
    refine l_o (p_fap ty_fo_37_0 (E rfl)) rfl ?_
    refine l_e (e_stp ty_sz_3 rfl hob (E rfl) rfl rfl rfl ?_)
    refine l_o (p_as (E rfl)) rfl ?_
    refine l_nil ?_
    refine a_seq ?_
    refine a_reg (o1 (p_mv (E rfl)) (o1 (p_mv (E rfl)) (g1 rfl rfl (fun h2 => p_mv (E rfl)) (g1 rfl rfl (fun h3 => p_call (c_crlf v) (.cons (Eo rfl h3) (.cons (E rfl) .nil)) rfl rfl) (g1 rfl rfl (fun h4 => p_not (Eo rfl h4)) (o1 (p_and (E rfl) rfl rfl (fun h => bqt h)) (o1 (p_as (E rfl)) oz))))))) rfl rfl ?_
    refine a_ret ?_
    refine ⟨_, resA_one rfl (E rfl), rfl, ?_, ?_, fun _ h => h⟩
    · rw [hS]
    · rw [hS]; first | rfl | (exact (set_same hob).symm)
  · have h1 : ¬ n = [115, 105, 122, 101] := by simpa using h
    refine a_seq ?_
    refine a_reg (o1 (p_eqs (E rfl) (E rfl)) (o1 (p_as (E rfl)) oz)) rfl rfl ?_
    refine a_cond (E rfl) (fun h => ?_) (fun h => ?_)
    · have hn : n = [111, 117, 114, 115] := by simpa using h
      have hS : setO o n v = ({ o with ours := v }, true && !crlf v) := by rw [setO, if_neg h1, if_pos hn]
      refine a_regl ?_
      refine l_o (p_mv (E rfl)) rfl ?_
      refine l_o (p_mv (E rfl)) rfl ?_
      refine l_o (p_nck (E rfl) rfl) rfl ?_
      refine l_o (p_fap ty_fo_37_1 (E rfl)) rfl ?_
      refine l_o (p_fap ty_fo_35_0 (E rfl)) rfl ?_
      refine l_e (e_stp ty_sz_9 rfl hob (E rfl) rfl rfl rfl ?_)
      refine l_nil ?_
      refine a_seq ?_
      refine a_reg (o1 (p_mv (E rfl)) (o1 (p_mv (E rfl)) (g1 rfl rfl (fun h2 => p_mv (E rfl)) (g1 rfl rfl (fun h3 => p_call (c_crlf v) (.cons (Eo rfl h3) (.cons (E rfl) .nil)) rfl rfl) (g1 rfl rfl (fun h4 => p_not (Eo rfl h4)) (o1 (p_and (E rfl) rfl rfl (fun h => bqt h)) (o1 (p_as (E rfl)) oz))))))) rfl rfl ?_
      refine a_ret ?_
      refine ⟨_, resA_one rfl (E rfl), rfl, ?_, ?_, fun _ h => h⟩
      · rw [hS]
      · rw [hS]; first | rfl | (exact (set_same hob).symm)
    · have h2 : ¬ n = [111, 117, 114, 115] := by simpa using h
      refine a_seq ?_
      refine a_reg (o1 (p_eqs (E rfl) (E rfl)) (o1 (p_as (E rfl)) oz)) rfl rfl ?_
      refine a_cond (E rfl) (fun h => ?_) (fun h => ?_)
      · have hn : n = [98, 97, 115, 101] := by simpa using h
        have hS : setO o n v = ({ o with base := v }, true && !crlf v) := by rw [setO, if_neg h1, if_neg h2, if_pos hn]
        refine a_regl ?_
        refine l_o (p_mv (E rfl)) rfl ?_
        refine l_o (p_mv (E rfl)) rfl ?_
        refine l_o (p_nck (E rfl) rfl) rfl ?_
        refine l_o (p_fap ty_fo_37_1 (E rfl)) rfl ?_
        refine l_o (p_fap ty_fo_35_1 (E rfl)) rfl ?_
        refine l_e (e_stp ty_sz_9 rfl hob (E rfl) rfl rfl rfl ?_)
        refine l_nil ?_
        refine a_seq ?_
        refine a_reg (o1 (p_mv (E rfl)) (o1 (p_mv (E rfl)) (g1 rfl rfl (fun h2 => p_mv (E rfl)) (g1 rfl rfl (fun h3 => p_call (c_crlf v) (.cons (Eo rfl h3) (.cons (E rfl) .nil)) rfl rfl) (g1 rfl rfl (fun h4 => p_not (Eo rfl h4)) (o1 (p_and (E rfl) rfl rfl (fun h => bqt h)) (o1 (p_as (E rfl)) oz))))))) rfl rfl ?_
        refine a_ret ?_
        refine ⟨_, resA_one rfl (E rfl), rfl, ?_, ?_, fun _ h => h⟩
        · rw [hS]
        · rw [hS]; first | rfl | (exact (set_same hob).symm)
      · have h3 : ¬ n = [98, 97, 115, 101] := by simpa using h
        refine a_seq ?_
        refine a_reg (o1 (p_eqs (E rfl) (E rfl)) (o1 (p_as (E rfl)) oz)) rfl rfl ?_
        refine a_cond (E rfl) (fun h => ?_) (fun h => ?_)
        · have hn : n = [116, 104, 101, 105, 114, 115] := by simpa using h
          have hS : setO o n v = ({ o with theirs := v }, true && !crlf v) := by rw [setO, if_neg h1, if_neg h2, if_neg h3, if_pos hn]
          refine a_regl ?_
          refine l_o (p_mv (E rfl)) rfl ?_
          refine l_o (p_mv (E rfl)) rfl ?_
          refine l_o (p_nck (E rfl) rfl) rfl ?_
          refine l_o (p_fap ty_fo_37_1 (E rfl)) rfl ?_
          refine l_o (p_fap ty_fo_35_2 (E rfl)) rfl ?_
          refine l_e (e_stp ty_sz_9 rfl hob (E rfl) rfl rfl rfl ?_)
          refine l_nil ?_
          refine a_seq ?_
          refine a_reg (o1 (p_mv (E rfl)) (o1 (p_mv (E rfl)) (g1 rfl rfl (fun h2 => p_mv (E rfl)) (g1 rfl rfl (fun h3 => p_call (c_crlf v) (.cons (Eo rfl h3) (.cons (E rfl) .nil)) rfl rfl) (g1 rfl rfl (fun h4 => p_not (Eo rfl h4)) (o1 (p_and (E rfl) rfl rfl (fun h => bqt h)) (o1 (p_as (E rfl)) oz))))))) rfl rfl ?_
          refine a_ret ?_
          refine ⟨_, resA_one rfl (E rfl), rfl, ?_, ?_, fun _ h => h⟩
          · rw [hS]
          · rw [hS]; first | rfl | (exact (set_same hob).symm)
        · have hS : setO o n v = (o, false && !crlf v) := by rw [setO, if_neg h1, if_neg h2, if_neg h3, if_neg (by simpa using h)]
          refine a_reg (o1 (p_as (E rfl)) oz) rfl rfl ?_
          refine a_seq ?_
          refine a_reg (o1 (p_mv (E rfl)) (o1 (p_mv (E rfl)) (g1 rfl rfl (fun h2 => p_mv (E rfl)) (g1 rfl rfl (fun h3 => p_call (c_crlf v) (.cons (Eo rfl h3) (.cons (E rfl) .nil)) rfl rfl) (g1 rfl rfl (fun h4 => p_not (Eo rfl h4)) (o1 (p_and (E rfl) rfl rfl (fun h => bqt h)) (o1 (p_as (E rfl)) oz))))))) rfl rfl ?_
          refine a_ret ?_
          refine ⟨_, resA_one rfl (E rfl), rfl, ?_, ?_, fun _ h => h⟩
          · rw [hS]
          · rw [hS]; first | rfl | (exact (set_same hob).symm)

theorem c_driver_Decode (l : List (List UInt8)) : Fn Tryz.prog 16 [lst 1 (encStrs l)] (.tup [.agg (OD (decG l o7 []).1), i64 (decG l o7 []).2]) := by
  intro ob L
  refine a_fn Tryz.func16 rfl (by decide) (Nat.le_of_ble_eq_true rfl) ?_
  show AWP _ _ ⟨43, [(0, lst 1 (encStrs l))], [], ob, L⟩ _
  refine a_flst (t := 0) (E rfl) fun hA0 => ?_
  refine a_seq ?_
  refine a_regl ?_
  refine l_e (e_alloc ty_zi_37 rfl ?_)
  refine l_o (p_as (E rfl)) rfl ?_
  refine l_nil ?_
  refine a_seq ?_
  refine a_regl ?_
  refine l_o (p_bd ty_so_37 (.cons (E rfl) .nil) rfl) rfl ?_
  refine l_e (e_alloc ty_zi_37 rfl ?_)
  refine l_e (e_st ty_sz_37 rfl rfl (E rfl) rfl rfl rfl ?_)
  refine l_nil ?_
  refine a_seq ?_
  refine a_regl ?_
  refine l_e (e_mmk rfl ?_)
  refine l_o (p_as (E rfl)) rfl ?_
  refine l_nil ?_
  refine a_seq ?_
  refine a_seq ?_
  refine a_reg (o1 (p_mv (E rfl)) (o1 (p_lenl Tryz.underlying33 (E rfl)) (o1 (p_mv (E rfl)) oz))) rfl rfl ?_
  refine a_block ?_
  refine a_loop (fun p : Nat × OptS × List (List UInt8 × Bool) => p.1 ≤ l.length ∧ decG (l.drop p.1) p.2.1 p.2.2 = decG l o7 []) (fun p => l.length - p.1) (fun p => ⟨43, [(2, .loc 0 0), (4, .loc 1 0), (5, .mloc 2), (13, lst 1 (encStrs l)), (14, i64 l.length), (15, i64 p.1)], [[.d (.v (.int .i64 0)), .d (.v (.string ⟨#[]⟩)), .d (.v (.string ⟨#[]⟩)), .d (.v (.string ⟨#[]⟩))], OP p.2.1, mpe kS vB p.2.2], ob, L⟩) (0, o7, []) ⟨Nat.zero_le _, rfl⟩ ⟨rfl, rfl, rfl, fun _ h => h, E rfl, E rfl, E rfl, E rfl, Eq_ rfl (by rw [encStrs_length]), E rfl, trivial⟩ fun p hp => ?_
  obtain ⟨j, o, seen⟩ := p
  obtain ⟨hj, hG⟩ := hp
  simp only at hj hG
  show AWP _ _ ⟨43, [(2, .loc 0 0), (4, .loc 1 0), (5, .mloc 2), (13, lst 1 (encStrs l)), (14, i64 l.length), (15, i64 j)], [[.d (.v (.int .i64 0)), .d (.v (.string ⟨#[]⟩)), .d (.v (.string ⟨#[]⟩)), .d (.v (.string ⟨#[]⟩))], OP o, mpe kS vB seen], ob, L⟩ _
  refine a_seq ?_
  refine a_reg (o1 (p_lss (E rfl) (E rfl)) oz) rfl rfl ?_
  refine a_seq ?_
  refine a_cond (E rfl) (fun h => ?_) (fun h => ?_)
  · have hlt : j < l.length := by simpa using h
    obtain ⟨x, hx⟩ : ∃ x, l[j]? = some x := ⟨l[j], List.getElem?_eq_getElem hlt⟩
    rw [drop_get hx, decG] at hG
    have hcI := idxI_bd 61 x
    refine a_skip ?_
    refine a_seq ?_
    refine a_block ?_
    refine a_seq ?_
    refine a_reg (o1 (p_ia Tryz.underlying33 ty_sz_9 (E rfl) (E rfl) (by have := encStrs_length l; omega) (mg hx)) (o1 (p_ld ty_na_9 (E rfl)) (o1 (p_as (E rfl)) oz))) rfl rfl ?_
    refine a_seq ?_
    refine a_reg (o1 (p_mv (E rfl)) (o1 (p_call (c_cut_eq x) (.cons (E rfl) (.cons (E rfl) .nil)) rfl rfl) (o1 (p_mv (E rfl)) (o1 (p_ext (E rfl) rfl) (o1 (p_ext (E rfl) rfl) (o1 (p_ext (E rfl) rfl) (o1 (p_as (E rfl)) (o1 (p_as (E rfl)) (o1 (p_as (E rfl)) oz))))))))) rfl rfl ?_
    refine a_seq ?_
    refine a_join (fun _ : Unit => True) (fun _ => ⟨43, [(2, .loc 0 0), (4, .loc 1 0), (5, .mloc 2), (8, str (cutAt x 1 (idxI 61 x)).1), (13, lst 1 (encStrs l)), (14, i64 l.length), (15, i64 j), (37, bool (((!(cutAt x 1 (idxI 61 x)).2.2) || (mget seen (cutAt x 1 (idxI 61 x)).1).getD false) || !(setO o (cutAt x 1 (idxI 61 x)).1 (cutAt x 1 (idxI 61 x)).2.1).2))], [[.d (.v (.int .i64 0)), .d (.v (.string ⟨#[]⟩)), .d (.v (.string ⟨#[]⟩)), .d (.v (.string ⟨#[]⟩))], if ((!(cutAt x 1 (idxI 61 x)).2.2) || (mget seen (cutAt x 1 (idxI 61 x)).1).getD false) = true then OP o else OP (setO o (cutAt x 1 (idxI 61 x)).1 (cutAt x 1 (idxI 61 x)).2.1).1, mpe kS vB seen], ob, L⟩) ?_ (fun _ _ => ?_)
    · refine a_regl ?_
      refine l_o (p_mv (E rfl)) rfl ?_
      refine l_o (p_not (E rfl)) rfl ?_
      refine l_o (p_mv (E rfl)) rfl ?_
      refine l_c rfl rfl rfl (.gd _ _ _ _ rfl rfl rfl (fun h3 => p_mv (E rfl))) ?_
      refine l_c rfl rfl rfl (.gd _ _ _ _ rfl rfl rfl (fun h4 => p_mv (E rfl))) ?_
      refine l_c rfl rfl rfl (.gd _ _ _ _ rfl rfl rfl (fun h5 => p_mlkB kS Tryz.underlying73 Tryz.underlying9 ty_zb_4 (Eo rfl h5) rfl (Eo rfl h5))) ?_
      refine l_o (p_or (E rfl) rfl rfl (fun h => bqf h)) rfl ?_
      refine l_o (p_mv (E rfl)) rfl ?_
      refine l_c rfl rfl rfl (.gd _ _ _ _ rfl rfl rfl (fun h8 => p_mv (E rfl))) ?_
      refine l_c rfl rfl rfl (.gd _ _ _ _ rfl rfl rfl (fun h9 => p_mv (E rfl))) ?_
      refine l_ge _ false (bool (setO o (cutAt x 1 (idxI 61 x)).1 (cutAt x 1 (idxI 61 x)).2.1).2) rfl rfl rfl rfl (fun h10 => ?_) (fun h10 => ?_)
      · refine (e_callm (c_driver_Options_set o _ _) (.cons (E rfl) (.cons (Eo rfl (by assumption)) (.cons (Eo rfl (by assumption)) .nil))) rfl rfl rfl rfl rfl ?_)
        refine l_opt h10 ?_
        refine l_c rfl rfl rfl (.gd _ _ _ _ rfl rfl rfl (fun h11 => p_not (Eo rfl h11))) ?_
        refine l_o (p_or (E rfl) rfl rfl (fun h => bqf h)) rfl ?_
        refine l_nil ?_
        first
          | exact ⟨(), trivial, rfl, by rw [if_neg (by rw [bf' h10]; simp)]; rfl, rfl, fun _ h => h, E rfl, E rfl, E rfl, E rfl, E rfl, E rfl, E rfl, E rfl, trivial⟩
          | exact ⟨(), trivial, rfl, by rw [if_pos (bff h10)], rfl, fun _ h => h, E rfl, E rfl, E rfl, E rfl, E rfl, E rfl, E rfl, E rfl, trivial⟩
      · refine l_c rfl rfl rfl (.gd _ _ _ _ rfl rfl rfl (fun h11 => p_not (Eo rfl h11))) ?_
        refine l_o (p_or (E rfl) rfl rfl (fun h => bqf h)) rfl ?_
        refine l_nil ?_
        first
          | exact ⟨(), trivial, rfl, by rw [if_neg (by rw [bf' h10]; simp)]; rfl, rfl, fun _ h => h, E rfl, E rfl, E rfl, E rfl, E rfl, E rfl, E rfl, E rfl, trivial⟩
          | exact ⟨(), trivial, rfl, by rw [if_pos (bff h10)], rfl, fun _ h => h, E rfl, E rfl, E rfl, E rfl, E rfl, E rfl, E rfl, E rfl, trivial⟩
    · show AWP _ _ ⟨43, [(2, .loc 0 0), (4, .loc 1 0), (5, .mloc 2), (8, str (cutAt x 1 (idxI 61 x)).1), (13, lst 1 (encStrs l)), (14, i64 l.length), (15, i64 j), (37, bool (((!(cutAt x 1 (idxI 61 x)).2.2) || (mget seen (cutAt x 1 (idxI 61 x)).1).getD false) || !(setO o (cutAt x 1 (idxI 61 x)).1 (cutAt x 1 (idxI 61 x)).2.1).2))], [[.d (.v (.int .i64 0)), .d (.v (.string ⟨#[]⟩)), .d (.v (.string ⟨#[]⟩)), .d (.v (.string ⟨#[]⟩))], if ((!(cutAt x 1 (idxI 61 x)).2.2) || (mget seen (cutAt x 1 (idxI 61 x)).1).getD false) = true then OP o else OP (setO o (cutAt x 1 (idxI 61 x)).1 (cutAt x 1 (idxI 61 x)).2.1).1, mpe kS vB seen], ob, L⟩ _
      refine a_cond (E rfl) (fun h => ?_) (fun h => ?_)
      · rw [if_pos h] at hG
        refine a_seq ?_
        refine a_regl ?_
        refine l_o (p_bd ty_so_37 .nil rfl) rfl ?_
        refine l_e (e_st ty_sz_37 rfl rfl (E rfl) rfl rfl rfl ?_)
        refine l_o (p_as (E rfl)) rfl ?_
        refine l_nil ?_
        refine a_ret ?_
        refine ⟨_, resA_agg1 rfl ty_ag_37 rfl rfl rfl rfl (E rfl), rfl, ?_, rfl, fun _ h => h⟩
        rw [← hG]; rfl
      · rw [if_neg (by rw [h]; simp)] at hG
        have hB : ¬ ((!(cutAt x 1 (idxI 61 x)).2.2) || (mget seen (cutAt x 1 (idxI 61 x)).1).getD false) = true := by
          intro e; rw [e] at h; simp at h
        refine a_cut ⟨43, [(2, .loc 0 0), (4, .loc 1 0), (5, .mloc 2), (8, str (cutAt x 1 (idxI 61 x)).1), (13, lst 1 (encStrs l)), (14, i64 l.length), (15, i64 j)], [[.d (.v (.int .i64 0)), .d (.v (.string ⟨#[]⟩)), .d (.v (.string ⟨#[]⟩)), .d (.v (.string ⟨#[]⟩))], OP (setO o (cutAt x 1 (idxI 61 x)).1 (cutAt x 1 (idxI 61 x)).2.1).1, mpe kS vB seen], ob, L⟩ ⟨rfl, by rw [if_neg hB], rfl, fun _ h => h, E rfl, E rfl, E rfl, E rfl, E rfl, E rfl, E rfl, trivial⟩ ?_
        refine a_skip ?_
        refine a_regl ?_
        refine l_o (p_mv (E rfl)) rfl ?_
        refine l_o (p_mv (E rfl)) rfl ?_
        refine l_e (e_mput kS vB Tryz.underlying73 Tryz.underlying9 (E rfl) rfl (E rfl) (E rfl) ?_)
        refine l_nil ?_
        refine a_reg (o1 (p_addf (E rfl) (E rfl) (fun _ _ => (by have := encStrs_length l; omega))) (o1 (p_mv (E rfl)) oz)) rfl rfl ?_
        exact ⟨(j + 1, (setO o (cutAt x 1 (idxI 61 x)).1 (cutAt x 1 (idxI 61 x)).2.1).1, mput seen (cutAt x 1 (idxI 61 x)).1 true), ⟨hlt, hG⟩, by simp only; omega, rfl, rfl, rfl, fun _ h => h, E rfl, E rfl, E rfl, E rfl, E rfl, E rfl, trivial⟩
  · have hje : j = l.length := by simp at h; omega
    subst hje
    rw [List.drop_length, decG] at hG
    refine a_exit ?_
    refine a_seq ?_
    refine a_regl ?_
    refine l_o (p_ldla ty_ag_37 (E rfl) rfl (Nat.le_of_ble_eq_true rfl) rfl) rfl ?_
    refine l_e (e_st ty_sz_37 rfl rfl (E rfl) rfl rfl rfl ?_)
    refine l_o (p_as (E rfl)) rfl ?_
    refine l_nil ?_
    refine a_ret ?_
    refine ⟨_, resA_agg1 rfl ty_ag_37 rfl rfl rfl rfl (E rfl), rfl, ?_, rfl, fun _ h => h⟩
    rw [← hG]; rfl


end Go.Proofs.YtcemejmegbefgaaGreatDoor.Em
