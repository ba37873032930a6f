/-
  That the law on ordered arguments returns true for all that the layer can tell; no other condition.
-/
import Derived.Test.YtcemejmegbefgaaGreatDoorDecA
import Derived.Test.YtcemejmegbefgaaGreatDoorLayD
import Derived.ChangeSlices
set_option maxRecDepth 100000
set_option linter.unusedVariables false
set_option linter.unusedSimpArgs false
namespace Go.Proofs.YtcemejmegbefgaaGreatDoor.Em
open Go.Proofs

/-! The lines of a text. -/
def splR (cur : List UInt8) (op : Bool) (out : List (List UInt8)) : List UInt8 → List (List UInt8) × Bool
  | [] => (if op = true then out ++ [cur] else out, !op)
  | x :: r => if x = 10 ∨ x = 13 then splR [] false (out ++ [cur]) (if x = 13 ∧ r.head? = some 10 then r.tail else r) else splR (cur ++ [x]) true out r
termination_by r => r.length
decreasing_by
  · simp only [List.length_cons]; split <;> simp; omega
  · simp
theorem encStrs_row (e k : Nat) (out : List (List UInt8)) (cur : List UInt8) : PV.row e 1 (encStrs out ++ [[.v (.string ⟨cur.toArray⟩)]]) k = PV.row e 1 (encStrs (out ++ [cur])) k := by rw [encStrs_snoc]
def plainF (s : List UInt8) : Bool := decide (s = []) || (decide (((splR [] false [] s).1.length : Int) = 1) && !(splR [] false [] s).2)
theorem u8i (x : UInt8) (n : UInt8) : ((x.toNat : Int) = n.toNat) ↔ x = n := ⟨fun h => UInt8.toNat_inj.1 (by omega), fun h => by rw [h]⟩

theorem c_emendationref02_Split (s : List UInt8) (hs : s.length ≤ 500) : Fn Tryz.prog 40 [str s] (.tup [lst 1 (encStrs (splR [] false [] s).1), bool (splR [] false [] s).2]) := by
  intro ob L
  refine a_fn Tryz.func40 rfl (by decide) (Nat.le_of_ble_eq_true rfl) ?_
  show AWP _ _ ⟨63, [(0, str s)], [], ob, L⟩ _
  refine a_fstr (t := 0) (E rfl) fun hA0 => ?_
  refine a_seq ?_
  refine a_reg (o1 (p_as (E rfl)) (o1 (p_as (E rfl)) oz)) rfl rfl ?_
  refine a_seq ?_
  refine a_reg (o1 (p_as (E rfl)) oz) rfl rfl ?_
  refine a_seq ?_
  refine a_reg (o1 (p_as (E rfl)) oz) rfl rfl ?_
  refine a_seq ?_
  refine a_reg (o1 (p_as (E rfl)) oz) rfl rfl ?_
  refine a_seq ?_
  refine a_seq ?_
  refine a_reg (o1 (p_as (E rfl)) oz) rfl rfl ?_
  refine a_block ?_
  refine a_accr (t := 4) 9 1 rfl fun k hk0 => ?_
  refine a_loop (fun p : Nat × List UInt8 × Bool × List (List UInt8) × Nat => p.1 ≤ s.length ∧ p.2.1.length ≤ p.1 ∧ p.2.2.2.1.length ≤ p.1 ∧ p.2.2.2.2 ∉ L ∧ splR p.2.1 p.2.2.1 p.2.2.2.1 (s.drop p.1) = splR [] false [] s) (fun p => s.length - p.1) (fun p => ⟨63, [(0, str s), (5, str p.2.1), (6, bool p.2.2.1), (7, i64 p.1), (4, .row 9 1 (encStrs p.2.2.2.1) p.2.2.2.2)], [], ob, p.2.2.2.2 :: L⟩) (0, [], false, [], k) ⟨by simp, by simp, by simp, hk0, rfl⟩ ⟨rfl, rfl, rfl, fun _ h => h, E rfl, E rfl, E rfl, E rfl, E rfl, trivial⟩ fun p hp => ?_
  obtain ⟨i, cur, op, out, k⟩ := p
  obtain ⟨hi, hcl, hol, hk0, hG⟩ := hp
  simp only at hi hcl hol hk0 hG
  show AWP _ _ ⟨63, [(0, str s), (5, str cur), (6, bool op), (7, i64 i), (4, .row 9 1 (encStrs out) k)], [], ob, k :: L⟩ _
  refine a_seq ?_
  refine a_seq ?_
  refine a_reg (o1 (p_mv (E rfl)) (o1 (p_mv (E rfl)) (o1 (p_lens Tryz.underlying9 (E rfl)) (o1 (p_lss (E rfl) (E rfl)) oz)))) rfl rfl ?_
  refine a_cond (E rfl) (fun h => ?_) (fun h => ?_)
  · have hlt : i < s.length := by simpa using h
    obtain ⟨x, hx⟩ : ∃ x, s[i]? = some x := ⟨s[i], List.getElem?_eq_getElem hlt⟩
    have hbt := bt_get hx
    rw [drop_get hx, splR] at hG
    refine a_skip ?_
    refine a_seq ?_
    refine a_block ?_
    refine a_seq ?_
    refine a_seq ?_
    refine a_reg (o1 (p_mv (E rfl)) (o1 (p_mv (E rfl)) (o1 (p_idx Tryz.underlying9 (E rfl) (E rfl) (by first | omega | (simp only [beq_iff_eq, decide_eq_true_eq, decide_eq_false_iff_not, Bool.and_eq_true, Bool.and_eq_false_iff, Bool.or_eq_true, Bool.or_eq_false_iff, Bool.not_eq_true', Bool.not_eq_false', bs_length] at *; omega) | (simp at * <;> omega))) (o1 (p_eq (E rfl) (E rfl)) (o1 (p_mv (E rfl)) (g1 rfl rfl (fun h5 => p_mv (E rfl)) (g1 rfl rfl (fun h6 => p_mv (E rfl)) (g1 rfl rfl (fun h7 => p_idx Tryz.underlying9 (Eo rfl h7) (Eo rfl h7) (by first | omega | (simp only [beq_iff_eq, decide_eq_true_eq, decide_eq_false_iff_not, Bool.and_eq_true, Bool.and_eq_false_iff, Bool.or_eq_true, Bool.or_eq_false_iff, Bool.not_eq_true', Bool.not_eq_false', bs_length] at *; omega) | (simp at * <;> omega))) (g1 rfl rfl (fun h8 => p_eq (Eo rfl h8) (E rfl)) (o1 (p_or (E rfl) rfl rfl (fun h => bqf h)) oz)))))))))) rfl rfl ?_
    refine a_cond (E rfl) (fun h => ?_) (fun h => ?_)
    · have hx2 : x = 10 ∨ x = 13 := by
        rw [hbt] at h
        simp only [Bool.or_eq_true, decide_eq_true_eq] at h
        exact h.imp (u8i x 10).1 (u8i x 13).1
      rw [if_pos hx2] at hG
      refine a_seq ?_
      refine a_seq ?_
      refine a_reg (o1 (p_mv (E rfl)) (o1 (p_mv (E rfl)) (o1 (p_idx Tryz.underlying9 (E rfl) (E rfl) (by first | omega | (simp only [beq_iff_eq, decide_eq_true_eq, decide_eq_false_iff_not, Bool.and_eq_true, Bool.and_eq_false_iff, Bool.or_eq_true, Bool.or_eq_false_iff, Bool.not_eq_true', Bool.not_eq_false', bs_length] at *; omega) | (simp at * <;> omega))) (o1 (p_eq (E rfl) (E rfl)) (o1 (p_mv (E rfl)) (g1 rfl rfl (fun h5 => p_mv (E rfl)) (g1 rfl rfl (fun h6 => p_addf (Eo rfl h6) (E rfl) (fun _ _ => (by first | omega | (simp only [beq_iff_eq, decide_eq_true_eq, decide_eq_false_iff_not, Bool.and_eq_true, Bool.and_eq_false_iff, Bool.or_eq_true, Bool.or_eq_false_iff, Bool.not_eq_true', Bool.not_eq_false', bs_length] at *; omega) | (simp at * <;> omega)))) (g1 rfl rfl (fun h7 => p_mv (E rfl)) (g1 rfl rfl (fun h8 => p_lens Tryz.underlying9 (Eo rfl h8)) (g1 rfl rfl (fun h9 => p_lss (Eo rfl h9) (Eo rfl h9)) (o1 (p_and (E rfl) rfl rfl (fun h => bqt h)) (o1 (p_mv (E rfl)) (g1 rfl rfl (fun h12 => p_mv (E rfl)) (g1 rfl rfl (fun h13 => p_mv (E rfl)) (g1 rfl rfl (fun h14 => p_addf (Eo rfl h14) (E rfl) (fun _ _ => (by first | omega | (simp only [beq_iff_eq, decide_eq_true_eq, decide_eq_false_iff_not, Bool.and_eq_true, Bool.and_eq_false_iff, Bool.or_eq_true, Bool.or_eq_false_iff, Bool.not_eq_true', Bool.not_eq_false', bs_length] at *; omega) | (simp at * <;> omega)))) (g1 rfl rfl (fun h15 => p_idx Tryz.underlying9 (Eo rfl h15) (Eo rfl h15) (by simp at h15; omega)) (g1 rfl rfl (fun h16 => p_eq (Eo rfl h16) (E rfl)) (o1 (p_and (E rfl) rfl rfl (fun h => bqt h)) oz)))))))))))))))))) rfl rfl ?_
      refine a_cond (E rfl) (fun h => ?_) (fun h => ?_)
      · have hN : splR [] false (out ++ [cur]) (s.drop (i + 2)) = splR [] false [] s := by
          rw [hbt] at h
          simp only [Bool.and_eq_true, decide_eq_true_eq] at h
          obtain ⟨⟨h1, h2⟩, h3⟩ := h
          have hx13 := (u8i x 13).1 h1
          obtain ⟨y, hy⟩ : ∃ y, s[i + 1]? = some y := ⟨s[i + 1]'(by omega), List.getElem?_eq_getElem (by omega)⟩
          have hby : bt s ((i : Int) + 1) = y.toNat := by have := bt_get hy; push_cast at this; exact this
          rw [hby] at h3
          have hy10 := (u8i y 10).1 h3
          rw [drop_get hy, if_pos ⟨hx13, by simp [hy10]⟩] at hG
          exact hG
        have hi2 : i + 2 ≤ s.length := by simp at h; omega
        refine a_reg (o1 (p_mv (E rfl)) (o1 (p_addf (E rfl) (E rfl) (fun _ _ => (by first | omega | (simp only [beq_iff_eq, decide_eq_true_eq, decide_eq_false_iff_not, Bool.and_eq_true, Bool.and_eq_false_iff, Bool.or_eq_true, Bool.or_eq_false_iff, Bool.not_eq_true', Bool.not_eq_false', bs_length] at *; omega) | (simp at * <;> omega)))) (o1 (p_as (E rfl)) oz))) rfl rfl ?_
        refine a_seq ?_
        refine a_regl ?_
        refine l_o (p_mv (E rfl)) rfl ?_
        refine l_o (p_mv (E rfl)) rfl ?_
        refine l_o (p_bs (xs := [.tmp 45]) (sz := 1) Tryz.underlying33 ty_zo_9 rfl rfl rfl (.cons (E rfl) .nil) rfl rfl rfl) rfl ?_
        refine l_e (e_appr (Lr := L) Tryz.underlying33 ty_zo_9 rfl ty_by_9 rfl rfl List.mem_cons_self (E rfl) (by have := encStrs_length out; simp; omega) (fun j hj => ⟨List.mem_cons_of_mem _ hj, fun e => hk0 (e ▸ hj)⟩) (fun k' hk' => ?_))
        have hk0 : k' ∉ L := fun h => hk' (List.mem_cons_of_mem _ h)
        refine l_o (p_as (E rfl)) rfl ?_
        refine l_nil ?_
        refine a_seq ?_
        refine a_reg (o1 (p_as (E rfl)) oz) rfl rfl ?_
        refine a_seq ?_
        refine a_reg (o1 (p_as (E rfl)) oz) rfl rfl ?_
        refine a_exit ?_
        refine a_reg (o1 (p_mv (E rfl)) (o1 (p_addf (E rfl) (E rfl) (fun _ _ => (by first | omega | (simp only [beq_iff_eq, decide_eq_true_eq, decide_eq_false_iff_not, Bool.and_eq_true, Bool.and_eq_false_iff, Bool.or_eq_true, Bool.or_eq_false_iff, Bool.not_eq_true', Bool.not_eq_false', bs_length] at *; omega) | (simp at * <;> omega)))) (o1 (p_as (E rfl)) oz))) rfl rfl ?_
        first
          | refine ⟨(i + 2, [], false, out ++ [cur], k'), ⟨?_, ?_, ?_, hk0, hN⟩, ?_, rfl, rfl, rfl, fun _ h => h, E rfl, E rfl, E rfl, Eq_ rfl ?_, Eq_ rfl (encStrs_row _ _ _ _), trivial⟩
          | refine ⟨(i + 1, [], false, out ++ [cur], k'), ⟨?_, ?_, ?_, hk0, hN⟩, ?_, rfl, rfl, rfl, fun _ h => h, E rfl, E rfl, E rfl, E rfl, Eq_ rfl (encStrs_row _ _ _ _), trivial⟩
          | refine ⟨(i + 1, cur ++ [x], true, out, k), ⟨?_, ?_, ?_, hk0, hG⟩, ?_, rfl, rfl, rfl, fun _ h => h, E rfl, E rfl, E rfl, E rfl, E rfl, trivial⟩
        all_goals (simp; try omega)
      · have hN : splR [] false (out ++ [cur]) (s.drop (i + 1)) = splR [] false [] s := by
          rw [if_neg] at hG
          · exact hG
          rintro ⟨hx13, hd⟩
          cases hy : s[i + 1]? with
          | none => rw [List.drop_eq_nil_of_le (by simpa using hy)] at hd; cases hd
          | some y =>
            have hy1 : i + 1 < s.length := (List.getElem?_eq_some_iff.1 hy).1
            rw [drop_get hy] at hd
            simp only [List.head?_cons, Option.some.injEq] at hd
            have hby : bt s ((i : Int) + 1) = y.toNat := by have := bt_get hy; push_cast at this; exact this
            rw [hbt, hby, hx13, hd] at h
            simp at h; omega
        refine a_skip ?_
        refine a_seq ?_
        refine a_regl ?_
        refine l_o (p_mv (E rfl)) rfl ?_
        refine l_o (p_mv (E rfl)) rfl ?_
        refine l_o (p_bs (xs := [.tmp 45]) (sz := 1) Tryz.underlying33 ty_zo_9 rfl rfl rfl (.cons (E rfl) .nil) rfl rfl rfl) rfl ?_
        refine l_e (e_appr (Lr := L) Tryz.underlying33 ty_zo_9 rfl ty_by_9 rfl rfl List.mem_cons_self (E rfl) (by have := encStrs_length out; simp; omega) (fun j hj => ⟨List.mem_cons_of_mem _ hj, fun e => hk0 (e ▸ hj)⟩) (fun k' hk' => ?_))
        have hk0 : k' ∉ L := fun h => hk' (List.mem_cons_of_mem _ h)
        refine l_o (p_as (E rfl)) rfl ?_
        refine l_nil ?_
        refine a_seq ?_
        refine a_reg (o1 (p_as (E rfl)) oz) rfl rfl ?_
        refine a_seq ?_
        refine a_reg (o1 (p_as (E rfl)) oz) rfl rfl ?_
        refine a_exit ?_
        refine a_reg (o1 (p_mv (E rfl)) (o1 (p_addf (E rfl) (E rfl) (fun _ _ => (by first | omega | (simp only [beq_iff_eq, decide_eq_true_eq, decide_eq_false_iff_not, Bool.and_eq_true, Bool.and_eq_false_iff, Bool.or_eq_true, Bool.or_eq_false_iff, Bool.not_eq_true', Bool.not_eq_false', bs_length] at *; omega) | (simp at * <;> omega)))) (o1 (p_as (E rfl)) oz))) rfl rfl ?_
        first
          | refine ⟨(i + 2, [], false, out ++ [cur], k'), ⟨?_, ?_, ?_, hk0, hN⟩, ?_, rfl, rfl, rfl, fun _ h => h, E rfl, E rfl, E rfl, Eq_ rfl ?_, Eq_ rfl (encStrs_row _ _ _ _), trivial⟩
          | refine ⟨(i + 1, [], false, out ++ [cur], k'), ⟨?_, ?_, ?_, hk0, hN⟩, ?_, rfl, rfl, rfl, fun _ h => h, E rfl, E rfl, E rfl, E rfl, Eq_ rfl (encStrs_row _ _ _ _), trivial⟩
          | refine ⟨(i + 1, cur ++ [x], true, out, k), ⟨?_, ?_, ?_, hk0, hG⟩, ?_, rfl, rfl, rfl, fun _ h => h, E rfl, E rfl, E rfl, E rfl, E rfl, trivial⟩
        all_goals (simp; try omega)
    · have hx2 : ¬ (x = 10 ∨ x = 13) := by
        rw [hbt] at h
        simp only [Bool.or_eq_false_iff, decide_eq_false_iff_not] at h
        rintro (rfl | rfl)
        · exact h.1 rfl
        · exact h.2 rfl
      rw [if_neg hx2] at hG
      refine a_skip ?_
      refine a_seq ?_
      refine a_reg (o1 (p_mv (E rfl)) (o1 (p_mv (E rfl)) (o1 (p_mv (E rfl)) (o1 (p_idx Tryz.underlying9 (E rfl) (E rfl) (by first | omega | (simp only [beq_iff_eq, decide_eq_true_eq, decide_eq_false_iff_not, Bool.and_eq_true, Bool.and_eq_false_iff, Bool.or_eq_true, Bool.or_eq_false_iff, Bool.not_eq_true', Bool.not_eq_false', bs_length] at *; omega) | (simp at * <;> omega))) (o1 (p_bs (xs := [.tmp 51]) (sz := 1) Tryz.underlying84 ty_zo_5 rfl rfl rfl (.cons (E rfl) .nil) rfl rfl rfl) (o1 (p_b2s (l := [x]) Tryz.underlying84 Tryz.underlying9 Tryz.underlying5 (Eq_ rfl (by rw [hbt]; rfl))) (o1 (p_cat (E rfl) (E rfl) (by simp [LIM]; omega)) (o1 (p_as (E rfl)) oz)))))))) rfl rfl ?_
      refine a_reg (o1 (p_as (E rfl)) oz) rfl rfl ?_
      refine a_reg (o1 (p_mv (E rfl)) (o1 (p_addf (E rfl) (E rfl) (fun _ _ => (by first | omega | (simp only [beq_iff_eq, decide_eq_true_eq, decide_eq_false_iff_not, Bool.and_eq_true, Bool.and_eq_false_iff, Bool.or_eq_true, Bool.or_eq_false_iff, Bool.not_eq_true', Bool.not_eq_false', bs_length] at *; omega) | (simp at * <;> omega)))) (o1 (p_as (E rfl)) oz))) rfl rfl ?_
      first
        | refine ⟨(i + 2, [], false, out ++ [cur], k'), ⟨?_, ?_, ?_, hk0, hN⟩, ?_, rfl, rfl, rfl, fun _ h => h, E rfl, E rfl, E rfl, Eq_ rfl ?_, Eq_ rfl (encStrs_row _ _ _ _), trivial⟩
        | refine ⟨(i + 1, [], false, out ++ [cur], k'), ⟨?_, ?_, ?_, hk0, hN⟩, ?_, rfl, rfl, rfl, fun _ h => h, E rfl, E rfl, E rfl, E rfl, Eq_ rfl (encStrs_row _ _ _ _), trivial⟩
        | refine ⟨(i + 1, cur ++ [x], true, out, k), ⟨?_, ?_, ?_, hk0, hG⟩, ?_, rfl, rfl, rfl, fun _ h => h, E rfl, E rfl, E rfl, E rfl, E rfl, trivial⟩
      all_goals (simp; try omega)
  · have hie : i = s.length := by simp at h; omega
    subst hie
    rw [List.drop_length, splR] at hG
    refine a_exit ?_
    refine a_seq ?_
    refine a_seq ?_
    refine a_reg (o1 (p_mv (E rfl)) oz) rfl rfl ?_
    refine a_cond (E rfl) (fun h => ?_) (fun h => ?_)
    · rw [if_pos h] at hG
      refine a_regl ?_
      refine l_o (p_mv (E rfl)) rfl ?_
      refine l_o (p_mv (E rfl)) rfl ?_
      refine l_o (p_bs (xs := [.tmp 57]) (sz := 1) Tryz.underlying33 ty_zo_9 rfl rfl rfl (.cons (E rfl) .nil) rfl rfl rfl) rfl ?_
      refine l_e (e_appr (Lr := L) Tryz.underlying33 ty_zo_9 rfl ty_by_9 rfl rfl List.mem_cons_self (E rfl) (by have := encStrs_length out; simp; omega) (fun j hj => ⟨List.mem_cons_of_mem _ hj, fun e => hk0 (e ▸ hj)⟩) (fun k' hk' => ?_))
      have hk0 : k' ∉ L := fun h => hk' (List.mem_cons_of_mem _ h)
      refine l_o (p_as (E rfl)) rfl ?_
      refine l_nil ?_
      refine a_seq ?_
      refine a_reg (o1 (p_mv (E rfl)) (o1 (p_mv (E rfl)) (o1 (p_not (E rfl)) (o1 (p_as (E rfl)) (o1 (p_as (E rfl)) oz))))) rfl rfl ?_
      refine a_frz (t := 2) (Lr := L) rfl List.mem_cons_self (fun j hj => ⟨List.mem_cons_of_mem _ hj, fun e => hk0 (e ▸ hj)⟩) ?_
      refine a_ret ?_
      refine ⟨_, resA_two rfl (E rfl) (E rfl), rfl, ?_, rfl, fun _ h => h⟩
      (try rw [← hG]) <;> (try (simp [encStrs])) <;> (try rfl)
    · rw [if_neg (by rw [h]; simp)] at hG
      refine a_skip ?_
      refine a_seq ?_
      refine a_reg (o1 (p_mv (E rfl)) (o1 (p_mv (E rfl)) (o1 (p_not (E rfl)) (o1 (p_as (E rfl)) (o1 (p_as (E rfl)) oz))))) rfl rfl ?_
      refine a_frz (t := 2) (Lr := L) rfl List.mem_cons_self (fun j hj => ⟨List.mem_cons_of_mem _ hj, fun e => hk0 (e ▸ hj)⟩) ?_
      refine a_ret ?_
      refine ⟨_, resA_two rfl (E rfl) (E rfl), rfl, ?_, rfl, fun _ h => h⟩
      (try rw [← hG]) <;> (try (simp [encStrs])) <;> (try rfl)

theorem c_emendationlaw20_plain (s : List UInt8) (hs : s.length ≤ 500) : Fn Tryz.prog 19 [str s] (bool (plainF s)) := by
  intro ob L
  refine a_fn Tryz.func19 rfl (by decide) (Nat.le_of_ble_eq_true rfl) ?_
  show AWP _ _ ⟨21, [(0, str s)], [], ob, L⟩ _
  refine a_fstr (t := 0) (E rfl) fun hA0 => ?_
  refine a_seq ?_
  refine a_reg (o1 (p_as (E rfl)) oz) rfl rfl ?_
  refine a_seq ?_
  refine a_reg (o1 (p_mv (E rfl)) (o1 (p_call (c_emendationref02_Split s hs) (.cons (E rfl) .nil) rfl rfl) (o1 (p_mv (E rfl)) (o1 (p_ext (E rfl) rfl) (o1 (p_ext (E rfl) rfl) (o1 (p_as (E rfl)) (o1 (p_as (E rfl)) oz))))))) rfl rfl ?_
  refine a_seq ?_
  refine a_reg (o1 (p_mv (E rfl)) (o1 (p_eqs (E rfl) (E rfl)) (o1 (p_mv (E rfl)) (g1 rfl rfl (fun h3 => p_mv (E rfl)) (g1 rfl rfl (fun h4 => p_lenl Tryz.underlying33 (Eo rfl h4)) (g1 rfl rfl (fun h5 => p_eq (Eo rfl h5) (E rfl)) (g1 rfl rfl (fun h6 => p_mv (Eo rfl h6)) (g2 rfl rfl (fun h7 => p_mv (E rfl)) (g2 rfl rfl (fun h8 => p_not (Eo rfl h8)) (g1 rfl rfl (fun h9 => p_and (Eo rfl h9) rfl rfl (fun h => ai h9 (bqt h))) (o1 (p_or (E rfl) rfl rfl (fun h => bqf h)) (o1 (p_as (E rfl)) oz)))))))))))) rfl rfl ?_
  refine a_ret ?_
  refine ⟨_, resA_one rfl (E rfl), rfl, ?_, rfl, fun _ h => h⟩
  simp [plainF, encStrs_length, Bool.and_comm]


end Go.Proofs.YtcemejmegbefgaaGreatDoor.Em

set_option maxRecDepth 100000
set_option linter.unusedVariables false
set_option linter.unusedSimpArgs false
namespace Go.Proofs.YtcemejmegbefgaaGreatDoor.Em
/-! Four options in whatever order. -/
def argN : Nat → List UInt8
  | 0 => nmS
  | 1 => nmO
  | 2 => nmB
  | _ => nmT
def argV (ds a b c : List UInt8) : Nat → List UInt8
  | 0 => ds
  | 1 => a
  | 2 => b
  | _ => c
def argF (ds a b c : List UInt8) : Nat → List UInt8
  | 0 => [115, 105, 122, 101, 61] ++ ds
  | 1 => [111, 117, 114, 115, 61] ++ a
  | 2 => [98, 97, 115, 101, 61] ++ b
  | _ => [116, 104, 101, 105, 114, 115, 61] ++ c
theorem argF_cF (ds a b c : List UInt8) (i : Nat) : cF (argF ds a b c i) = some (argN i, argV ds a b c i) := by
  match i with
  | 0 => rfl
  | 1 => rfl
  | 2 => rfl
  | n + 3 => rfl
theorem argF_kv (ds a b c : List UInt8) (i : Nat) (hi : i < 4) : kvF (argF ds a b c i) namesL 0 (-1, []) = ((i : Int), argV ds a b c i) := by
  rw [kv_some (argF_cF ds a b c i)]
  match i, hi with
  | 0, _ => rfl
  | 1, _ => rfl
  | 2, _ => rfl
  | 3, _ => rfl
theorem refG_step (ds a b c : List UInt8) (hcr : ∀ i, crlf (argV ds a b c i) = false) (hn : 0 ≤ numR ds) (i : Nat) (hi : i < 4) (r : List (List UInt8)) (o : OptS) (f : Nat → Bool) :
    refG (argF ds a b c i :: r) o f = if f i = true then (o0, 1) else refG r (setR o i (argV ds a b c i)) (fun j => f j || j == i) := by
  rw [refG, argF_kv ds a b c i hi]
  simp only [long_crlf, hcr i, Int.toNat_natCast, Bool.or_false]
  have h1 : decide ((i : Int) < 0) = false := by rw [decide_eq_false_iff_not]; omega
  have h2 : (decide ((i : Int) = 0) && decide (numR (argV ds a b c i) < 0)) = false := by
    match i, hi with
    | 0, _ =>
      have : decide (numR (argV ds a b c 0) < 0) = false := by
        show decide (numR ds < 0) = false
        simp; omega
      rw [this]; rfl
    | n + 1, _ =>
      have : decide (((n + 1 : Nat) : Int) = 0) = false := by simp; omega
      rw [this]; rfl
  rw [h1, h2]
  simp
theorem refG_list (ds a b c : List UInt8) (hcr : ∀ i, crlf (argV ds a b c i) = false) (hn : 0 ≤ numR ds) (r : List (List UInt8)) : ∀ (q : List Nat) (o : OptS) (f : Nat → Bool), q.Nodup → (∀ i ∈ q, i < 4) → (∀ i ∈ q, f i = false) →
    refG (q.map (argF ds a b c) ++ r) o f = refG r (q.foldl (fun o (i : Nat) => setR o i (argV ds a b c i)) o) (fun j => f j || q.contains j)
  | [], o, f, _, _, _ => by simp
  | i :: q, o, f, hd, h4, hf => by
    obtain ⟨hd1, hd2⟩ := List.nodup_cons.1 hd
    rw [List.map_cons, List.cons_append, refG_step ds a b c hcr hn i (h4 i (by simp)), if_neg (by rw [hf i (by simp)]; simp)]
    rw [refG_list ds a b c hcr hn r q _ _ hd2 (fun j hj => h4 j (by simp [hj])) (fun j hj => by
      have : j ≠ i := fun e => hd1 (e ▸ hj)
      simp [hf j (by simp [hj]), this])]
    rw [List.foldl_cons]
    congr 1
    funext j
    have hb : (j == i) = decide (j = i) := rfl
    simp [Bool.or_assoc, hb]
def P24 : List (List Nat) := [[0, 1, 2, 3], [0, 1, 3, 2], [0, 2, 1, 3], [0, 2, 3, 1], [0, 3, 1, 2], [0, 3, 2, 1], [1, 0, 2, 3], [1, 0, 3, 2], [1, 2, 0, 3], [1, 2, 3, 0], [1, 3, 0, 2], [1, 3, 2, 0],
  [2, 0, 1, 3], [2, 0, 3, 1], [2, 1, 0, 3], [2, 1, 3, 0], [2, 3, 0, 1], [2, 3, 1, 0], [3, 0, 1, 2], [3, 0, 2, 1], [3, 1, 0, 2], [3, 1, 2, 0], [3, 2, 0, 1], [3, 2, 1, 0]]
def swpN (q : List Nat) (j : Nat) : List Nat := (q.set 0 (q.getD j 0)).set j (q.getD 0 0)
theorem P24_swp {q : List Nat} (h : q ∈ P24) {j : Nat} (hj : j < 4) : swpN q j ∈ P24 := by
  have : (P24.all fun q => (List.range 4).all fun j => P24.contains (swpN q j)) = true := by decide +kernel
  have h1 := List.all_eq_true.1 this q h
  have h2 := List.all_eq_true.1 h1 j (List.mem_range.2 hj)
  simpa using h2
theorem P24_ok {q : List Nat} (h : q ∈ P24) : q.Nodup ∧ (∀ i ∈ q, i < 4) ∧ q.length = 4 ∧ q.contains (q.getD 0 0) = true ∧ q.getD 0 0 < 4 := by
  have : (P24.all fun q => decide (q.Nodup ∧ (∀ i ∈ q, i < 4) ∧ q.length = 4 ∧ q.contains (q.getD 0 0) = true ∧ q.getD 0 0 < 4)) = true := by decide +kernel
  have h1 := List.all_eq_true.1 this q h
  simpa using h1
theorem P24_fold (ds a b c : List UInt8) {q : List Nat} (h : q ∈ P24) : q.foldl (fun o (i : Nat) => setR o i (argV ds a b c i)) o7 = ⟨numR ds, a, b, c⟩ := by
  simp only [P24, List.mem_cons, List.mem_nil_iff, or_false] at h
  rcases h with rfl | rfl | rfl | rfl | rfl | rfl | rfl | rfl | rfl | rfl | rfl | rfl | rfl | rfl | rfl | rfl | rfl | rfl | rfl | rfl | rfl | rfl | rfl | rfl <;> rfl
theorem args_once (ds a b c : List UInt8) (hcr : ∀ i, crlf (argV ds a b c i) = false) (hn : 0 ≤ numR ds) {q : List Nat} (h : q ∈ P24) : decG (q.map (argF ds a b c)) o7 [] = (⟨numR ds, a, b, c⟩, 0) := by
  obtain ⟨h1, h2, _⟩ := P24_ok h
  have := refG_list ds a b c hcr hn [] q o7 (fun _ => false) h1 h2 (fun _ _ => rfl)
  rw [List.append_nil] at this
  rw [dec_ref0, this, refG, P24_fold ds a b c h]
theorem args_twice (ds a b c : List UInt8) (hcr : ∀ i, crlf (argV ds a b c i) = false) (hn : 0 ≤ numR ds) {q : List Nat} (h : q ∈ P24) : (decG (q.map (argF ds a b c) ++ [argF ds a b c (q.getD 0 0)]) o7 []).2 = 1 := by
  obtain ⟨h1, h2, _, h4, h5⟩ := P24_ok h
  rw [dec_ref0, refG_list ds a b c hcr hn _ q o7 (fun _ => false) h1 h2 (fun _ _ => rfl), refG_step ds a b c hcr hn _ h5, if_pos (by simpa using h4)]
/-! The digits of a small number. -/
theorem numV_acc (ds : List UInt8) : ∀ a : Int, ds.foldl (fun n b => n * 10 + ((b.toNat : Int) - 48)) a = a * 10 ^ ds.length + numV ds := by
  induction ds with
  | nil => intro a; simp [numV]
  | cons d ds ih =>
    intro a
    have h := ih (a * 10 + ((d.toNat : Int) - 48))
    have h2 := ih (0 * 10 + ((d.toNat : Int) - 48))
    simp only [List.foldl_cons, numV, List.length_cons, Int.pow_succ] at *
    rw [h, h2]
    simp only [Int.zero_mul, Int.zero_add, Int.add_mul, Int.mul_assoc]
    have : (10 : Int) * 10 ^ ds.length = 10 ^ ds.length * 10 := Int.mul_comm _ _
    rw [this]; omega
theorem numV_cons (d : UInt8) (ds : List UInt8) : numV (d :: ds) = ((d.toNat : Int) - 48) * 10 ^ ds.length + numV ds := by
  have := numV_acc ds (0 * 10 + ((d.toNat : Int) - 48))
  simpa [numV] using this
def dg (n : Int) : UInt8 := UInt8.ofNat (48 + n.toNat)
theorem dg_nat {n : Int} (h : 0 ≤ n ∧ n ≤ 9) : ((dg n).toNat : Int) = 48 + n ∧ digB (dg n) = true := by
  have : (dg n).toNat = 48 + n.toNat := by simp [dg]; omega
  refine ⟨by omega, ?_⟩
  unfold digB; simp; omega
def digsL : List UInt8 := [48, 49, 50, 51, 52, 53, 54, 55, 56, 57]
theorem cut_dig {n : Int} (h : 0 ≤ n ∧ n ≤ 9) : cut digsL n.toNat (n + 1).toNat = [dg n] := by
  obtain ⟨m, rfl⟩ := Int.eq_ofNat_of_zero_le h.1
  have hm : m ≤ 9 := by omega
  match m, hm with
  | 0, _ => rfl
  | 1, _ => rfl
  | 2, _ => rfl
  | 3, _ => rfl
  | 4, _ => rfl
  | 5, _ => rfl
  | 6, _ => rfl
  | 7, _ => rfl
  | 8, _ => rfl
  | 9, _ => rfl
def DI (n k : Int) (ds : List UInt8) : Prop := (∀ b ∈ ds, digB b = true) ∧
  ((ds.length = 0 ∧ k = n ∧ numV ds = 0) ∨ (ds.length = 1 ∧ k = n / 10 ∧ numV ds = n % 10) ∨ (ds.length = 2 ∧ k = n / 100 ∧ numV ds = n % 100) ∨ (ds.length = 3 ∧ k = n / 1000 ∧ numV ds = n % 1000) ∨ (ds.length = 4 ∧ k = 0 ∧ numV ds = n))
theorem DI_zero (n : Int) : DI n n [] := ⟨by simp, .inl ⟨rfl, rfl, rfl⟩⟩
theorem DI_k {n k : Int} {ds : List UInt8} (h : DI n k ds) (hn : 0 ≤ n ∧ n ≤ 9999) : 0 ≤ k ∧ k ≤ 9999 ∧ ds.length ≤ 4 := by
  rcases h.2 with ⟨h1, h2, _⟩ | ⟨h1, h2, _⟩ | ⟨h1, h2, _⟩ | ⟨h1, h2, _⟩ | ⟨h1, h2, _⟩ <;> subst h2 <;> refine ⟨by omega, by omega, by omega⟩
theorem DI_step {n k : Int} {ds : List UInt8} (h : DI n k ds) (hn : 0 ≤ n ∧ n ≤ 9999) (hc : k > 0 ∨ ds = []) : DI n (k / 10) (dg (k % 10) :: ds) := by
  obtain ⟨hk0, hk9, _⟩ := DI_k h hn
  obtain ⟨h1, h2⟩ := dg_nat (n := k % 10) (by omega)
  refine ⟨fun b hb => ?_, ?_⟩
  · rcases List.mem_cons.1 hb with rfl | hb
    · exact h2
    · exact h.1 b hb
  · rw [numV_cons, h1]
    simp only [List.length_cons]
    rcases h.2 with ⟨e, hk, hv⟩ | ⟨e, hk, hv⟩ | ⟨e, hk, hv⟩ | ⟨e, hk, hv⟩ | ⟨e, hk, hv⟩ <;> rw [e, hv] <;> simp only [Int.reducePow, Nat.reduceAdd]
    · right; left; subst hk; exact ⟨trivial, by omega, by omega⟩
    · right; right; left; subst hk; exact ⟨trivial, by omega, by omega⟩
    · right; right; right; left; subst hk; exact ⟨trivial, by omega, by omega⟩
    · right; right; right; right; subst hk; exact ⟨trivial, by omega, by omega⟩
    · exfalso
      rcases hc with hc | hc
      · omega
      · subst hc; simp at e
theorem DI_end {n k : Int} {ds : List UInt8} (h : DI n k ds) (hn : 0 ≤ n ∧ n ≤ 9999) (hc : ¬ (k > 0 ∨ ds = [])) : numR ds = n ∧ crlf ds = false ∧ ds.length ≤ 4 := by
  obtain ⟨hk0, hk9, hl⟩ := DI_k h hn
  have hne : ds ≠ [] := fun e => hc (.inr e)
  have h1 : 1 ≤ ds.length := List.length_pos_iff.2 hne
  have hk : k = 0 := by omega
  refine ⟨?_, ?_, hl⟩
  · rw [numR, if_pos ⟨h1, hl, List.all_eq_true.2 h.1⟩]
    rcases h.2 with ⟨e, hk', hv⟩ | ⟨e, hk', hv⟩ | ⟨e, hk', hv⟩ | ⟨e, hk', hv⟩ | ⟨e, hk', hv⟩ <;> omega
  · rw [crlf, List.any_eq_false]
    intro b hb
    have := h.1 b hb
    unfold digB at this
    simp at this
    simp
    constructor
    · rintro rfl; simp at this
    · rintro rfl; simp at this
/-- A name without line ends. -/
theorem splR_len (cur : List UInt8) (op : Bool) (out : List (List UInt8)) (s : List UInt8) : out.length ≤ (splR cur op out s).1.length ∧ ((splR cur op out s).2 = false → out.length + 1 ≤ (splR cur op out s).1.length) := by
  induction cur, op, out, s using splR.induct with
  | case1 cur op out => rw [splR]; cases op <;> simp
  | case2 cur op out x r h ih =>
    rw [splR, if_pos h]
    simp only [List.length_append, List.length_singleton, dite_eq_ite] at ih
    exact ⟨by omega, fun hh => by have := ih.2 hh; omega⟩
  | case3 cur op out x r h ih => rw [splR, if_neg h]; exact ih
theorem splR_crlf (cur : List UInt8) (op : Bool) (out : List (List UInt8)) (s : List UInt8) (hc : crlf s = true) : (splR cur op out s).2 = true ∨ out.length + 2 ≤ (splR cur op out s).1.length := by
  induction cur, op, out, s using splR.induct with
  | case1 cur op out => cases hc
  | case2 cur op out x r h ih =>
    rw [splR, if_pos h]
    have := splR_len [] false (out ++ [cur]) (if x = 13 ∧ r.head? = some 10 then r.tail else r)
    simp only [List.length_append, List.length_singleton] at this
    cases hh : (splR [] false (out ++ [cur]) (if x = 13 ∧ r.head? = some 10 then r.tail else r)).2 with
    | true => exact .inl rfl
    | false => right; have := this.2 hh; omega
  | case3 cur op out x r h ih =>
    rw [splR, if_neg h]
    refine ih ?_
    unfold crlf at hc ⊢
    rw [List.any_cons] at hc
    have : (x == 13 || x == 10) = false := by
      simp only [Bool.or_eq_false_iff, beq_eq_false_iff_ne]
      exact ⟨fun e => h (.inr e), fun e => h (.inl e)⟩
    rw [this] at hc
    simpa using hc
theorem plain_crlf {s : List UInt8} (h : plainF s = true) : crlf s = false := by
  cases hc : crlf s with
  | false => rfl
  | true =>
    unfold plainF at h
    rcases splR_crlf [] false [] s hc with h2 | h2
    · rw [h2] at h
      simp at h
      subst h; cases hc
    · simp only [List.length_nil, Nat.zero_add] at h2
      simp only [Bool.or_eq_true, decide_eq_true_eq, Bool.and_eq_true] at h
      rcases h with rfl | h
      · cases hc
      · omega
end Go.Proofs.YtcemejmegbefgaaGreatDoor.Em

set_option maxRecDepth 100000
set_option linter.unusedVariables false
set_option linter.unusedSimpArgs false
namespace Go.Proofs.YtcemejmegbefgaaGreatDoor.Em
open Go.Proofs

def us (l : List Int) : List (List D) := l.map fun n => [.v (.int .u64 n)]
theorem us_length (l : List Int) : (us l).length = l.length := by simp [us]
theorem argS (F : Nat → List UInt8) (q : List Nat) (j : Nat) (h : q.length = 4) (hj : j < 4) : (encStrs (q.map F))[j]? = some [.v (.string ⟨(F (q.getD j 0)).toArray⟩)] := by
  have : q[j]? = some (q.getD j 0) := by rw [List.getD, List.getElem?_eq_getElem (by omega)]; rfl
  rw [encStrs, List.getElem?_map, List.getElem?_map, this]; rfl
theorem argSwp (F : Nat → List UInt8) (q : List Nat) (j : Nat) : ((encStrs (q.map F)).set 0 [.v (.string ⟨(F (q.getD j 0)).toArray⟩)]).set j [.v (.string ⟨(F (q.getD 0 0)).toArray⟩)] = encStrs ((swpN q j).map F) := by
  have e : ∀ q : List Nat, encStrs (q.map F) = q.map (fun i => [.v (.string ⟨(F i).toArray⟩)]) := fun q => by rw [encStrs, List.map_map]; rfl
  rw [e, e, swpN, List.map_set, List.map_set]
theorem argSet (F : Nat → List UInt8) (q : List Nat) (j : Nat) (h : q.length = 4) (hj : j < 4) : ((encStrs (q.map F)).set 0 [.v (.string ⟨(F (q.getD j 0)).toArray⟩)])[j]? = some [.v (.string ⟨(F (q.getD j 0)).toArray⟩)] := by
  rw [List.getElem?_set]
  split
  · next e => subst e; rw [if_pos (by rw [encStrs_length, List.length_map, h]; omega)]
  · exact argS F q j h hj

theorem c_emendationlaw20_DriverArgs (m : Int) (a b c : List UInt8) (od : List Int) (hm : 0 ≤ m ∧ m ≤ 65535) (hod : ∀ n ∈ od, 0 ≤ n ∧ n ≤ 18446744073709551615) : Fn Tryz.prog 6 [.d (.v (.int .u16 m)), str a, str b, str c, lst 1 (us od)] (bool true) := by
  intro ob L
  refine a_fn Tryz.func6 rfl (by decide) (Nat.le_of_ble_eq_true rfl) ?_
  show AWP _ _ ⟨139, [(0, .d (.v (.int .u16 m))), (1, str a), (2, str b), (3, str c), (4, lst 1 (us od))], [], ob, L⟩ _
  refine a_fstr (t := 1) (E rfl) fun hA1 => ?_
  refine a_fstr (t := 2) (E rfl) fun hA2 => ?_
  refine a_fstr (t := 3) (E rfl) fun hA3 => ?_
  refine a_flst (t := 4) (E rfl) fun hA4 => ?_
  refine a_seq ?_
  refine a_reg (o1 (p_as (E rfl)) oz) rfl rfl ?_
  refine a_seq ?_
  refine a_seq ?_
  refine a_reg (o1 (p_call (c_emendationlaw20_awake) .nil rfl rfl) (o1 (p_not (E rfl)) (o1 (p_mv (E rfl)) (g1 rfl rfl (fun h3 => p_mv (E rfl)) (g1 rfl rfl (fun h4 => p_lens Tryz.underlying9 (Eo rfl h4)) (g1 rfl rfl (fun h5 => p_mv (E rfl)) (g1 rfl rfl (fun h6 => p_lens Tryz.underlying9 (Eo rfl h6)) (g1 rfl rfl (fun h7 => p_addf (Eo rfl h7) (Eo rfl h7) (fun _ _ => (by omega))) (g1 rfl rfl (fun h8 => p_mv (E rfl)) (g1 rfl rfl (fun h9 => p_lens Tryz.underlying9 (Eo rfl h9)) (g1 rfl rfl (fun h10 => p_addf (Eo rfl h10) (Eo rfl h10) (fun _ _ => (by omega))) (g1 rfl rfl (fun h11 => p_gtr (Eo rfl h11) (E rfl)) (o1 (p_or (E rfl) rfl rfl (fun h => bqf h)) (o1 (p_mv (E rfl)) (g1 rfl rfl (fun h14 => p_mv (E rfl)) (g1 rfl rfl (fun h15 => p_call (c_emendationlaw20_plain _ (by simp at h15; omega)) (.cons (Eo rfl h15) .nil) rfl rfl) (g1 rfl rfl (fun h16 => p_not (Eo rfl h16)) (o1 (p_or (E rfl) rfl rfl (fun h => bqf h)) (o1 (p_mv (E rfl)) (g1 rfl rfl (fun h19 => p_mv (E rfl)) (g1 rfl rfl (fun h20 => p_call (c_emendationlaw20_plain _ (by simp at h20; omega)) (.cons (Eo rfl h20) .nil) rfl rfl) (g1 rfl rfl (fun h21 => p_not (Eo rfl h21)) (o1 (p_or (E rfl) rfl rfl (fun h => bqf h)) (o1 (p_mv (E rfl)) (g1 rfl rfl (fun h24 => p_mv (E rfl)) (g1 rfl rfl (fun h25 => p_call (c_emendationlaw20_plain _ (by simp at h25; omega)) (.cons (Eo rfl h25) .nil) rfl rfl) (g1 rfl rfl (fun h26 => p_not (Eo rfl h26)) (o1 (p_or (E rfl) rfl rfl (fun h => bqf h)) (o1 (p_mv (E rfl)) (g1 rfl rfl (fun h29 => p_mv (E rfl)) (g1 rfl rfl (fun h30 => p_lenl Tryz.underlying49 (Eo rfl h30)) (g1 rfl rfl (fun h31 => p_gtr (Eo rfl h31) (E rfl)) (o1 (p_or (E rfl) rfl rfl (fun h => bqf h)) oz))))))))))))))))))))))))))))))))) rfl rfl ?_
  refine a_cond (E rfl) (fun h => ?_) (fun h => ?_)
  · refine a_seq ?_
    refine a_reg (o1 (p_call (c_emendationlaw20_awake) .nil rfl rfl) (o1 (p_as (E rfl)) oz)) rfl rfl ?_
    refine a_ret ?_
    refine ⟨_, resA_one rfl (E rfl), rfl, ?_, rfl, fun _ h => h⟩
    rfl
  · have hF : (a.length : Int) + b.length + c.length ≤ 500 ∧ plainF a = true ∧ plainF b = true ∧ plainF c = true ∧ od.length ≤ 20 := by
      simp only [Bool.or_eq_false_iff, Bool.not_eq_false', decide_eq_false_iff_not, us_length] at h
      obtain ⟨⟨⟨⟨⟨_, h1⟩, h2⟩, h3⟩, h4⟩, h5⟩ := h
      exact ⟨by omega, h2, h3, h4, by omega⟩
    obtain ⟨hlen, hpa, hpb, hpc, hol⟩ := hF
    have hca := plain_crlf hpa
    have hcb := plain_crlf hpb
    have hcc := plain_crlf hpc
    have hN : 0 ≤ m % 10000 ∧ m % 10000 ≤ 9999 := by omega
    refine a_skip ?_
    refine a_seq ?_
    refine a_reg (o1 (p_mv (E rfl)) (o1 (p_cv ty_iu_48 ty_iu_3 (E rfl) (by simp [IntKind.min, IntKind.max, IntKind.signed, IntKind.bits]; omega)) (o1 (p_rem (E rfl) (E rfl) (by omega)) (o1 (p_as (E rfl)) oz)))) rfl rfl ?_
    refine a_seq ?_
    refine a_reg (o1 (p_as (E rfl)) oz) rfl rfl ?_
    refine a_seq ?_
    refine a_seq ?_
    refine a_reg (o1 (p_mv (E rfl)) (o1 (p_as (E rfl)) oz)) rfl rfl ?_
    refine a_block ?_
    refine a_loop (fun p : Int × List UInt8 => DI (m % 10000) p.1 p.2) (fun p => p.1.toNat * 2 + (if p.2 = [] then 1 else 0)) (fun p => ⟨139, [(0, .d (.v (.int .u16 m))), (1, str a), (2, str b), (3, str c), (4, lst 1 (us od)), (11, i64 (m % 10000)), (12, str p.2), (13, i64 p.1)], [], ob, L⟩) (m % 10000, []) (DI_zero _) ⟨rfl, rfl, rfl, fun _ h => h, E rfl, E rfl, E rfl, E rfl, E rfl, E rfl, E rfl, E rfl, trivial⟩ fun p hp => ?_
    obtain ⟨k, ds⟩ := p
    simp only at hp
    obtain ⟨hk0, hk9, hdl⟩ := DI_k hp hN
    refine a_seq ?_
    refine a_seq ?_
    refine a_reg (o1 (p_mv (E rfl)) (o1 (p_gtr (E rfl) (E rfl)) (o1 (p_mv (E rfl)) (g1 rfl rfl (fun h3 => p_mv (E rfl)) (g1 rfl rfl (fun h4 => p_eqs (Eo rfl h4) (E rfl)) (o1 (p_or (E rfl) rfl rfl (fun h => bqf h)) oz)))))) rfl rfl ?_
    refine a_cond (E rfl) (fun h => ?_) (fun h => ?_)
    · have hc : k > 0 ∨ ds = [] := by simpa using h
      have hcut := cut_dig (n := k % 10) (by omega)
      refine a_skip ?_
      refine a_seq ?_
      refine a_block ?_
      refine a_reg (o1 (p_mv (E rfl)) (o1 (p_rem (E rfl) (E rfl) (by omega)) (o1 (p_mv (E rfl)) (o1 (p_rem (E rfl) (E rfl) (by omega)) (o1 (p_addf (E rfl) (E rfl) (fun _ _ => (by omega))) (o1 (p_ss (s := digsL) Tryz.underlying9 (E rfl) (E rfl) (E rfl) (by simp [digsL]; omega)) (o1 (p_mv (E rfl)) (o1 (p_cat (E rfl) (E rfl) (by rw [hcut]; simp [LIM]; omega)) (o1 (p_as (E rfl)) oz))))))))) rfl rfl ?_
      refine a_reg (o1 (p_mv (E rfl)) (o1 (p_quo (E rfl) (E rfl) (by omega)) (o1 (p_as (E rfl)) oz))) rfl rfl ?_
      exact ⟨(k / 10, dg (k % 10) :: ds), DI_step hp hN hc, (by rcases hc with hc | hc <;> simp [hc] <;> omega), rfl, rfl, rfl, fun _ h => h, E rfl, E rfl, E rfl, E rfl, E rfl, E rfl, Eq_ rfl (by rw [hcut]; rfl), E rfl, trivial⟩
    · have hc : ¬ (k > 0 ∨ ds = []) := by simp only [Bool.or_eq_false_iff, decide_eq_false_iff_not] at h; exact fun hh => hh.elim (fun h1 => h.1 h1) (fun h1 => h.2 h1)
      obtain ⟨hnum, hcd, hdl4⟩ := DI_end hp hN hc
      refine a_exit ?_
      refine a_seq ?_
      refine a_regl ?_
      refine l_o (p_mv (E rfl)) rfl ?_
      refine l_o (p_cat (E rfl) (E rfl) (by simp [LIM]; omega)) rfl ?_
      refine l_o (p_mv (E rfl)) rfl ?_
      refine l_o (p_cat (E rfl) (E rfl) (by simp [LIM]; omega)) rfl ?_
      refine l_o (p_mv (E rfl)) rfl ?_
      refine l_o (p_cat (E rfl) (E rfl) (by simp [LIM]; omega)) rfl ?_
      refine l_o (p_mv (E rfl)) rfl ?_
      refine l_o (p_cat (E rfl) (E rfl) (by simp [LIM]; omega)) rfl ?_
      refine l_e (e_bsr (xs := [.tmp 76, .tmp 78, .tmp 80, .tmp 82]) (sz := 1) Tryz.underlying33 ty_zo_9 rfl rfl rfl rfl (.cons (E rfl) (.cons (E rfl) (.cons (E rfl) (.cons (E rfl) .nil)))) rfl rfl rfl (fun k0 hk0 => ?_))
      refine l_o (p_as (E rfl)) rfl ?_
      refine l_nil ?_
      refine a_seq ?_
      refine a_seq ?_
      refine a_reg (o1 (p_mv (E rfl)) (o1 (p_lenl Tryz.underlying49 (E rfl)) (o1 (p_mv (E rfl)) oz))) rfl rfl ?_
      refine a_block ?_
      refine a_loop (fun p : Nat × List Nat × Nat => p.1 ≤ od.length ∧ p.2.1 ∈ P24 ∧ p.2.2 ∉ L) (fun p => od.length - p.1) (fun p => ⟨139, [(0, .d (.v (.int .u16 m))), (1, str a), (2, str b), (3, str c), (4, lst 1 (us od)), (11, i64 (m % 10000)), (14, .row 9 1 (encStrs (p.2.1.map (argF ds a b c))) p.2.2), (85, i64 od.length), (86, i64 p.1)], [], ob, p.2.2 :: L⟩) (0, [0, 1, 2, 3], k0) ⟨by simp, by simp [P24], hk0⟩ ⟨rfl, rfl, rfl, fun _ h => h, E rfl, E rfl, E rfl, E rfl, E rfl, E rfl, E rfl, Eq_ rfl (by rw [us_length]), E rfl, trivial⟩ fun p hp => ?_
      obtain ⟨i, q, k⟩ := p
      obtain ⟨hi, hq, hk0⟩ := hp
      simp only at hi hq hk0
      show AWP _ _ ⟨139, [(0, .d (.v (.int .u16 m))), (1, str a), (2, str b), (3, str c), (4, lst 1 (us od)), (11, i64 (m % 10000)), (14, .row 9 1 (encStrs (q.map (argF ds a b c))) k), (85, i64 od.length), (86, i64 i)], [], ob, k :: L⟩ _
      have hql := (P24_ok hq).2.2.1
      have hq0 := argS (argF ds a b c) q 0 hql (by decide)
      refine a_seq ?_
      refine a_reg (o1 (p_lss (E rfl) (E rfl)) oz) rfl rfl ?_
      refine a_seq ?_
      refine a_cond (E rfl) (fun h => ?_) (fun h => ?_)
      · have hlt : i < od.length := by simpa using h
        obtain ⟨n, hn⟩ : ∃ x, od[i]? = some x := ⟨od[i], List.getElem?_eq_getElem hlt⟩
        have hnr := hod n (List.mem_of_getElem? hn)
        refine a_skip ?_
        refine a_seq ?_
        refine a_block ?_
        refine a_seq ?_
        refine a_reg (o1 (p_mv (E rfl)) (o1 (p_as (E rfl)) oz)) rfl rfl ?_
        refine a_seq ?_
        refine a_reg (o1 (p_mv (E rfl)) (o1 (p_mv (E rfl)) (o1 (p_ia Tryz.underlying49 ty_sz_51 (E rfl) (E rfl) (by have := us_length od; omega) (mg hn)) (o1 (p_ld ty_na_51 (E rfl)) (o1 (p_remu (E rfl) (E rfl) (by omega)) (o1 (p_cv ty_iu_51 ty_iu_3 (E rfl) (by simp [IntKind.min, IntKind.max, IntKind.signed, IntKind.bits]; omega)) (o1 (p_as (E rfl)) oz))))))) rfl rfl ?_
        obtain ⟨j, hj, hj4⟩ : ∃ j : Nat, n % 4 = (j : Int) ∧ j < 4 := ⟨(n % 4).toNat, by omega, by omega⟩
        rw [hj]
        have hqj := argS (argF ds a b c) q j hql hj4
        refine a_regde (fun _ _ _ => True) [6, 9, 10, 11, 13] mix (.free rfl rfl (fun _ _ _ hG => .op rfl (p_mv (E rfl))) (.free rfl rfl (fun _ _ _ hG => .op rfl (p_mv (E rfl))) (.free rfl rfl (fun _ _ _ hG => .op rfl (p_mv (E rfl))) (.free rfl rfl (fun _ _ _ hG => .op rfl (p_mv (E rfl))) (.free rfl rfl (fun _ _ _ hG => .op rfl (p_mv (E rfl))) (.free rfl rfl (fun _ _ _ hG => .op rfl (p_iar Tryz.underlying33 ty_sz_9 (E rfl) (E rfl) (by rw [encStrs_length, List.length_map, hql]; omega))) (.chain rfl (.free rfl rfl (fun _ _ _ hG => .op rfl (p_mv (E rfl))) (.free rfl rfl (fun _ _ _ hG => .op rfl (p_iar Tryz.underlying33 ty_sz_9 (E rfl) (E rfl) (by rw [encStrs_length, List.length_map, hql]; omega))) (.chain rfl (.chain rfl (.chain rfl (.free rfl rfl (fun _ _ _ hG => .op rfl (p_iar Tryz.underlying33 ty_sz_9 (E rfl) (E rfl) (by rw [encStrs_length, List.length_map, hql]; omega))) (.chain rfl .nil)))))))))))))) rfl rfl (by kernel_rfl) ?_
        refine ch_n [6, 9] trivial (by simp) (by kernel_rfl) (fa_cons ?_ (fa_cons ?_ fa_nil))
        · refine nx_o rfl rfl (p_ldr ty_na_9 (E rfl) List.mem_cons_self hqj rfl) rfl rfl ?_
          refine ch_o trivial rfl (by kernel_rfl) (p_ldr ty_na_9 (E rfl) List.mem_cons_self hq0 rfl) rfl rfl ?_
          refine ch_o trivial rfl (by kernel_rfl) (p_iar Tryz.underlying33 ty_sz_9 (E rfl) (E rfl) (by rw [encStrs_length, List.length_map, hql]; omega)) rfl rfl ?_
          refine ch_e trivial rfl (by kernel_rfl) (e_sw1 (Lr := L) ty_sz_9 rfl List.mem_cons_self (fun j hj => ⟨List.mem_cons_of_mem _ hj, fun e => hk0 (e ▸ hj)⟩) hq0 (E rfl) rfl rfl (by decide) (fun k1 hk1 => ?_))
          refine ⟨rfl, [_], rfl, rfl, rfl, ?_⟩
          have hk10 : k1 ∉ L := fun h => hk1 (List.mem_cons_of_mem _ h)
          have hqj' := argSet (argF ds a b c) q j hql hj4
          refine ch_e trivial rfl (by kernel_rfl) (e_sw2 (t := 105) (Lr := L) ty_sz_9 rfl rfl List.mem_cons_self (fun j hj => ⟨List.mem_cons_of_mem _ hj, fun e => hk10 (e ▸ hj)⟩) hqj' (E rfl) rfl rfl (by decide) (fun k3 hk3 => ?_))
          refine ⟨rfl, [_], rfl, rfl, rfl, ?_⟩
          have hk30 : k3 ∉ L := fun h => hk3 (List.mem_cons_of_mem _ h)
          refine ch_nil trivial ?_
          refine a_cut ⟨139, [(0, .d (.v (.int .u16 m))), (1, str a), (2, str b), (3, str c), (4, lst 1 (us od)), (11, i64 (m % 10000)), (14, .row 9 1 (encStrs (q.map (argF ds a b c))) k), (85, i64 od.length), (86, i64 i), (105, .rp2 9 1 (encStrs ((swpN q j).map (argF ds a b c))) k3 0 0 k)], [], ob, k3 :: L⟩ ⟨rfl, rfl, rfl, fun _ h => h, E rfl, E rfl, E rfl, E rfl, E rfl, E rfl, E rfl, E rfl, E rfl, Eq_ rfl (by rw [← argSwp (argF ds a b c) q j]; rfl), trivial⟩ ?_
          refine a_ren (t := 14) (u := 105) rfl rfl (by simp [encStrs_length, swpN]) (by intro e; have := congrArg List.length e; rw [encStrs_length, List.length_map, hql] at this; cases this) ?_
          refine a_reg (o1 (p_addf (E rfl) (E rfl) (fun _ _ => (by omega))) (o1 (p_mv (E rfl)) oz)) rfl rfl ?_
          exact ⟨(i + 1, swpN q j, k3), ⟨by omega, P24_swp hq hj4, hk30⟩, by simp only; omega, rfl, rfl, rfl, fun _ h => h, E rfl, E rfl, E rfl, E rfl, E rfl, E rfl, E rfl, E rfl, E rfl, trivial⟩
        · refine nx_o rfl rfl (p_ldr ty_na_9 (E rfl) List.mem_cons_self hq0 rfl) rfl rfl ?_
          refine ch_o trivial rfl (by kernel_rfl) (p_ldr ty_na_9 (E rfl) List.mem_cons_self hqj rfl) rfl rfl ?_
          refine ch_o trivial rfl (by kernel_rfl) (p_iar Tryz.underlying33 ty_sz_9 (E rfl) (E rfl) (by rw [encStrs_length, List.length_map, hql]; omega)) rfl rfl ?_
          refine ch_e trivial rfl (by kernel_rfl) (e_sw1 (Lr := L) ty_sz_9 rfl List.mem_cons_self (fun j hj => ⟨List.mem_cons_of_mem _ hj, fun e => hk0 (e ▸ hj)⟩) hq0 (E rfl) rfl rfl (by decide) (fun k1 hk1 => ?_))
          refine ⟨rfl, [_], rfl, rfl, rfl, ?_⟩
          have hk10 : k1 ∉ L := fun h => hk1 (List.mem_cons_of_mem _ h)
          have hqj' := argSet (argF ds a b c) q j hql hj4
          refine ch_e trivial rfl (by kernel_rfl) (e_sw2 (t := 105) (Lr := L) ty_sz_9 rfl rfl List.mem_cons_self (fun j hj => ⟨List.mem_cons_of_mem _ hj, fun e => hk10 (e ▸ hj)⟩) hqj' (E rfl) rfl rfl (by decide) (fun k3 hk3 => ?_))
          refine ⟨rfl, [_], rfl, rfl, rfl, ?_⟩
          have hk30 : k3 ∉ L := fun h => hk3 (List.mem_cons_of_mem _ h)
          refine ch_nil trivial ?_
          refine a_cut ⟨139, [(0, .d (.v (.int .u16 m))), (1, str a), (2, str b), (3, str c), (4, lst 1 (us od)), (11, i64 (m % 10000)), (14, .row 9 1 (encStrs (q.map (argF ds a b c))) k), (85, i64 od.length), (86, i64 i), (105, .rp2 9 1 (encStrs ((swpN q j).map (argF ds a b c))) k3 0 0 k)], [], ob, k3 :: L⟩ ⟨rfl, rfl, rfl, fun _ h => h, E rfl, E rfl, E rfl, E rfl, E rfl, E rfl, E rfl, E rfl, E rfl, Eq_ rfl (by rw [← argSwp (argF ds a b c) q j]; rfl), trivial⟩ ?_
          refine a_ren (t := 14) (u := 105) rfl rfl (by simp [encStrs_length, swpN]) (by intro e; have := congrArg List.length e; rw [encStrs_length, List.length_map, hql] at this; cases this) ?_
          refine a_reg (o1 (p_addf (E rfl) (E rfl) (fun _ _ => (by omega))) (o1 (p_mv (E rfl)) oz)) rfl rfl ?_
          exact ⟨(i + 1, swpN q j, k3), ⟨by omega, P24_swp hq hj4, hk30⟩, by simp only; omega, rfl, rfl, rfl, fun _ h => h, E rfl, E rfl, E rfl, E rfl, E rfl, E rfl, E rfl, E rfl, E rfl, trivial⟩
      · have hie : i = od.length := by simp at h; omega
        have hcr : ∀ i, crlf (argV ds a b c i) = false := fun i => match i with
          | 0 => hcd
          | 1 => hca
          | 2 => hcb
          | _ + 3 => hcc
        have hD1 := args_once ds a b c hcr (by rw [hnum]; omega) hq
        have hD2 := args_twice ds a b c hcr (by rw [hnum]; omega) hq
        refine a_rown (t := 14) (Lr := L) rfl List.mem_cons_self (fun j hj => ⟨List.mem_cons_of_mem _ hj, fun e => hk0 (e ▸ hj)⟩) (by intro e; have := congrArg List.length e; rw [encStrs_length, List.length_map, hql] at this; cases this) (fun k2 hk2 => ?_)
        refine a_exit ?_
        refine a_seq ?_
        refine a_regl ?_
        refine l_o (p_mv (E rfl)) rfl ?_
        refine l_o (p_call (c_driver_Decode (q.map (argF ds a b c))) (.cons (Ew rfl) .nil) rfl rfl) rfl ?_
        refine l_o (p_mv (E rfl)) rfl ?_
        refine l_o (p_ext (E rfl) rfl) rfl ?_
        refine l_o (p_ext (E rfl) rfl) rfl ?_
        refine l_e (e_alloc ty_zi_37 rfl ?_)
        refine l_e (e_st ty_sz_37 rfl rfl (E rfl) rfl rfl rfl ?_)
        refine l_o (p_as (E rfl)) rfl ?_
        refine l_nil ?_
        refine a_seq ?_
        refine a_regl ?_
        refine l_o (p_mv (E rfl)) rfl ?_
        refine l_o (p_mv (E rfl)) rfl ?_
        refine l_o (p_ia Tryz.underlying33 ty_sz_9 (Ew rfl) (E rfl) (by omega) hq0) rfl ?_
        refine l_o (p_ld ty_na_9 (E rfl)) rfl ?_
        refine l_o (p_bs (xs := [.tmp 117]) (sz := 1) Tryz.underlying33 ty_zo_9 rfl rfl rfl (.cons (E rfl) .nil) rfl rfl rfl) rfl ?_
        refine l_e (e_app (Lr := L) Tryz.underlying33 ty_zo_9 rfl ty_by_9 rfl rfl List.mem_cons_self (E rfl) (by have h1 := encStrs_length (q.map (argF ds a b c)); rw [List.length_map, hql] at h1; simp; omega) (fun j hj => ⟨List.mem_cons_of_mem _ hj, fun e => hk2 (e ▸ List.mem_cons_of_mem _ hj)⟩) (fun k4 hk4 => ?_))
        refine l_o (p_call (c_driver_Decode (q.map (argF ds a b c) ++ [(argF ds a b c) (q.getD 0 0)])) (.cons (by rw [← encStrs_snoc]; exact Ew rfl) .nil) rfl rfl) rfl ?_
        refine l_o (p_mv (E rfl)) rfl ?_
        refine l_o (p_ext (E rfl) rfl) rfl ?_
        refine l_o (p_ext (E rfl) rfl) rfl ?_
        refine l_e (e_alloc ty_zi_37 rfl ?_)
        refine l_e (e_st ty_sz_37 rfl rfl (E rfl) rfl rfl rfl ?_)
        refine l_o (p_as (E rfl)) rfl ?_
        refine l_nil ?_
        refine a_seq ?_
        refine a_reg (o1 (p_mv (E rfl)) (o1 (p_eq (E rfl) (E rfl)) (o1 (p_mv (E rfl)) (g1 rfl rfl (fun h3 => p_ldla ty_ag_37 (E rfl) rfl (Nat.le_of_ble_eq_true rfl) rfl) (g1 rfl rfl (fun h4 => p_mv (E rfl)) (g1 rfl rfl (fun h5 => p_mv (E rfl)) (g1 rfl rfl (fun h6 => p_mv (E rfl)) (g1 rfl rfl (fun h7 => p_mv (E rfl)) (g1 rfl rfl (fun h8 => p_bd ty_so_35 (.cons (Eo rfl h8) (.cons (Eo rfl h8) (.cons (Eo rfl h8) .nil))) rfl) (g1 rfl rfl (fun h9 => p_bd ty_so_37 (.cons (Eo rfl h9) (.cons (Eo rfl h9) .nil)) rfl) (g1 rfl rfl (fun h10 => p_eqopt (Eo rfl h10) (Eo rfl h10)) (o1 (p_and (E rfl) rfl rfl (fun h => bqt h)) (o1 (p_mv (E rfl)) (g1 rfl rfl (fun h13 => p_mv (E rfl)) (g1 rfl rfl (fun h14 => p_eq (Eo rfl h14) (E rfl)) (o1 (p_and (E rfl) rfl rfl (fun h => bqt h)) (o1 (p_as (E rfl)) oz))))))))))))))))) rfl rfl ?_
        refine a_ret ?_
        refine ⟨_, resA_one rfl (E rfl), rfl, ?_, rfl, fun _ h => List.mem_cons_of_mem _ h⟩
        rw [hD1, hD2, hnum]; simp


end Go.Proofs.YtcemejmegbefgaaGreatDoor.Em

set_option maxRecDepth 100000
set_option linter.unusedVariables false
set_option linter.unusedSimpArgs false
namespace Go.Proofs.YtcemejmegbefgaaGreatDoor.Em
open Go.Proofs Go.ChangeShapes Go.WideShapes Go.RowKit

theorem wf_int {k : IntKind} {n : Int} (h : (Lit.int k n).wf = true) : k.min ≤ n ∧ n ≤ k.max := by
  simpa [Lit.wf] using h
theorem repC_ints (w : World) (S : Nat → Nat → Prop) (k : IntKind) : ∀ l : List Int, (∀ x ∈ l, (Lit.int k x).wf = true) → RepC w S 1 (l.map fun n => [.v (.int k n)]) (l.map (.int k))
  | [], _ => by simp [RepC]
  | x :: xs, h => by
    have ih := repC_ints w S k xs (fun y hy => h y (List.mem_cons_of_mem _ hy))
    rw [List.map_cons, RepC]
    refine ⟨[.int k x], _, rfl, rfl, ?_, ih⟩
    rw [RepDs]
    refine ⟨_, _, rfl, ?_, rfl⟩
    rw [RepD]
    exact ⟨rfl, wf_int (h x (by simp))⟩

/-- A row of whole numbers that came in. -/
theorem ints_arg {H : Type} {enc : TypeId × Value → H} {P : Program} {W : World} {base : Nat} {spare : Nat → Bool} {held : Bool} {t e : TypeId} {k : IntKind} {v : Value} {d : DataW H} {ps : List MemPlace} {base0 : Nat}
    (ht : P.underlying t = some (.slice e)) (he : P.underlying e = some (.int k)) (hc : P.cellsOf e = 1) (hb8 : 1 ≤ P.bytesOf e)
    (hv : Value.okWide P W .any base0 t v) (h : DataW.Trod enc P W base spare held t v d ps) (hsz : (d.weights P t).all (· ≤ reachBytes) = true) :
    ∃ l : List Int, Rep ⟨W, W.heap.size, fun b o => (W.cell? ⟨b, o, none⟩).isSome = true, [], [], []⟩ (.d (.lst 1 (l.map fun n => [.v (.int k n)]))) v ∧ ∀ x ∈ l, k.min ≤ x ∧ x ≤ k.max := by
  obtain ⟨a0, len, cap, rfl⟩ := okWide_slice ht hv
  obtain ⟨fuel, hf⟩ := h
  rcases open_ints ht he hc hf with ⟨hcs, hx⟩ | ⟨a, len', cap', ss, hcs, _, hl, hm, hz, hx, hcell, hsm⟩
  · simp [Value.cells] at hcs
    obtain ⟨rfl, rfl, rfl⟩ := hcs
    refine ⟨[], ?_, by simp⟩
    simp only [Rep, RepD]
    exact .inl (by simp)
  · simp [Value.cells] at hcs
    obtain ⟨rfl, rfl, rfl⟩ := hcs
    injection hx with hx1 hx2
    subst hx1
    have hlen : len ≤ ss.length := by rw [hz]; split <;> omega
    have hw := List.all_eq_true.1 hsz
    have hwl : (((lits (H := H) k (ss.take len)).length + (lits (H := H) k (ss.drop len)).length) * P.bytesOf e) ≤ reachBytes := by
      have := hw (((lits (H := H) k (ss.take len)).length + (lits (H := H) k (ss.drop len)).length) * P.bytesOf e) (by simp [DataW.weights, ht])
      simpa using this
    have hspot : a.spot = none := by
      simp only [Value.okWide, ht, Cell.okWide, Cell.ok] at hv
      exact hv.2.2.2.1
    refine ⟨ss.take len, ?_, ?_⟩
    · simp only [Rep, RepD]
      refine .inr ⟨a.block, a.off, cap, (ss.take len).map (.int k), ?_, ?_, ?_, ?_, ?_⟩
      · simp [List.length_take, Nat.min_eq_left hlen]
        cases a; simp at hspot; simp [hspot]
      · simp [List.length_take, Nat.min_eq_left hlen]; exact hl
      · simp only [List.length_map, List.length_take, Nat.min_eq_left hlen]
        simp only [lits, List.length_map, List.length_take, List.length_drop, Nat.min_eq_left hlen] at hwl
        have : (len + (ss.length - len)) * 1 ≤ (len + (ss.length - len)) * P.bytesOf e := Nat.mul_le_mul_left _ hb8
        unfold reachBytes at hwl; unfold LIM; omega
      · intro j x hj
        have hjl : j < len := by
          have := (List.getElem?_eq_some_iff.1 hj).1
          simp at this; omega
        have hc' := hcell j (by omega)
        have hx : x = .int k (ss.getD j 0) := by
          rw [List.getElem?_map, List.getElem?_take, if_pos hjl] at hj
          rw [List.getElem?_eq_getElem (by omega : j < ss.length)] at hj
          simp at hj
          rw [← hj, List.getD, List.getElem?_eq_getElem (by omega : j < ss.length)]; rfl
        have ea : a.add j = ⟨a.block, a.off + j, none⟩ := by
          rw [Addr.add]
          cases a with
          | mk ab ao asp =>
            simp only at hspot
            subst hspot
            split
            · next hj0 => rw [hj0]; rfl
            · rfl
        rw [ea] at hc'
        rw [hx]
        exact ⟨hc', by show (W.cell? _).isSome = true; rw [hc']; rfl⟩
      · exact repC_ints W _ k (ss.take len) (fun x hx => hsm x (List.mem_of_mem_take hx))
    · intro x hx
      exact wf_int (hsm x (List.mem_of_mem_take hx))
theorem str_arg {cx : Cx} (s : ByteArray) (h : s.size ≤ LIM) : Rep cx (.d (.v (.string ⟨s.data.toList.toArray⟩))) (.string s) := by
  simp only [Rep, RepD, Array.toArray_toList]
  exact ⟨trivial, h⟩
end Go.Proofs.YtcemejmegbefgaaGreatDoor.Em
