/-
  That the law on decoded arguments returns true for every row of strings that the layer can tell; no other condition.
-/
import Derived.Test.YtcemejmegbefgaaGreatDoorDocB
import Derived.Test.YtcemejmegbefgaaGreatDoorDocA
import Derived.SliceStrings
import Derived.SizedLaws
import Derived.WideShapes
set_option maxRecDepth 100000
set_option linter.unusedVariables false
set_option linter.unusedSimpArgs false
namespace Go.Proofs.YtcemejmegbefgaaGreatDoor.Em
open Go.Proofs

/-! The reference's reading of the arguments. -/
def longI (c : Int) : List UInt8 → Nat
  | [] => 0
  | x :: xs => max (runI c (x :: xs)) (longI c xs)
theorem longI_le (c : Int) : ∀ s, longI c s ≤ s.length
  | [] => Nat.le_refl _
  | x :: xs => by have := longI_le c xs; have := runI_le c (x :: xs); simp only [longI, List.length_cons] at *; omega
theorem longI_pos (c : Int) : ∀ s, 0 < longI c s ↔ ∃ b ∈ s, (b.toNat : Int) = c
  | [] => by simp [longI]
  | x :: xs => by
    have ih := longI_pos c xs
    simp only [longI, runI, List.mem_cons, exists_eq_or_imp, ← ih]
    split <;> simp_all <;> omega
def valF (s name : List UInt8) : List UInt8 × Bool := if name.isPrefixOf s then (s.drop name.length, true) else ([], false)
def numR (s : List UInt8) : Int := if 1 ≤ s.length ∧ s.length ≤ 4 ∧ s.all digB = true then numV s else -1
def namesL : List (List UInt8) := [[115, 105, 122, 101, 61], [111, 117, 114, 115, 61], [98, 97, 115, 101, 61], [116, 104, 101, 105, 114, 115, 61]]
def kvF (x : List UInt8) : List (List UInt8) → Nat → Int × List UInt8 → Int × List UInt8
  | [], _, acc => acc
  | n :: ns, j, acc => kvF x ns (j + 1) (if (valF x n).2 = true then ((j : Int), (valF x n).1) else acc)
theorem kvF_bd (x : List UInt8) : ∀ (ns : List (List UInt8)) (j : Nat) (acc : Int × List UInt8), -1 ≤ acc.1 → acc.1 < (j + ns.length : Nat) → -1 ≤ (kvF x ns j acc).1 ∧ (kvF x ns j acc).1 < (j + ns.length : Nat)
  | [], j, acc, h, h' => ⟨h, h'⟩
  | n :: ns, j, acc, h, h' => by
    rw [kvF]
    simp only [List.length_cons] at h'
    have h1 : -1 ≤ (if (valF x n).2 = true then ((j : Int), (valF x n).1) else acc).1 := by
      split
      · show (-1 : Int) ≤ (j : Int); omega
      · exact h
    have h2 : (if (valF x n).2 = true then ((j : Int), (valF x n).1) else acc).1 < ((j + 1 + ns.length : Nat) : Int) := by
      split
      · show (j : Int) < _; omega
      · omega
    have := kvF_bd x ns (j + 1) _ h1 h2
    simp only [List.length_cons]
    rw [show j + (ns.length + 1) = j + 1 + ns.length by omega]
    exact this
theorem kvF_len (x : List UInt8) : ∀ (ns : List (List UInt8)) (j : Nat) (acc : Int × List UInt8), acc.2.length ≤ x.length → (kvF x ns j acc).2.length ≤ x.length
  | [], j, acc, h => h
  | n :: ns, j, acc, h => by
    rw [kvF]
    refine kvF_len x ns (j + 1) _ ?_
    split
    · rename_i hv; unfold valF; split <;> simp
    · exact h
abbrev arrP (f : Nat → Bool) : List PV := [bool (f 0), bool (f 1), bool (f 2), bool (f 3)]
theorem arrP_get (f : Nat → Bool) {i : Nat} (h : i < 4) : (arrP f)[0 + i * 1]? = some (bool (f i)) := by
  match i, h with
  | 0, _ => rfl
  | 1, _ => rfl
  | 2, _ => rfl
  | 3, _ => rfl
theorem arrP_put (f : Nat → Bool) {i : Nat} (h : i < 4) : putC (arrP f) (0 + i * 1) (bool true) = arrP fun k => f k || k == i := by
  match i, h with
  | 0, _ => simp [putC, PV.cellsP]
  | 1, _ => simp [putC, PV.cellsP]
  | 2, _ => simp [putC, PV.cellsP]
  | 3, _ => simp [putC, PV.cellsP]
def setR (o : OptS) (k : Int) (v : List UInt8) : OptS :=
  if k = 0 then { o with size := numR v } else if k = 1 then { o with ours := v } else if k = 2 then { o with base := v } else if k = 3 then { o with theirs := v } else o
def refG : List (List UInt8) → OptS → (Nat → Bool) → OptS × Int
  | [], o, _ => (o, 0)
  | x :: r, o, f => if (decide ((kvF x namesL 0 (-1, [])).1 < 0) || f (kvF x namesL 0 (-1, [])).1.toNat || decide ((longI 10 (kvF x namesL 0 (-1, [])).2 : Int) + longI 13 (kvF x namesL 0 (-1, [])).2 > 0) || (decide ((kvF x namesL 0 (-1, [])).1 = 0) && decide (numR (kvF x namesL 0 (-1, [])).2 < 0))) = true then (o0, 1) else refG r (setR o (kvF x namesL 0 (-1, [])).1 (kvF x namesL 0 (-1, [])).2) (fun i => f i || i == (kvF x namesL 0 (-1, [])).1.toNat)

theorem c_emendationref02_Run (s : List UInt8) (c : Int) : Fn Tryz.prog 72 [str s, u8 c] (i64 (runI c s)) := by
  intro ob L
  refine a_fn Tryz.func72 rfl (by decide) (Nat.le_of_ble_eq_true rfl) ?_
  show AWP _ _ ⟨20, [(0, str s), (1, u8 c)], [], ob, L⟩ _
  refine a_fstr (t := 0) (E rfl) fun hA0 => ?_
  refine a_seq ?_
  refine a_reg (o1 (p_as (E rfl)) oz) rfl rfl ?_
  refine a_seq ?_
  refine a_reg (o1 (p_as (E rfl)) oz) rfl rfl ?_
  refine a_seq ?_
  refine a_block ?_
  refine a_loop (fun k : Nat => k ≤ runI c s) (fun k => s.length - k) (fun k => ⟨20, [(0, str s), (1, u8 c), (5, i64 k)], [], ob, L⟩) 0 (Nat.zero_le _) ⟨rfl, rfl, rfl, fun _ h => h, E rfl, E rfl, E rfl, trivial⟩ fun k hk => ?_
  refine a_seq ?_
  refine a_seq ?_
  refine a_reg (o1 (p_mv (E rfl)) (o1 (p_mv (E rfl)) (o1 (p_lens Tryz.underlying9 (E rfl)) (o1 (p_lss (E rfl) (E rfl)) (o1 (p_mv (E rfl)) (g1 rfl rfl (fun h5 => p_mv (E rfl)) (g1 rfl rfl (fun h6 => p_mv (E rfl)) (g1 rfl rfl (fun h7 => p_idx Tryz.underlying9 (Eo rfl h7) (Eo rfl h7) (by first | omega | (simp only [beq_iff_eq, decide_eq_true_eq, decide_eq_false_iff_not, Bool.and_eq_true, Bool.and_eq_false_iff, Bool.or_eq_true, Bool.or_eq_false_iff, Bool.not_eq_true', Bool.not_eq_false', bs_length] at *; omega) | (simp at * <;> omega))) (g1 rfl rfl (fun h8 => p_mv (E rfl)) (g1 rfl rfl (fun h9 => p_eq (Eo rfl h9) (Eo rfl h9)) (o1 (p_and (E rfl) rfl rfl (fun h => bqt h)) oz))))))))))) rfl rfl ?_
  refine a_cond (E rfl) (fun h => ?_) (fun h => ?_)
  · simp only [Bool.and_eq_true, decide_eq_true_eq, Int.ofNat_lt] at h
    have h2 := (runI_at c s k hk).1 h
    have h3 := runI_le c s
    refine a_skip ?_
    refine a_block ?_
    refine a_reg (o1 (p_mv (E rfl)) (o1 (p_addf (E rfl) (E rfl) (fun _ _ => (by first | omega | (simp only [beq_iff_eq, decide_eq_true_eq, decide_eq_false_iff_not, Bool.and_eq_true, Bool.and_eq_false_iff, Bool.or_eq_true, Bool.or_eq_false_iff, Bool.not_eq_true', Bool.not_eq_false', bs_length] at *; omega) | (simp at * <;> omega)))) (o1 (p_as (E rfl)) oz))) rfl rfl ?_
    exact ⟨k + 1, by omega, by omega, rfl, rfl, rfl, fun _ h => h, E rfl, E rfl, E rfl, trivial⟩
  · have hkk : k = runI c s := by
      have := runI_at c s k hk
      simp only [Bool.and_eq_false_iff, decide_eq_false_iff_not, Int.ofNat_lt] at h
      omega
    subst hkk
    refine a_exit ?_
    refine a_seq ?_
    refine a_reg (o1 (p_mv (E rfl)) (o1 (p_as (E rfl)) oz)) rfl rfl ?_
    refine a_ret ?_
    refine ⟨_, resA_one rfl (E rfl), rfl, ?_, rfl, fun _ h => h⟩
    rfl

theorem c_emendationref02_Longest (s : List UInt8) (c : Int) : Fn Tryz.prog 38 [str s, u8 c] (i64 (longI c s)) := by
  intro ob L
  refine a_fn Tryz.func38 rfl (by decide) (Nat.le_of_ble_eq_true rfl) ?_
  show AWP _ _ ⟨21, [(0, str s), (1, u8 c)], [], ob, L⟩ _
  refine a_fstr (t := 0) (E rfl) fun hA0 => ?_
  refine a_seq ?_
  refine a_reg (o1 (p_as (E rfl)) oz) rfl rfl ?_
  refine a_seq ?_
  refine a_reg (o1 (p_as (E rfl)) oz) rfl rfl ?_
  refine a_seq ?_
  refine a_seq ?_
  refine a_reg (o1 (p_mv (E rfl)) (o1 (p_lens Tryz.underlying9 (E rfl)) (o1 (p_mv (E rfl)) oz))) rfl rfl ?_
  refine a_block ?_
  refine a_loop (fun p : Nat × Nat => p.1 ≤ s.length ∧ max p.2 (longI c (s.drop p.1)) = longI c s) (fun p => s.length - p.1) (fun p => ⟨21, [(0, str s), (1, u8 c), (5, i64 p.2), (8, i64 s.length), (9, i64 p.1)], [], ob, L⟩) (0, 0) ⟨Nat.zero_le _, by simp⟩ ⟨rfl, rfl, rfl, fun _ h => h, E rfl, E rfl, E rfl, E rfl, E rfl, trivial⟩ fun p hp => ?_
  obtain ⟨j, m⟩ := p
  obtain ⟨hj, hm⟩ := hp
  simp only at hj hm
  refine a_seq ?_
  refine a_reg (o1 (p_lss (E rfl) (E rfl)) oz) rfl rfl ?_
  refine a_seq ?_
  refine a_cond (E rfl) (fun h => ?_) (fun h => ?_)
  · have hlt : j < s.length := by simpa using h
    obtain ⟨x, hx⟩ : ∃ x, s[j]? = some x := ⟨s[j], List.getElem?_eq_getElem hlt⟩
    rw [drop_get hx, longI, ← drop_get hx] at hm
    refine a_skip ?_
    refine a_seq ?_
    refine a_block ?_
    refine a_seq ?_
    refine a_reg (o1 (p_mv (E rfl)) (o1 (p_as (E rfl)) oz)) rfl rfl ?_
    refine a_reg (o1 (p_mv (E rfl)) (o1 (p_mv (E rfl)) (o1 (p_mv (E rfl)) (o1 (p_ss_l Tryz.underlying9 (E rfl) (E rfl) (by first | omega | (simp only [beq_iff_eq, decide_eq_true_eq, decide_eq_false_iff_not, Bool.and_eq_true, Bool.and_eq_false_iff, Bool.or_eq_true, Bool.or_eq_false_iff, Bool.not_eq_true', Bool.not_eq_false', bs_length] at *; omega) | (simp at * <;> omega))) (o1 (p_mv (E rfl)) (o1 (p_call (c_emendationref02_Run _ _) (.cons (E rfl) (.cons (E rfl) .nil)) rfl rfl) (o1 (p_max2 (E rfl) (E rfl)) (o1 (p_as (E rfl)) oz)))))))) rfl rfl ?_
    refine a_reg (o1 (p_addf (E rfl) (E rfl) (fun _ _ => (by first | omega | (simp only [beq_iff_eq, decide_eq_true_eq, decide_eq_false_iff_not, Bool.and_eq_true, Bool.and_eq_false_iff, Bool.or_eq_true, Bool.or_eq_false_iff, Bool.not_eq_true', Bool.not_eq_false', bs_length] at *; omega) | (simp at * <;> omega)))) (o1 (p_mv (E rfl)) oz)) rfl rfl ?_
    exact ⟨(j + 1, max m (runI c (s.drop j))), ⟨hlt, by simp only; rw [← hm]; omega⟩, by simp only; omega, rfl, rfl, rfl, fun _ h => h, E rfl, E rfl, Eq_ rfl (by simp; omega), E rfl, E rfl, trivial⟩
  · have hje : j = s.length := by simp at h; omega
    subst hje
    rw [List.drop_length, longI, Nat.max_zero] at hm
    refine a_exit ?_
    refine a_seq ?_
    refine a_reg (o1 (p_mv (E rfl)) (o1 (p_as (E rfl)) oz)) rfl rfl ?_
    refine a_ret ?_
    refine ⟨_, resA_one rfl (E rfl), rfl, ?_, rfl, fun _ h => h⟩
    rw [hm]

theorem c_emendationref20_value (s n : List UInt8) : Fn Tryz.prog 37 [str s, str n] (.tup [str (valF s n).1, bool (valF s n).2]) := by
  intro ob L
  refine a_fn Tryz.func37 rfl (by decide) (Nat.le_of_ble_eq_true rfl) ?_
  show AWP _ _ ⟨23, [(0, str s), (1, str n)], [], ob, L⟩ _
  refine a_fstr (t := 0) (E rfl) fun hA0 => ?_
  refine a_fstr (t := 1) (E rfl) fun hA1 => ?_
  refine a_seq ?_
  refine a_reg (o1 (p_as (E rfl)) (o1 (p_as (E rfl)) oz)) rfl rfl ?_
  refine a_seq ?_
  refine a_seq ?_
  refine a_reg (o1 (p_mv (E rfl)) (o1 (p_lens Tryz.underlying9 (E rfl)) (o1 (p_mv (E rfl)) (o1 (p_lens Tryz.underlying9 (E rfl)) (o1 (p_lss (E rfl) (E rfl)) (o1 (p_mv (E rfl)) (g1 rfl rfl (fun h6 => p_mv (E rfl)) (g1 rfl rfl (fun h7 => p_mv (E rfl)) (g1 rfl rfl (fun h8 => p_lens Tryz.underlying9 (Eo rfl h8)) (g1 rfl rfl (fun h9 => p_ss_h Tryz.underlying9 (Eo rfl h9) (Eo rfl h9) (by first | omega | (simp only [beq_iff_eq, decide_eq_true_eq, decide_eq_false_iff_not, Bool.and_eq_true, Bool.and_eq_false_iff, Bool.or_eq_true, Bool.or_eq_false_iff, Bool.not_eq_true', Bool.not_eq_false', bs_length] at *; omega) | (simp at * <;> omega))) (g1 rfl rfl (fun h10 => p_mv (E rfl)) (g1 rfl rfl (fun h11 => p_nes (Eo rfl h11) (Eo rfl h11)) (o1 (p_or (E rfl) rfl rfl (fun h => bqf h)) oz))))))))))))) rfl rfl ?_
  refine a_cond (E rfl) (fun h => ?_) (fun h => ?_)
  · refine a_seq ?_
    refine a_reg (o1 (p_as (E rfl)) (o1 (p_as (E rfl)) oz)) rfl rfl ?_
    refine a_ret ?_
    refine ⟨_, resA_two rfl (E rfl) (E rfl), rfl, ?_, rfl, fun _ h => h⟩
    rw [valF, if_neg]
    intro hp
    obtain ⟨t, rfl⟩ := List.isPrefixOf_iff_prefix.1 hp
    simp [cut] at h; omega
  · have hp : n.isPrefixOf s = true := by
      simp [cut] at h
      rw [List.isPrefixOf_iff_prefix, ← h.2]; exact List.take_prefix _ _
    have hlen : n.length ≤ s.length := by simp at h; omega
    refine a_skip ?_
    refine a_seq ?_
    refine a_reg (o1 (p_mv (E rfl)) (o1 (p_mv (E rfl)) (o1 (p_lens Tryz.underlying9 (E rfl)) (o1 (p_ss_l Tryz.underlying9 (E rfl) (E rfl) (by first | omega | (simp only [beq_iff_eq, decide_eq_true_eq, decide_eq_false_iff_not, Bool.and_eq_true, Bool.and_eq_false_iff, Bool.or_eq_true, Bool.or_eq_false_iff, Bool.not_eq_true', Bool.not_eq_false', bs_length] at *; omega) | (simp at * <;> omega))) (o1 (p_as (E rfl)) (o1 (p_as (E rfl)) oz)))))) rfl rfl ?_
    refine a_ret ?_
    refine ⟨_, resA_two rfl (E rfl) (E rfl), rfl, ?_, rfl, fun _ h => h⟩
    rw [valF, if_pos hp]; simp [cut]

theorem c_emendationref20_number (s : List UInt8) : Fn Tryz.prog 39 [str s] (i64 (numR s)) := by
  intro ob L
  refine a_fn Tryz.func39 rfl (by decide) (Nat.le_of_ble_eq_true rfl) ?_
  show AWP _ _ ⟨38, [(0, str s)], [], ob, L⟩ _
  refine a_fstr (t := 0) (E rfl) fun hA0 => ?_
  refine a_seq ?_
  refine a_reg (o1 (p_as (E rfl)) oz) rfl rfl ?_
  refine a_seq ?_
  refine a_seq ?_
  refine a_reg (o1 (p_mv (E rfl)) (o1 (p_lens Tryz.underlying9 (E rfl)) (o1 (p_lss (E rfl) (E rfl)) (o1 (p_mv (E rfl)) (g1 rfl rfl (fun h4 => p_mv (E rfl)) (g1 rfl rfl (fun h5 => p_lens Tryz.underlying9 (Eo rfl h5)) (g1 rfl rfl (fun h6 => p_gtr (Eo rfl h6) (E rfl)) (o1 (p_or (E rfl) rfl rfl (fun h => bqf h)) oz)))))))) rfl rfl ?_
  refine a_cond (E rfl) (fun h => ?_) (fun h => ?_)
  · refine a_seq ?_
    refine a_reg (o1 (p_as (E rfl)) oz) rfl rfl ?_
    refine a_ret ?_
    refine ⟨_, resA_one rfl (E rfl), rfl, ?_, rfl, fun _ h => h⟩
    rw [numR, if_neg]
    rintro ⟨h1, h2, h3⟩; simp at h; omega
  · have hs : 1 ≤ s.length ∧ s.length ≤ 4 := by simp at h; omega
    refine a_skip ?_
    refine a_seq ?_
    refine a_reg (o1 (p_as (E rfl)) oz) rfl rfl ?_
    refine a_seq ?_
    refine a_seq ?_
    refine a_reg (o1 (p_as (E rfl)) oz) rfl rfl ?_
    refine a_block ?_
    refine a_loop (fun j : Nat => j ≤ s.length ∧ ∀ b ∈ s.take j, digB b = true) (fun j => s.length - j) (fun j => ⟨38, [(0, str s), (3, i64 (numV (s.take j))), (4, i64 j)], [], ob, L⟩) 0 ⟨Nat.zero_le _, by simp⟩ ⟨rfl, rfl, rfl, fun _ h => h, E rfl, E rfl, E rfl, trivial⟩ fun j hj => ?_
    obtain ⟨hj, hdg⟩ := hj
    have hn := numV_bd (s.take j) hdg j (by omega) (by simp; omega)
    rw [List.take_take, Nat.min_self] at hn
    refine a_seq ?_
    refine a_seq ?_
    refine a_reg (o1 (p_mv (E rfl)) (o1 (p_mv (E rfl)) (o1 (p_lens Tryz.underlying9 (E rfl)) (o1 (p_lss (E rfl) (E rfl)) oz)))) rfl rfl ?_
    refine a_cond (E rfl) (fun h => ?_) (fun h => ?_)
    · have hlt : j < s.length := by simpa using h
      obtain ⟨x, hx⟩ : ∃ x, s[j]? = some x := ⟨s[j], List.getElem?_eq_getElem hlt⟩
      have hbt := bt_get hx
      refine a_skip ?_
      refine a_seq ?_
      refine a_block ?_
      refine a_seq ?_
      refine a_seq ?_
      refine a_reg (o1 (p_mv (E rfl)) (o1 (p_mv (E rfl)) (o1 (p_idx Tryz.underlying9 (E rfl) (E rfl) (by omega)) (o1 (p_lss (E rfl) (E rfl)) (o1 (p_mv (E rfl)) (g1 rfl rfl (fun h5 => p_mv (E rfl)) (g1 rfl rfl (fun h6 => p_mv (E rfl)) (g1 rfl rfl (fun h7 => p_idx Tryz.underlying9 (Eo rfl h7) (Eo rfl h7) (by omega)) (g1 rfl rfl (fun h8 => p_gtr (Eo rfl h8) (E rfl)) (o1 (p_or (E rfl) rfl rfl (fun h => bqf h)) oz)))))))))) rfl rfl ?_
      refine a_cond (E rfl) (fun h => ?_) (fun h => ?_)
      · refine a_seq ?_
        refine a_reg (o1 (p_as (E rfl)) oz) rfl rfl ?_
        refine a_ret ?_
        refine ⟨_, resA_one rfl (E rfl), rfl, ?_, rfl, fun _ h => h⟩
        rw [numR, if_neg]
        rintro ⟨h1, h2, h3⟩
        have h4 := List.all_eq_true.1 h3 x (List.mem_of_getElem? hx)
        unfold digB at h4
        rw [hbt] at h
        simp at h h4; omega
      · have hxd : 48 ≤ x.toNat ∧ x.toNat ≤ 57 := by rw [hbt] at h; simp at h; omega
        have hw : IntKind.u8.wrap (bt s j - 48) = x.toNat - 48 := by rw [hbt]; exact wrap_in _ (by simp [IntKind.min, IntKind.max, IntKind.signed, IntKind.bits]; omega)
        refine a_skip ?_
        refine a_reg (o1 (p_mv (E rfl)) (o1 (p_mulf (E rfl) (E rfl) (fun _ _ => (by omega))) (o1 (p_mv (E rfl)) (o1 (p_mv (E rfl)) (o1 (p_idx Tryz.underlying9 (E rfl) (E rfl) (by omega)) (o1 (p_subw (E rfl) (E rfl)) (o1 (p_cvb ty_iu_5 ty_iu_3 (E rfl)) (o1 (p_addf (E rfl) (E rfl) (fun _ _ => (by omega))) (o1 (p_as (E rfl)) oz))))))))) rfl rfl ?_
        refine a_reg (o1 (p_mv (E rfl)) (o1 (p_addf (E rfl) (E rfl) (fun _ _ => (by omega))) (o1 (p_as (E rfl)) oz))) rfl rfl ?_
        exact ⟨j + 1, ⟨hlt, by
          intro b hb
          rw [take_succ_get hx] at hb
          rcases List.mem_append.1 hb with hb | hb
          · exact hdg b hb
          · rw [List.mem_singleton] at hb; subst hb; unfold digB; simpa using hxd⟩, by omega, rfl, rfl, rfl, fun _ h => h, E rfl, Eq_ rfl (by rw [take_succ_get hx, numV_snoc, hw]; simp; omega), E rfl, trivial⟩
    · have hje : j = s.length := by simp at h; omega
      subst hje
      rw [List.take_length] at hdg
      refine a_exit ?_
      refine a_seq ?_
      refine a_reg (o1 (p_mv (E rfl)) (o1 (p_as (E rfl)) oz)) rfl rfl ?_
      refine a_ret ?_
      refine ⟨_, resA_one rfl (E rfl), rfl, ?_, rfl, fun _ h => h⟩
      rw [numR, if_pos ⟨hs.1, hs.2, List.all_eq_true.2 hdg⟩, List.take_length]

theorem c_emendationref20_Decode (l : List (List UInt8)) (hl : ∀ x ∈ l, x.length ≤ 4294967296) : Fn Tryz.prog 17 [lst 1 (encStrs l)] (.tup [.agg (OD (refG l o7 (fun _ => false)).1), i64 (refG l o7 (fun _ => false)).2]) := by
  intro ob L
  refine a_fn Tryz.func17 rfl (by decide) (Nat.le_of_ble_eq_true rfl) ?_
  show AWP _ _ ⟨91, [(0, lst 1 (encStrs l))], [], ob, L⟩ _
  refine a_flst (t := 0) (E rfl) fun hA0 => ?_
  refine a_seq ?_
  refine a_regl ?_
  refine l_e (e_alloc ty_zi_43 rfl ?_)
  refine l_o (p_as (E rfl)) rfl ?_
  refine l_nil ?_
  refine a_seq ?_
  refine a_regl ?_
  refine l_o (p_bd ty_so_43 (.cons (E rfl) .nil) rfl) rfl ?_
  refine l_e (e_alloc ty_zi_43 rfl ?_)
  refine l_e (e_st ty_sz_43 rfl rfl (E rfl) rfl rfl rfl ?_)
  refine l_nil ?_
  refine a_seq ?_
  refine a_regl ?_
  refine l_e (e_alloc ty_zi_77 rfl ?_)
  refine l_nil ?_
  refine a_seq ?_
  refine a_reg (o1 (p_bs (xs := [.const (.string ⟨#[115, 105, 122, 101, 61]⟩), .const (.string ⟨#[111, 117, 114, 115, 61]⟩), .const (.string ⟨#[98, 97, 115, 101, 61]⟩), .const (.string ⟨#[116, 104, 101, 105, 114, 115, 61]⟩)]) (sz := 1) Tryz.underlying33 ty_zo_9 rfl rfl rfl (.cons (E rfl) (.cons (E rfl) (.cons (E rfl) (.cons (E rfl) .nil)))) rfl rfl rfl) (o1 (p_as (E rfl)) oz)) rfl rfl ?_
  refine a_seq ?_
  refine a_seq ?_
  refine a_reg (o1 (p_mv (E rfl)) (o1 (p_lenl Tryz.underlying33 (E rfl)) (o1 (p_mv (E rfl)) oz))) rfl rfl ?_
  refine a_block ?_
  refine a_loop (fun p : Nat × OptS × (Nat → Bool) => p.1 ≤ l.length ∧ refG (l.drop p.1) p.2.1 p.2.2 = refG l o7 (fun _ => false)) (fun p => l.length - p.1) (fun p => ⟨91, [(0, lst 1 (encStrs l)), (2, .loc 0 0), (4, .loc 1 0), (5, .loc 2 0), (6, lst 1 (encStrs namesL)), (16, i64 l.length), (17, i64 p.1)], [[.d (.v (.int .i64 0)), .d (.v (.string ⟨#[]⟩)), .d (.v (.string ⟨#[]⟩)), .d (.v (.string ⟨#[]⟩))], OP p.2.1, arrP p.2.2], ob, L⟩) (0, o7, fun _ => false) ⟨Nat.zero_le _, rfl⟩ ⟨rfl, rfl, rfl, fun _ h => h, E rfl, E rfl, E rfl, E rfl, E rfl, Eq_ rfl (by rw [encStrs_length]), E rfl, trivial⟩ fun p hp => ?_
  obtain ⟨j, o, f⟩ := p
  obtain ⟨hj, hG⟩ := hp
  simp only at hj hG
  show AWP _ _ ⟨91, [(0, lst 1 (encStrs l)), (2, .loc 0 0), (4, .loc 1 0), (5, .loc 2 0), (6, lst 1 (encStrs namesL)), (16, i64 l.length), (17, i64 j)], [[.d (.v (.int .i64 0)), .d (.v (.string ⟨#[]⟩)), .d (.v (.string ⟨#[]⟩)), .d (.v (.string ⟨#[]⟩))], OP o, arrP f], ob, L⟩ _
  refine a_seq ?_
  refine a_reg (o1 (p_lss (E rfl) (E rfl)) oz) rfl rfl ?_
  refine a_seq ?_
  refine a_cond (E rfl) (fun h => ?_) (fun h => ?_)
  · have hlt : j < l.length := by simpa using h
    obtain ⟨x, hx⟩ : ∃ x, l[j]? = some x := ⟨l[j], List.getElem?_eq_getElem hlt⟩
    rw [drop_get hx, refG] at hG
    have hnl : namesL.length = 4 := rfl
    have hkb := kvF_bd x namesL 0 (-1, []) (by simp) (by rw [hnl]; decide)
    rw [hnl] at hkb
    have hkl := kvF_len x namesL 0 (-1, []) (by simp)
    have hxl := hl x (List.mem_of_getElem? hx)
    have h10 := longI_le 10 (kvF x namesL 0 (-1, [])).2
    have h13 := longI_le 13 (kvF x namesL 0 (-1, [])).2
    refine a_skip ?_
    refine a_seq ?_
    refine a_block ?_
    refine a_seq ?_
    refine a_reg (o1 (p_mv (E rfl)) (o1 (p_as (E rfl)) oz)) rfl rfl ?_
    refine a_seq ?_
    refine a_reg (o1 (p_as (E rfl)) oz) rfl rfl ?_
    refine a_seq ?_
    refine a_reg (o1 (p_as (E rfl)) oz) rfl rfl ?_
    refine a_seq ?_
    refine a_seq ?_
    refine a_reg (o1 (p_mv (E rfl)) (o1 (p_lenl Tryz.underlying33 (E rfl)) (o1 (p_mv (E rfl)) oz))) rfl rfl ?_
    refine a_block ?_
    refine a_loop (fun q : Nat × Int × List UInt8 => q.1 ≤ 4 ∧ kvF x (namesL.drop q.1) q.1 q.2 = (kvF x namesL 0 (-1, []))) (fun q => 4 - q.1) (fun q => ⟨91, [(0, lst 1 (encStrs l)), (2, .loc 0 0), (4, .loc 1 0), (5, .loc 2 0), (6, lst 1 (encStrs namesL)), (7, i64 j), (8, i64 q.2.1), (9, str q.2.2), (16, i64 l.length), (17, i64 j), (21, i64 4), (22, i64 q.1)], [[.d (.v (.int .i64 0)), .d (.v (.string ⟨#[]⟩)), .d (.v (.string ⟨#[]⟩)), .d (.v (.string ⟨#[]⟩))], OP o, arrP f], ob, L⟩) (0, -1, []) ⟨by simp, rfl⟩ ⟨rfl, rfl, rfl, fun _ h => h, E rfl, E rfl, E rfl, E rfl, E rfl, E rfl, E rfl, E rfl, E rfl, E rfl, E rfl, E rfl, trivial⟩ fun q hq => ?_
    obtain ⟨n, kv, v⟩ := q
    obtain ⟨hn, hK⟩ := hq
    simp only at hn hK
    show AWP _ _ ⟨91, [(0, lst 1 (encStrs l)), (2, .loc 0 0), (4, .loc 1 0), (5, .loc 2 0), (6, lst 1 (encStrs namesL)), (7, i64 j), (8, i64 kv), (9, str v), (16, i64 l.length), (17, i64 j), (21, i64 4), (22, i64 n)], [[.d (.v (.int .i64 0)), .d (.v (.string ⟨#[]⟩)), .d (.v (.string ⟨#[]⟩)), .d (.v (.string ⟨#[]⟩))], OP o, arrP f], ob, L⟩ _
    refine a_seq ?_
    refine a_reg (o1 (p_lss (E rfl) (E rfl)) oz) rfl rfl ?_
    refine a_seq ?_
    refine a_cond (E rfl) (fun h => ?_) (fun h => ?_)
    · have hn4 : n < 4 := by simp at h; omega
      obtain ⟨nm, hnm⟩ : ∃ y, namesL[n]? = some y := ⟨namesL[n]'(by rw [hnl]; omega), List.getElem?_eq_getElem (by rw [hnl]; omega)⟩
      rw [drop_get hnm, kvF] at hK
      refine a_skip ?_
      refine a_seq ?_
      refine a_block ?_
      refine a_seq ?_
      refine a_reg (o1 (p_mv (E rfl)) (o1 (p_as (E rfl)) oz)) rfl rfl ?_
      refine a_seq ?_
      refine a_regd mix (o1 (p_mv (E rfl)) (o1 (p_mv (E rfl)) (o1 (p_ia Tryz.underlying33 ty_sz_9 (E rfl) (E rfl) (by have := encStrs_length l; omega) (mg hx)) (o1 (p_ld ty_na_9 (E rfl)) (o1 (p_mv (E rfl)) (o1 (p_mv (E rfl)) (o1 (p_ia Tryz.underlying33 ty_sz_9 (E rfl) (E rfl) (by have := encStrs_length namesL; omega) (mg hnm)) (o1 (p_ld ty_na_9 (E rfl)) (o1 (p_call (c_emendationref20_value _ _) (.cons (E rfl) (.cons (E rfl) .nil)) rfl rfl) (o1 (p_mv (E rfl)) (o1 (p_ext (E rfl) rfl) (o1 (p_ext (E rfl) rfl) (o1 (p_as (E rfl)) (o1 (p_as (E rfl)) oz)))))))))))))) rfl rfl (by kernel_rfl) ?_
      refine a_seq ?_
      refine a_reg (o1 (p_mv (E rfl)) oz) rfl rfl ?_
      refine a_cond (E rfl) (fun h => ?_) (fun h => ?_)
      · rw [if_pos h] at hK
        refine a_reg (o1 (p_mv (E rfl)) (o1 (p_mv (E rfl)) (o1 (p_as (E rfl)) (o1 (p_as (E rfl)) oz)))) rfl rfl ?_
        refine a_reg (o1 (p_addf (E rfl) (E rfl) (fun _ _ => (by have := encStrs_length l; omega))) (o1 (p_mv (E rfl)) oz)) rfl rfl ?_
        exact ⟨(n + 1, _, _), ⟨by omega, hK⟩, by simp only; omega, rfl, rfl, rfl, fun _ h => h, E rfl, E rfl, E rfl, E rfl, E rfl, E rfl, E rfl, E rfl, E rfl, E rfl, E rfl, E rfl, trivial⟩
      · rw [if_neg (by rw [h]; simp)] at hK
        refine a_skip ?_
        refine a_reg (o1 (p_addf (E rfl) (E rfl) (fun _ _ => (by have := encStrs_length l; omega))) (o1 (p_mv (E rfl)) oz)) rfl rfl ?_
        exact ⟨(n + 1, _, _), ⟨by omega, hK⟩, by simp only; omega, rfl, rfl, rfl, fun _ h => h, E rfl, E rfl, E rfl, E rfl, E rfl, E rfl, E rfl, E rfl, E rfl, E rfl, E rfl, E rfl, trivial⟩
    · have hne : n = 4 := by simp at h; omega
      subst hne
      rw [show namesL.drop 4 = [] from rfl, kvF] at hK
      obtain ⟨hk1, hk2⟩ : kv = (kvF x namesL 0 (-1, [])).1 ∧ v = (kvF x namesL 0 (-1, [])).2 := by rw [← hK]; exact ⟨rfl, rfl⟩
      subst hk1; subst hk2
      refine a_exit ?_
      refine a_seq ?_
      refine a_seq ?_
      refine a_reg (o1 (p_mv (E rfl)) (o1 (p_lss (E rfl) (E rfl)) (o1 (p_mv (E rfl)) (g1 rfl rfl (fun h3 => p_mv (E rfl)) (g1 rfl rfl (fun h4 => p_ial Tryz.underlying77 ty_sz_4 (E rfl) (Eo rfl h4) (by simp at h4; omega)) (g1 rfl rfl (fun h5 => p_ldl ty_na_4 (Eo rfl h5) rfl (arrP_get f (by simp at h5; omega))) (o1 (p_or (E rfl) rfl rfl (fun h => bqf h)) (o1 (p_mv (E rfl)) (g1 rfl rfl (fun h8 => p_mv (E rfl)) (g1 rfl rfl (fun h9 => p_call (c_emendationref02_Longest _ _) (.cons (Eo rfl h9) (.cons (E rfl) .nil)) rfl rfl) (g1 rfl rfl (fun h10 => p_mv (E rfl)) (g1 rfl rfl (fun h11 => p_call (c_emendationref02_Longest _ _) (.cons (Eo rfl h11) (.cons (E rfl) .nil)) rfl rfl) (g1 rfl rfl (fun h12 => p_addf (Eo rfl h12) (Eo rfl h12) (fun _ _ => (by have := encStrs_length l; omega))) (g1 rfl rfl (fun h13 => p_gtr (Eo rfl h13) (E rfl)) (o1 (p_or (E rfl) rfl rfl (fun h => bqf h)) (o1 (p_mv (E rfl)) (g1 rfl rfl (fun h16 => p_mv (E rfl)) (g1 rfl rfl (fun h17 => p_eq (Eo rfl h17) (E rfl)) (g1 rfl rfl (fun h18 => p_mv (Eo rfl h18)) (g2 rfl rfl (fun h19 => p_mv (E rfl)) (g2 rfl rfl (fun h20 => p_call (c_emendationref20_number _) (.cons (Eo rfl h20) .nil) rfl rfl) (g2 rfl rfl (fun h21 => p_lss (Eo rfl h21) (E rfl)) (g1 rfl rfl (fun h22 => p_and (Eo rfl h22) rfl rfl (fun h => ai h22 (bqt h))) (o1 (p_or (E rfl) rfl rfl (fun h => bqf h)) oz)))))))))))))))))))))))) rfl rfl ?_
      refine a_cond (E rfl) (fun h => ?_) (fun h => ?_)
      · rw [if_pos h] at hG
        refine a_seq ?_
        refine a_regl ?_
        refine l_o (p_bd ty_so_43 .nil rfl) rfl ?_
        refine l_e (e_st ty_sz_43 rfl rfl (E rfl) rfl rfl rfl ?_)
        refine l_o (p_as (E rfl)) rfl ?_
        refine l_nil ?_
        refine a_ret ?_
        refine ⟨_, resA_agg1 rfl ty_ag_43 rfl rfl rfl rfl (E rfl), rfl, ?_, rfl, fun _ h => h⟩
        rw [← hG]; rfl
      · rw [if_neg (by rw [h]; simp)] at hG
        have hk0 : 0 ≤ (kvF x namesL 0 (-1, [])).1 := by
          simp only [Bool.or_eq_false_iff, decide_eq_false_iff_not] at h; omega
        refine a_skip ?_
        refine a_seq ?_
        refine a_regl ?_
        refine l_o (p_mv (E rfl)) rfl ?_
        refine l_o (p_ial Tryz.underlying77 ty_sz_4 (E rfl) (E rfl) (by omega)) rfl ?_
        refine l_e (e_st ty_sz_4 rfl rfl (E rfl) rfl rfl (by simp; omega) ?_)
        refine l_nil ?_
        refine a_cut ⟨91, [(0, lst 1 (encStrs l)), (2, .loc 0 0), (4, .loc 1 0), (5, .loc 2 0), (6, lst 1 (encStrs namesL)), (8, i64 (kvF x namesL 0 (-1, [])).1), (9, str (kvF x namesL 0 (-1, [])).2), (16, i64 l.length), (17, i64 j)], [[.d (.v (.int .i64 0)), .d (.v (.string ⟨#[]⟩)), .d (.v (.string ⟨#[]⟩)), .d (.v (.string ⟨#[]⟩))], OP o, arrP (fun i => f i || i == (kvF x namesL 0 (-1, [])).1.toNat)], ob, L⟩ ⟨rfl, by rw [← arrP_put f (by omega)]; rfl, rfl, fun _ h => h, E rfl, E rfl, E rfl, E rfl, E rfl, E rfl, E rfl, E rfl, E rfl, trivial⟩ ?_
        refine a_seq ?_
        refine a_reg (o1 (p_mv (E rfl)) oz) rfl rfl ?_
        refine a_block ?_
        refine a_seq ?_
        refine a_reg (o1 (p_eq (E rfl) (E rfl)) (o1 (p_as (E rfl)) oz)) rfl rfl ?_
        refine a_cond (E rfl) (fun h => ?_) (fun h => ?_)
        · have hk : (kvF x namesL 0 (-1, [])).1 = 0 := by simpa using h
          have hS : setR o (kvF x namesL 0 (-1, [])).1 (kvF x namesL 0 (-1, [])).2 = { o with size := numR (kvF x namesL 0 (-1, [])).2 } := by rw [setR, if_pos hk]
          refine a_regl ?_
          refine l_o (p_mv (E rfl)) rfl ?_
          refine l_o (p_call (c_emendationref20_number _) (.cons (E rfl) .nil) rfl rfl) rfl ?_
          refine l_o (p_fal ty_fo_43_0 (E rfl)) rfl ?_
          refine l_e (e_st ty_sz_3 rfl rfl (E rfl) rfl rfl rfl ?_)
          refine l_nil ?_
          refine a_reg (o1 (p_addf (E rfl) (E rfl) (fun _ _ => (by have := encStrs_length l; omega))) (o1 (p_mv (E rfl)) oz)) rfl rfl ?_
          rw [hS] at hG
          exact ⟨(j + 1, _, _), ⟨hlt, hG⟩, by simp only; omega, rfl, rfl, rfl, fun _ h => h, E rfl, E rfl, E rfl, E rfl, E rfl, E rfl, E rfl, trivial⟩
        · have hn0 : ¬ (kvF x namesL 0 (-1, [])).1 = 0 := by simpa using h
          refine a_seq ?_
          refine a_reg (o1 (p_eq (E rfl) (E rfl)) (o1 (p_as (E rfl)) oz)) rfl rfl ?_
          refine a_cond (E rfl) (fun h => ?_) (fun h => ?_)
          · have hk : (kvF x namesL 0 (-1, [])).1 = 1 := by simpa using h
            have hS : setR o (kvF x namesL 0 (-1, [])).1 (kvF x namesL 0 (-1, [])).2 = { o with ours := (kvF x namesL 0 (-1, [])).2 } := by rw [setR, if_neg hn0, if_pos hk]
            refine a_regl ?_
            refine l_o (p_mv (E rfl)) rfl ?_
            refine l_o (p_fal ty_fo_43_1 (E rfl)) rfl ?_
            refine l_o (p_fal ty_fo_41_0 (E rfl)) rfl ?_
            refine l_e (e_st ty_sz_9 rfl rfl (E rfl) rfl rfl rfl ?_)
            refine l_nil ?_
            refine a_reg (o1 (p_addf (E rfl) (E rfl) (fun _ _ => (by have := encStrs_length l; omega))) (o1 (p_mv (E rfl)) oz)) rfl rfl ?_
            rw [hS] at hG
            exact ⟨(j + 1, _, _), ⟨hlt, hG⟩, by simp only; omega, rfl, rfl, rfl, fun _ h => h, E rfl, E rfl, E rfl, E rfl, E rfl, E rfl, E rfl, trivial⟩
          · have hn1 : ¬ (kvF x namesL 0 (-1, [])).1 = 1 := by simpa using h
            refine a_seq ?_
            refine a_reg (o1 (p_eq (E rfl) (E rfl)) (o1 (p_as (E rfl)) oz)) rfl rfl ?_
            refine a_cond (E rfl) (fun h => ?_) (fun h => ?_)
            · have hk : (kvF x namesL 0 (-1, [])).1 = 2 := by simpa using h
              have hS : setR o (kvF x namesL 0 (-1, [])).1 (kvF x namesL 0 (-1, [])).2 = { o with base := (kvF x namesL 0 (-1, [])).2 } := by rw [setR, if_neg hn0, if_neg hn1, if_pos hk]
              refine a_regl ?_
              refine l_o (p_mv (E rfl)) rfl ?_
              refine l_o (p_fal ty_fo_43_1 (E rfl)) rfl ?_
              refine l_o (p_fal ty_fo_41_1 (E rfl)) rfl ?_
              refine l_e (e_st ty_sz_9 rfl rfl (E rfl) rfl rfl rfl ?_)
              refine l_nil ?_
              refine a_reg (o1 (p_addf (E rfl) (E rfl) (fun _ _ => (by have := encStrs_length l; omega))) (o1 (p_mv (E rfl)) oz)) rfl rfl ?_
              rw [hS] at hG
              exact ⟨(j + 1, _, _), ⟨hlt, hG⟩, by simp only; omega, rfl, rfl, rfl, fun _ h => h, E rfl, E rfl, E rfl, E rfl, E rfl, E rfl, E rfl, trivial⟩
            · have hn2 : ¬ (kvF x namesL 0 (-1, [])).1 = 2 := by simpa using h
              refine a_seq ?_
              refine a_reg (o1 (p_eq (E rfl) (E rfl)) (o1 (p_as (E rfl)) oz)) rfl rfl ?_
              refine a_cond (E rfl) (fun h => ?_) (fun h => ?_)
              · have hk : (kvF x namesL 0 (-1, [])).1 = 3 := by simpa using h
                have hS : setR o (kvF x namesL 0 (-1, [])).1 (kvF x namesL 0 (-1, [])).2 = { o with theirs := (kvF x namesL 0 (-1, [])).2 } := by rw [setR, if_neg hn0, if_neg hn1, if_neg hn2, if_pos hk]
                refine a_regl ?_
                refine l_o (p_mv (E rfl)) rfl ?_
                refine l_o (p_fal ty_fo_43_1 (E rfl)) rfl ?_
                refine l_o (p_fal ty_fo_41_2 (E rfl)) rfl ?_
                refine l_e (e_st ty_sz_9 rfl rfl (E rfl) rfl rfl rfl ?_)
                refine l_nil ?_
                refine a_reg (o1 (p_addf (E rfl) (E rfl) (fun _ _ => (by have := encStrs_length l; omega))) (o1 (p_mv (E rfl)) oz)) rfl rfl ?_
                rw [hS] at hG
                exact ⟨(j + 1, _, _), ⟨hlt, hG⟩, by simp only; omega, rfl, rfl, rfl, fun _ h => h, E rfl, E rfl, E rfl, E rfl, E rfl, E rfl, E rfl, trivial⟩
              · exfalso; simp at h; omega
  · have hje : j = l.length := by simp at h; omega
    subst hje
    rw [List.drop_length, refG] at hG
    refine a_exit ?_
    refine a_seq ?_
    refine a_regl ?_
    refine l_o (p_ldla ty_ag_43 (E rfl) rfl (Nat.le_of_ble_eq_true rfl) rfl) rfl ?_
    refine l_e (e_st ty_sz_43 rfl rfl (E rfl) rfl rfl rfl ?_)
    refine l_o (p_as (E rfl)) rfl ?_
    refine l_nil ?_
    refine a_ret ?_
    refine ⟨_, resA_agg1 rfl ty_ag_43 rfl rfl rfl rfl (E rfl), rfl, ?_, rfl, fun _ h => h⟩
    rw [← hG]; rfl

theorem c_emendationlaw20_made (o : OptS) : Fn Tryz.prog 18 [.agg (OD o)] (.agg (OD o)) := by
  intro ob L
  refine a_fn Tryz.func18 rfl (by decide) (Nat.le_of_ble_eq_true rfl) ?_
  show AWP _ _ ⟨8, [(0, .agg (OD o))], [], ob, L⟩ _
  refine a_seq ?_
  refine a_regl ?_
  refine l_o (p_box (E rfl) rfl) rfl ?_
  refine l_e (e_alloc ty_zi_37 rfl ?_)
  refine l_nil ?_
  refine a_seq ?_
  refine a_regl ?_
  refine l_o (p_fa ty_fo_43_0 (E rfl)) rfl ?_
  refine l_o (p_ld ty_na_3 (E rfl)) rfl ?_
  refine l_o (p_fa ty_fo_43_1 (E rfl)) rfl ?_
  refine l_o (p_lda ty_ag_41 (E rfl) (Nat.le_of_ble_eq_true rfl)) rfl ?_
  refine l_o (p_bd ty_so_37 (.cons (E rfl) (.cons (E rfl) .nil)) rfl) rfl ?_
  refine l_e (e_st ty_sz_37 rfl rfl (E rfl) rfl rfl rfl ?_)
  refine l_nil ?_
  refine a_ret ?_
  refine ⟨_, resA_agg rfl ty_ag_37 rfl rfl rfl rfl , rfl, ?_, rfl, fun _ h => h⟩
  rfl


end Go.Proofs.YtcemejmegbefgaaGreatDoor.Em

set_option linter.unusedVariables false
set_option linter.unusedSimpArgs false
namespace Go.Proofs.YtcemejmegbefgaaGreatDoor.Em
/-! The program's reading of the arguments is the reference's. -/
def cF : List UInt8 → Option (List UInt8 × List UInt8)
  | [] => none
  | b :: bs => if b = 61 then some ([], bs) else (cF bs).map fun p => (b :: p.1, p.2)
theorem cut_cF : ∀ x : List UInt8, (idxI 61 x = -1 ∧ cF x = none) ∨ (0 ≤ idxI 61 x ∧ cF x = some (x.take (idxI 61 x).toNat, x.drop ((idxI 61 x).toNat + 1)))
  | [] => .inl ⟨rfl, rfl⟩
  | b :: bs => by
    have hb : ((b.toNat : Int) = 61) ↔ b = 61 := by
      constructor
      · intro h; apply UInt8.toNat_inj.1; show b.toNat = 61; omega
      · rintro rfl; rfl
    simp only [idxI, cF]
    by_cases h : b = 61
    · subst h; right; simp
    · rw [if_neg (fun e => h (hb.1 e)), if_neg h]
      rcases cut_cF bs with ⟨h1, h2⟩ | ⟨h1, h2⟩
      · left; simp [h1, h2]
      · right
        rw [if_neg (by omega), h2]
        refine ⟨by omega, ?_⟩
        have e : (idxI 61 bs + 1).toNat = (idxI 61 bs).toNat + 1 := by omega
        simp [e]
theorem cutAt_none {x : List UInt8} (h : cF x = none) : (cutAt x 1 (idxI 61 x)).2.2 = false := by
  rcases cut_cF x with ⟨h1, _⟩ | ⟨_, h2⟩
  · rw [h1]; rfl
  · rw [h2] at h; cases h
theorem cutAt_some {x p q : List UInt8} (h : cF x = some (p, q)) : cutAt x 1 (idxI 61 x) = (p, q, true) := by
  rcases cut_cF x with ⟨_, h2⟩ | ⟨h1, h2⟩
  · rw [h2] at h; cases h
  · rw [h2] at h
    injection h with h
    injection h with h3 h4
    rw [cutAt, if_pos h1, h3, h4]
theorem valF_cF : ∀ (n x : List UInt8), (61 : UInt8) ∉ n → valF x (n ++ [61]) = match cF x with | some (p, q) => if p = n then (q, true) else ([], false) | none => ([], false)
  | [], [], _ => rfl
  | [], b :: bs, _ => by
    simp only [cF, valF, List.nil_append]
    by_cases h : b = 61
    · subst h; simp
    · have h' : ¬ (61 : UInt8) = b := fun e => h e.symm
      cases hc : cF bs <;> simp [h, h']
  | a :: n, [], _ => by simp [valF, cF]
  | a :: n, b :: bs, hn => by
    have ha : ¬ a = 61 := fun e => hn (e ▸ List.mem_cons_self)
    have ih := valF_cF n bs (fun h => hn (List.mem_cons_of_mem _ h))
    simp only [valF, cF, List.cons_append] at ih ⊢
    by_cases hab : a = b
    · subst hab
      rw [if_neg ha]
      cases hc : cF bs with
      | none => rw [hc] at ih; simpa using ih
      | some p =>
        obtain ⟨p, q⟩ := p
        rw [hc] at ih
        simp only at ih
        simpa using ih
    · have h1 : (List.isPrefixOf (a :: (n ++ [61])) (b :: bs)) = false := by
        show ((a == b) && _) = false
        rw [beq_eq_false_iff_ne.2 hab]; rfl
      rw [h1]
      by_cases hb : b = 61
      · simp [hb]
      · cases hc : cF bs with
        | none => simp [hb]
        | some p => simp [hb, Ne.symm hab, fun e : b = a => hab e.symm]
def nmS : List UInt8 := [115, 105, 122, 101]
def nmO : List UInt8 := [111, 117, 114, 115]
def nmB : List UInt8 := [98, 97, 115, 101]
def nmT : List UInt8 := [116, 104, 101, 105, 114, 115]
theorem names_eq : namesL = [nmS ++ [61], nmO ++ [61], nmB ++ [61], nmT ++ [61]] := rfl
theorem kv_none {x : List UInt8} (h : cF x = none) : kvF x namesL 0 (-1, []) = (-1, []) := by
  rw [names_eq]
  simp only [kvF, valF_cF nmS x (by decide), valF_cF nmO x (by decide), valF_cF nmB x (by decide), valF_cF nmT x (by decide), h]
  rfl
theorem kv_some {x p q : List UInt8} (h : cF x = some (p, q)) : kvF x namesL 0 (-1, []) =
    if p = nmS then (0, q) else if p = nmO then (1, q) else if p = nmB then (2, q) else if p = nmT then (3, q) else (-1, []) := by
  rw [names_eq]
  simp only [kvF, valF_cF nmS x (by decide), valF_cF nmO x (by decide), valF_cF nmB x (by decide), valF_cF nmT x (by decide), h]
  by_cases h1 : p = nmS
  · subst h1; rfl
  · by_cases h2 : p = nmO
    · subst h2; rfl
    · by_cases h3 : p = nmB
      · subst h3; rfl
      · by_cases h4 : p = nmT
        · subst h4; rfl
        · simp [h1, h2, h3, h4]
theorem long_crlf (v : List UInt8) : decide ((longI 10 v : Int) + longI 13 v > 0) = crlf v := by
  rw [Bool.eq_iff_iff]
  have h1 := longI_pos 10 v
  have h2 := longI_pos 13 v
  unfold crlf
  simp only [decide_eq_true_eq, List.any_eq_true, Bool.or_eq_true, beq_iff_eq]
  have e : ∀ (b c : UInt8), ((b.toNat : Int) = c.toNat) ↔ b = c := fun b c => ⟨fun h => UInt8.toNat_inj.1 (by omega), fun h => by rw [h]⟩
  have e10 : ∀ b : UInt8, ((b.toNat : Int) = 10) ↔ b = 10 := fun b => e b 10
  have e13 : ∀ b : UInt8, ((b.toNat : Int) = 13) ↔ b = 13 := fun b => e b 13
  constructor
  · intro h
    rcases Nat.eq_zero_or_pos (longI 10 v) with h0 | h0
    · obtain ⟨b, hb, hc⟩ := h2.1 (by omega)
      exact ⟨b, hb, .inl ((e13 b).1 hc)⟩
    · obtain ⟨b, hb, hc⟩ := h1.1 h0
      exact ⟨b, hb, .inr ((e10 b).1 hc)⟩
  · rintro ⟨b, hb, hc | hc⟩
    · have := h2.2 ⟨b, hb, (e13 b).2 hc⟩; omega
    · have := h1.2 ⟨b, hb, (e10 b).2 hc⟩; omega
theorem size_num (v : List UInt8) : (sizeF v).2 = !decide (numR v < 0) ∧ ((sizeF v).2 = true → (sizeF v).1 = numR v) := by
  unfold sizeF numR
  by_cases h : v ≠ [] ∧ v.length ≤ 4 ∧ v.all digB = true
  · have h1 : 1 ≤ v.length := List.length_pos_iff.2 h.1
    rw [if_pos h, if_pos ⟨h1, h.2.1, h.2.2⟩]
    have := numV_bd v (fun b hb => List.all_eq_true.1 h.2.2 b hb) v.length h.2.1 (Nat.le_refl _)
    rw [List.take_length] at this
    refine ⟨?_, fun _ => rfl⟩
    have h2 : decide (numV v < 0) = false := by simp; omega
    rw [h2]; rfl
  · rw [if_neg h, if_neg (fun hh => h ⟨List.length_pos_iff.1 hh.1, hh.2.1, hh.2.2⟩)]
    exact ⟨rfl, fun h => by cases h⟩
structure SeenR (seen : List (List UInt8 × Bool)) (f : Nat → Bool) : Prop where
  s : (mget seen nmS).getD false = f 0
  o : (mget seen nmO).getD false = f 1
  b : (mget seen nmB).getD false = f 2
  t : (mget seen nmT).getD false = f 3
theorem dec_ref : ∀ (l : List (List UInt8)) (o : OptS) (seen : List (List UInt8 × Bool)) (f : Nat → Bool), SeenR seen f → decG l o seen = refG l o f
  | [], o, seen, f, _ => rfl
  | x :: r, o, seen, f, hs => by
    rw [decG, refG]
    cases hc : cF x with
    | none =>
      rw [cutAt_none hc, kv_none hc]
      simp
    | some pq =>
      obtain ⟨p, q⟩ := pq
      rw [cutAt_some hc, kv_some hc]
      simp only [Bool.not_true, Bool.false_or, long_crlf]
      by_cases h1 : p = nmS
      · subst h1
        obtain ⟨hz1, hz2⟩ := size_num q
        rw [if_pos rfl, hs.s]
        have hset : setO o nmS q = ({ o with size := (sizeF q).1 }, (sizeF q).2 && !crlf q) := rfl
        simp only [hset, hz1]
        cases hf : f 0 <;> cases hcr : crlf q <;> cases hn : decide (numR q < 0) <;> simp [hf, hcr, hn]
        rw [hz2 (by rw [hz1, hn]; rfl)]
        refine dec_ref r _ _ _ ⟨?_, ?_, ?_, ?_⟩
        · rw [mget_mput]; simp
        · rw [mget_mput, if_neg (by decide), hs.o]; simp
        · rw [mget_mput, if_neg (by decide), hs.b]; simp
        · rw [mget_mput, if_neg (by decide), hs.t]; simp
      · rw [if_neg h1]
        by_cases h2 : p = nmO
        · subst h2
          rw [if_pos rfl, hs.o]
          have hset : setO o nmO q = ({ o with ours := q }, true && !crlf q) := rfl
          simp only [hset]
          cases hf : f 1 <;> cases hcr : crlf q <;> simp [hf, hcr]
          refine dec_ref r _ _ _ ⟨?_, ?_, ?_, ?_⟩
          · rw [mget_mput, if_neg (by decide), hs.s]; simp
          · rw [mget_mput]; simp
          · rw [mget_mput, if_neg (by decide), hs.b]; simp
          · rw [mget_mput, if_neg (by decide), hs.t]; simp
        · rw [if_neg h2]
          by_cases h3 : p = nmB
          · subst h3
            rw [if_pos rfl, hs.b]
            have hset : setO o nmB q = ({ o with base := q }, true && !crlf q) := rfl
            simp only [hset]
            cases hf : f 2 <;> cases hcr : crlf q <;> simp [hf, hcr]
            refine dec_ref r _ _ _ ⟨?_, ?_, ?_, ?_⟩
            · rw [mget_mput, if_neg (by decide), hs.s]; simp
            · rw [mget_mput, if_neg (by decide), hs.o]; simp
            · rw [mget_mput]; simp
            · rw [mget_mput, if_neg (by decide), hs.t]; simp
          · rw [if_neg h3]
            by_cases h4 : p = nmT
            · subst h4
              rw [if_pos rfl, hs.t]
              have hset : setO o nmT q = ({ o with theirs := q }, true && !crlf q) := rfl
              simp only [hset]
              cases hf : f 3 <;> cases hcr : crlf q <;> simp [hf, hcr]
              refine dec_ref r _ _ _ ⟨?_, ?_, ?_, ?_⟩
              · rw [mget_mput, if_neg (by decide), hs.s]; simp
              · rw [mget_mput, if_neg (by decide), hs.o]; simp
              · rw [mget_mput, if_neg (by decide), hs.b]; simp
              · rw [mget_mput]; simp
            · rw [if_neg h4]
              have hset : setO o p q = (o, false && !crlf q) := by
                unfold setO
                exact (if_neg h1).trans ((if_neg h2).trans ((if_neg h3).trans (if_neg h4)))
              simp [hset]
theorem dec_ref0 (l : List (List UInt8)) : decG l o7 [] = refG l o7 (fun _ => false) := dec_ref l o7 [] _ ⟨rfl, rfl, rfl, rfl⟩
end Go.Proofs.YtcemejmegbefgaaGreatDoor.Em

set_option maxRecDepth 100000
set_option linter.unusedVariables false
set_option linter.unusedSimpArgs false
namespace Go.Proofs.YtcemejmegbefgaaGreatDoor.Em
open Go.Proofs

theorem dec_awake : decG [[115, 105, 122, 101, 61, 57], [111, 117, 114, 115, 61, 120]] o7 [] = (⟨9, [120], [], []⟩, 0) := by rfl

theorem c_emendationlaw20_awake  : Fn Tryz.prog 15 [] (bool true) := by
  intro ob L
  refine a_fn Tryz.func15 rfl (by decide) (Nat.le_of_ble_eq_true rfl) ?_
  show AWP _ _ ⟨36, [], [], ob, L⟩ _
  refine a_seq ?_
  refine a_reg (o1 (p_as (E rfl)) oz) rfl rfl ?_
  refine a_seq ?_
  refine a_regl ?_
  refine l_o (p_bd ty_so_37 (.cons (E rfl) .nil) rfl) rfl ?_
  refine l_o (p_call (c_Merge_awake) (.cons (E rfl) (.cons (E rfl) (.cons (E rfl) (.cons (E rfl) .nil)))) rfl rfl) rfl ?_
  refine l_o (p_mv (E rfl)) rfl ?_
  refine l_o (p_ext (E rfl) rfl) rfl ?_
  refine l_o (p_ext (E rfl) rfl) rfl ?_
  refine l_e (e_alloc ty_zi_70 rfl ?_)
  refine l_e (e_st ty_sz_70 rfl rfl (E rfl) rfl rfl rfl ?_)
  refine l_o (p_as (E rfl)) rfl ?_
  refine l_nil ?_
  refine a_seq ?_
  refine a_regl ?_
  refine l_o (p_bs (xs := [.const (.string ⟨#[115, 105, 122, 101, 61, 57]⟩), .const (.string ⟨#[111, 117, 114, 115, 61, 120]⟩)]) (sz := 1) Tryz.underlying33 ty_zo_9 rfl rfl rfl (.cons (E rfl) (.cons (E rfl) .nil)) rfl rfl rfl) rfl ?_
  refine l_o (p_call (c_driver_Decode [[115, 105, 122, 101, 61, 57], [111, 117, 114, 115, 61, 120]]) (.cons (E rfl) .nil) rfl rfl) rfl ?_
  refine l_o (p_mv (E rfl)) rfl ?_
  refine l_o (p_ext (E rfl) rfl) rfl ?_
  refine l_o (p_ext (E rfl) rfl) rfl ?_
  refine l_e (e_alloc ty_zi_37 rfl ?_)
  refine l_e (e_st ty_sz_37 rfl rfl (E rfl) rfl rfl rfl ?_)
  refine l_o (p_as (E rfl)) rfl ?_
  refine l_nil ?_
  refine a_seq ?_
  refine a_reg (o1 (p_mv (E rfl)) (o1 (p_eq (E rfl) (E rfl)) (o1 (p_mv (E rfl)) (g1 rfl rfl (fun h3 => p_fal ty_fo_70_0 (E rfl)) (g1 rfl rfl (fun h4 => p_ldl ty_na_9 (Eo rfl h4) rfl rfl) (g1 rfl rfl (fun h5 => p_eqs (Eo rfl h5) (E rfl)) (o1 (p_and (E rfl) rfl rfl (fun h => bqt h)) (o1 (p_mv (E rfl)) (g1 rfl rfl (fun h8 => p_fal ty_fo_70_2 (E rfl)) (g1 rfl rfl (fun h9 => p_ldl ty_na_3 (Eo rfl h9) rfl rfl) (g1 rfl rfl (fun h10 => p_eq (Eo rfl h10) (E rfl)) (o1 (p_and (E rfl) rfl rfl (fun h => bqt h)) (o1 (p_mv (E rfl)) (g1 rfl rfl (fun h13 => p_mv (E rfl)) (g1 rfl rfl (fun h14 => p_eq (Eo rfl h14) (E rfl)) (o1 (p_and (E rfl) rfl rfl (fun h => bqt h)) (o1 (p_mv (E rfl)) (g1 rfl rfl (fun h17 => p_fal ty_fo_37_0 (E rfl)) (g1 rfl rfl (fun h18 => p_ldl ty_na_3 (Eo rfl h18) rfl rfl) (g1 rfl rfl (fun h19 => p_eq (Eo rfl h19) (E rfl)) (o1 (p_and (E rfl) rfl rfl (fun h => bqt h)) (o1 (p_as (E rfl)) oz)))))))))))))))))))))) rfl rfl ?_
  refine a_ret ?_
  refine ⟨_, resA_one rfl (E rfl), rfl, ?_, rfl, fun _ h => h⟩
  rw [dec_awake]; rfl

theorem c_emendationlaw20_DriverDecodes (l : List (List UInt8)) : Fn Tryz.prog 5 [lst 1 (encStrs l)] (bool true) := by
  intro ob L
  refine a_fn Tryz.func5 rfl (by decide) (Nat.le_of_ble_eq_true rfl) ?_
  show AWP _ _ ⟨47, [(0, lst 1 (encStrs l))], [], ob, L⟩ _
  refine a_flst (t := 0) (E rfl) fun hA0 => ?_
  refine a_seq ?_
  refine a_reg (o1 (p_as (E rfl)) oz) rfl rfl ?_
  refine a_seq ?_
  refine a_seq ?_
  refine a_reg (o1 (p_call (c_emendationlaw20_awake) .nil rfl rfl) (o1 (p_not (E rfl)) (o1 (p_mv (E rfl)) (g1 rfl rfl (fun h3 => p_mv (E rfl)) (g1 rfl rfl (fun h4 => p_lenl Tryz.underlying33 (Eo rfl h4)) (g1 rfl rfl (fun h5 => p_gtr (Eo rfl h5) (E rfl)) (o1 (p_or (E rfl) rfl rfl (fun h => bqf h)) oz))))))) rfl rfl ?_
  refine a_cond (E rfl) (fun h => ?_) (fun h => ?_)
  · refine a_seq ?_
    refine a_reg (o1 (p_call (c_emendationlaw20_awake) .nil rfl rfl) (o1 (p_as (E rfl)) oz)) rfl rfl ?_
    refine a_ret ?_
    refine ⟨_, resA_one rfl (E rfl), rfl, ?_, rfl, fun _ h => h⟩
    rfl
  · have hl : l.length ≤ 50 := by simp [encStrs_length] at h; omega
    refine a_skip ?_
    refine a_seq ?_
    refine a_seq ?_
    refine a_reg (o1 (p_mv (E rfl)) (o1 (p_lenl Tryz.underlying33 (E rfl)) (o1 (p_mv (E rfl)) oz))) rfl rfl ?_
    refine a_block ?_
    refine a_loop (fun j : Nat => j ≤ l.length ∧ ∀ x ∈ l.take j, x.length ≤ 500) (fun j => l.length - j) (fun j => ⟨47, [(0, lst 1 (encStrs l)), (17, i64 l.length), (18, i64 j)], [], ob, L⟩) 0 ⟨Nat.zero_le _, by simp⟩ ⟨rfl, rfl, rfl, fun _ h => h, E rfl, Eq_ rfl (by rw [encStrs_length]), E rfl, trivial⟩ fun j hj => ?_
    obtain ⟨hj, hs⟩ := hj
    refine a_seq ?_
    refine a_reg (o1 (p_lss (E rfl) (E rfl)) oz) rfl rfl ?_
    refine a_seq ?_
    refine a_cond (E rfl) (fun h => ?_) (fun h => ?_)
    · have hlt : j < l.length := by simpa using h
      obtain ⟨x, hx⟩ : ∃ x, l[j]? = some x := ⟨l[j], List.getElem?_eq_getElem hlt⟩
      refine a_skip ?_
      refine a_seq ?_
      refine a_block ?_
      refine a_seq ?_
      refine a_reg (o1 (p_mv (E rfl)) (o1 (p_as (E rfl)) oz)) rfl rfl ?_
      refine a_seq ?_
      refine a_reg (o1 (p_mv (E rfl)) (o1 (p_mv (E rfl)) (o1 (p_ia Tryz.underlying33 ty_sz_9 (E rfl) (E rfl) (by have := encStrs_length l; omega) (mg hx)) (o1 (p_ld ty_na_9 (E rfl)) (o1 (p_lens Tryz.underlying9 (E rfl)) (o1 (p_gtr (E rfl) (E rfl)) oz)))))) rfl rfl ?_
      refine a_cond (E rfl) (fun h => ?_) (fun h => ?_)
      · refine a_seq ?_
        refine a_reg (o1 (p_as (E rfl)) oz) rfl rfl ?_
        refine a_ret ?_
        refine ⟨_, resA_one rfl (E rfl), rfl, ?_, rfl, fun _ h => h⟩
        rfl
      · have hx5 : x.length ≤ 500 := by simp at h; omega
        refine a_skip ?_
        refine a_reg (o1 (p_addf (E rfl) (E rfl) (fun _ _ => (by omega))) (o1 (p_mv (E rfl)) oz)) rfl rfl ?_
        exact ⟨j + 1, ⟨hlt, by
          intro b hb
          rw [take_succ_get hx] at hb
          rcases List.mem_append.1 hb with hb | hb
          · exact hs b hb
          · rw [List.mem_singleton] at hb; subst hb; exact hx5⟩, by omega, rfl, rfl, rfl, fun _ h => h, E rfl, E rfl, E rfl, trivial⟩
    · have hje : j = l.length := by simp at h; omega
      subst hje
      rw [List.take_length] at hs
      refine a_exit ?_
      refine a_seq ?_
      refine a_regl ?_
      refine l_o (p_mv (E rfl)) rfl ?_
      refine l_o (p_call (c_driver_Decode l) (.cons (E rfl) .nil) rfl rfl) rfl ?_
      refine l_o (p_mv (E rfl)) rfl ?_
      refine l_o (p_ext (E rfl) rfl) rfl ?_
      refine l_o (p_ext (E rfl) rfl) rfl ?_
      refine l_e (e_alloc ty_zi_37 rfl ?_)
      refine l_e (e_st ty_sz_37 rfl rfl (E rfl) rfl rfl rfl ?_)
      refine l_o (p_as (E rfl)) rfl ?_
      refine l_nil ?_
      refine a_seq ?_
      refine a_regl ?_
      refine l_o (p_mv (E rfl)) rfl ?_
      refine l_o (p_call (c_emendationref20_Decode l (fun x hx => by have := hs x hx; omega)) (.cons (E rfl) .nil) rfl rfl) rfl ?_
      refine l_o (p_mv (E rfl)) rfl ?_
      refine l_o (p_ext (E rfl) rfl) rfl ?_
      refine l_o (p_ext (E rfl) rfl) rfl ?_
      refine l_e (e_alloc ty_zi_43 rfl ?_)
      refine l_e (e_st ty_sz_43 rfl rfl (E rfl) rfl rfl rfl ?_)
      refine l_o (p_as (E rfl)) rfl ?_
      refine l_nil ?_
      refine a_seq ?_
      refine a_regd mix (o1 (p_mv (E rfl)) (o1 (p_mv (E rfl)) (o1 (p_eq (E rfl) (E rfl)) (o1 (p_mv (E rfl)) (g1 rfl rfl (fun h4 => p_ldla ty_ag_37 (E rfl) rfl (Nat.le_of_ble_eq_true rfl) rfl) (g1 rfl rfl (fun h5 => p_ldla ty_ag_43 (E rfl) rfl (Nat.le_of_ble_eq_true rfl) rfl) (g1 rfl rfl (fun h6 => p_call (c_emendationlaw20_made _) (.cons (Eo rfl h6) .nil) rfl rfl) (g1 rfl rfl (fun h7 => p_eqopt (Eo rfl h7) (Eo rfl h7)) (o1 (p_and (E rfl) rfl rfl (fun h => bqt h)) (o1 (p_as (E rfl)) oz)))))))))) rfl rfl (by kernel_rfl) ?_
      refine a_ret ?_
      refine ⟨_, resA_one rfl (E rfl), rfl, ?_, rfl, fun _ h => h⟩
      rw [dec_ref0 l]; simp


end Go.Proofs.YtcemejmegbefgaaGreatDoor.Em

set_option maxRecDepth 100000
set_option linter.unusedVariables false
set_option linter.unusedSimpArgs false
namespace Go.Proofs.YtcemejmegbefgaaGreatDoor.Em
open Go.Proofs Go.ChangeShapes Go.WideShapes Go.RowKit

section
variable {P : Program}

/-- A call from the outside: what was there stays as it was. -/
theorem calls_of_fn {f : FuncId} {args : List PV} {r : PV} {vs : List Value} {W : World} (h : Fn P f args r) (hg : GV W ∧ NG ≤ W.heap.size)
    (hr : Reps ⟨W, W.heap.size, fun b o => (W.cell? ⟨b, o, none⟩).isSome = true, [], [], []⟩ args vs) :
    Calls P f vs.toArray W (fun e W' => ∃ v, e = .returned v ∧ Below W.heap.size W W' ∧ ∃ cx', cx'.w = W' ∧ Rep cx' r v) := by
  have hi : Inv ⟨W, W.heap.size, fun b o => (W.cell? ⟨b, o, none⟩).isSome = true, [], [], []⟩ [] [] [] := by
    refine ⟨fun b o hs => hs, Nat.le_refl _, hg, ⟨rfl, fun i b cs hb => by simp at hb⟩, ⟨rfl, fun i b cs hb => by simp at hb⟩, by simp, fun k hk => (by cases hk), fun k hk => (by cases hk)⟩
  refine Calls.mono ((h [] []).2 _ vs rfl hi hr) ?_
  rintro e w' ⟨v, cx', r', ob', L', he, hw, hx, _, _, hv, hr', _⟩
  subst hr'
  exact ⟨v, he, hw ▸ hx.below, cx', hw, hv⟩

theorem calls_true {f : FuncId} {args : List PV} {vs : List Value} {W : World} (h : Fn P f args (.d (.v (.bool true)))) (hg : GV W ∧ NG ≤ W.heap.size)
    (hr : Reps ⟨W, W.heap.size, fun b o => (W.cell? ⟨b, o, none⟩).isSome = true, [], [], []⟩ args vs) :
    Calls P f vs.toArray W (fun e W' => e = .returned (.bool true) ∧ Below W.heap.size W W') := by
  refine Calls.mono (calls_of_fn h hg hr) ?_
  rintro e w' ⟨v, he, hb, cx', hw, hv⟩
  simp only [Rep, RepD] at hv
  rw [hv.1] at he
  exact ⟨he, hb⟩
end

theorem repC_encStrs (w : World) (S : Nat → Nat → Prop) : ∀ l : List (List UInt8), (∀ x ∈ l, x.length ≤ LIM) → RepC w S 1 (encStrs l) (l.map fun t => .string ⟨t.toArray⟩)
  | [], _ => by simp [encStrs, RepC]
  | x :: xs, h => by
    have ih := repC_encStrs w S xs (fun y hy => h y (List.mem_cons_of_mem _ hy))
    have e : encStrs (x :: xs) = [.v (.string ⟨x.toArray⟩)] :: encStrs xs := rfl
    rw [e, RepC]
    have hx := h x (by simp)
    refine ⟨[.string ⟨x.toArray⟩], _, rfl, rfl, ?_, ih⟩
    rw [RepDs]
    refine ⟨_, _, rfl, ?_, rfl⟩
    rw [RepD]
    refine ⟨rfl, ?_⟩
    show x.toArray.size ≤ LIM
    simpa using hx

theorem weightsAll_strs {H : Type} (P : Program) (e : TypeId) (s : ByteArray) : ∀ l : List ByteArray, s ∈ l → s.size ∈ DataW.weightsAll P e (strs (H := H) l)
  | x :: xs, h => by
    have e1 : strs (H := H) (x :: xs) = .lit (.string x.data.toList) :: strs xs := rfl
    rw [e1, DataW.weightsAll]
    rcases List.mem_cons.1 h with rfl | h
    · refine List.mem_append_left _ ?_
      rw [DataW.weights, Array.length_toList]
      exact List.mem_singleton.2 rfl
    · exact List.mem_append_right _ (weightsAll_strs P e s xs h)

/-- A row of strings that came in. -/
theorem strs_arg {H : Type} {enc : TypeId × Value → H} {P : Program} {W : World} {base : Nat} {spare : Nat → Bool} {held : Bool} {t e : TypeId} {v : Value} {d : DataW H} {ps : List MemPlace} {base0 : Nat}
    (ht : P.underlying t = some (.slice e)) (he : P.underlying e = some .string) (hc : P.cellsOf e = 1) (hb16 : P.bytesOf e = 16)
    (hv : Value.okWide P W .any base0 t v) (h : DataW.Trod enc P W base spare held t v d ps) (hsz : (d.weights P t).all (· ≤ reachBytes) = true) :
    ∃ l : List (List UInt8), Rep ⟨W, W.heap.size, fun b o => (W.cell? ⟨b, o, none⟩).isSome = true, [], [], []⟩ (.d (.lst 1 (encStrs l))) v ∧ ∀ x ∈ l, x.length ≤ LIM := by
  obtain ⟨a0, len, cap, rfl⟩ := okWide_slice ht hv
  obtain ⟨fuel, hf⟩ := h
  rcases open_strings ht he hc hf with ⟨hcs, hx⟩ | ⟨a, len', cap', ss, hcs, _, hl, hm, hz, hx, hcell, hsm⟩
  · simp [Value.cells] at hcs
    obtain ⟨rfl, rfl, rfl⟩ := hcs
    refine ⟨[], ?_, by simp⟩
    simp only [Rep, RepD]
    exact .inl (by simp [encStrs])
  · simp [Value.cells] at hcs
    obtain ⟨rfl, rfl, rfl⟩ := hcs
    injection hx with hx1 hx2
    subst hx1
    have hlen : len ≤ ss.length := by rw [hz]; split <;> omega
    have hw := List.all_eq_true.1 hsz
    have hwl : (((strs (H := H) (ss.take len)).length + (strs (H := H) (ss.drop len)).length) * P.bytesOf e) ≤ reachBytes := by
      have := hw (((strs (H := H) (ss.take len)).length + (strs (H := H) (ss.drop len)).length) * P.bytesOf e) (by simp [DataW.weights, ht])
      simpa using this
    have hstr : ∀ s ∈ ss.take len, s.size ≤ LIM := by
      intro s hs
      have := hw s.size (by
        simp only [DataW.weights, ht]
        exact List.mem_cons_of_mem _ (List.mem_append_left _ (weightsAll_strs P e s _ hs)))
      have : s.size ≤ reachBytes := by simpa using this
      unfold reachBytes at this; unfold LIM; omega
    have hspot : a.spot = none := by
      simp only [Value.okWide, ht, Cell.okWide, Cell.ok] at hv
      exact hv.2.2.2.1
    refine ⟨(ss.take len).map (fun s => s.data.toList), ?_, ?_⟩
    · simp only [Rep, RepD]
      refine .inr ⟨a.block, a.off, cap, (ss.take len).map .string, ?_, ?_, ?_, ?_, ?_⟩
      · simp [encStrs, List.length_take, Nat.min_eq_left hlen]
        cases a; simp at hspot; simp [hspot]
      · simp [encStrs, List.length_take, Nat.min_eq_left hlen]; exact hl
      · simp only [encStrs, List.length_map, List.length_take, Nat.min_eq_left hlen]
        rw [hb16] at hwl
        simp only [strs, List.length_map, List.length_take, List.length_drop, Nat.min_eq_left hlen] at hwl
        unfold reachBytes at hwl; unfold LIM; omega
      · intro j x hj
        have hjl : j < len := by
          have := (List.getElem?_eq_some_iff.1 hj).1
          simp at this; omega
        have hc' := hcell j (by omega)
        have hx : x = .string (ss.getD j ByteArray.empty) := by
          rw [List.getElem?_map, List.getElem?_take, if_pos hjl] at hj
          rw [List.getElem?_eq_getElem (by omega : j < ss.length)] at hj
          simp at hj
          rw [← hj, List.getD, List.getElem?_eq_getElem (by omega : j < ss.length)]; rfl
        have ea : a.add j = ⟨a.block, a.off + j, none⟩ := by
          rw [Addr.add]
          cases a with
          | mk ab ao asp =>
            simp only at hspot
            subst hspot
            split
            · next hj0 => rw [hj0]; rfl
            · rfl
        rw [ea] at hc'
        rw [hx]
        exact ⟨hc', by show (W.cell? _).isSome = true; rw [hc']; rfl⟩
      · have := repC_encStrs W (fun b o => (W.cell? ⟨b, o, none⟩).isSome = true) ((ss.take len).map (fun s => s.data.toList)) (by
          intro x hx
          obtain ⟨s, hs, rfl⟩ := List.mem_map.1 hx
          simpa using hstr s hs)
        rw [List.map_map] at this
        exact this
    · intro x hx
      obtain ⟨s, hs, rfl⟩ := List.mem_map.1 hx
      simpa using hstr s hs
end Go.Proofs.YtcemejmegbefgaaGreatDoor.Em
