/-
  What functions of the library return at strings; each under the hypotheses that it states.
-/
import Derived.Test.YtcemejmegbefgaaGreatDoorLibA
import Derived.Laws.Runes
import Derived.Laws.Cover4
set_option maxRecDepth 100000
set_option linter.unusedVariables false
set_option linter.unusedSimpArgs false
namespace Go.Proofs.YtcemejmegbefgaaGreatDoor.Em
open Go.Proofs

/-! Sets of ASCII bytes. -/
def inS (s : List UInt8) (i : Nat) : Bool := s.any fun b => b.toNat == i
def ascD (f : Nat → Bool) : List D := (List.range 256).map fun i => .v (.bool (f i))
def ascP (f : Nat → Bool) : List PV := (List.range 256).map fun i => .d (.v (.bool (f i)))
theorem ascP_length (f : Nat → Bool) : (ascP f).length = 256 := by simp [ascP]
theorem ascD_length (f : Nat → Bool) : (ascD f).length = 256 := by simp [ascD]
theorem ascP_get (f : Nat → Bool) {i : Nat} (h : i < 256) : (ascP f)[i]? = some (bool (f i)) := by simp [ascP, h]
theorem ascP_eq (f : Nat → Bool) : ascP f = (ascD f).map .d := by simp [ascP, ascD]
theorem ascP_toD (f : Nat → Bool) : (ascP f).map PV.toD = ascD f := by simp [ascP, ascD, PV.toD]
theorem ascP_mpo (f : Nat → Bool) : mpo (ascP f) = false := by
  have h1 := ascP_length f
  cases h : ascP f with
  | nil => rfl
  | cons x r =>
    cases r with
    | nil => rw [h] at h1; simp at h1
    | cons y r => cases x <;> rfl
theorem ascP_put (f : Nat → Bool) {c : Nat} (h : c < 256) : putC (ascP f) (0 + c * 1) (bool true) = ascP fun i => f i || i == c := by
  apply List.ext_getElem?
  intro j
  simp only [putC, PV.cellsP, Nat.zero_add, Nat.mul_one, List.length_cons, List.length_nil]
  by_cases h1 : j < c
  · rw [List.append_assoc, List.getElem?_append_left (by simp [ascP_length]; omega), List.getElem?_take, if_pos h1, ascP_get _ (by omega), ascP_get _ (by omega)]
    have : (j == c) = false := by simp; omega
    simp [this]
  · by_cases h2 : j = c
    · subst h2
      rw [List.append_assoc, List.getElem?_append_right (by simp [ascP_length]; omega), ascP_get _ h]
      have : j - (List.take j (ascP f)).length = 0 := by simp [ascP_length]; omega
      rw [this]
      simp
    · rw [List.getElem?_append_right (by simp [ascP_length]; omega), List.getElem?_drop]
      have e : c + (0 + 1) + (j - (List.take c (ascP f) ++ [bool true]).length) = j := by simp [ascP_length]; omega
      rw [e]
      by_cases h3 : j < 256
      · rw [ascP_get _ h3, ascP_get _ h3]
        have : (j == c) = false := by simp; omega
        simp [this]
      · rw [List.getElem?_eq_none (by rw [ascP_length]; omega), List.getElem?_eq_none (by rw [ascP_length]; omega)]
theorem ascP_all (f g : Nat → Bool) : putC (ascP f) 0 (.agg (ascD g)) = ascP g := by
  simp only [putC, PV.cellsP, List.take_zero, List.nil_append, Nat.zero_add, List.length_map, ascD_length]
  rw [List.drop_eq_nil_of_le (by rw [ascP_length]; exact Nat.le_refl _), List.append_nil, ascP_eq]
theorem inS_take {s : List UInt8} {j : Nat} {x : UInt8} (h : s[j]? = some x) (i : Nat) : inS (s.take (j + 1)) i = (inS (s.take j) i || i == x.toNat) := by
  have hj : j < s.length := (List.getElem?_eq_some_iff.1 h).1
  have hx : s[j] = x := (List.getElem?_eq_some_iff.1 h).2
  unfold inS
  rw [List.take_succ_eq_append_getElem hj, List.any_append, hx]
  simp [Bool.beq_comm, eq_comm]
theorem bt_get {s : List UInt8} {j : Nat} {x : UInt8} (h : s[j]? = some x) : bt s (j : Int) = x.toNat := by simp [bt, h]
section
variable {P : Program} {lo ob : List (List PV)} {L : List Nat} {tm : List (Nat × PV)}
variable {dst : Option Tmp} {ty : TypeId} {pos : String} {aft : Array Edge} {g : Option (Nat × Bool)}
theorem p_ldasc {x : Operand} {t : TypeId} {i : Nat} {f : Nat → Bool} (hn : aggOf P t 256 = true) (hx : Ev tm x (.loc i 0)) (hc : lo[i]? = some (ascP f)) :
    POp P lo ob L ⟨dst, .load t x, ty, pos, aft, g⟩ tm (.agg (ascD f)) := by
  have := p_ldla (P := P) (lo := lo) (ob := ob) (L := L) (dst := dst) (ty := ty) (pos := pos) (aft := aft) (g := g) (n := 256) (o := 0) hn hx hc (by rw [ascP_length]; exact Nat.le_refl _)
    (List.all_eq_true.2 fun p hp => by
      have hp := List.mem_of_mem_drop (List.mem_of_mem_take hp)
      simp only [ascP, List.mem_map] at hp
      obtain ⟨i, _, rfl⟩ := hp
      rfl) (ascP_mpo f)
  rw [List.drop_zero, List.take_of_length_le (by rw [ascP_length]; exact Nat.le_refl _), ascP_toD] at this
  exact this
end
def trimLA (f : Nat → Bool) (s : List UInt8) : List UInt8 := s.dropWhile fun b => f b.toNat
def trimRA (f : Nat → Bool) (s : List UInt8) : List UInt8 := (trimLA f s.reverse).reverse
theorem trimLA_cons (f : Nat → Bool) (x : UInt8) (s : List UInt8) : trimLA f (x :: s) = if f x.toNat then trimLA f s else x :: s := by
  simp only [trimLA, List.dropWhile_cons]
def trimA (cut s : List UInt8) : List UInt8 := trimLA (inS cut) (trimRA (inS cut) s)

theorem c_strings_makeASCIISet (s : List UInt8) (hs : ∀ b ∈ s, b.toNat < 128) : Fn Tryz.prog 142 [str s] (.tup [.agg (ascD (inS s)), bool true]) := by
  intro ob L
  refine a_fn Tryz.func142 rfl (by decide) (Nat.le_of_ble_eq_true rfl) ?_
  show AWP _ _ ⟨21, [(0, str s)], [], ob, L⟩ _
  refine a_fstr (t := 0) (E rfl) fun hA0 => ?_
  refine a_seq ?_
  refine a_regl ?_
  refine l_e (e_alloc (zs := ascD (fun _ => false)) (by kernel_rfl) rfl ?_)
  refine l_o (p_as (E rfl)) rfl ?_
  refine l_nil ?_
  refine a_seq ?_
  refine a_seq ?_
  refine a_reg (o1 (p_as (E rfl)) oz) rfl rfl ?_
  refine a_block ?_
  refine a_loop (fun j : Nat => j ≤ s.length) (fun j => s.length - j) (fun j => ⟨21, [(0, str s), (2, .loc 0 0), (4, i64 j)], [ascP (inS (s.take j))], ob, L⟩) 0 (Nat.zero_le _) ⟨rfl, by simp [ascD, ascP, inS], rfl, fun _ h => h, E rfl, E rfl, E rfl, trivial⟩ fun j hj => ?_
  refine a_seq ?_
  refine a_seq ?_
  refine a_reg (o1 (p_mv (E rfl)) (o1 (p_mv (E rfl)) (o1 (p_lens Tryz.underlying9 (E rfl)) (o1 (p_lss (E rfl) (E rfl)) oz)))) rfl rfl ?_
  refine a_cond (E rfl) (fun h => ?_) (fun h => ?_)
  · have hlt : j < s.length := by simpa using h
    obtain ⟨x, hx⟩ : ∃ x, s[j]? = some x := ⟨s[j], List.getElem?_eq_getElem hlt⟩
    have hx128 := hs x (List.mem_of_getElem? hx)
    have hbt := bt_get hx
    refine a_skip ?_
    refine a_seq ?_
    refine a_block ?_
    refine a_seq ?_
    refine a_reg (o1 (p_mv (E rfl)) (o1 (p_mv (E rfl)) (o1 (p_idx Tryz.underlying9 (E rfl) (E rfl) (by first | omega | (simp only [beq_iff_eq, decide_eq_true_eq, decide_eq_false_iff_not, Bool.and_eq_true, Bool.and_eq_false_iff, Bool.or_eq_true, Bool.or_eq_false_iff, Bool.not_eq_true', Bool.not_eq_false', bs_length] at *; omega) | (simp at * <;> omega))) (o1 (p_as (E rfl)) oz)))) rfl rfl ?_
    refine a_seq ?_
    refine a_seq ?_
    refine a_reg (o1 (p_mv (E rfl)) (o1 (p_geq (E rfl) (E rfl)) oz)) rfl rfl ?_
    refine a_cond (E rfl) (fun h => ?_) (fun h => ?_)
    · exfalso; simp at h; omega
    · refine a_skip ?_
      refine a_regl ?_
      refine l_o (p_mv (E rfl)) rfl ?_
      refine l_o (p_ial Tryz.underlying192 ty_sz_4 (E rfl) (E rfl) (by omega)) rfl ?_
      refine l_e (e_st ty_sz_4 rfl rfl (E rfl) rfl rfl (Nat.ble_eq_true_of_le (by rw [ascP_length]; omega)) ?_ (ascP_mpo _))
      refine l_nil ?_
      refine a_reg (o1 (p_mv (E rfl)) (o1 (p_addf (E rfl) (E rfl) (fun _ _ => (by first | omega | (simp only [beq_iff_eq, decide_eq_true_eq, decide_eq_false_iff_not, Bool.and_eq_true, Bool.and_eq_false_iff, Bool.or_eq_true, Bool.or_eq_false_iff, Bool.not_eq_true', Bool.not_eq_false', bs_length] at *; omega) | (simp at * <;> omega)))) (o1 (p_as (E rfl)) oz))) rfl rfl ?_
      refine ⟨j + 1, hlt, by omega, rfl, ?_, rfl, fun _ h => h, E rfl, E rfl, E rfl, trivial⟩
      show [ascP (inS (s.take (j + 1)))] = [putC (ascP (inS (s.take j))) (0 + (bt s j).toNat * 1) (bool true)]
      rw [hbt, Int.toNat_natCast, ascP_put _ (by omega)]
      congr 2; funext i; exact inS_take hx i
  · have hjl : j = s.length := by simp at h; omega
    subst hjl
    refine a_exit ?_
    refine a_seq ?_
    refine a_regl ?_
    refine l_o (p_ldasc ty_ag_192 (E rfl) rfl) rfl ?_
    refine l_e (e_st ty_sz_192 rfl rfl (E rfl) rfl (by simp [PV.cellsP, ascD_length]) (Nat.ble_eq_true_of_le (by rw [ascP_length]; exact Nat.le_refl _)) ?_ (ascP_mpo _))
    refine l_o (p_as (E rfl)) rfl ?_
    refine l_nil ?_
    refine a_cut ⟨21, [(2, .loc 0 0), (3, bool true)], [ascP (inS s)], ob, L⟩ ⟨rfl, by show _ = [putC _ _ _]; rw [ascP_all, List.take_length], rfl, fun _ h => h, E rfl, E rfl, trivial⟩ ?_
    refine a_ret ?_
    refine ⟨_, resA_agg1 rfl ty_ag_192 rfl rfl (by rw [ascP_length]; rfl) (List.all_eq_true.2 fun p hp => by
      have hp := List.mem_of_mem_take hp
      simp only [ascP, List.mem_map] at hp
      obtain ⟨i, _, rfl⟩ := hp
      rfl) (E rfl) (ascP_mpo _), rfl, ?_, rfl, fun _ h => h⟩
    rw [List.take_of_length_le (by rw [ascP_length]; exact Nat.le_refl _), ascP_toD]

theorem c_strings_asciiSet_contains (f : Nat → Bool) (c : Int) (hc : 0 ≤ c ∧ c ≤ 255) : FnR Tryz.prog 194 (fun o => [.ptr o 0, u8 c]) (ascP f) (bool (f c.toNat)) := by
  intro ob L o hob
  refine a_fn Tryz.func194 rfl (by decide) (Nat.le_of_ble_eq_true rfl) ?_
  show AWP _ _ ⟨10, [(0, .ptr o 0), (1, u8 c)], [], ob, L⟩ _
  refine a_seq ?_
  refine a_reg (o1 (p_as (E rfl)) oz) rfl rfl ?_
  refine a_seq ?_
  refine a_reg (o1 (p_mv (E rfl)) (o1 (p_mv (E rfl)) (o1 (p_nck (E rfl) rfl) (o1 (p_iap Tryz.underlying192 ty_sz_4 (E rfl) (E rfl) (by omega)) (o1 (p_ldp ty_na_4 (E rfl) hob (by rw [show 0 + c.toNat * 1 = c.toNat by omega]; exact ascP_get f (by omega)) (ascP_mpo f)) (o1 (p_as (E rfl)) oz)))))) rfl rfl ?_
  refine a_ret ?_
  refine ⟨_, resA_one rfl (E rfl), rfl, ?_, rfl, fun _ h => h⟩
  rfl

theorem c_strings_trimLeftASCII (s : List UInt8) (f : Nat → Bool) : FnR Tryz.prog 143 (fun o => [str s, .ptr o 0]) (ascP f) (str (trimLA f s)) := by
  intro ob L o hob
  refine a_fn Tryz.func143 rfl (by decide) (Nat.le_of_ble_eq_true rfl) ?_
  show AWP _ _ ⟨16, [(0, str s), (1, .ptr o 0)], [], ob, L⟩ _
  refine a_fstr (t := 0) (E rfl) fun hA0 => ?_
  refine a_seq ?_
  refine a_reg (o1 (p_as (E rfl)) oz) rfl rfl ?_
  refine a_seq ?_
  refine a_block ?_
  refine a_loop (fun p : List UInt8 => trimLA f p = trimLA f s) (fun p => p.length) (fun p => ⟨16, [(0, str p), (1, .ptr o 0)], [], ob, L⟩) s rfl ⟨rfl, rfl, rfl, fun _ h => h, E rfl, E rfl, trivial⟩ fun p hp => ?_
  refine a_seq ?_
  refine a_seq ?_
  refine a_reg (o1 (p_mv (E rfl)) (o1 (p_lens Tryz.underlying9 (E rfl)) (o1 (p_gtr (E rfl) (E rfl)) oz))) rfl rfl ?_
  refine a_cond (E rfl) (fun h => ?_) (fun h => ?_)
  · obtain ⟨x, xs, rfl⟩ : ∃ x xs, p = x :: xs := by
      cases p with
      | nil => simp at h
      | cons x xs => exact ⟨x, xs, rfl⟩
    rw [trimLA_cons] at hp
    have hb0 : bt (x :: xs) 0 = x.toNat := by simp [bt]
    have hb1 := x.toNat_lt
    refine a_skip ?_
    refine a_block ?_
    refine a_seq ?_
    refine a_seq ?_
    refine a_reg (o1 (p_mv (E rfl)) (o1 (p_mv (E rfl)) (o1 (p_idx Tryz.underlying9 (E rfl) (E rfl) (by first | omega | (simp only [beq_iff_eq, decide_eq_true_eq, decide_eq_false_iff_not, Bool.and_eq_true, Bool.and_eq_false_iff, Bool.or_eq_true, Bool.or_eq_false_iff, Bool.not_eq_true', Bool.not_eq_false', bs_length] at *; omega) | (simp at * <;> omega))) (o1 (p_callp (c_strings_asciiSet_contains f _ (by rw [hb0]; omega)) (.cons (E rfl) (.cons (E rfl) .nil)) rfl hob rfl rfl) (o1 (p_not (E rfl)) oz))))) rfl rfl ?_
    refine a_cond (E rfl) (fun h => ?_) (fun h => ?_)
    · have hf : f x.toNat = false := by simpa [hb0] using h
      rw [hf] at hp
      refine a_exit ?_
      refine a_seq ?_
      refine a_reg (o1 (p_mv (E rfl)) (o1 (p_as (E rfl)) oz)) rfl rfl ?_
      refine a_ret ?_
      refine ⟨_, resA_one rfl (E rfl), rfl, ?_, rfl, fun _ h => h⟩
      first | (rw [← hp]; rfl) | (simp at hp; rw [← hp])
    · have hf : f x.toNat = true := by simpa [hb0] using h
      rw [hf, if_pos rfl] at hp
      refine a_skip ?_
      refine a_reg (o1 (p_mv (E rfl)) (o1 (p_ss_l Tryz.underlying9 (E rfl) (E rfl) (by first | omega | (simp only [beq_iff_eq, decide_eq_true_eq, decide_eq_false_iff_not, Bool.and_eq_true, Bool.and_eq_false_iff, Bool.or_eq_true, Bool.or_eq_false_iff, Bool.not_eq_true', Bool.not_eq_false', bs_length] at *; omega) | (simp at * <;> omega))) (o1 (p_as (E rfl)) oz))) rfl rfl ?_
      exact ⟨xs, hp, by simp, rfl, rfl, rfl, fun _ h => h, Eq_ rfl (by simp), E rfl, trivial⟩
  · obtain rfl : p = [] := by cases p with | nil => rfl | cons x xs => simp at h <;> omega
    refine a_exit ?_
    refine a_seq ?_
    refine a_reg (o1 (p_mv (E rfl)) (o1 (p_as (E rfl)) oz)) rfl rfl ?_
    refine a_ret ?_
    refine ⟨_, resA_one rfl (E rfl), rfl, ?_, rfl, fun _ h => h⟩
    first | (rw [← hp]; rfl) | (simp at hp; rw [← hp])

theorem c_strings_trimRightASCII (s : List UInt8) (f : Nat → Bool) : FnR Tryz.prog 144 (fun o => [str s, .ptr o 0]) (ascP f) (str (trimRA f s)) := by
  intro ob L o hob
  refine a_fn Tryz.func144 rfl (by decide) (Nat.le_of_ble_eq_true rfl) ?_
  show AWP _ _ ⟨22, [(0, str s), (1, .ptr o 0)], [], ob, L⟩ _
  refine a_fstr (t := 0) (E rfl) fun hA0 => ?_
  refine a_seq ?_
  refine a_reg (o1 (p_as (E rfl)) oz) rfl rfl ?_
  refine a_seq ?_
  refine a_block ?_
  refine a_loop (fun p : List UInt8 => trimRA f p = trimRA f s ∧ p.length ≤ s.length) (fun p => p.length) (fun p => ⟨22, [(0, str p), (1, .ptr o 0)], [], ob, L⟩) s ⟨rfl, Nat.le_refl _⟩ ⟨rfl, rfl, rfl, fun _ h => h, E rfl, E rfl, trivial⟩ fun p hp => ?_
  obtain ⟨hp, hpl⟩ := hp
  refine a_seq ?_
  refine a_seq ?_
  refine a_reg (o1 (p_mv (E rfl)) (o1 (p_lens Tryz.underlying9 (E rfl)) (o1 (p_gtr (E rfl) (E rfl)) oz))) rfl rfl ?_
  refine a_cond (E rfl) (fun h => ?_) (fun h => ?_)
  · obtain ⟨xs, x, rfl⟩ : ∃ xs x, p = xs ++ [x] := snoc_of p (by simp at h; omega)
    rw [trimRA, List.reverse_append, List.reverse_singleton, List.singleton_append, trimLA_cons] at hp
    have hb0 : bt (xs ++ [x]) (((xs ++ [x]).length : Int) - 1) = x.toNat := bt_last xs x
    have hb1 := x.toNat_lt
    have hb2 : bt (xs ++ [x]) (xs.length : Int) = x.toNat := by simp [bt]
    refine a_skip ?_
    refine a_block ?_
    refine a_seq ?_
    refine a_seq ?_
    refine a_reg (o1 (p_mv (E rfl)) (o1 (p_mv (E rfl)) (o1 (p_mv (E rfl)) (o1 (p_lens Tryz.underlying9 (E rfl)) (o1 (p_subf (E rfl) (E rfl) (fun _ _ => (by first | omega | (simp only [beq_iff_eq, decide_eq_true_eq, decide_eq_false_iff_not, Bool.and_eq_true, Bool.and_eq_false_iff, Bool.or_eq_true, Bool.or_eq_false_iff, Bool.not_eq_true', Bool.not_eq_false', bs_length] at *; omega) | (simp at * <;> omega)))) (o1 (p_idx Tryz.underlying9 (E rfl) (E rfl) (by first | omega | (simp only [beq_iff_eq, decide_eq_true_eq, decide_eq_false_iff_not, Bool.and_eq_true, Bool.and_eq_false_iff, Bool.or_eq_true, Bool.or_eq_false_iff, Bool.not_eq_true', Bool.not_eq_false', bs_length] at *; omega) | (simp at * <;> omega))) (o1 (p_callp (c_strings_asciiSet_contains f _ (by rw [hb0]; omega)) (.cons (E rfl) (.cons (E rfl) .nil)) rfl hob rfl rfl) (o1 (p_not (E rfl)) oz)))))))) rfl rfl ?_
    refine a_cond (E rfl) (fun h => ?_) (fun h => ?_)
    · have hf : f x.toNat = false := by simpa [hb0, hb2] using h
      rw [hf] at hp
      refine a_exit ?_
      refine a_seq ?_
      refine a_reg (o1 (p_mv (E rfl)) (o1 (p_as (E rfl)) oz)) rfl rfl ?_
      refine a_ret ?_
      refine ⟨_, resA_one rfl (E rfl), rfl, ?_, rfl, fun _ h => h⟩
      first | (rw [← hp]; rfl) | (simp at hp; rw [← hp]) | (simp at hp; rw [← hp]; simp)
    · have hf : f x.toNat = true := by simpa [hb0, hb2] using h
      rw [hf, if_pos rfl] at hp
      refine a_skip ?_
      refine a_reg (o1 (p_mv (E rfl)) (o1 (p_mv (E rfl)) (o1 (p_lens Tryz.underlying9 (E rfl)) (o1 (p_subf (E rfl) (E rfl) (fun _ _ => (by first | omega | (simp only [beq_iff_eq, decide_eq_true_eq, decide_eq_false_iff_not, Bool.and_eq_true, Bool.and_eq_false_iff, Bool.or_eq_true, Bool.or_eq_false_iff, Bool.not_eq_true', Bool.not_eq_false', bs_length] at *; omega) | (simp at * <;> omega)))) (o1 (p_ss_h Tryz.underlying9 (E rfl) (E rfl) (by first | omega | (simp only [beq_iff_eq, decide_eq_true_eq, decide_eq_false_iff_not, Bool.and_eq_true, Bool.and_eq_false_iff, Bool.or_eq_true, Bool.or_eq_false_iff, Bool.not_eq_true', Bool.not_eq_false', bs_length] at *; omega) | (simp at * <;> omega))) (o1 (p_as (E rfl)) oz)))))) rfl rfl ?_
      exact ⟨xs, ⟨hp, by simp at hpl; omega⟩, by simp, rfl, rfl, rfl, fun _ h => h, Eq_ rfl (by simp), E rfl, trivial⟩
  · obtain rfl : p = [] := by cases p with | nil => rfl | cons x xs => simp at h <;> omega
    refine a_exit ?_
    refine a_seq ?_
    refine a_reg (o1 (p_mv (E rfl)) (o1 (p_as (E rfl)) oz)) rfl rfl ?_
    refine a_ret ?_
    refine ⟨_, resA_one rfl (E rfl), rfl, ?_, rfl, fun _ h => h⟩
    first | (rw [← hp]; rfl) | (simp at hp; rw [← hp]) | (simp at hp; rw [← hp]; simp)

theorem c_strings_TrimA (s cut : List UInt8) (hc : ∀ b ∈ cut, b.toNat < 128) (h2 : 2 ≤ cut.length) : Fn Tryz.prog 82 [str s, str cut] (str (trimA cut s)) := by
  intro ob L
  refine a_fn Tryz.func82 rfl (by decide) (Nat.le_of_ble_eq_true rfl) ?_
  show AWP _ _ ⟨43, [(0, str s), (1, str cut)], [], ob, L⟩ _
  refine a_fstr (t := 0) (E rfl) fun hA0 => ?_
  refine a_fstr (t := 1) (E rfl) fun hA1 => ?_
  refine a_seq ?_
  refine a_reg (o1 (p_as (E rfl)) oz) rfl rfl ?_
  refine a_seq ?_
  refine a_seq ?_
  refine a_reg (o1 (p_mv (E rfl)) (o1 (p_eqs (E rfl) (E rfl)) (o1 (p_mv (E rfl)) (g1 rfl rfl (fun h3 => p_mv (E rfl)) (g1 rfl rfl (fun h4 => p_eqs (Eo rfl h4) (E rfl)) (o1 (p_or (E rfl) rfl rfl (fun h => bqf h)) oz)))))) rfl rfl ?_
  refine a_cond (E rfl) (fun h => ?_) (fun h => ?_)
  · refine a_seq ?_
    refine a_reg (o1 (p_mv (E rfl)) (o1 (p_as (E rfl)) oz)) rfl rfl ?_
    refine a_ret ?_
    refine ⟨_, resA_one rfl (E rfl), rfl, ?_, rfl, fun _ h => h⟩
    have hsn : s = [] := by
      cases s with
      | nil => rfl
      | cons a r =>
        cases cut with
        | nil => simp at h2
        | cons => simp at h
    subst hsn; rfl
  · refine a_skip ?_
    refine a_seq ?_
    refine a_seq ?_
    refine a_reg (o1 (p_mv (E rfl)) (o1 (p_lens Tryz.underlying9 (E rfl)) (o1 (p_eq (E rfl) (E rfl)) (o1 (p_mv (E rfl)) (g1 rfl rfl (fun h4 => p_mv (E rfl)) (g1 rfl rfl (fun h5 => p_idx Tryz.underlying9 (Eo rfl h5) (E rfl) (by first | omega | (simp only [beq_iff_eq, decide_eq_true_eq, decide_eq_false_iff_not, Bool.and_eq_true, Bool.and_eq_false_iff, Bool.or_eq_true, Bool.or_eq_false_iff, Bool.not_eq_true', Bool.not_eq_false', bs_length] at *; omega) | (simp at * <;> omega))) (g1 rfl rfl (fun h6 => p_lss (Eo rfl h6) (E rfl)) (o1 (p_and (E rfl) rfl rfl (fun h => bqt h)) oz)))))))) rfl rfl ?_
    refine a_cond (E rfl) (fun h => ?_) (fun h => ?_)
    · exfalso; simp at h; omega
    · refine a_skip ?_
      refine a_seq ?_
      refine a_seq ?_
      refine a_regl ?_
      refine l_o (p_mv (E rfl)) rfl ?_
      refine l_o (p_call (c_strings_makeASCIISet _ hc) (.cons (E rfl) .nil) rfl rfl) rfl ?_
      refine l_o (p_mv (E rfl)) rfl ?_
      refine l_o (p_ext (E rfl) rfl) rfl ?_
      refine l_o (p_ext (E rfl) rfl) rfl ?_
      refine l_e (e_alloc (zs := ascD (fun _ => false)) (by kernel_rfl) rfl ?_)
      refine l_e (e_st ty_sz_192 rfl rfl (E rfl) rfl (by simp [PV.cellsP, ascD_length]) (Nat.ble_eq_true_of_le (by rw [← ascP_eq, ascP_length]; exact Nat.le_refl _)) ?_ (by rw [← ascP_eq]; exact ascP_mpo _))
      refine l_o (p_as (E rfl)) rfl ?_
      refine l_nil ?_
      refine a_cut ⟨43, [(0, str s), (1, str cut), (5, .loc 0 0), (6, bool true)], [ascP (inS cut)], ob, L⟩ ⟨rfl, by show _ = [putC _ _ _]; rw [← ascP_eq, ascP_all], rfl, fun _ h => h, E rfl, E rfl, E rfl, E rfl, trivial⟩ ?_
      refine a_seq ?_
      refine a_reg (o1 (p_mv (E rfl)) oz) rfl rfl ?_
      refine a_cond (E rfl) (fun h => ?_) (fun h => ?_)
      · refine a_seq ?_
        refine a_reg (o1 (p_mv (E rfl)) (o1 (p_callr (c_strings_trimRightASCII _ (inS cut)) (.cons (E rfl) (.cons (E rfl) .nil)) rfl rfl rfl rfl) (o1 (p_callr (c_strings_trimLeftASCII _ (inS cut)) (.cons (E rfl) (.cons (E rfl) .nil)) rfl rfl rfl rfl) (o1 (p_as (E rfl)) oz)))) rfl rfl ?_
        refine a_ret ?_
        refine ⟨_, resA_one rfl (E rfl), rfl, ?_, rfl, fun _ h => h⟩
        rfl
      · cases h


end Go.Proofs.YtcemejmegbefgaaGreatDoor.Em

set_option maxRecDepth 100000
set_option linter.unusedVariables false
set_option linter.unusedSimpArgs false
namespace Go.Proofs.YtcemejmegbefgaaGreatDoor.Em
open Go.Proofs

/-! The first byte of a set. -/
def idxO (f : Nat → Bool) : List UInt8 → Int → Int
  | [], _ => -1
  | x :: xs, k => if f x.toNat then k else idxO f xs (k + 1)
theorem idxO_ge (f : Nat → Bool) : ∀ (s : List UInt8) (k : Int), 0 ≤ k → (idxO f s k ≥ 0 ↔ s.any (fun b => f b.toNat) = true)
  | [], k, h => by simp [idxO]
  | x :: xs, k, h => by
    simp only [idxO, List.any_cons, Bool.or_eq_true]
    split
    · rename_i hx; simp [hx, h]
    · rename_i hx; simp [hx]; have := idxO_ge f xs (k + 1) (by omega); simpa using this
theorem idxO_bd (f : Nat → Bool) : ∀ (s : List UInt8) (k : Int), 0 ≤ k → idxO f s k = -1 ∨ (k ≤ idxO f s k ∧ idxO f s k < k + s.length)
  | [], k, h => by simp [idxO]
  | x :: xs, k, h => by
    simp only [idxO, List.length_cons]
    split
    · right; omega
    · have := idxO_bd f xs (k + 1) (by omega)
      rcases this with h1 | h1
      · left; exact h1
      · right; omega
theorem drop_cons' {s : List UInt8} {p : Nat} {x : UInt8} (h : s[p]? = some x) : s.drop p = x :: s.drop (p + 1) := by
  have hp := (List.getElem?_eq_some_iff.1 h).1
  have := (List.getElem?_eq_some_iff.1 h).2
  rw [List.drop_eq_getElem_cons hp, this]
theorem idxO_skip (f : Nat → Bool) (s : List UInt8) : ∀ (w p : Nat), p + w ≤ s.length → (∀ i, p ≤ i → i < p + w → ∀ x, s[i]? = some x → f x.toNat = false) → idxO f (s.drop p) p = idxO f (s.drop (p + w)) ((p + w : Nat) : Int)
  | 0, p, _, _ => by simp
  | w + 1, p, hl, h => by
    obtain ⟨x, hx⟩ : ∃ x, s[p]? = some x := ⟨s[p]'(by omega), List.getElem?_eq_getElem (by omega)⟩
    have h0 := h p (Nat.le_refl _) (by omega) x hx
    rw [drop_cons' hx, idxO, h0, if_neg (by simp)]
    have ih := idxO_skip f s w (p + 1) (by omega) (fun i h1 h2 => h i (by omega) (by omega))
    rw [show ((p : Int) + 1) = ((p + 1 : Nat) : Int) by simp, ih, show p + 1 + w = p + (w + 1) by omega]
/-! Characters. -/
theorem ba_get (s : List UInt8) (p : Nat) (x : UInt8) (h : s[p]? = some x) : (⟨s.toArray⟩ : ByteArray).get! p = x := by
  have hp := (List.getElem?_eq_some_iff.1 h).1
  have hx := (List.getElem?_eq_some_iff.1 h).2
  show (s.toArray)[p]! = x
  rw [getElem!_pos s.toArray p (by simpa using hp)]
  simpa using hx
theorem dec_ascii {s : List UInt8} {p : Nat} {x : UInt8} (h : s[p]? = some x) (hx : x.toNat < 128) : decR s p = x.toNat ∧ decW s p = 1 := by
  have h1 := ba_get s p x h
  unfold decR decW Utf8.decode
  simp [h1, hx]
theorem dec_high {s : List UInt8} {p : Nat} {x : UInt8} (h : s[p]? = some x) (hx : ¬ x.toNat < 128) : 128 ≤ decR s p ∧ 1 ≤ decW s p := by
  have hp := (List.getElem?_eq_some_iff.1 h).1
  have hv := (List.getElem?_eq_some_iff.1 h).2
  have hps : p < (⟨s.toArray⟩ : ByteArray).size := by rw [mkS_size]; exact hp
  have := Go.decode_high ⟨s.toArray⟩ p hps (by
    show 128 ≤ ((s.toArray)[p]'(by simpa using hp)).toNat
    have : (s.toArray)[p]'(by simpa using hp) = x := by simpa using hv
    rw [this]; omega)
  unfold decR decW
  exact ⟨by omega, this.2⟩
theorem dec_cont (s : List UInt8) (p : Nat) : p < s.length → p + decW s p ≤ s.length ∧ ∀ i, p < i → i < p + decW s p → ∀ x, s[i]? = some x → 128 ≤ x.toNat := by
  intro hp
  have hsz : (⟨s.toArray⟩ : ByteArray).size = s.length := mkS_size s
  have hget : ∀ i x, s[i]? = some x → ((⟨s.toArray⟩ : ByteArray).get! i).toNat = x.toNat := fun i x h => by rw [ba_get s i x h]
  unfold decW Utf8.decode
  simp only [hsz]
  generalize (⟨s.toArray⟩ : ByteArray).get! = gg at hget ⊢
  repeat' split
  all_goals simp only [Bool.and_eq_true, decide_eq_true_eq, beq_iff_eq] at *
  all_goals refine ⟨by omega, fun i h1 h2 x hx => ?_⟩
  all_goals have hgi := hget i x hx
  all_goals clear hget hx hsz
  all_goals have hcase : i = p + 1 ∨ i = p + 2 ∨ i = p + 3 ∨ p + 4 ≤ i := by omega
  all_goals rcases hcase with rfl | rfl | rfl | h9 <;> omega
def encR (r : Int) : List UInt8 := (Utf8.encode r).data.toList
theorem encR_eq (r : Int) : (⟨(encR r).toArray⟩ : ByteArray) = Utf8.encode r := by simp [encR]
theorem encR_facts (r : Int) (hv : (128 ≤ r ∧ r < 55296) ∨ (57343 < r ∧ r ≤ 1114111)) : 2 ≤ (encR r).length ∧ (encR r).length ≤ 4 ∧ 128 ≤ bt (encR r) ((encR r).length - 1) := by
  have hval : Utf8.valid r = true := by
    unfold Utf8.valid
    simp only [Bool.or_eq_true, Bool.and_eq_true, decide_eq_true_eq]
    omega
  obtain ⟨h1, h2, h3⟩ := Go.encode_facts r hval (by omega)
  have hl : (encR r).length = (Utf8.encode r).size := by simp [encR]
  refine ⟨by omega, by omega, ?_⟩
  have h4 := h3 (by omega)
  have h5 : bt (encR r) (((encR r).length : Int) - 1) = ((Utf8.encode r)[(Utf8.encode r).size - 1]'(by omega)).toNat := by
    unfold bt
    rw [show (((encR r).length : Int) - 1).toNat = (Utf8.encode r).size - 1 by omega]
    unfold encR
    rw [Array.getElem?_toList, Array.getElem?_eq_getElem (by simp; omega)]
    rfl
  rw [h5]
  exact_mod_cast h4
section
variable {P : Program} {lo ob : List (List PV)} {L : List Nat} {tm : List (Nat × PV)}
variable {dst : Option Tmp} {ty : TypeId} {pos : String} {aft : Array Edge} {g : Option (Nat × Bool)}
theorem p_i2s {x : Operand} {s d : TypeId} {k : IntKind} {n : Int} (hs : intOf? P s k = true) (hd : P.underlying d = some .string) (hx : Ev tm x (int k n)) :
    POp P lo ob L ⟨dst, .convert s d x, ty, pos, aft, g⟩ tm (str (encR n)) :=
  POp.same fun cx a hi ho => by
    have h1 := rep_v (opr ho (by simp [Op.operands]) hx)
    have hsome : (P.underlying s).isSome = true := by
      unfold intOf? at hs
      cases h : P.underlying s with
      | none => rw [h] at hs; cases hs
      | some d => rfl
    refine ⟨.string (Utf8.encode n), ?_, ?_⟩
    · have := run_convert_int_string (P := P) cx.w s d k n hsome hd
      simp [execOp, h1.1, this]
    · simp only [Rep, RepD, encR_eq, true_and, okv]
      exact Nat.le_trans (Go.encode_size_le n) (by unfold LIM; omega)
end
theorem idxI_none {c : Int} : ∀ {s : List UInt8}, (∀ b ∈ s, (b.toNat : Int) ≠ c) → idxI c s = -1
  | [], _ => rfl
  | x :: xs, h => by
    rw [idxI, if_neg (h x List.mem_cons_self), idxI_none (fun b hb => h b (List.mem_cons_of_mem _ hb))]; rfl
theorem idxI_ge (c : Int) : ∀ s : List UInt8, idxI c s ≥ 0 ↔ ∃ b ∈ s, (b.toNat : Int) = c
  | [] => by simp [idxI]
  | x :: xs => by
    have ih := idxI_ge c xs
    have := idxI_bd c xs
    simp only [idxI, List.mem_cons, exists_eq_or_imp]
    split
    · rename_i h; simp [h]
    · rename_i h
      simp only [h, false_or]
      rw [← ih]
      split <;> omega
theorem inS_high {c : List UInt8} (hc : ∀ b ∈ c, b.toNat < 128) {n : Nat} (h : 128 ≤ n) : inS c n = false := by
  unfold inS
  rw [List.any_eq_false]
  intro b hb
  have := hc b hb
  simp; omega
theorem inS_iff {c : List UInt8} {n : Nat} : inS c n = true ↔ idxI (n : Int) c ≥ 0 := by
  rw [idxI_ge]
  unfold inS
  simp only [List.any_eq_true, beq_iff_eq]
  constructor
  · rintro ⟨b, h1, h2⟩; exact ⟨b, h1, by omega⟩
  · rintro ⟨b, h1, h2⟩; exact ⟨b, h1, by omega⟩
theorem decR_nn (s : List UInt8) (p : Nat) : 0 ≤ decR s p := by unfold decR; omega
/-- What one step through a string finds. -/
theorem idx_step {s c : List UInt8} (hc : ∀ b ∈ c, b.toNat < 128) {p : Nat} {x : UInt8} (hx : s[p]? = some x) :
    ((0 ≤ if 0 ≤ decR s p ∧ decR s p < 128 then idxI (decR s p) c else -1) ↔ inS c x.toNat = true) ∧
    (inS c x.toNat = false → idxO (inS c) (s.drop p) p = idxO (inS c) (s.drop (p + decW s p)) ((p + decW s p : Nat) : Int)) := by
  have hp := (List.getElem?_eq_some_iff.1 hx).1
  obtain ⟨h1, h2⟩ := dec_cont s p hp
  refine ⟨?_, fun hin => idxO_skip _ _ _ _ h1 fun i h3 h4 y hy => ?_⟩
  · by_cases hx8 : x.toNat < 128
    · obtain ⟨h3, h4⟩ := dec_ascii hx hx8
      rw [h3, if_pos (by omega), inS_iff]
    · obtain ⟨h3, h4⟩ := dec_high hx hx8
      rw [if_neg (by omega), inS_high hc (by omega)]
      simp
  · rcases Nat.lt_or_ge p i with h5 | h5
    · exact inS_high hc (h2 i h5 h4 y hy)
    · obtain rfl : i = p := by omega
      rw [hx] at hy; cases hy
      exact hin

theorem c_unicode_utf8_ValidRune (r : Int) : Fn Tryz.prog 134 [int .i32 r] (bool (decide ((0 ≤ r ∧ r < 55296) ∨ (57343 < r ∧ r ≤ 1114111)))) := by
  intro ob L
  refine a_fn Tryz.func134 rfl (by decide) (Nat.le_of_ble_eq_true rfl) ?_
  show AWP _ _ ⟨17, [(0, int .i32 r)], [], ob, L⟩ _
  refine a_seq ?_
  refine a_reg (o1 (p_as (E rfl)) oz) rfl rfl ?_
  refine a_seq ?_
  refine a_block ?_
  refine a_seq ?_
  refine a_reg (o1 (p_mv (E rfl)) (o1 (p_leq (E rfl) (E rfl)) (o1 (p_mv (E rfl)) (g1 rfl rfl (fun h3 => p_mv (E rfl)) (g1 rfl rfl (fun h4 => p_lss (Eo rfl h4) (E rfl)) (o1 (p_and (E rfl) rfl rfl (fun h => bqt h)) (o1 (p_as (E rfl)) oz))))))) rfl rfl ?_
  refine a_cond (E rfl) (fun h => ?_) (fun h => ?_)
  · refine a_seq ?_
    refine a_reg (o1 (p_as (E rfl)) oz) rfl rfl ?_
    refine a_ret ?_
    refine ⟨_, resA_one rfl (E rfl), rfl, ?_, rfl, fun _ h => h⟩
    refine congrArg bool ?_
    first | (simp at *; omega) | (simp at *; refine ⟨fun a => ?_, fun a => ?_⟩ <;> omega)
  · refine a_seq ?_
    refine a_reg (o1 (p_mv (E rfl)) (o1 (p_lss (E rfl) (E rfl)) (o1 (p_mv (E rfl)) (g1 rfl rfl (fun h3 => p_mv (E rfl)) (g1 rfl rfl (fun h4 => p_leq (Eo rfl h4) (E rfl)) (o1 (p_and (E rfl) rfl rfl (fun h => bqt h)) (o1 (p_as (E rfl)) oz))))))) rfl rfl ?_
    refine a_cond (E rfl) (fun h => ?_) (fun h => ?_)
    · refine a_seq ?_
      refine a_reg (o1 (p_as (E rfl)) oz) rfl rfl ?_
      refine a_ret ?_
      refine ⟨_, resA_one rfl (E rfl), rfl, ?_, rfl, fun _ h => h⟩
      refine congrArg bool ?_
      first | (simp at *; omega) | (simp at *; refine ⟨fun a => ?_, fun a => ?_⟩ <;> omega)
    · refine a_skip ?_
      refine a_seq ?_
      refine a_reg (o1 (p_as (E rfl)) oz) rfl rfl ?_
      refine a_ret ?_
      refine ⟨_, resA_one rfl (E rfl), rfl, ?_, rfl, fun _ h => h⟩
      refine congrArg bool ?_
      first | (simp at *; omega) | (simp at *; refine ⟨fun a => ?_, fun a => ?_⟩ <;> omega)

theorem c_strings_IndexRune_hi (s : List UInt8) (hs : ∀ b ∈ s, b.toNat < 128) (r : Int) (hr : 128 ≤ r) : Fn Tryz.prog 80 [str s, int .i32 r] (i64 (-1)) := by
  intro ob L
  refine a_fn Tryz.func80 rfl (by decide) (Nat.le_of_ble_eq_true rfl) ?_
  show AWP _ _ ⟨187, [(0, str s), (1, int .i32 r)], [], ob, L⟩ _
  refine a_fstr (t := 0) (E rfl) fun hA0 => ?_
  refine a_seq ?_
  refine a_reg (o1 (p_as (E rfl)) oz) rfl rfl ?_
  refine a_block ?_
  refine a_seq ?_
  refine a_reg (o1 (p_mv (E rfl)) (o1 (p_leq (E rfl) (E rfl)) (o1 (p_mv (E rfl)) (g1 rfl rfl (fun h3 => p_mv (E rfl)) (g1 rfl rfl (fun h4 => p_lss (Eo rfl h4) (E rfl)) (o1 (p_and (E rfl) rfl rfl (fun h => bqt h)) (o1 (p_as (E rfl)) oz))))))) rfl rfl ?_
  refine a_cond (E rfl) (fun h => ?_) (fun h => ?_)
  · exfalso; simp at h; omega
  · refine a_seq ?_
    refine a_reg (o1 (p_mv (E rfl)) (o1 (p_eq (E rfl) (E rfl)) (o1 (p_as (E rfl)) oz))) rfl rfl ?_
    refine a_cond (E rfl) (fun h => ?_) (fun h => ?_)
    · refine a_seq ?_
      refine a_seq ?_
      refine a_regl ?_
      refine l_o (p_mv (E rfl)) rfl ?_
      refine l_e (e_rng Tryz.underlying9 (E rfl) rfl ?_)
      refine l_nil ?_
      refine a_block ?_
      refine a_loop (fun p : Nat => p ≤ s.length) (fun p => s.length - p) (fun p => ⟨187, [(175, .loc 0 0)], [[.sic s p]], ob, L⟩) 0 (Nat.zero_le _) ⟨rfl, rfl, rfl, fun _ h => h, E rfl, trivial⟩ fun p hp => ?_
      refine a_seq ?_
      refine a_regl ?_
      refine l_e (e_nxt (E rfl) rfl (by unfold LIM; omega) rfl ?_)
      refine l_o (p_nx0 (E rfl)) rfl ?_
      refine l_nil ?_
      refine a_seq ?_
      refine a_cond (E rfl) (fun h => ?_) (fun h => ?_)
      · have hlt : p < s.length := by simpa using h
        obtain ⟨x, hx⟩ : ∃ x, s[p]? = some x := ⟨s[p], List.getElem?_eq_getElem hlt⟩
        have hxa := hs x (List.mem_of_getElem? hx)
        obtain ⟨hd1, hd2⟩ := dec_ascii hx hxa
        refine a_skip ?_
        refine a_block ?_
        refine a_seq ?_
        refine a_reg (o1 (p_nx1 (E rfl) (by assumption)) (o1 (p_nx2 (E rfl) (by assumption)) (o1 (p_as (E rfl)) (o1 (p_as (E rfl)) oz)))) rfl rfl ?_
        refine a_seq ?_
        refine a_reg (o1 (p_mv (E rfl)) (o1 (p_eq (E rfl) (E rfl)) oz)) rfl rfl ?_
        refine a_cond (E rfl) (fun h => ?_) (fun h => ?_)
        · exfalso; rw [hd1] at h; simp at h; omega
        · refine a_skip ?_
          exact ⟨p + 1, hlt, by omega, rfl, by show [_] = [[_]]; rw [if_pos hlt, hd2], rfl, fun _ h => h, E rfl, trivial⟩
      · refine a_exit ?_
        refine a_seq ?_
        refine a_reg (o1 (p_as (E rfl)) oz) rfl rfl ?_
        refine a_ret ?_
        refine ⟨_, resA_one rfl (E rfl), rfl, ?_, rfl, fun _ h => h⟩
        rfl
    · have h65 := h
      refine a_seq ?_
      refine a_reg (o1 (p_mv (E rfl)) (o1 (p_call (c_unicode_utf8_ValidRune _) (.cons (E rfl) .nil) rfl rfl) (o1 (p_not (E rfl)) (o1 (p_as (E rfl)) oz)))) rfl rfl ?_
      refine a_cond (E rfl) (fun h => ?_) (fun h => ?_)
      · refine a_seq ?_
        refine a_reg (o1 (p_as (E rfl)) oz) rfl rfl ?_
        refine a_ret ?_
        refine ⟨_, resA_one rfl (E rfl), rfl, ?_, rfl, fun _ h => h⟩
        rfl
      · have hval : (128 ≤ r ∧ r < 55296) ∨ (57343 < r ∧ r ≤ 1114111) := by simp at h; omega
        obtain ⟨he1, he2, he3⟩ := encR_facts r hval
        refine a_scope ?_
        refine a_seq ?_
        refine a_reg (o1 (p_mv (E rfl)) (o1 (p_i2s (ty_iu_21) Tryz.underlying9 (E rfl)) (o1 (p_as (E rfl)) oz))) rfl rfl ?_
        refine a_seq ?_
        refine a_reg (o1 (p_mv (E rfl)) (o1 (p_lens Tryz.underlying9 (E rfl)) (o1 (p_subf (E rfl) (E rfl) (fun _ _ => (by first | omega | (simp only [beq_iff_eq, decide_eq_true_eq, decide_eq_false_iff_not, Bool.and_eq_true, Bool.and_eq_false_iff, Bool.or_eq_true, Bool.or_eq_false_iff, Bool.not_eq_true', Bool.not_eq_false', bs_length] at *; omega) | (simp at * <;> omega)))) (o1 (p_as (E rfl)) oz)))) rfl rfl ?_
        refine a_seq ?_
        refine a_reg (o1 (p_mv (E rfl)) (o1 (p_as (E rfl)) oz)) rfl rfl ?_
        refine a_seq ?_
        refine a_reg (o1 (p_as (E rfl)) oz) rfl rfl ?_
        refine a_seq ?_
        refine a_block ?_
        refine a_loop (fun i : Unit => True) (fun _ => 0) (fun _ => ⟨187, [(0, str s), (1, int .i32 r), (7, str (encR r)), (8, i64 ((encR r).length - 1)), (9, i64 ((encR r).length - 1)), (10, i64 0)], [], ob, L⟩) () trivial ⟨rfl, rfl, rfl, fun _ h => h, E rfl, E rfl, E rfl, E rfl, E rfl, E rfl, trivial⟩ fun _ _ => ?_
        refine a_seq ?_
        refine a_seq ?_
        refine a_reg (o1 (p_mv (E rfl)) (o1 (p_mv (E rfl)) (o1 (p_lens Tryz.underlying9 (E rfl)) (o1 (p_lss (E rfl) (E rfl)) oz)))) rfl rfl ?_
        refine a_cond (E rfl) (fun h => ?_) (fun h => ?_)
        · have hlt : ((encR r).length : Int) - 1 < s.length := by simpa using h
          have hbs : ∀ j : Int, bt s j < 128 := by
            intro j
            unfold bt
            cases hj : s[j.toNat]? with
            | none => simp
            | some x => have := hs x (List.mem_of_getElem? hj); simp; omega
          have hidx : idxI (bt (encR r) ((encR r).length - 1)) (s.drop (((encR r).length : Int) - 1 + 1).toNat) = -1 := idxI_none fun b hb => by
            have := hs b (List.mem_of_mem_drop hb); omega
          refine a_skip ?_
          refine a_block ?_
          refine a_scope ?_
          refine a_seq ?_
          refine a_seq ?_
          refine a_regd mix (o1 (p_mv (E rfl)) (o1 (p_mv (E rfl)) (o1 (p_idx Tryz.underlying9 (E rfl) (E rfl) (by first | omega | (simp only [beq_iff_eq, decide_eq_true_eq, decide_eq_false_iff_not, Bool.and_eq_true, Bool.and_eq_false_iff, Bool.or_eq_true, Bool.or_eq_false_iff, Bool.not_eq_true', Bool.not_eq_false', bs_length] at *; omega) | (simp at * <;> omega))) (o1 (p_mv (E rfl)) (o1 (p_mv (E rfl)) (o1 (p_idx Tryz.underlying9 (E rfl) (E rfl) (by first | omega | (simp only [beq_iff_eq, decide_eq_true_eq, decide_eq_false_iff_not, Bool.and_eq_true, Bool.and_eq_false_iff, Bool.or_eq_true, Bool.or_eq_false_iff, Bool.not_eq_true', Bool.not_eq_false', bs_length] at *; omega) | (simp at * <;> omega))) (o1 (p_ne (E rfl) (E rfl)) oz))))))) rfl rfl (by kernel_rfl) ?_
          refine a_cond (E rfl) (fun h => ?_) (fun h => ?_)
          · refine a_seq ?_
            refine a_regd mix (o1 (p_mv (E rfl)) (o1 (p_mv (E rfl)) (o1 (p_addf (E rfl) (E rfl) (fun _ _ => (by first | omega | (simp only [beq_iff_eq, decide_eq_true_eq, decide_eq_false_iff_not, Bool.and_eq_true, Bool.and_eq_false_iff, Bool.or_eq_true, Bool.or_eq_false_iff, Bool.not_eq_true', Bool.not_eq_false', bs_length] at *; omega) | (simp at * <;> omega)))) (o1 (p_ss_l Tryz.underlying9 (E rfl) (E rfl) (by first | omega | (simp only [beq_iff_eq, decide_eq_true_eq, decide_eq_false_iff_not, Bool.and_eq_true, Bool.and_eq_false_iff, Bool.or_eq_true, Bool.or_eq_false_iff, Bool.not_eq_true', Bool.not_eq_false', bs_length] at *; omega) | (simp at * <;> omega))) (o1 (p_mv (E rfl)) (o1 (p_mv (E rfl)) (o1 (p_idx Tryz.underlying9 (E rfl) (E rfl) (by first | omega | (simp only [beq_iff_eq, decide_eq_true_eq, decide_eq_false_iff_not, Bool.and_eq_true, Bool.and_eq_false_iff, Bool.or_eq_true, Bool.or_eq_false_iff, Bool.not_eq_true', Bool.not_eq_false', bs_length] at *; omega) | (simp at * <;> omega))) (o1 (p_call (c_strings_IndexByte _ _) (.cons (E rfl) (.cons (E rfl) .nil)) rfl rfl) (o1 (p_as (E rfl)) oz))))))))) rfl rfl (by kernel_rfl) ?_
            refine a_seq ?_
            refine a_seq ?_
            refine a_reg (o1 (p_mv (E rfl)) (o1 (p_lss (E rfl) (E rfl)) oz)) rfl rfl ?_
            refine a_cond (E rfl) (fun h => ?_) (fun h => ?_)
            · refine a_seq ?_
              refine a_reg (o1 (p_as (E rfl)) oz) rfl rfl ?_
              refine a_ret ?_
              refine ⟨_, resA_one rfl (E rfl), rfl, ?_, rfl, fun _ h => h⟩
              rfl
            · exfalso; rw [hidx] at h; simp at h
          · exfalso; have := hbs (((encR r).length : Int) - 1); simp at h; omega
        · refine a_exit ?_
          refine a_seq ?_
          refine a_seq ?_
          refine a_reg (o1 (p_as (E rfl)) oz) rfl rfl ?_
          refine a_ret ?_
          refine ⟨_, resA_one rfl (E rfl), rfl, ?_, rfl, fun _ h => h⟩
          rfl

theorem c_strings_shouldUseASCIISet (n : Int) : Fn Tryz.prog 193 [i64 n] (bool (decide (n > 8))) := by
  intro ob L
  refine a_fn Tryz.func193 rfl (by decide) (Nat.le_of_ble_eq_true rfl) ?_
  show AWP _ _ ⟨5, [(0, i64 n)], [], ob, L⟩ _
  refine a_fint (t := 0) (E rfl) fun hA0 => ?_
  refine a_seq ?_
  refine a_reg (o1 (p_as (E rfl)) oz) rfl rfl ?_
  refine a_seq ?_
  refine a_reg (o1 (p_mv (E rfl)) (o1 (p_gtr (E rfl) (E rfl)) (o1 (p_as (E rfl)) oz))) rfl rfl ?_
  refine a_ret ?_
  refine ⟨_, resA_one rfl (E rfl), rfl, ?_, rfl, fun _ h => h⟩
  rfl

theorem c_strings_IndexAny (s c : List UInt8) (hc : ∀ b ∈ c, b.toNat < 128) (h2 : 2 ≤ c.length) : Fn Tryz.prog 124 [str s, str c] (i64 (idxO (inS c) s 0)) := by
  intro ob L
  refine a_fn Tryz.func124 rfl (by decide) (Nat.le_of_ble_eq_true rfl) ?_
  show AWP _ _ ⟨55, [(0, str s), (1, str c)], [], ob, L⟩ _
  refine a_fstr (t := 0) (E rfl) fun hA0 => ?_
  refine a_fstr (t := 1) (E rfl) fun hA1 => ?_
  refine a_seq ?_
  refine a_reg (o1 (p_as (E rfl)) oz) rfl rfl ?_
  refine a_seq ?_
  refine a_seq ?_
  refine a_reg (o1 (p_mv (E rfl)) (o1 (p_eqs (E rfl) (E rfl)) oz)) rfl rfl ?_
  refine a_cond (E rfl) (fun h => ?_) (fun h => ?_)
  · exfalso; cases c with | nil => simp at h2 | cons a r => simp at h
  · refine a_skip ?_
    refine a_seq ?_
    refine a_seq ?_
    refine a_reg (o1 (p_mv (E rfl)) (o1 (p_lens Tryz.underlying9 (E rfl)) (o1 (p_eq (E rfl) (E rfl)) oz))) rfl rfl ?_
    refine a_cond (E rfl) (fun h => ?_) (fun h => ?_)
    · exfalso; simp at h; omega
    · refine a_skip ?_
      refine a_seq ?_
      refine a_seq ?_
      refine a_reg (o1 (p_mv (E rfl)) (o1 (p_lens Tryz.underlying9 (E rfl)) (o1 (p_call (c_strings_shouldUseASCIISet _) (.cons (E rfl) .nil) rfl rfl) oz))) rfl rfl ?_
      refine a_cond (E rfl) (fun h => ?_) (fun h => ?_)
      · refine a_seq ?_
        refine a_regl ?_
        refine l_o (p_mv (E rfl)) rfl ?_
        refine l_o (p_call (c_strings_makeASCIISet _ hc) (.cons (E rfl) .nil) rfl rfl) rfl ?_
        refine l_o (p_mv (E rfl)) rfl ?_
        refine l_o (p_ext (E rfl) rfl) rfl ?_
        refine l_o (p_ext (E rfl) rfl) rfl ?_
        refine l_e (e_alloc (zs := ascD (fun _ => false)) (by kernel_rfl) rfl ?_)
        refine l_e (e_st ty_sz_192 rfl rfl (E rfl) rfl (by simp [PV.cellsP, ascD_length]) (Nat.ble_eq_true_of_le (by rw [← ascP_eq, ascP_length]; exact Nat.le_refl _)) ?_ (by rw [← ascP_eq]; exact ascP_mpo _))
        refine l_o (p_as (E rfl)) rfl ?_
        refine l_nil ?_
        refine a_cut ⟨55, [(0, str s), (1, str c), (6, .loc 0 0), (7, bool true)], [ascP (inS c)], ob, L⟩ ⟨rfl, by show _ = [putC _ _ _]; rw [← ascP_eq, ascP_all], rfl, fun _ h => h, E rfl, E rfl, E rfl, E rfl, trivial⟩ ?_
        refine a_seq ?_
        refine a_reg (o1 (p_mv (E rfl)) oz) rfl rfl ?_
        refine a_cond (E rfl) (fun h => ?_) (fun h => ?_)
        · refine a_seq ?_
          refine a_seq ?_
          refine a_reg (o1 (p_as (E rfl)) oz) rfl rfl ?_
          refine a_block ?_
          refine a_loop (fun p : Nat => p ≤ s.length ∧ idxO (inS c) (s.drop p) p = idxO (inS c) s 0) (fun p => s.length - p) (fun p => ⟨55, [(0, str s), (6, .loc 0 0), (8, i64 p)], [ascP (inS c)], ob, L⟩) 0 ⟨Nat.zero_le _, rfl⟩ ⟨rfl, rfl, rfl, fun _ h => h, E rfl, E rfl, E rfl, trivial⟩ fun p hp => ?_
          obtain ⟨hp, hpI⟩ := hp
          refine a_seq ?_
          refine a_seq ?_
          refine a_reg (o1 (p_mv (E rfl)) (o1 (p_mv (E rfl)) (o1 (p_lens Tryz.underlying9 (E rfl)) (o1 (p_lss (E rfl) (E rfl)) oz)))) rfl rfl ?_
          refine a_cond (E rfl) (fun h => ?_) (fun h => ?_)
          · have hlt : p < s.length := by simpa using h
            obtain ⟨x, hx⟩ : ∃ x, s[p]? = some x := ⟨s[p], List.getElem?_eq_getElem hlt⟩
            have hbt := bt_get hx
            rw [drop_cons' hx, idxO] at hpI
            refine a_skip ?_
            refine a_seq ?_
            refine a_block ?_
            refine a_seq ?_
            refine a_reg (o1 (p_mv (E rfl)) (o1 (p_mv (E rfl)) (o1 (p_idx Tryz.underlying9 (E rfl) (E rfl) (by first | omega | (simp only [beq_iff_eq, decide_eq_true_eq, decide_eq_false_iff_not, Bool.and_eq_true, Bool.and_eq_false_iff, Bool.or_eq_true, Bool.or_eq_false_iff, Bool.not_eq_true', Bool.not_eq_false', bs_length] at *; omega) | (simp at * <;> omega))) (o1 (p_callr (c_strings_asciiSet_contains (inS c) _ (by rw [hbt]; have := x.toNat_lt; omega)) (.cons (E rfl) (.cons (E rfl) .nil)) rfl rfl rfl rfl) oz)))) rfl rfl ?_
            refine a_cond (E rfl) (fun h => ?_) (fun h => ?_)
            · have hin : inS c x.toNat = true := by rw [hbt] at h; simpa using h
              rw [if_pos hin] at hpI
              refine a_seq ?_
              refine a_reg (o1 (p_mv (E rfl)) (o1 (p_as (E rfl)) oz)) rfl rfl ?_
              refine a_ret ?_
              refine ⟨_, resA_one rfl (E rfl), rfl, ?_, rfl, fun _ h => h⟩
              rw [← hpI]
            · have hin : inS c x.toNat = false := by rw [hbt] at h; simpa using h
              rw [hin, if_neg (by simp)] at hpI
              refine a_skip ?_
              refine a_reg (o1 (p_mv (E rfl)) (o1 (p_addf (E rfl) (E rfl) (fun _ _ => (by first | omega | (simp only [beq_iff_eq, decide_eq_true_eq, decide_eq_false_iff_not, Bool.and_eq_true, Bool.and_eq_false_iff, Bool.or_eq_true, Bool.or_eq_false_iff, Bool.not_eq_true', Bool.not_eq_false', bs_length] at *; omega) | (simp at * <;> omega)))) (o1 (p_as (E rfl)) oz))) rfl rfl ?_
              exact ⟨p + 1, ⟨hlt, hpI⟩, by omega, rfl, rfl, rfl, fun _ h => h, E rfl, E rfl, E rfl, trivial⟩
          · have hpe : p = s.length := by simp at h; omega
            subst hpe
            rw [List.drop_length, idxO] at hpI
            refine a_exit ?_
            refine a_seq ?_
            refine a_reg (o1 (p_as (E rfl)) oz) rfl rfl ?_
            refine a_ret ?_
            refine ⟨_, resA_one rfl (E rfl), rfl, ?_, rfl, fun _ h => h⟩
            rw [← hpI]
        · cases h
      · have hIR : ∀ r : Int, 0 ≤ r → Fn Tryz.prog 80 [str c, int .i32 r] (i64 (if 0 ≤ r ∧ r < 128 then idxI r c else -1)) := fun r h0 => by
          by_cases hr : r < 128
          · rw [if_pos ⟨h0, hr⟩]; exact c_strings_IndexRune_ascii c r ⟨h0, hr⟩
          · rw [if_neg (by omega)]; exact c_strings_IndexRune_hi c hc r (by omega)
        refine a_skip ?_
        refine a_seq ?_
        refine a_seq ?_
        refine a_regl ?_
        refine l_o (p_mv (E rfl)) rfl ?_
        refine l_e (e_rng Tryz.underlying9 (E rfl) rfl ?_)
        refine l_nil ?_
        refine a_block ?_
        refine a_loop (fun p : Nat => p ≤ s.length ∧ idxO (inS c) (s.drop p) p = idxO (inS c) s 0) (fun p => s.length - p) (fun p => ⟨55, [(0, str s), (1, str c), (45, .loc 0 0)], [[.sic s p]], ob, L⟩) 0 ⟨Nat.zero_le _, rfl⟩ ⟨rfl, rfl, rfl, fun _ h => h, E rfl, E rfl, E rfl, trivial⟩ fun p hp => ?_
        obtain ⟨hp, hpI⟩ := hp
        refine a_seq ?_
        refine a_regl ?_
        refine l_e (e_nxt (E rfl) rfl (by unfold LIM; omega) rfl ?_)
        refine l_o (p_nx0 (E rfl)) rfl ?_
        refine l_nil ?_
        refine a_seq ?_
        refine a_cond (E rfl) (fun h => ?_) (fun h => ?_)
        · have hlt : p < s.length := by simpa using h
          obtain ⟨x, hx⟩ : ∃ x, s[p]? = some x := ⟨s[p], List.getElem?_eq_getElem hlt⟩
          obtain ⟨hs1, hs2⟩ := idx_step hc hx
          refine a_skip ?_
          refine a_block ?_
          refine a_seq ?_
          refine a_reg (o1 (p_nx1 (E rfl) (by assumption)) (o1 (p_nx2 (E rfl) (by assumption)) (o1 (p_as (E rfl)) (o1 (p_as (E rfl)) oz)))) rfl rfl ?_
          refine a_seq ?_
          refine a_reg (o1 (p_mv (E rfl)) (o1 (p_mv (E rfl)) (o1 (p_call (hIR _ (decR_nn _ _)) (.cons (E rfl) (.cons (E rfl) .nil)) rfl rfl) (o1 (p_geq (E rfl) (E rfl)) oz)))) rfl rfl ?_
          refine a_cond (E rfl) (fun h => ?_) (fun h => ?_)
          · have hin : inS c x.toNat = true := hs1.1 (by simpa using h)
            rw [drop_cons' hx, idxO, if_pos hin] at hpI
            refine a_seq ?_
            refine a_reg (o1 (p_mv (E rfl)) (o1 (p_as (E rfl)) oz)) rfl rfl ?_
            refine a_ret ?_
            refine ⟨_, resA_one rfl (E rfl), rfl, ?_, rfl, fun _ h => h⟩
            rw [← hpI]
          · have hin : inS c x.toNat = false := by
              cases hb : inS c x.toNat with
              | false => rfl
              | true => have := hs1.2 hb; simp [this] at h
            rw [hs2 hin] at hpI
            obtain ⟨hw, _⟩ := dec_cont s p hlt
            have hw1 : 1 ≤ decW s p := by
              by_cases hx8 : x.toNat < 128
              · rw [(dec_ascii hx hx8).2]; omega
              · exact (dec_high hx hx8).2
            refine a_skip ?_
            exact ⟨p + decW s p, ⟨hw, hpI⟩, by omega, rfl, by show [_] = [[_]]; rw [if_pos hlt], rfl, fun _ h => h, E rfl, E rfl, E rfl, trivial⟩
        · have hpe : p = s.length := by simp at h; omega
          subst hpe
          rw [List.drop_length, idxO] at hpI
          refine a_exit ?_
          refine a_seq ?_
          refine a_reg (o1 (p_as (E rfl)) oz) rfl rfl ?_
          refine a_ret ?_
          refine ⟨_, resA_one rfl (E rfl), rfl, ?_, rfl, fun _ h => h⟩
          rw [← hpI]

theorem c_strings_ContainsAny (s c : List UInt8) (hc : ∀ b ∈ c, b.toNat < 128) (h2 : 2 ≤ c.length) : Fn Tryz.prog 71 [str s, str c] (bool (s.any fun b => inS c b.toNat)) := by
  intro ob L
  refine a_fn Tryz.func71 rfl (by decide) (Nat.le_of_ble_eq_true rfl) ?_
  show AWP _ _ ⟨9, [(0, str s), (1, str c)], [], ob, L⟩ _
  refine a_fstr (t := 0) (E rfl) fun hA0 => ?_
  refine a_fstr (t := 1) (E rfl) fun hA1 => ?_
  refine a_seq ?_
  refine a_reg (o1 (p_as (E rfl)) oz) rfl rfl ?_
  refine a_seq ?_
  refine a_reg (o1 (p_mv (E rfl)) (o1 (p_mv (E rfl)) (o1 (p_call (c_strings_IndexAny s c hc h2) (.cons (E rfl) (.cons (E rfl) .nil)) rfl rfl) (o1 (p_geq (E rfl) (E rfl)) (o1 (p_as (E rfl)) oz))))) rfl rfl ?_
  refine a_ret ?_
  refine ⟨_, resA_one rfl (E rfl), rfl, ?_, rfl, fun _ h => h⟩
  refine congrArg bool ?_
  rw [Bool.eq_iff_iff, ← idxO_ge _ _ 0 (Int.le_refl _)]; simp


end Go.Proofs.YtcemejmegbefgaaGreatDoor.Em

set_option maxRecDepth 100000
set_option linter.unusedVariables false
set_option linter.unusedSimpArgs false
namespace Go.Proofs.YtcemejmegbefgaaGreatDoor.Em
open Go.Proofs

/-! Where a link can go. -/
theorem idx_stepF {s : List UInt8} (F : Int → Bool) (truth : Bool) (hh : ∀ r : Int, 128 ≤ r → F r = truth) {p : Nat} {x : UInt8} (hx : s[p]? = some x) :
    ((F (decR s p) == truth) = true ↔ (decide (128 ≤ x.toNat) || (F x.toNat == truth)) = true) ∧
    ((decide (128 ≤ x.toNat) || (F x.toNat == truth)) = false → decW s p = 1) := by
  by_cases hx8 : x.toNat < 128
  · obtain ⟨h3, h4⟩ := dec_ascii hx hx8
    rw [h3, h4]
    have : decide (128 ≤ x.toNat) = false := by simp; omega
    simp [this]
  · obtain ⟨h3, h4⟩ := dec_high hx hx8
    have h5 : decide (128 ≤ x.toNat) = true := by simp; omega
    simp [h5, hh _ h3]
def lettersL : List UInt8 := [97, 98, 99, 100, 101, 102, 103, 104, 105, 106, 107, 108, 109, 110, 111, 112, 113, 114, 115, 116, 117, 118, 119, 120, 121, 122, 65, 66, 67, 68, 69, 70, 71, 72, 73, 74, 75, 76, 77, 78, 79, 80, 81, 82, 83, 84, 85, 86, 87, 88, 89, 90, 48, 49, 50, 51, 52, 53, 54, 55, 56, 57, 46, 47, 95, 45, 35, 63, 38, 58, 37]
def destB (b : UInt8) : Bool := (97 ≤ b && b ≤ 122) || (65 ≤ b && b ≤ 90) || (48 ≤ b && b ≤ 57) || [46, 47, 95, 45, 35, 63, 38, 58, 37].contains b
def destOk (s : List UInt8) : Bool := !s.isEmpty && s.all destB
def letF (r : Int) : Bool := decide ((if 0 ≤ r ∧ r < 128 then idxI r lettersL else -1) < 0)
theorem letF_eq (b : UInt8) : (decide (128 ≤ b.toNat) || (letF b.toNat == true)) = !destB b := by
  have h : ∀ n : Fin 256, (decide (128 ≤ n.val) || (letF n.val == true)) = !destB (UInt8.ofNat n.val) := by decide
  have := h ⟨b.toNat, b.toNat_lt⟩
  simpa using this

theorem c_strings_indexFunc (s : List UInt8) (F : Int → Bool) (truth : Bool) (fnum : Nat) (hF : ∀ r : Int, 0 ≤ r → Fn Tryz.prog fnum [int .i32 r] (bool (F r))) (hh : ∀ r : Int, 128 ≤ r → F r = truth) : Fn Tryz.prog 254 [str s, .fn (.func fnum) [] [], bool truth] (i64 (idxO (fun n => decide (128 ≤ n) || (F n == truth)) s 0)) := by
  intro ob L
  refine a_fn Tryz.func254 rfl (by decide) (Nat.le_of_ble_eq_true rfl) ?_
  show AWP _ _ ⟨21, [(0, str s), (1, .fn (.func fnum) [] []), (2, bool truth)], [], ob, L⟩ _
  refine a_fstr (t := 0) (E rfl) fun hA0 => ?_
  refine a_seq ?_
  refine a_reg (o1 (p_as (E rfl)) oz) rfl rfl ?_
  refine a_seq ?_
  refine a_seq ?_
  refine a_regl ?_
  refine l_o (p_mv (E rfl)) rfl ?_
  refine l_e (e_rng Tryz.underlying9 (E rfl) rfl ?_)
  refine l_nil ?_
  refine a_block ?_
  refine a_loop (fun p : Nat => p ≤ s.length ∧ idxO (fun n => decide (128 ≤ n) || (F n == truth)) (s.drop p) p = idxO (fun n => decide (128 ≤ n) || (F n == truth)) s 0) (fun p => s.length - p) (fun p => ⟨21, [(0, str s), (1, .fn (.func fnum) [] []), (2, bool truth), (10, .loc 0 0)], [[.sic s p]], ob, L⟩) 0 ⟨Nat.zero_le _, rfl⟩ ⟨rfl, rfl, rfl, fun _ h => h, E rfl, E rfl, E rfl, E rfl, trivial⟩ fun p hp => ?_
  obtain ⟨hp, hpI⟩ := hp
  refine a_seq ?_
  refine a_regl ?_
  refine l_e (e_nxt (E rfl) rfl (by unfold LIM; omega) rfl ?_)
  refine l_o (p_nx0 (E rfl)) rfl ?_
  refine l_nil ?_
  refine a_seq ?_
  refine a_cond (E rfl) (fun h => ?_) (fun h => ?_)
  · have hlt : p < s.length := by simpa using h
    obtain ⟨x, hx⟩ : ∃ x, s[p]? = some x := ⟨s[p], List.getElem?_eq_getElem hlt⟩
    obtain ⟨hs1, hs2⟩ := idx_stepF F truth hh hx
    rw [drop_cons' hx, idxO] at hpI
    refine a_skip ?_
    refine a_block ?_
    refine a_seq ?_
    refine a_reg (o1 (p_nx1 (E rfl) (by assumption)) (o1 (p_nx2 (E rfl) (by assumption)) (o1 (p_as (E rfl)) (o1 (p_as (E rfl)) oz)))) rfl rfl ?_
    refine a_seq ?_
    refine a_reg (o1 (p_mv (E rfl)) (o1 (p_mv (E rfl)) (o1 (p_callv (E rfl) (hF _ (decR_nn _ _)) (.cons (E rfl) .nil) rfl rfl) (o1 (p_mv (E rfl)) (o1 (p_eqb Tryz.underlying4 (E rfl) (E rfl)) oz))))) rfl rfl ?_
    refine a_cond (E rfl) (fun h => ?_) (fun h => ?_)
    · rw [if_pos (hs1.1 (by simpa using h))] at hpI
      refine a_seq ?_
      refine a_reg (o1 (p_mv (E rfl)) (o1 (p_as (E rfl)) oz)) rfl rfl ?_
      refine a_ret ?_
      refine ⟨_, resA_one rfl (E rfl), rfl, ?_, rfl, fun _ h => h⟩
      rw [← hpI]
    · have hin : (decide (128 ≤ x.toNat) || (F x.toNat == truth)) = false := by
        cases hb : (decide (128 ≤ x.toNat) || (F x.toNat == truth)) with
        | false => rfl
        | true => have := hs1.2 hb; simp at this h; exact absurd this h
      rw [if_neg (by rw [hin]; simp)] at hpI
      have hw := hs2 hin
      refine a_skip ?_
      exact ⟨p + 1, ⟨hlt, hpI⟩, by omega, rfl, by show [_] = [[_]]; rw [if_pos hlt, hw], rfl, fun _ h => h, E rfl, E rfl, E rfl, E rfl, trivial⟩
  · have hpe : p = s.length := by simp at h; omega
    subst hpe
    rw [List.drop_length, idxO] at hpI
    refine a_exit ?_
    refine a_seq ?_
    refine a_reg (o1 (p_as (E rfl)) oz) rfl rfl ?_
    refine a_ret ?_
    refine ⟨_, resA_one rfl (E rfl), rfl, ?_, rfl, fun _ h => h⟩
    rw [← hpI]

theorem c_strings_IndexFunc (s : List UInt8) (F : Int → Bool) (fnum : Nat) (hF : ∀ r : Int, 0 ≤ r → Fn Tryz.prog fnum [int .i32 r] (bool (F r))) (hh : ∀ r : Int, 128 ≤ r → F r = true) : Fn Tryz.prog 208 [str s, .fn (.func fnum) [] []] (i64 (idxO (fun n => decide (128 ≤ n) || (F n == true)) s 0)) := by
  intro ob L
  refine a_fn Tryz.func208 rfl (by decide) (Nat.le_of_ble_eq_true rfl) ?_
  show AWP _ _ ⟨8, [(0, str s), (1, .fn (.func fnum) [] [])], [], ob, L⟩ _
  refine a_fstr (t := 0) (E rfl) fun hA0 => ?_
  refine a_seq ?_
  refine a_reg (o1 (p_as (E rfl)) oz) rfl rfl ?_
  refine a_seq ?_
  refine a_reg (o1 (p_mv (E rfl)) (o1 (p_mv (E rfl)) (o1 (p_call (c_strings_indexFunc s F true fnum hF hh) (.cons (E rfl) (.cons (E rfl) (.cons (E rfl) .nil))) rfl rfl) (o1 (p_as (E rfl)) oz)))) rfl rfl ?_
  refine a_ret ?_
  refine ⟨_, resA_one rfl (E rfl), rfl, ?_, rfl, fun _ h => h⟩
  rfl

theorem c_strings_ContainsFunc (s : List UInt8) (F : Int → Bool) (fnum : Nat) (hF : ∀ r : Int, 0 ≤ r → Fn Tryz.prog fnum [int .i32 r] (bool (F r))) (hh : ∀ r : Int, 128 ≤ r → F r = true) : Fn Tryz.prog 161 [str s, .fn (.func fnum) [] []] (bool (s.any fun b => decide (128 ≤ b.toNat) || (F b.toNat == true))) := by
  intro ob L
  refine a_fn Tryz.func161 rfl (by decide) (Nat.le_of_ble_eq_true rfl) ?_
  show AWP _ _ ⟨9, [(0, str s), (1, .fn (.func fnum) [] [])], [], ob, L⟩ _
  refine a_fstr (t := 0) (E rfl) fun hA0 => ?_
  refine a_seq ?_
  refine a_reg (o1 (p_as (E rfl)) oz) rfl rfl ?_
  refine a_seq ?_
  refine a_reg (o1 (p_mv (E rfl)) (o1 (p_mv (E rfl)) (o1 (p_call (c_strings_IndexFunc s F fnum hF hh) (.cons (E rfl) (.cons (E rfl) .nil)) rfl rfl) (o1 (p_geq (E rfl) (E rfl)) (o1 (p_as (E rfl)) oz))))) rfl rfl ?_
  refine a_ret ?_
  refine ⟨_, resA_one rfl (E rfl), rfl, ?_, rfl, fun _ h => h⟩
  refine congrArg bool ?_
  rw [Bool.eq_iff_iff, ← idxO_ge (fun n => decide (128 ≤ n) || (F n == true)) s 0 (Int.le_refl _)]; simp

theorem c_span_Dest_1 (r : Int) (h0 : 0 ≤ r) : Fn Tryz.prog 162 [int .i32 r] (bool (letF r)) := by
  intro ob L
  refine a_fn Tryz.func162 rfl (by decide) (Nat.le_of_ble_eq_true rfl) ?_
  show AWP _ _ ⟨6, [(0, int .i32 r)], [], ob, L⟩ _
  have hIR : Fn Tryz.prog 80 [str lettersL, int .i32 r] (i64 (if 0 ≤ r ∧ r < 128 then idxI r lettersL else -1)) := by
    by_cases hr : r < 128
    · rw [if_pos ⟨h0, hr⟩]; exact c_strings_IndexRune_ascii lettersL r ⟨h0, hr⟩
    · rw [if_neg (by omega)]; exact c_strings_IndexRune_hi lettersL (by decide) r (by omega)
  refine a_seq ?_
  refine a_reg (o1 (p_as (E rfl)) oz) rfl rfl ?_
  refine a_seq ?_
  refine a_reg (o1 (p_mv (E rfl)) (o1 (p_call (hIR) (.cons (E rfl) (.cons (E rfl) .nil)) rfl rfl) (o1 (p_lss (E rfl) (E rfl)) (o1 (p_as (E rfl)) oz)))) rfl rfl ?_
  refine a_ret ?_
  refine ⟨_, resA_one rfl (E rfl), rfl, ?_, rfl, fun _ h => h⟩
  rfl

theorem c_span_Dest (s : List UInt8) : Fn Tryz.prog 99 [str s] (bool (destOk s)) := by
  intro ob L
  refine a_fn Tryz.func99 rfl (by decide) (Nat.le_of_ble_eq_true rfl) ?_
  show AWP _ _ ⟨10, [(0, str s)], [], ob, L⟩ _
  refine a_fstr (t := 0) (E rfl) fun hA0 => ?_
  refine a_seq ?_
  refine a_reg (o1 (p_as (E rfl)) oz) rfl rfl ?_
  refine a_seq ?_
  refine a_reg (o1 (p_mv (E rfl)) (o1 (p_nes (E rfl) (E rfl)) (o1 (p_mv (E rfl)) (g1 rfl rfl (fun h3 => p_mv (E rfl)) (g1 rfl rfl (fun h4 => p_call (c_strings_ContainsFunc s letF 162 (fun r h => c_span_Dest_1 r h) (fun r h => by unfold letF; rw [if_neg (by omega)]; rfl)) (.cons (Eo rfl h4) (.cons (E rfl) .nil)) rfl rfl) (g1 rfl rfl (fun h5 => p_not (Eo rfl h5)) (o1 (p_and (E rfl) rfl rfl (fun h => bqt h)) (o1 (p_as (E rfl)) oz)))))))) rfl rfl ?_
  refine a_ret ?_
  refine ⟨_, resA_one rfl (E rfl), rfl, ?_, rfl, fun _ h => h⟩
  refine congrArg bool ?_
  have h1 : (s.any fun b => decide (128 ≤ b.toNat) || (letF b.toNat == true)) = !(s.all destB) := by
    rw [List.all_eq_not_any_not, Bool.not_not]
    congr 1; funext b; exact letF_eq b
  rw [h1, destOk]
  cases s <;> simp


end Go.Proofs.YtcemejmegbefgaaGreatDoor.Em
