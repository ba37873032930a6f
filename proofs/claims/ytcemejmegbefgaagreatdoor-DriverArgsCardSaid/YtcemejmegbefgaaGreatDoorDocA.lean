/-
  What the reader of lines and documents returns at the documents that are asked for; each under the hypotheses that it states.
-/
import Derived.Test.YtcemejmegbefgaaGreatDoorSpA
import Derived.Test.YtcemejmegbefgaaGreatDoorLibA
import Derived.Test.YtcemejmegbefgaaGreatDoorLibB
set_option maxRecDepth 100000
set_option linter.unusedVariables false
set_option linter.unusedSimpArgs false
namespace Go.Proofs.YtcemejmegbefgaaGreatDoor.Em
open Go.Proofs

def encStrs (l : List (List UInt8)) : List (List D) := l.map fun t => [.v (.string ⟨t.toArray⟩)]
theorem encStrs_length (l : List (List UInt8)) : (encStrs l).length = l.length := by simp [encStrs]
theorem encStrs_snoc (l : List (List UInt8)) (t : List UInt8) : encStrs l ++ [[.v (.string ⟨t.toArray⟩)]] = encStrs (l ++ [t]) := by simp [encStrs]
def cutG (s : List UInt8) : Nat → Int → Int → List (List UInt8)
  | 0, _, _ => []
  | f + 1, a, e => if e ≤ s.length then
      (if e < s.length ∧ (cls (bt s (e - 1)) = 1 ∨ cls (bt s (e - 1)) = 2) ∧ cls (bt s e) = cls (bt s (e - 1)) then cutG s f a (e + 1) else cut s a.toNat e.toNat :: cutG s f e (e + 1))
    else []
def tokCut (s : List UInt8) : List (List UInt8) := cutG s (s.length + 1) 0 1

theorem c_token_Cut (s : List UInt8) (hs : s.length ≤ 4294967295) : Fn Tryz.prog 32 [str s] (lst 1 (encStrs (tokCut s))) := by
  intro ob L
  refine a_fn Tryz.func32 rfl (by decide) (Nat.le_of_ble_eq_true rfl) ?_
  show AWP _ _ ⟨45, [(0, str s)], [], ob, L⟩ _
  refine a_fstr (t := 0) (E rfl) fun hA0 => ?_
  refine a_seq ?_
  refine a_reg (o1 (p_as (E rfl)) oz) rfl rfl ?_
  refine a_seq ?_
  refine a_reg (o1 (p_as (E rfl)) oz) rfl rfl ?_
  refine a_seq ?_
  refine a_reg (o1 (p_as (E rfl)) oz) rfl rfl ?_
  refine a_seq ?_
  refine a_seq ?_
  refine a_reg (o1 (p_as (E rfl)) oz) rfl rfl ?_
  refine a_block ?_
  refine a_accr (t := 3) 9 1 rfl fun k hk0 => ?_
  refine a_loop (fun p : Int × Int × List (List UInt8) × Nat × Nat => 0 ≤ p.1 ∧ p.1 ≤ p.2.1 ∧ 1 ≤ p.2.1 ∧ p.2.1 ≤ s.length + 1 ∧ s.length < p.2.1 + p.2.2.2.1 ∧ (p.2.2.1.length : Int) < p.2.1 ∧ p.2.2.2.2 ∉ L ∧ p.2.2.1 ++ cutG s p.2.2.2.1 p.1 p.2.1 = tokCut s) (fun p => (s.length + 1 - p.2.1).toNat) (fun p => ⟨45, [(0, str s), (4, i64 p.1), (5, i64 p.2.1), (3, .row 9 1 (encStrs p.2.2.1) p.2.2.2.2)], [], ob, p.2.2.2.2 :: L⟩) (0, 1, [], s.length + 1, k) ⟨by simp, by simp, by simp, by show (1 : Int) ≤ s.length + 1; omega, by simp; omega, by simp, hk0, rfl⟩ ⟨rfl, rfl, rfl, fun _ h => h, E rfl, E rfl, E rfl, E rfl, trivial⟩ fun p hp => ?_
  obtain ⟨a, e, acc, f, k⟩ := p
  obtain ⟨hp1, hp2, hp3, hp4, hp5, hp6, hk0, hp7⟩ := hp
  simp only at hp1 hp2 hp3 hp4 hp5 hp6 hk0 hp7
  show AWP _ _ ⟨45, [(0, str s), (4, i64 a), (5, i64 e), (3, .row 9 1 (encStrs acc) k)], [], ob, k :: L⟩ _
  have hk : k ∈ k :: L := List.mem_cons_self
  refine a_seq ?_
  refine a_seq ?_
  refine a_reg (o1 (p_mv (E rfl)) (o1 (p_mv (E rfl)) (o1 (p_lens Tryz.underlying9 (E rfl)) (o1 (p_leq (E rfl) (E rfl)) oz)))) rfl rfl ?_
  refine a_cond (E rfl) (fun h => ?_) (fun h => ?_)
  · have hi : e ≤ s.length := by simpa using h
    obtain ⟨f, rfl⟩ : ∃ x, f = x + 1 := ⟨f - 1, by omega⟩
    rw [cutG, if_pos hi] at hp7
    refine a_skip ?_
    refine a_seq ?_
    refine a_block ?_
    refine a_seq ?_
    refine a_reg (o1 (p_mv (E rfl)) (o1 (p_mv (E rfl)) (o1 (p_subf (E rfl) (E rfl) (fun _ _ => (by first | omega | (simp only [beq_iff_eq, decide_eq_true_eq, decide_eq_false_iff_not, Bool.and_eq_true, Bool.and_eq_false_iff, Bool.or_eq_true, Bool.or_eq_false_iff, Bool.not_eq_true', Bool.not_eq_false', bs_length] at *; omega) | (simp at * <;> omega)))) (o1 (p_idx Tryz.underlying9 (E rfl) (E rfl) (by first | omega | (simp only [beq_iff_eq, decide_eq_true_eq, decide_eq_false_iff_not, Bool.and_eq_true, Bool.and_eq_false_iff, Bool.or_eq_true, Bool.or_eq_false_iff, Bool.not_eq_true', Bool.not_eq_false', bs_length] at *; omega) | (simp at * <;> omega))) (o1 (p_cvb ty_iu_5 ty_iu_3 (E rfl)) (o1 (p_call (c_utf_Class _) (.cons (E rfl) .nil) rfl rfl) (o1 (p_as (E rfl)) oz))))))) rfl rfl ?_
    refine a_seq ?_
    refine a_seq ?_
    refine a_reg (o1 (p_mv (E rfl)) (o1 (p_mv (E rfl)) (o1 (p_lens Tryz.underlying9 (E rfl)) (o1 (p_lss (E rfl) (E rfl)) (o1 (p_mv (E rfl)) (g1 rfl rfl (fun h5 => p_mv (E rfl)) (g1 rfl rfl (fun h6 => p_call (c_token_long _) (.cons (Eo rfl h6) .nil) rfl rfl) (o1 (p_and (E rfl) rfl rfl (fun h => bqt h)) (o1 (p_mv (E rfl)) (g1 rfl rfl (fun h9 => p_mv (E rfl)) (g1 rfl rfl (fun h10 => p_mv (E rfl)) (g1 rfl rfl (fun h11 => p_idx Tryz.underlying9 (Eo rfl h11) (Eo rfl h11) (by first | omega | (simp only [beq_iff_eq, decide_eq_true_eq, decide_eq_false_iff_not, Bool.and_eq_true, Bool.and_eq_false_iff, Bool.or_eq_true, Bool.or_eq_false_iff, Bool.not_eq_true', Bool.not_eq_false', bs_length] at *; omega) | (simp at * <;> omega))) (g1 rfl rfl (fun h12 => p_cvb ty_iu_5 ty_iu_3 (Eo rfl h12)) (g1 rfl rfl (fun h13 => p_call (c_utf_Class _) (.cons (Eo rfl h13) .nil) rfl rfl) (g1 rfl rfl (fun h14 => p_mv (E rfl)) (g1 rfl rfl (fun h15 => p_eq (Eo rfl h15) (Eo rfl h15)) (o1 (p_and (E rfl) rfl rfl (fun h => bqt h)) oz))))))))))))))))) rfl rfl ?_
    refine a_cond (E rfl) (fun h => ?_) (fun h => ?_)
    · rw [if_pos (by simpa [and_assoc] using h)] at hp7
      refine a_exit ?_
      refine a_reg (o1 (p_mv (E rfl)) (o1 (p_addf (E rfl) (E rfl) (fun _ _ => (by first | omega | (simp only [beq_iff_eq, decide_eq_true_eq, decide_eq_false_iff_not, Bool.and_eq_true, Bool.and_eq_false_iff, Bool.or_eq_true, Bool.or_eq_false_iff, Bool.not_eq_true', Bool.not_eq_false', bs_length] at *; omega) | (simp at * <;> omega)))) (o1 (p_as (E rfl)) oz))) rfl rfl ?_
      first
        | exact ⟨(a, e + 1, acc, f, k), ⟨by omega, by simp only; omega, by simp only; omega, by simp only; omega, by simp only; omega, by simp only; omega, hk0, hp7⟩, by simp only; omega, rfl, rfl, rfl, fun _ h => h, E rfl, E rfl, E rfl, E rfl, trivial⟩
        | exact ⟨(e, e + 1, acc ++ [cut s a.toNat e.toNat], f, k'), ⟨by simp only; omega, by simp only; omega, by simp only; omega, by simp only; omega, by simp only; omega, by simp; omega, fun h => hk' (List.mem_cons_of_mem _ h), by rw [List.append_assoc]; exact hp7⟩, by simp only; omega, rfl, rfl, rfl, fun _ h => h, E rfl, E rfl, E rfl, Eq_ rfl (by rw [← encStrs_snoc]; rfl), trivial⟩
    · rw [if_neg (by rintro ⟨h7, h8, h9⟩; rcases h8 with h8 | h8 <;> simp [h7, h8, h9] at h <;> omega)] at hp7
      refine a_skip ?_
      refine a_seq ?_
      refine a_regl ?_
      refine l_o (p_mv (E rfl)) rfl ?_
      refine l_o (p_mv (E rfl)) rfl ?_
      refine l_o (p_mv (E rfl)) rfl ?_
      refine l_o (p_mv (E rfl)) rfl ?_
      refine l_o (p_ss Tryz.underlying9 (E rfl) (E rfl) (E rfl) (by first | omega | (simp only [beq_iff_eq, decide_eq_true_eq, decide_eq_false_iff_not, Bool.and_eq_true, Bool.and_eq_false_iff, Bool.or_eq_true, Bool.or_eq_false_iff, Bool.not_eq_true', Bool.not_eq_false', bs_length] at *; omega) | (simp at * <;> omega))) rfl ?_
      refine l_o (p_bs (xs := [.tmp 40]) (sz := 1) Tryz.underlying33 ty_zo_9 rfl rfl rfl (.cons (E rfl) .nil) rfl rfl rfl) rfl ?_
      refine l_e (e_appr (Lr := L) Tryz.underlying33 ty_zo_9 rfl ty_by_9 rfl rfl hk (E rfl) (by have := encStrs_length acc; simp; omega) (fun j hj => ⟨List.mem_cons_of_mem _ hj, fun e => hk0 (e ▸ hj)⟩) (fun k' hk' => ?_))
      have hk0 : k' ∉ L := fun h => hk' (List.mem_cons_of_mem _ h)
      refine l_o (p_as (E rfl)) rfl ?_
      refine l_nil ?_
      refine a_reg (o1 (p_mv (E rfl)) (o1 (p_as (E rfl)) oz)) rfl rfl ?_
      refine a_reg (o1 (p_mv (E rfl)) (o1 (p_addf (E rfl) (E rfl) (fun _ _ => (by first | omega | (simp only [beq_iff_eq, decide_eq_true_eq, decide_eq_false_iff_not, Bool.and_eq_true, Bool.and_eq_false_iff, Bool.or_eq_true, Bool.or_eq_false_iff, Bool.not_eq_true', Bool.not_eq_false', bs_length] at *; omega) | (simp at * <;> omega)))) (o1 (p_as (E rfl)) oz))) rfl rfl ?_
      first
        | exact ⟨(a, e + 1, acc, f, k), ⟨by omega, by simp only; omega, by simp only; omega, by simp only; omega, by simp only; omega, by simp only; omega, hk0, hp7⟩, by simp only; omega, rfl, rfl, rfl, fun _ h => h, E rfl, E rfl, E rfl, E rfl, trivial⟩
        | exact ⟨(e, e + 1, acc ++ [cut s a.toNat e.toNat], f, k'), ⟨by simp only; omega, by simp only; omega, by simp only; omega, by simp only; omega, by simp only; omega, by simp; omega, fun h => hk' (List.mem_cons_of_mem _ h), by rw [List.append_assoc]; exact hp7⟩, by simp only; omega, rfl, rfl, rfl, fun _ h => h, E rfl, E rfl, E rfl, Eq_ rfl (by rw [← encStrs_snoc]; rfl), trivial⟩
  · have hi : ¬ e ≤ s.length := by simpa using h
    have hR : cutG s f a e = [] := by
      cases f with
      | zero => rfl
      | succ f => rw [cutG, if_neg hi]
    rw [hR, List.append_nil] at hp7
    refine a_exit ?_
    refine a_seq ?_
    refine a_reg (o1 (p_mv (E rfl)) (o1 (p_as (E rfl)) oz)) rfl rfl ?_
    refine a_frz (t := 2) (Lr := L) rfl List.mem_cons_self (fun j hj => ⟨List.mem_cons_of_mem _ hj, fun e => hk0 (e ▸ hj)⟩) ?_
    refine a_ret ?_
    refine ⟨_, resA_one rfl (E rfl), rfl, ?_, rfl, fun _ h => h⟩
    rw [hp7]


end Go.Proofs.YtcemejmegbefgaaGreatDoor.Em

set_option maxRecDepth 100000
set_option linter.unusedVariables false
set_option linter.unusedSimpArgs false
namespace Go.Proofs.YtcemejmegbefgaaGreatDoor.Em
open Go.Proofs

/-- What keeps bytes from being a text. -/
def cont (b : UInt8) : Bool := 128 ≤ b && b ≤ 191
def utf8Ok : List UInt8 → Bool
  | [] => true
  | a :: r =>
    if a < 128 then utf8Ok r
    else if a < 194 then false
    else match r with
    | [] => false
    | b :: r =>
      if a < 224 then cont b && utf8Ok r
      else match r with
      | [] => false
      | c :: r =>
        if a < 240 then ((if a = 224 then 160 ≤ b else 128 ≤ b) && (if a = 237 then b ≤ 159 else b ≤ 191)) && cont c && utf8Ok r
        else match r with
        | [] => false
        | d :: r =>
          if a < 245 then ((if a = 240 then 144 ≤ b else 128 ≤ b) && (if a = 244 then b ≤ 143 else b ≤ 191)) && cont c && cont d && utf8Ok r
          else false
def chkS (s : List UInt8) : Int := if s.length > 1048576 then 4 else if idxI 0 s ≥ 0 then 3 else if utf8Ok s = false then 2 else 0
def crlf (s : List UInt8) : Bool := s.any fun b => b == 13 || b == 10
theorem crlf_eq (s : List UInt8) : (s.any fun b => inS [13, 10] b.toNat) = crlf s := by
  unfold crlf inS
  congr 1; funext b
  simp only [List.any_cons, List.any_nil, Bool.or_false]
  have h : ∀ c : UInt8, (c.toNat == b.toNat) = (b == c) := fun c => by
    rw [Bool.eq_iff_iff]; simp only [beq_iff_eq]
    exact ⟨fun h => UInt8.toNat_inj.1 h.symm, fun h => by rw [h]⟩
  rw [h, h]
theorem c_crlf (s : List UInt8) : Fn Tryz.prog 71 [str s, str [13, 10]] (bool (crlf s)) := by
  have := c_strings_ContainsAny s [13, 10] (by decide) (by decide)
  rw [crlf_eq] at this; exact this
theorem encs_get {l : List Sp} {j : Nat} {x : Sp} (h : l[j]? = some x) : (encs l)[j]? = some (encX x) := by rw [encs_map, List.getElem?_map, h, Option.map_some, enc_X]
theorem len0 (l : List Sp) : decide (((encs l).length : Int) = 0) = l.isEmpty := by rw [encs_length]; cases l <;> simp <;> omega
theorem len1 (l : List Sp) : decide (((encs l).length : Int) > 0) = !l.isEmpty := by rw [encs_length]; cases l <;> simp
theorem str0 (s : List UInt8) : decide (s = []) = s.isEmpty := by cases s <;> simp
theorem bs_get {s : List UInt8} {j : Nat} {x : UInt8} (h : s[j]? = some x) : (bs s)[j]? = some [.v (.int .u8 x.toNat)] := by simp [bs, h]
theorem drop_get {α : Type} {l : List α} {j : Nat} {x : α} (h : l[j]? = some x) : l.drop j = x :: l.drop (j + 1) := by
  have hj : j < l.length := (List.getElem?_eq_some_iff.1 h).1
  rw [List.drop_eq_getElem_cons hj]
  rw [List.getElem?_eq_getElem hj] at h
  rw [Option.some.inj h]


end Go.Proofs.YtcemejmegbefgaaGreatDoor.Em

set_option maxRecDepth 100000
set_option linter.unusedVariables false
set_option linter.unusedSimpArgs false
namespace Go.Proofs.YtcemejmegbefgaaGreatDoor.Em
open Go.Proofs

def cutAt (s : List UInt8) (n : Nat) (r : Int) : List UInt8 × List UInt8 × Bool := if r ≥ 0 then (s.take r.toNat, s.drop (r.toNat + n), true) else (s, [], false)
theorem cut_take (s : List UInt8) (n : Nat) : cut s 0 n = s.take n := by simp [cut]
theorem cut_dropE (s : List UInt8) (n : Nat) : cut s n s.length = s.drop n := by simp [cut]; rw [List.take_of_length_le (by simp)]
def trim2 (s : List UInt8) : List UInt8 := trimA [32, 9] s
def headS (s : List UInt8) : Int := if (runI 35 s : Int) > 6 ∨ ((runI 35 s : Int) < s.length ∧ bt s (runI 35 s) ≠ 32) then 0 else runI 35 s

theorem c_Index1 (s : List UInt8) (x : UInt8) : Fn Tryz.prog 122 [str s, str [x]] (i64 (idxI x.toNat s)) := by
  intro ob L
  refine a_fn Tryz.func122 rfl (by decide) (Nat.le_of_ble_eq_true rfl) ?_
  show AWP _ _ ⟨143, [(0, str s), (1, str [x])], [], ob, L⟩ _
  refine a_fstr (t := 0) (E rfl) fun hA0 => ?_
  refine a_fstr (t := 1) (E rfl) fun hA1 => ?_
  refine a_seq ?_
  refine a_reg (o1 (p_as (E rfl)) oz) rfl rfl ?_
  refine a_seq ?_
  refine a_reg (o1 (p_mv (E rfl)) (o1 (p_lens Tryz.underlying9 (E rfl)) (o1 (p_as (E rfl)) oz))) rfl rfl ?_
  refine a_seq ?_
  refine a_block ?_
  refine a_seq ?_
  refine a_reg (o1 (p_mv (E rfl)) (o1 (p_eq (E rfl) (E rfl)) (o1 (p_mv (E rfl)) (g1 rfl rfl (fun h3 => p_mv (E rfl)) (g1 rfl rfl (fun h4 => p_mv (E rfl)) (g1 rfl rfl (fun h5 => p_eqs (Eo rfl h5) (Eo rfl h5)) (o1 (p_or (E rfl) rfl rfl (fun h => bqf h)) (o1 (p_as (E rfl)) oz)))))))) rfl rfl ?_
  refine a_cond (E rfl) (fun h => ?_) (fun h => ?_)
  · refine a_seq ?_
    refine a_reg (o1 (p_as (E rfl)) oz) rfl rfl ?_
    refine a_ret ?_
    refine ⟨_, resA_one rfl (E rfl), rfl, ?_, rfl, fun _ h => h⟩
    have hs : [x] = s := by simpa using h
    subst hs; simp [idxI]
  · refine a_seq ?_
    refine a_reg (o1 (p_mv (E rfl)) (o1 (p_eq (E rfl) (E rfl)) (o1 (p_as (E rfl)) oz))) rfl rfl ?_
    refine a_cond (E rfl) (fun h => ?_) (fun h => ?_)
    · refine a_seq ?_
      refine a_reg (o1 (p_mv (E rfl)) (o1 (p_mv (E rfl)) (o1 (p_idx Tryz.underlying9 (E rfl) (E rfl) (by first | omega | (simp only [beq_iff_eq, decide_eq_true_eq, decide_eq_false_iff_not, Bool.and_eq_true, Bool.and_eq_false_iff, Bool.or_eq_true, Bool.or_eq_false_iff, Bool.not_eq_true', Bool.not_eq_false', bs_length] at *; omega) | (simp at * <;> omega))) (o1 (p_call (c_internal_stringslite_IndexByte _ _) (.cons (E rfl) (.cons (E rfl) .nil)) rfl rfl) (o1 (p_as (E rfl)) oz))))) rfl rfl ?_
      refine a_ret ?_
      refine ⟨_, resA_one rfl (E rfl), rfl, ?_, rfl, fun _ h => h⟩
      simp [bt]
    · exfalso; simp at h

theorem c_Index_long (s sep : List UInt8) (h2 : 2 ≤ sep.length) (hl : s.length < sep.length) : Fn Tryz.prog 122 [str s, str sep] (i64 (-1)) := by
  intro ob L
  refine a_fn Tryz.func122 rfl (by decide) (Nat.le_of_ble_eq_true rfl) ?_
  show AWP _ _ ⟨143, [(0, str s), (1, str sep)], [], ob, L⟩ _
  refine a_fstr (t := 0) (E rfl) fun hA0 => ?_
  refine a_fstr (t := 1) (E rfl) fun hA1 => ?_
  refine a_seq ?_
  refine a_reg (o1 (p_as (E rfl)) oz) rfl rfl ?_
  refine a_seq ?_
  refine a_reg (o1 (p_mv (E rfl)) (o1 (p_lens Tryz.underlying9 (E rfl)) (o1 (p_as (E rfl)) oz))) rfl rfl ?_
  refine a_seq ?_
  refine a_block ?_
  refine a_seq ?_
  refine a_reg (o1 (p_mv (E rfl)) (o1 (p_eq (E rfl) (E rfl)) (o1 (p_mv (E rfl)) (g1 rfl rfl (fun h3 => p_mv (E rfl)) (g1 rfl rfl (fun h4 => p_mv (E rfl)) (g1 rfl rfl (fun h5 => p_eqs (Eo rfl h5) (Eo rfl h5)) (o1 (p_or (E rfl) rfl rfl (fun h => bqf h)) (o1 (p_as (E rfl)) oz)))))))) rfl rfl ?_
  refine a_cond (E rfl) (fun h => ?_) (fun h => ?_)
  · exfalso; simp at h; rcases h with h | h <;> (subst h; first | omega | (simp at h2))
  · refine a_seq ?_
    refine a_reg (o1 (p_mv (E rfl)) (o1 (p_eq (E rfl) (E rfl)) (o1 (p_as (E rfl)) oz))) rfl rfl ?_
    refine a_cond (E rfl) (fun h => ?_) (fun h => ?_)
    · exfalso; simp at h; omega
    · refine a_seq ?_
      refine a_reg (o1 (p_mv (E rfl)) (o1 (p_mv (E rfl)) (o1 (p_lens Tryz.underlying9 (E rfl)) (o1 (p_geq (E rfl) (E rfl)) (o1 (p_as (E rfl)) oz))))) rfl rfl ?_
      refine a_cond (E rfl) (fun h => ?_) (fun h => ?_)
      · refine a_seq ?_
        refine a_reg (o1 (p_as (E rfl)) oz) rfl rfl ?_
        refine a_ret ?_
        refine ⟨_, resA_one rfl (E rfl), rfl, ?_, rfl, fun _ h => h⟩
        rfl
      · exfalso; simp at h; omega

theorem c_internal_stringslite_Cut (s sep : List UInt8) (r : Int) (hI : Fn Tryz.prog 122 [str s, str sep] (i64 r)) (hr : r = -1 ∨ (0 ≤ r ∧ r + sep.length ≤ s.length)) : Fn Tryz.prog 69 [str s, str sep] (.tup [str (cutAt s sep.length r).1, str (cutAt s sep.length r).2.1, bool (cutAt s sep.length r).2.2]) := by
  intro ob L
  refine a_fn Tryz.func69 rfl (by decide) (Nat.le_of_ble_eq_true rfl) ?_
  show AWP _ _ ⟨23, [(0, str s), (1, str sep)], [], ob, L⟩ _
  refine a_fstr (t := 0) (E rfl) fun hA0 => ?_
  refine a_fstr (t := 1) (E rfl) fun hA1 => ?_
  refine a_seq ?_
  refine a_reg (o1 (p_as (E rfl)) (o1 (p_as (E rfl)) (o1 (p_as (E rfl)) oz))) rfl rfl ?_
  refine a_seq ?_
  refine a_seq ?_
  refine a_reg (o1 (p_mv (E rfl)) (o1 (p_mv (E rfl)) (o1 (p_call (hI) (.cons (E rfl) (.cons (E rfl) .nil)) rfl rfl) (o1 (p_as (E rfl)) oz)))) rfl rfl ?_
  refine a_seq ?_
  refine a_reg (o1 (p_mv (E rfl)) (o1 (p_geq (E rfl) (E rfl)) oz)) rfl rfl ?_
  refine a_cond (E rfl) (fun h => ?_) (fun h => ?_)
  · have h0 : r ≥ 0 := by simpa using h
    have h1 : r + sep.length ≤ s.length := by omega
    refine a_seq ?_
    refine a_regd mix (o1 (p_mv (E rfl)) (o1 (p_mv (E rfl)) (o1 (p_ss_h Tryz.underlying9 (E rfl) (E rfl) (by first | omega | (simp only [beq_iff_eq, decide_eq_true_eq, decide_eq_false_iff_not, Bool.and_eq_true, Bool.and_eq_false_iff, Bool.or_eq_true, Bool.or_eq_false_iff, Bool.not_eq_true', Bool.not_eq_false', bs_length] at *; omega) | (simp at * <;> omega))) (o1 (p_mv (E rfl)) (o1 (p_mv (E rfl)) (o1 (p_mv (E rfl)) (o1 (p_lens Tryz.underlying9 (E rfl)) (o1 (p_addf (E rfl) (E rfl) (fun _ _ => (by first | omega | (simp only [beq_iff_eq, decide_eq_true_eq, decide_eq_false_iff_not, Bool.and_eq_true, Bool.and_eq_false_iff, Bool.or_eq_true, Bool.or_eq_false_iff, Bool.not_eq_true', Bool.not_eq_false', bs_length] at *; omega) | (simp at * <;> omega)))) (o1 (p_ss_l Tryz.underlying9 (E rfl) (E rfl) (by first | omega | (simp only [beq_iff_eq, decide_eq_true_eq, decide_eq_false_iff_not, Bool.and_eq_true, Bool.and_eq_false_iff, Bool.or_eq_true, Bool.or_eq_false_iff, Bool.not_eq_true', Bool.not_eq_false', bs_length] at *; omega) | (simp at * <;> omega))) (o1 (p_as (E rfl)) (o1 (p_as (E rfl)) (o1 (p_as (E rfl)) oz)))))))))))) rfl rfl (by kernel_rfl) ?_
    refine a_ret ?_
    refine ⟨_, resA_three rfl (E rfl) (E rfl) (E rfl), rfl, ?_, rfl, fun _ h => h⟩
    rw [cutAt, if_pos h0]; simp only [cut_take]; rw [show (r + (sep.length : Int)).toNat = r.toNat + sep.length by omega]
  · refine a_skip ?_
    refine a_seq ?_
    refine a_reg (o1 (p_mv (E rfl)) (o1 (p_as (E rfl)) (o1 (p_as (E rfl)) (o1 (p_as (E rfl)) oz)))) rfl rfl ?_
    refine a_ret ?_
    refine ⟨_, resA_three rfl (E rfl) (E rfl) (E rfl), rfl, ?_, rfl, fun _ h => h⟩
    rw [cutAt, if_neg (by simpa using h)]

theorem c_strings_CutI (s sep : List UInt8) (r : Int) (hI : Fn Tryz.prog 122 [str s, str sep] (i64 r)) (hr : r = -1 ∨ (0 ≤ r ∧ r + sep.length ≤ s.length)) : Fn Tryz.prog 35 [str s, str sep] (.tup [str (cutAt s sep.length r).1, str (cutAt s sep.length r).2.1, bool (cutAt s sep.length r).2.2]) := by
  intro ob L
  refine a_fn Tryz.func35 rfl (by decide) (Nat.le_of_ble_eq_true rfl) ?_
  show AWP _ _ ⟨13, [(0, str s), (1, str sep)], [], ob, L⟩ _
  refine a_fstr (t := 0) (E rfl) fun hA0 => ?_
  refine a_fstr (t := 1) (E rfl) fun hA1 => ?_
  refine a_seq ?_
  refine a_reg (o1 (p_as (E rfl)) (o1 (p_as (E rfl)) (o1 (p_as (E rfl)) oz))) rfl rfl ?_
  refine a_seq ?_
  refine a_reg (o1 (p_mv (E rfl)) (o1 (p_mv (E rfl)) (o1 (p_call (c_internal_stringslite_Cut s sep r hI hr) (.cons (E rfl) (.cons (E rfl) .nil)) rfl rfl) (o1 (p_ext (E rfl) rfl) (o1 (p_ext (E rfl) rfl) (o1 (p_ext (E rfl) rfl) (o1 (p_as (E rfl)) (o1 (p_as (E rfl)) (o1 (p_as (E rfl)) oz))))))))) rfl rfl ?_
  refine a_ret ?_
  refine ⟨_, resA_three rfl (E rfl) (E rfl) (E rfl), rfl, ?_, rfl, fun _ h => h⟩
  rfl

theorem c_lines_Trim (s : List UInt8) : Fn Tryz.prog 47 [str s] (str (trim2 s)) := by
  intro ob L
  refine a_fn Tryz.func47 rfl (by decide) (Nat.le_of_ble_eq_true rfl) ?_
  show AWP _ _ ⟨5, [(0, str s)], [], ob, L⟩ _
  refine a_fstr (t := 0) (E rfl) fun hA0 => ?_
  refine a_seq ?_
  refine a_reg (o1 (p_as (E rfl)) oz) rfl rfl ?_
  refine a_seq ?_
  refine a_reg (o1 (p_mv (E rfl)) (o1 (p_call (c_strings_TrimA _ [32, 9] (by decide) (by decide)) (.cons (E rfl) (.cons (E rfl) .nil)) rfl rfl) (o1 (p_as (E rfl)) oz))) rfl rfl ?_
  refine a_ret ?_
  refine ⟨_, resA_one rfl (E rfl), rfl, ?_, rfl, fun _ h => h⟩
  rfl

theorem c_lines_Blank (s : List UInt8) : Fn Tryz.prog 300 [str s] (bool (decide (trim2 s = []))) := by
  intro ob L
  refine a_fn Tryz.func300 rfl (by decide) (Nat.le_of_ble_eq_true rfl) ?_
  show AWP _ _ ⟨6, [(0, str s)], [], ob, L⟩ _
  refine a_fstr (t := 0) (E rfl) fun hA0 => ?_
  refine a_seq ?_
  refine a_reg (o1 (p_as (E rfl)) oz) rfl rfl ?_
  refine a_seq ?_
  refine a_reg (o1 (p_mv (E rfl)) (o1 (p_call (c_lines_Trim _) (.cons (E rfl) .nil) rfl rfl) (o1 (p_eqs (E rfl) (E rfl)) (o1 (p_as (E rfl)) oz)))) rfl rfl ?_
  refine a_ret ?_
  refine ⟨_, resA_one rfl (E rfl), rfl, ?_, rfl, fun _ h => h⟩
  rfl

theorem c_kind_head (s : List UInt8) : Fn Tryz.prog 301 [str s] (i64 (headS s)) := by
  intro ob L
  refine a_fn Tryz.func301 rfl (by decide) (Nat.le_of_ble_eq_true rfl) ?_
  show AWP _ _ ⟨21, [(0, str s)], [], ob, L⟩ _
  refine a_fstr (t := 0) (E rfl) fun hA0 => ?_
  have hrun := runI_le 35 s
  refine a_seq ?_
  refine a_reg (o1 (p_as (E rfl)) oz) rfl rfl ?_
  refine a_seq ?_
  refine a_reg (o1 (p_mv (E rfl)) (o1 (p_call (c_lines_Run _ _) (.cons (E rfl) (.cons (E rfl) .nil)) rfl rfl) (o1 (p_as (E rfl)) oz))) rfl rfl ?_
  refine a_seq ?_
  refine a_seq ?_
  refine a_reg (o1 (p_mv (E rfl)) (o1 (p_gtr (E rfl) (E rfl)) (o1 (p_mv (E rfl)) (g1 rfl rfl (fun h3 => p_mv (E rfl)) (g1 rfl rfl (fun h4 => p_mv (E rfl)) (g1 rfl rfl (fun h5 => p_lens Tryz.underlying9 (Eo rfl h5)) (g1 rfl rfl (fun h6 => p_lss (Eo rfl h6) (Eo rfl h6)) (g1 rfl rfl (fun h7 => p_mv (Eo rfl h7)) (g2 rfl rfl (fun h8 => p_mv (E rfl)) (g2 rfl rfl (fun h9 => p_mv (E rfl)) (g2 rfl rfl (fun h10 => p_idx Tryz.underlying9 (Eo rfl h10) (Eo rfl h10) (by first | omega | (simp only [beq_iff_eq, decide_eq_true_eq, decide_eq_false_iff_not, Bool.and_eq_true, Bool.and_eq_false_iff, Bool.or_eq_true, Bool.or_eq_false_iff, Bool.not_eq_true', Bool.not_eq_false', bs_length] at *; omega) | (simp at * <;> omega))) (g2 rfl rfl (fun h11 => p_ne (Eo rfl h11) (E rfl)) (g1 rfl rfl (fun h12 => p_and (Eo rfl h12) rfl rfl (fun h => ai h12 (bqt h))) (o1 (p_or (E rfl) rfl rfl (fun h => bqf h)) oz)))))))))))))) rfl rfl ?_
  refine a_cond (E rfl) (fun h => ?_) (fun h => ?_)
  · refine a_seq ?_
    refine a_reg (o1 (p_as (E rfl)) oz) rfl rfl ?_
    refine a_ret ?_
    refine ⟨_, resA_one rfl (E rfl), rfl, ?_, rfl, fun _ h => h⟩
    rw [headS, if_pos (by simpa using h)]
  · refine a_skip ?_
    refine a_seq ?_
    refine a_reg (o1 (p_mv (E rfl)) (o1 (p_as (E rfl)) oz)) rfl rfl ?_
    refine a_ret ?_
    refine ⟨_, resA_one rfl (E rfl), rfl, ?_, rfl, fun _ h => h⟩
    rw [headS, if_neg (by simpa using h)]

theorem c_kind_open_lt (s : List UInt8) (hl : runI 96 s < 3) : Fn Tryz.prog 302 [str s] (i64 0) := by
  intro ob L
  refine a_fn Tryz.func302 rfl (by decide) (Nat.le_of_ble_eq_true rfl) ?_
  show AWP _ _ ⟨16, [(0, str s)], [], ob, L⟩ _
  refine a_fstr (t := 0) (E rfl) fun hA0 => ?_
  refine a_seq ?_
  refine a_reg (o1 (p_as (E rfl)) oz) rfl rfl ?_
  refine a_seq ?_
  refine a_reg (o1 (p_mv (E rfl)) (o1 (p_idx Tryz.underlying9 (E rfl) (E rfl) (by decide)) (o1 (p_call (c_lines_Run s 96) (.cons (E rfl) (.cons (E rfl) .nil)) rfl rfl) (o1 (p_as (E rfl)) oz)))) rfl rfl ?_
  refine a_seq ?_
  refine a_seq ?_
  refine a_reg (o1 (p_mv (E rfl)) (o1 (p_lss (E rfl) (E rfl)) (o1 (p_mv (E rfl)) (g1 rfl rfl (fun h3 => p_mv (E rfl)) (g1 rfl rfl (fun h4 => p_mv (E rfl)) (g1 rfl rfl (fun h5 => (by exfalso; simp at h5; omega : POp _ _ _ _ _ _ (str []))) (g1 rfl rfl (fun h6 => (by exfalso; simp at h6; omega : POp _ _ _ _ _ _ (bool false))) (o1 (p_or (E rfl) rfl rfl (fun h => bqf h)) oz)))))))) rfl rfl ?_
  refine a_cond (E rfl) (fun h => ?_) (fun h => ?_)
  · refine a_seq ?_
    refine a_reg (o1 (p_as (E rfl)) oz) rfl rfl ?_
    refine a_ret ?_
    refine ⟨_, resA_one rfl (E rfl), rfl, ?_, rfl, fun _ h => h⟩
    rfl
  · exfalso; simp at h; omega

theorem c_kind_define_no (s : List UInt8) (hI : Fn Tryz.prog 122 [str s, str [93, 58, 32]] (i64 (-1))) : Fn Tryz.prog 303 [str s] (.tup [str [], str [], bool false]) := by
  intro ob L
  refine a_fn Tryz.func303 rfl (by decide) (Nat.le_of_ble_eq_true rfl) ?_
  show AWP _ _ ⟨28, [(0, str s)], [], ob, L⟩ _
  refine a_fstr (t := 0) (E rfl) fun hA0 => ?_
  refine a_seq ?_
  refine a_reg (o1 (p_as (E rfl)) (o1 (p_as (E rfl)) (o1 (p_as (E rfl)) oz))) rfl rfl ?_
  refine a_seq ?_
  refine a_reg (o1 (p_mv (E rfl)) (o1 (p_call (c_strings_CutI s [93, 58, 32] (-1) hI (.inl rfl)) (.cons (E rfl) (.cons (E rfl) .nil)) rfl rfl) (o1 (p_mv (E rfl)) (o1 (p_ext (E rfl) rfl) (o1 (p_ext (E rfl) rfl) (o1 (p_ext (E rfl) rfl) (o1 (p_as (E rfl)) (o1 (p_as (E rfl)) (o1 (p_as (E rfl)) oz))))))))) rfl rfl ?_
  refine a_seq ?_
  refine a_seq ?_
  refine a_reg (o1 (p_mv (E rfl)) (o1 (p_not (E rfl)) (o1 (p_mv (E rfl)) (g1 rfl rfl (fun h3 => p_mv (E rfl)) (g1 rfl rfl (fun h4 => p_call (c_strings_HasPrefix _ _) (.cons (Eo rfl h4) (.cons (E rfl) .nil)) rfl rfl) (g1 rfl rfl (fun h5 => p_not (Eo rfl h5)) (o1 (p_or (E rfl) rfl rfl (fun h => bqf h)) oz))))))) rfl rfl ?_
  refine a_cond (E rfl) (fun h => ?_) (fun h => ?_)
  · refine a_seq ?_
    refine a_reg (o1 (p_as (E rfl)) (o1 (p_as (E rfl)) (o1 (p_as (E rfl)) oz))) rfl rfl ?_
    refine a_ret ?_
    refine ⟨_, resA_three rfl (E rfl) (E rfl) (E rfl), rfl, ?_, rfl, fun _ h => h⟩
    rfl
  · exfalso; simp [cutAt] at h

theorem c_kind_Of_one (c : UInt8) (hc : 97 ≤ c.toNat ∧ c.toNat ≤ 122) : Fn Tryz.prog 283 [str [c]] (i64 8) := by
  intro ob L
  refine a_fn Tryz.func283 rfl (by decide) (Nat.le_of_ble_eq_true rfl) ?_
  show AWP _ _ ⟨46, [(0, str [c])], [], ob, L⟩ _
  refine a_fstr (t := 0) (E rfl) fun hA0 => ?_
  have hr35 : runI 35 [c] = 0 := by simp [runI]; omega
  have hr96 : runI 96 [c] = 0 := by simp [runI]; omega
  have ht : trim2 [c] = [c] := by
    have h1 : inS [32, 9] c.toNat = false := by simp [inS]; omega
    simp [trim2, trimA, trimRA, trimLA, h1]
  refine a_seq ?_
  refine a_reg (o1 (p_as (E rfl)) oz) rfl rfl ?_
  refine a_seq ?_
  refine a_block ?_
  refine a_seq ?_
  refine a_reg (o1 (p_mv (E rfl)) (o1 (p_call (c_lines_Blank _) (.cons (E rfl) .nil) rfl rfl) (o1 (p_as (E rfl)) oz))) rfl rfl ?_
  refine a_cond (E rfl) (fun h => ?_) (fun h => ?_)
  · exfalso; rw [ht] at h; simp at h
  · refine a_seq ?_
    refine a_reg (o1 (p_mv (E rfl)) (o1 (p_call (c_kind_head _) (.cons (E rfl) .nil) rfl rfl) (o1 (p_gtr (E rfl) (E rfl)) (o1 (p_as (E rfl)) oz)))) rfl rfl ?_
    refine a_cond (E rfl) (fun h => ?_) (fun h => ?_)
    · exfalso; simp [headS, hr35] at h
    · refine a_seq ?_
      refine a_reg (o1 (p_mv (E rfl)) (o1 (p_lens Tryz.underlying9 (E rfl)) (o1 (p_geq (E rfl) (E rfl)) (o1 (p_mv (E rfl)) (g1 rfl rfl (fun h4 => p_mv (E rfl)) (g1 rfl rfl (fun h5 => p_call (c_lines_Run _ _) (.cons (Eo rfl h5) (.cons (E rfl) .nil)) rfl rfl) (g1 rfl rfl (fun h6 => p_mv (E rfl)) (g1 rfl rfl (fun h7 => p_lens Tryz.underlying9 (Eo rfl h7)) (g1 rfl rfl (fun h8 => p_eq (Eo rfl h8) (Eo rfl h8)) (o1 (p_and (E rfl) rfl rfl (fun h => bqt h)) (o1 (p_as (E rfl)) oz))))))))))) rfl rfl ?_
      refine a_cond (E rfl) (fun h => ?_) (fun h => ?_)
      · exfalso; simp at h
      · refine a_seq ?_
        refine a_reg (o1 (p_mv (E rfl)) (o1 (p_call (c_kind_open_lt _ (by rw [hr96]; omega)) (.cons (E rfl) .nil) rfl rfl) (o1 (p_gtr (E rfl) (E rfl)) (o1 (p_as (E rfl)) oz)))) rfl rfl ?_
        refine a_cond (E rfl) (fun h => ?_) (fun h => ?_)
        · exfalso; simp at h
        · refine a_seq ?_
          refine a_reg (o1 (p_mv (E rfl)) (o1 (p_idx Tryz.underlying9 (E rfl) (E rfl) (by first | omega | (simp only [beq_iff_eq, decide_eq_true_eq, decide_eq_false_iff_not, Bool.and_eq_true, Bool.and_eq_false_iff, Bool.or_eq_true, Bool.or_eq_false_iff, Bool.not_eq_true', Bool.not_eq_false', bs_length] at *; omega) | (simp at * <;> omega))) (o1 (p_eq (E rfl) (E rfl)) (o1 (p_as (E rfl)) oz)))) rfl rfl ?_
          refine a_cond (E rfl) (fun h => ?_) (fun h => ?_)
          · exfalso; simp [bt] at h; omega
          · refine a_seq ?_
            refine a_reg (o1 (p_mv (E rfl)) (o1 (p_eqs (E rfl) (E rfl)) (o1 (p_mv (E rfl)) (g1 rfl rfl (fun h3 => p_mv (E rfl)) (g1 rfl rfl (fun h4 => p_call (c_strings_HasPrefix _ _) (.cons (Eo rfl h4) (.cons (E rfl) .nil)) rfl rfl) (o1 (p_or (E rfl) rfl rfl (fun h => bqf h)) (o1 (p_as (E rfl)) oz))))))) rfl rfl ?_
            refine a_cond (E rfl) (fun h => ?_) (fun h => ?_)
            · exfalso; simp at h; rw [h] at hc; simp at hc
            · refine a_skip ?_
              refine a_seq ?_
              refine a_seq ?_
              refine a_reg (o1 (p_mv (E rfl)) (o1 (p_call (c_kind_define_no _ (c_Index_long _ _ (by decide) (by simp))) (.cons (E rfl) .nil) rfl rfl) (o1 (p_mv (E rfl)) (o1 (p_ext (E rfl) rfl) (o1 (p_ext (E rfl) rfl) (o1 (p_ext (E rfl) rfl) (o1 (p_as (E rfl)) (o1 (p_as (E rfl)) (o1 (p_as (E rfl)) oz))))))))) rfl rfl ?_
              refine a_seq ?_
              refine a_reg (o1 (p_mv (E rfl)) oz) rfl rfl ?_
              refine a_cond (E rfl) (fun h => ?_) (fun h => ?_)
              · exfalso; simp at h
              · refine a_skip ?_
                refine a_seq ?_
                refine a_reg (o1 (p_as (E rfl)) oz) rfl rfl ?_
                refine a_ret ?_
                refine ⟨_, resA_one rfl (E rfl), rfl, ?_, rfl, fun _ h => h⟩
                rfl


end Go.Proofs.YtcemejmegbefgaaGreatDoor.Em

set_option maxRecDepth 100000
set_option linter.unusedVariables false
set_option linter.unusedSimpArgs false
namespace Go.Proofs.YtcemejmegbefgaaGreatDoor.Em
open Go.Proofs

/-! Reading documents of one line. -/
theorem rng {c : UInt8} (hc : c = 97 ∨ c = 98) : 97 ≤ c.toNat ∧ c.toNat ≤ 122 := by rcases hc with rfl | rfl <;> decide
abbrev RD (l : List (List UInt8)) (at_ deep : Int) : List PV := [lst 1 (encStrs l), i64 at_, i64 deep]
def hereS (K : List UInt8 → Int) (l : List (List UInt8)) (a : Int) : Int := if a ≥ l.length then 0 else K (l.getD a.toNat [])
def runCnt (K : List UInt8 → Int) (k : Int) : List (List UInt8) → Nat
  | [] => 0
  | s :: r => if K s = k then runCnt K k r + 1 else 0
theorem runCnt_le (K : List UInt8 → Int) (k : Int) : ∀ l, runCnt K k l ≤ l.length
  | [] => Nat.le_refl _
  | s :: r => by have := runCnt_le K k r; simp only [runCnt, List.length_cons]; split <;> omega
theorem runCnt_at (K : List UInt8 → Int) (k : Int) (hk : k ≠ 0) : ∀ (l : List (List UInt8)) (j : Nat), j ≤ runCnt K k l → (hereS K l j = k ↔ j < runCnt K k l)
  | [], j, h => by simp [runCnt] at h; subst h; simp [hereS, runCnt]; exact fun e => hk e.symm
  | s :: r, 0, h => by
    simp only [runCnt, hereS]
    simp
    rw [if_neg (by omega)]
    split <;> simp_all
  | s :: r, j + 1, h => by
    simp only [runCnt] at h ⊢
    split at h
    · rename_i hs
      rw [if_pos hs]
      have ih := runCnt_at K k hk r j (by omega)
      have e : hereS K (s :: r) ((j + 1 : Nat) : Int) = hereS K r j := by
        unfold hereS
        simp only [List.length_cons]
        by_cases hj : j < r.length
        · rw [if_neg (by omega), if_neg (by omega)]; simp
        · rw [if_pos (by omega), if_pos (by omega)]
      rw [e, ih]; omega
    · omega
theorem hereS_drop (K : List UInt8 → Int) (l : List (List UInt8)) (a j : Nat) : hereS K (l.drop a) j = hereS K l ((a : Int) + j) := by
  unfold hereS
  by_cases h : a + j < l.length
  · rw [if_neg (by simp; omega), if_neg (by omega)]
    simp [show ((a : Int) + j).toNat = a + j by omega, List.getD_eq_getElem?_getD]
  · rw [if_pos (by simp; omega), if_pos (by omega)]
def blk1 (c : UInt8) : List D := [.v (.int .i64 1), .v (.int .i64 0), .v (.string ⟨#[]⟩), .lst 1 [], .lst 3 (encs [.mk 1 [c] []]), .lst 6 []]
theorem parse1 {c : UInt8} (hc : c = 97 ∨ c = 98) : parseS [c] = [.mk 1 [c] []] := by
  rcases hc with rfl | rfl <;> rfl
theorem set_same {α : Type} {l : List α} {i : Nat} {x : α} (h : l[i]? = some x) : l.set i x = l := by
  apply List.ext_getElem?
  intro j
  by_cases e : i = j
  · subst e; rw [List.getElem?_set_self (List.getElem?_eq_some_iff.1 h).1, h]
  · rw [List.getElem?_set_ne e]
theorem set_get {α : Type} {l : List α} {i : Nat} {x : α} (h : l[i]? = some x) (y : α) : (l.set i y)[i]? = some y := List.getElem?_set_self (List.getElem?_eq_some_iff.1 h).1

theorem c_Valid_short (s : List UInt8) (hs : ∀ b ∈ s, b.toNat < 128) (hl : s.length ≤ 8) : Fn Tryz.prog 79 [lst 1 (bs s)] (bool true) := by
  intro ob L
  refine a_fn Tryz.func79 rfl (by decide) (Nat.le_of_ble_eq_true rfl) ?_
  show AWP _ _ ⟨188, [(0, lst 1 (bs s))], [], ob, L⟩ _
  refine a_flst (t := 0) (E rfl) fun hA0 => ?_
  refine a_seq ?_
  refine a_reg (o1 (p_as (E rfl)) oz) rfl rfl ?_
  refine a_seq ?_
  refine a_reg (o1 (p_mv (E rfl)) (o1 (p_mv (E rfl)) (o1 (p_lenl Tryz.underlying84 (E rfl)) (o1 (p_mv (E rfl)) (o1 (p_lenl Tryz.underlying84 (E rfl)) (o1 (p_sl_hm Tryz.underlying84 ty_sz_5 (E rfl) (E rfl) (E rfl) (by first | omega | (simp only [beq_iff_eq, decide_eq_true_eq, decide_eq_false_iff_not, Bool.and_eq_true, Bool.and_eq_false_iff, Bool.or_eq_true, Bool.or_eq_false_iff, Bool.not_eq_true', Bool.not_eq_false', bs_length] at *; omega) | (simp at * <;> omega)) (by first | omega | (simp only [beq_iff_eq, decide_eq_true_eq, decide_eq_false_iff_not, Bool.and_eq_true, Bool.and_eq_false_iff, Bool.or_eq_true, Bool.or_eq_false_iff, Bool.not_eq_true', Bool.not_eq_false', bs_length] at *; omega) | (simp at * <;> omega))) (o1 (p_as (E rfl)) oz))))))) rfl rfl ?_
  refine a_seq ?_
  refine a_block ?_
  refine a_loop (fun p : List UInt8 => (∀ b ∈ p, b.toNat < 128) ∧ p.length ≤ 8) (fun p => p.length) (fun p => ⟨188, [(0, lst 1 (bs p))], [], ob, L⟩) s ⟨hs, hl⟩ ⟨rfl, rfl, rfl, fun _ h => h, E rfl, trivial⟩ fun p hp => ?_
  obtain ⟨hp, hpl⟩ := hp
  refine a_seq ?_
  refine a_seq ?_
  refine a_reg (o1 (p_mv (E rfl)) (o1 (p_lenl Tryz.underlying84 (E rfl)) (o1 (p_gtr (E rfl) (E rfl)) oz))) rfl rfl ?_
  refine a_cond (E rfl) (fun h => ?_) (fun h => ?_)
  · obtain ⟨x, xs, rfl⟩ : ∃ x xs, p = x :: xs := by
      cases p with
      | nil => simp [bs] at h
      | cons x xs => exact ⟨x, xs, rfl⟩
    have hx := hp x List.mem_cons_self
    refine a_skip ?_
    refine a_block ?_
    refine a_seq ?_
    refine a_reg (o1 (p_mv (E rfl)) (o1 (p_ia Tryz.underlying84 ty_sz_5 (E rfl) (E rfl) (by simp [bs] <;> omega) (c := [.v (.int .u8 x.toNat)]) rfl) (o1 (p_ld ty_na_5 (E rfl)) (o1 (p_as (E rfl)) oz)))) rfl rfl ?_
    refine a_seq ?_
    refine a_seq ?_
    refine a_reg (o1 (p_mv (E rfl)) (o1 (p_lss (E rfl) (E rfl)) oz)) rfl rfl ?_
    refine a_cond (E rfl) (fun h => ?_) (fun h => ?_)
    · refine a_seq ?_
      refine a_reg (o1 (p_mv (E rfl)) (o1 (p_sl_l Tryz.underlying84 ty_sz_5 (E rfl) (E rfl) (by first | omega | (simp only [beq_iff_eq, decide_eq_true_eq, decide_eq_false_iff_not, Bool.and_eq_true, Bool.and_eq_false_iff, Bool.or_eq_true, Bool.or_eq_false_iff, Bool.not_eq_true', Bool.not_eq_false', bs_length] at *; omega) | (simp at * <;> omega))) (o1 (p_as (E rfl)) oz))) rfl rfl ?_
      refine a_seq ?_
      refine a_seq ?_
      refine a_reg (o1 (p_mv (E rfl)) (o1 (p_lenl Tryz.underlying84 (E rfl)) (o1 (p_gtr (E rfl) (E rfl)) (o1 (p_mv (E rfl)) (g1 rfl rfl (fun h4 => p_mv (E rfl)) (g1 rfl rfl (fun h5 => (by exfalso; simp [bs] at h5 hpl; omega : POp _ _ _ _ _ _ (int .u64 0))) (g1 rfl rfl (fun h6 => (by exfalso; simp [bs] at h6 hpl; omega : POp _ _ _ _ _ _ (int .u64 0))) (g1 rfl rfl (fun h7 => p_eq (Eo rfl h7) (E rfl)) (o1 (p_and (E rfl) rfl rfl (fun h => bqt h)) oz))))))))) rfl rfl ?_
      refine a_cond (E rfl) (fun h => ?_) (fun h => ?_)
      · exfalso; simp [bs] at h hpl; omega
      · refine a_skip ?_
        refine a_exit ?_
        exact ⟨xs, ⟨fun b hb => hp b (List.mem_cons_of_mem _ hb), by simp at hpl; omega⟩, by simp, rfl, rfl, rfl, fun _ h => h, Eq_ rfl (by simp [bs]), trivial⟩
    · exfalso; simp at h; omega
  · refine a_exit ?_
    refine a_seq ?_
    refine a_reg (o1 (p_as (E rfl)) oz) rfl rfl ?_
    refine a_ret ?_
    refine ⟨_, resA_one rfl (E rfl), rfl, ?_, rfl, fun _ h => h⟩
    rfl

theorem c_Check_short (s : List UInt8) (hs : ∀ b ∈ s, b.toNat < 128) (h0 : ∀ b ∈ s, b.toNat ≠ 0) (hl : s.length ≤ 8) : Fn Tryz.prog 44 [lst 1 (bs s)] (i64 0) := by
  intro ob L
  refine a_fn Tryz.func44 rfl (by decide) (Nat.le_of_ble_eq_true rfl) ?_
  show AWP _ _ ⟨15, [(0, lst 1 (bs s))], [], ob, L⟩ _
  refine a_flst (t := 0) (E rfl) fun hA0 => ?_
  have hi : idxI 0 s = -1 := idxI_none fun b hb => by have := h0 b hb; omega
  refine a_seq ?_
  refine a_reg (o1 (p_as (E rfl)) oz) rfl rfl ?_
  refine a_seq ?_
  refine a_block ?_
  refine a_seq ?_
  refine a_reg (o1 (p_mv (E rfl)) (o1 (p_lenl Tryz.underlying84 (E rfl)) (o1 (p_gtr (E rfl) (E rfl)) (o1 (p_as (E rfl)) oz)))) rfl rfl ?_
  refine a_cond (E rfl) (fun h => ?_) (fun h => ?_)
  · exfalso; simp [bs] at h; omega
  · refine a_seq ?_
    refine a_reg (o1 (p_mv (E rfl)) (o1 (p_call (c_bytes_IndexByte s 0) (.cons (E rfl) (.cons (E rfl) .nil)) rfl rfl) (o1 (p_geq (E rfl) (E rfl)) (o1 (p_as (E rfl)) oz)))) rfl rfl ?_
    refine a_cond (E rfl) (fun h => ?_) (fun h => ?_)
    · exfalso; simp [hi] at h
    · refine a_seq ?_
      refine a_reg (o1 (p_mv (E rfl)) (o1 (p_call (c_Valid_short s hs hl) (.cons (E rfl) .nil) rfl rfl) (o1 (p_not (E rfl)) (o1 (p_as (E rfl)) oz)))) rfl rfl ?_
      refine a_cond (E rfl) (fun h => ?_) (fun h => ?_)
      · exfalso; simp at h
      · refine a_skip ?_
        refine a_seq ?_
        refine a_reg (o1 (p_as (E rfl)) oz) rfl rfl ?_
        refine a_ret ?_
        refine ⟨_, resA_one rfl (E rfl), rfl, ?_, rfl, fun _ h => h⟩
        rfl

theorem c_Split_one (c : UInt8) (hc : c = 97 ∨ c = 98) : Fn Tryz.prog 109 [str [c, 10]] (.tup [lst 1 (encStrs [[c]]), bool true]) := by
  intro ob L
  refine a_fn Tryz.func109 rfl (by decide) (Nat.le_of_ble_eq_true rfl) ?_
  show AWP _ _ ⟨44, [(0, str [c, 10])], [], ob, L⟩ _
  refine a_fstr (t := 0) (E rfl) fun hA0 => ?_
  have hix : idxO (inS [13, 10]) [c, 10] 0 = 1 := by rcases hc with rfl | rfl <;> rfl
  refine a_seq ?_
  refine a_reg (o1 (p_as (E rfl)) (o1 (p_as (E rfl)) oz)) rfl rfl ?_
  refine a_scope ?_
  refine a_seq ?_
  refine a_reg (o1 (p_as (E rfl)) oz) rfl rfl ?_
  refine a_accr (t := 4) 9 1 rfl fun k hk0 => ?_
  have hk : k ∈ k :: L := List.mem_cons_self
  refine a_seq ?_
  refine a_label ?_
  refine a_seq ?_
  refine a_block ?_
  refine a_unroll 2 ?_
  refine au_s (n := 1) ?_
  refine a_seq ?_
  refine a_seq ?_
  refine a_reg (o1 (p_mv (E rfl)) (o1 (p_nes (E rfl) (E rfl)) oz)) rfl rfl ?_
  refine a_cond (E rfl) (fun h => ?_) (fun h => ?_)
  · refine a_skip ?_
    refine a_block ?_
    refine a_seq ?_
    refine a_reg (o1 (p_mv (E rfl)) (o1 (p_call (c_strings_IndexAny _ [13, 10] (by decide) (by decide)) (.cons (E rfl) (.cons (E rfl) .nil)) rfl rfl) (o1 (p_as (E rfl)) oz))) rfl rfl ?_
    refine a_seq ?_
    refine a_block ?_
    refine a_seq ?_
    refine a_reg (o1 (p_mv (E rfl)) (o1 (p_lss (E rfl) (E rfl)) (o1 (p_as (E rfl)) oz))) rfl rfl ?_
    refine a_cond (E rfl) (fun h => ?_) (fun h => ?_)
    · exfalso; rw [hix] at h; simp at h
    · refine a_seq ?_
      refine a_reg (o1 (p_mv (E rfl)) (o1 (p_mv (E rfl)) (o1 (p_ss_l Tryz.underlying9 (E rfl) (E rfl) (by rw [hix]; simp)) (o1 (p_call (c_strings_HasPrefix _ _) (.cons (E rfl) (.cons (E rfl) .nil)) rfl rfl) (o1 (p_as (E rfl)) oz))))) rfl rfl ?_
      refine a_cond (E rfl) (fun h => ?_) (fun h => ?_)
      · exfalso; simp [hix, cut] at h
      · refine a_skip ?_
        refine a_regde (fun _ _ _ => True) [5, 10] mix (.free rfl rfl (fun _ _ _ hG => .op rfl (p_mv (E rfl))) (.free rfl rfl (fun _ _ _ hG => .op rfl (p_mv (E rfl))) (.free rfl rfl (fun _ _ _ hG => .op rfl (p_mv (E rfl))) (.free rfl rfl (fun _ _ _ hG => .op rfl (p_ss_h Tryz.underlying9 (E rfl) (E rfl) (by rw [hix]; simp))) (.free rfl rfl (fun _ _ _ hG => .op rfl (p_bs (xs := [.tmp 36]) (sz := 1) Tryz.underlying33 ty_zo_9 rfl rfl rfl (.cons (E rfl) .nil) rfl rfl rfl)) (.chain rfl (.free rfl rfl (fun _ _ _ hG => .op rfl (p_mv (E rfl))) (.free rfl rfl (fun _ _ _ hG => .op rfl (p_mv (E rfl))) (.free rfl rfl (fun _ _ _ hG => .op rfl (p_addf (E rfl) (E rfl) (fun _ _ => (by rw [hix]; simp)))) (.free rfl rfl (fun _ _ _ hG => .op rfl (p_ss_l Tryz.underlying9 (E rfl) (E rfl) (by rw [hix]; simp))) (.chain rfl (.free rfl rfl (fun _ _ _ hG => .op rfl (p_as (E rfl))) .nil)))))))))))) rfl rfl (by kernel_rfl) ?_
        refine ch_e trivial rfl (by kernel_rfl) (e_appr (Lr := L) Tryz.underlying33 ty_zo_9 rfl ty_by_9 rfl rfl hk (E rfl) (by simp) (fun j hj => ⟨List.mem_cons_of_mem _ hj, fun e => hk0 (e ▸ hj)⟩) (fun k' hk' => ?_))
        refine ⟨rfl, [_], rfl, rfl, rfl, ?_⟩
        refine ch_o trivial rfl (by kernel_rfl) (p_as (E rfl)) rfl rfl ?_
        refine ch_nil trivial ?_
        have hk0 : k' ∉ L := fun h => hk' (List.mem_cons_of_mem _ h)
        refine au_s (n := 0) ?_
        refine a_seq ?_
        refine a_seq ?_
        refine a_reg (o1 (p_mv (E rfl)) (o1 (p_nes (E rfl) (E rfl)) oz)) rfl rfl ?_
        refine a_cond (E rfl) (fun h => ?_) (fun h => ?_)
        · exfalso; simp [hix, cut] at h
        · refine a_exit ?_
          refine a_seq ?_
          refine a_reg (o1 (p_mv (E rfl)) (o1 (p_as (E rfl)) (o1 (p_as (E rfl)) oz))) rfl rfl ?_
          refine a_frz (t := 2) (Lr := L) rfl List.mem_cons_self (fun j hj => ⟨List.mem_cons_of_mem _ hj, fun e => hk0 (e ▸ hj)⟩) ?_
          refine a_ret ?_
          refine ⟨_, resA_two rfl (E rfl) (E rfl), rfl, ?_, rfl, fun _ h => h⟩
          simp [hix, cut, encStrs, PV.cellsD, PV.toD]
  · exfalso; simp at h

theorem c_Join_one (s sep : List UInt8) : Fn Tryz.prog 64 [lst 1 (encStrs [s]), str sep] (str s) := by
  intro ob L
  refine a_fn Tryz.func64 rfl (by decide) (Nat.le_of_ble_eq_true rfl) ?_
  show AWP _ _ ⟨75, [(0, lst 1 (encStrs [s])), (1, str sep)], [], ob, L⟩ _
  refine a_flst (t := 0) (E rfl) fun hA0 => ?_
  refine a_fstr (t := 1) (E rfl) fun hA1 => ?_
  refine a_seq ?_
  refine a_reg (o1 (p_as (E rfl)) oz) rfl rfl ?_
  refine a_seq ?_
  refine a_seq ?_
  refine a_reg (o1 (p_mv (E rfl)) (o1 (p_lenl Tryz.underlying33 (E rfl)) oz)) rfl rfl ?_
  refine a_block ?_
  refine a_seq ?_
  refine a_reg (o1 (p_eq (E rfl) (E rfl)) (o1 (p_as (E rfl)) oz)) rfl rfl ?_
  refine a_cond (E rfl) (fun h => ?_) (fun h => ?_)
  · exfalso; simp [encStrs] at h
  · refine a_seq ?_
    refine a_reg (o1 (p_eq (E rfl) (E rfl)) (o1 (p_as (E rfl)) oz)) rfl rfl ?_
    refine a_cond (E rfl) (fun h => ?_) (fun h => ?_)
    · refine a_seq ?_
      refine a_reg (o1 (p_mv (E rfl)) (o1 (p_ia Tryz.underlying33 ty_sz_9 (E rfl) (E rfl) (by simp [encStrs]) (c := [.v (.string ⟨s.toArray⟩)]) rfl) (o1 (p_ld ty_na_9 (E rfl)) (o1 (p_as (E rfl)) oz)))) rfl rfl ?_
      refine a_ret ?_
      refine ⟨_, resA_one rfl (E rfl), rfl, ?_, rfl, fun _ h => h⟩
      rfl
    · exfalso; simp [encStrs] at h

theorem c_parse_reader_here (l : List (List UInt8)) (a deep : Int) (h0 : 0 ≤ a) (K : List UInt8 → Int) (hK : ∀ s ∈ l, Fn Tryz.prog 283 [str s] (i64 (K s))) : FnR Tryz.prog 263 (fun o => [.ptr o 0]) (RD l a deep) (i64 (hereS K l a)) := by
  intro ob L o hob
  refine a_fn Tryz.func263 rfl (by decide) (Nat.le_of_ble_eq_true rfl) ?_
  show AWP _ _ ⟨24, [(0, .ptr o 0)], [], ob, L⟩ _
  refine a_seq ?_
  refine a_reg (o1 (p_as (E rfl)) oz) rfl rfl ?_
  refine a_seq ?_
  refine a_seq ?_
  refine a_regd mix (o1 (p_mv (E rfl)) (o1 (p_nck (E rfl) rfl) (o1 (p_fap ty_fo_277_1 (E rfl)) (o1 (p_ldp ty_na_3 (E rfl) hob rfl) (o1 (p_mv (E rfl)) (o1 (p_nck (E rfl) rfl) (o1 (p_fap ty_fo_277_0 (E rfl)) (o1 (p_ldp ty_na_33 (E rfl) hob rfl) (o1 (p_lenl Tryz.underlying33 (E rfl)) (o1 (p_geq (E rfl) (E rfl)) oz)))))))))) rfl rfl (by kernel_rfl) ?_
  refine a_cond (E rfl) (fun h => ?_) (fun h => ?_)
  · refine a_seq ?_
    refine a_reg (o1 (p_as (E rfl)) oz) rfl rfl ?_
    refine a_ret ?_
    refine ⟨_, resA_one rfl (E rfl), rfl, ?_, rfl, fun _ h => h⟩
    rw [hereS, if_pos (by simpa [encStrs_length] using h)]
  · have hlt : a < l.length := by simpa [encStrs_length] using h
    obtain ⟨x, hx⟩ : ∃ x, l[a.toNat]? = some x := ⟨l[a.toNat]'(by omega), List.getElem?_eq_getElem (by omega)⟩
    refine a_skip ?_
    refine a_seq ?_
    refine a_regd mix (o1 (p_mv (E rfl)) (o1 (p_nck (E rfl) rfl) (o1 (p_fap ty_fo_277_0 (E rfl)) (o1 (p_ldp ty_na_33 (E rfl) hob rfl) (o1 (p_mv (E rfl)) (o1 (p_nck (E rfl) rfl) (o1 (p_fap ty_fo_277_1 (E rfl)) (o1 (p_ldp ty_na_3 (E rfl) hob rfl) (o1 (p_ia Tryz.underlying33 ty_sz_9 (E rfl) (E rfl) (by have := encStrs_length l; omega) (mg hx)) (o1 (p_ld ty_na_9 (E rfl)) (o1 (p_call (hK x (List.mem_of_getElem? hx)) (.cons (E rfl) .nil) rfl rfl) (o1 (p_as (E rfl)) oz)))))))))))) rfl rfl (by kernel_rfl) ?_
    refine a_ret ?_
    refine ⟨_, resA_one rfl (E rfl), rfl, ?_, rfl, fun _ h => h⟩
    rw [hereS, if_neg (by omega)]; simp [List.getD_eq_getElem?_getD, hx]

theorem c_parse_reader_run (l : List (List UInt8)) (hll : l.length ≤ 4294967296) (a : Nat) (deep k : Int) (hk : k ≠ 0) (ha : a ≤ l.length) (K : List UInt8 → Int) (hK : ∀ s ∈ l, Fn Tryz.prog 283 [str s] (i64 (K s))) : FnM Tryz.prog 262 (fun o => [.ptr o 0, i64 k]) (RD l a deep) (RD l (a + runCnt K k (l.drop a) : Nat) deep) (lst 1 (encStrs ((l.drop a).take (runCnt K k (l.drop a))))) := by
  intro ob L o hob
  refine a_fn Tryz.func262 rfl (by decide) (Nat.le_of_ble_eq_true rfl) ?_
  show AWP _ _ ⟨31, [(0, .ptr o 0), (1, i64 k)], [], ob, L⟩ _
  refine a_fint (t := 1) (E rfl) fun hA1 => ?_
  have hle := runCnt_le K k (l.drop a)
  have hob1 : ∀ p : Int, (ob.set o (RD l p deep))[o]? = some (RD l p deep) := fun p => set_get hob _
  refine a_seq ?_
  refine a_reg (o1 (p_as (E rfl)) oz) rfl rfl ?_
  refine a_seq ?_
  refine a_reg (o1 (p_mv (E rfl)) (o1 (p_nck (E rfl) rfl) (o1 (p_fap ty_fo_277_1 (E rfl)) (o1 (p_ldp ty_na_2 (E rfl) hob rfl) (o1 (p_as (E rfl)) oz))))) rfl rfl ?_
  refine a_seq ?_
  refine a_block ?_
  refine a_loop (fun j : Nat => j ≤ runCnt K k (l.drop a)) (fun j => runCnt K k (l.drop a) - j) (fun j => ⟨31, [(0, .ptr o 0), (1, i64 k), (5, i64 a)], [], ob.set o (RD l (a + j : Nat) deep), L⟩) 0 (Nat.zero_le _) ⟨rfl, rfl, (set_same hob).symm ▸ rfl, fun _ h => h, E rfl, E rfl, E rfl, trivial⟩ fun j hj => ?_
  have hat := runCnt_at K k hk (l.drop a) j hj
  rw [hereS_drop] at hat
  refine a_seq ?_
  refine a_seq ?_
  refine a_reg (o1 (p_mv (E rfl)) (o1 (p_callp (c_parse_reader_here l _ deep (by omega) K hK) (.cons (E rfl) .nil) rfl (hob1 _) rfl rfl) (o1 (p_mv (E rfl)) (o1 (p_eq (E rfl) (E rfl)) oz)))) rfl rfl ?_
  refine a_cond (E rfl) (fun h => ?_) (fun h => ?_)
  · have hlt := hat.1 (by simpa using h)
    refine a_skip ?_
    refine a_block ?_
    refine a_regl ?_
    refine l_o (p_mv (E rfl)) rfl ?_
    refine l_o (p_nck (E rfl) rfl) rfl ?_
    refine l_o (p_fap ty_fo_277_1 (E rfl)) rfl ?_
    refine l_o (p_ldp ty_na_3 (E rfl) (hob1 _) rfl) rfl ?_
    refine l_o (p_addf (E rfl) (E rfl) (fun _ _ => (by first | omega | (simp [encStrs_length] at *; omega)))) rfl ?_
    refine l_o (p_nck (E rfl) rfl) rfl ?_
    refine l_o (p_fap ty_fo_277_1 (E rfl)) rfl ?_
    refine l_e (e_stp ty_sz_3 rfl (hob1 _) (E rfl) rfl rfl rfl ?_)
    refine l_nil ?_
    refine ⟨j + 1, by omega, by omega, rfl, rfl, ?_, fun _ h => h, E rfl, E rfl, E rfl, trivial⟩
    show _ = (ob.set o _).set o _
    rw [List.set_set]
    rfl
  · have hje : j = runCnt K k (l.drop a) := by
      rcases Nat.lt_or_ge j (runCnt K k (l.drop a)) with h' | h'
      · have := hat.2 h'; simp at h; exact absurd this (by simpa using h)
      · omega
    subst hje
    refine a_exit ?_
    refine a_seq ?_
    refine a_regd mix (o1 (p_mv (E rfl)) (o1 (p_nck (E rfl) rfl) (o1 (p_fap ty_fo_277_0 (E rfl)) (o1 (p_ldp ty_na_33 (E rfl) (hob1 _) rfl) (o1 (p_mv (E rfl)) (o1 (p_mv (E rfl)) (o1 (p_nck (E rfl) rfl) (o1 (p_fap ty_fo_277_1 (E rfl)) (o1 (p_ldp ty_na_3 (E rfl) (hob1 _) rfl) (o1 (p_sl Tryz.underlying33 ty_sz_9 (E rfl) (E rfl) (E rfl) (by first | omega | (simp [encStrs_length] at *; omega))) (o1 (p_as (E rfl)) oz))))))))))) rfl rfl (by kernel_rfl) ?_
    refine a_ret ?_
    refine ⟨_, resA_one rfl (E rfl), rfl, ?_, rfl, fun _ h => h⟩
    simp only [List.length_drop] at hle
    simp [encStrs]; omega


end Go.Proofs.YtcemejmegbefgaaGreatDoor.Em

set_option maxRecDepth 100000
set_option linter.unusedVariables false
set_option linter.unusedSimpArgs false
namespace Go.Proofs.YtcemejmegbefgaaGreatDoor.Em
open Go.Proofs

theorem trim1c {c : UInt8} (hc : c = 97 ∨ c = 98) : trim2 [c] = [c] := by rcases hc with rfl | rfl <;> rfl

theorem c_parse_reader_para (c : UInt8) (hc : c = 97 ∨ c = 98) : FnM Tryz.prog 287 (fun o => [.ptr o 0]) (RD [[c]] 0 0) (RD [[c]] 1 0) (.agg (blk1 c)) := by
  intro ob L o hob
  refine a_fn Tryz.func287 rfl (by decide) (Nat.le_of_ble_eq_true rfl) ?_
  show AWP _ _ ⟨23, [(0, .ptr o 0)], [], ob, L⟩ _
  refine a_seq ?_
  refine a_regl ?_
  refine l_e (e_alloc ty_zi_167 rfl ?_)
  refine l_nil ?_
  refine a_seq ?_
  refine a_reg (o1 (p_as (E rfl)) oz) rfl rfl ?_
  refine a_accr (t := 3) 9 1 rfl fun k hk0 => ?_
  have hk : k ∈ k :: L := List.mem_cons_self
  refine a_seq ?_
  refine a_seq ?_
  refine a_regl ?_
  refine l_o (p_mv (E rfl)) rfl ?_
  refine l_e (e_callmp (c_parse_reader_run [[c]] (by simp) 0 0 8 (by decide) (by simp) (fun _ => 8) (by intro s hs; rw [List.mem_singleton] at hs; subst hs; exact c_kind_Of_one c (rng hc))) (.cons (E rfl) (.cons (E rfl) .nil)) rfl (by first | exact hob | exact set_get hob _ | exact set_get (set_get hob _) _ | exact set_get (set_get (set_get hob _) _) _ | exact set_get (set_get (set_get (set_get hob _) _) _) _) rfl rfl rfl ?_)
  refine l_o (p_lenl Tryz.underlying33 (E rfl)) rfl ?_
  refine l_o (p_mv (E rfl)) rfl ?_
  refine l_nil ?_
  refine a_cut ⟨23, [(2, .loc 0 0), (3, .row 9 1 [] k), (7, lst 1 (encStrs [[c]])), (8, i64 1), (9, i64 0)], [[.d (.v (.int .i64 0)), .d (.v (.int .i64 0)), .d (.v (.string ⟨#[]⟩)), .d (.lst 1 []), .d (.lst 3 []), .d (.lst 6 [])]], ob.set o (RD [[c]] 1 0), k :: L⟩ ⟨rfl, rfl, by simp [runCnt], fun _ h => h, E rfl, E rfl, Eq_ rfl (by simp [runCnt]), Eq_ rfl (by simp [runCnt, encStrs]), E rfl, trivial⟩ ?_
  refine a_block ?_
  refine a_unroll 2 ?_
  refine au_s (n := 1) ?_
  refine a_seq ?_
  refine a_reg (o1 (p_lss (E rfl) (E rfl)) oz) rfl rfl ?_
  refine a_seq ?_
  refine a_cond (E rfl) (fun h => ?_) (fun h => ?_)
  · refine a_skip ?_
    refine a_seq ?_
    refine a_block ?_
    refine a_seq ?_
    refine a_reg (o1 (p_ia Tryz.underlying33 ty_sz_9 (E rfl) (E rfl) (by simp [encStrs]) (c := [.v (.string ⟨[c].toArray⟩)]) rfl) (o1 (p_ld ty_na_9 (E rfl)) (o1 (p_as (E rfl)) oz))) rfl rfl ?_
    refine a_regl ?_
    refine l_o (p_mv (E rfl)) rfl ?_
    refine l_o (p_mv (E rfl)) rfl ?_
    refine l_o (p_call (c_lines_Trim _) (.cons (E rfl) .nil) rfl rfl) rfl ?_
    refine l_o (p_bs (xs := [.tmp 15]) (sz := 1) Tryz.underlying33 ty_zo_9 rfl rfl rfl (.cons (E rfl) .nil) rfl rfl rfl) rfl ?_
    refine l_e (e_appr (Lr := L) Tryz.underlying33 ty_zo_9 rfl ty_by_9 rfl rfl hk (E rfl) (by simp) (fun j hj => ⟨List.mem_cons_of_mem _ hj, fun e => hk0 (e ▸ hj)⟩) (fun k' hk' => ?_))
    have hk0 : k' ∉ L := fun h => hk' (List.mem_cons_of_mem _ h)
    refine l_o (p_as (E rfl)) rfl ?_
    refine l_nil ?_
    have hk0 : k' ∉ L := fun h => hk' (List.mem_cons_of_mem _ h)
    refine a_reg (o1 (p_addf (E rfl) (E rfl) (fun _ _ => (by simp))) (o1 (p_mv (E rfl)) oz)) rfl rfl ?_
    refine au_s (n := 0) ?_
    refine a_seq ?_
    refine a_reg (o1 (p_lss (E rfl) (E rfl)) oz) rfl rfl ?_
    refine a_seq ?_
    refine a_cond (E rfl) (fun h => ?_) (fun h => ?_)
    · exfalso; simp at h
    · refine a_frz (t := 3) (Lr := L) rfl List.mem_cons_self (fun j hj => ⟨List.mem_cons_of_mem _ hj, fun e => hk0 (e ▸ hj)⟩) ?_
      refine a_exit ?_
      refine a_seq ?_
      refine a_regl ?_
      refine l_o (p_mv (E rfl)) rfl ?_
      refine l_o (p_call (c_Join_one (trim2 [c]) [10]) (.cons (E rfl) (.cons (E rfl) .nil)) rfl rfl) rfl ?_
      refine l_o (p_call (c_spanin_Parse (trim2 [c]) (by rw [trim1c hc]; simp)) (.cons (E rfl) .nil) rfl rfl) rfl ?_
      refine l_o (p_bd ty_so_167 (.cons (E rfl) (.cons (E rfl) .nil)) rfl) rfl ?_
      refine l_e (e_st ty_sz_167 rfl rfl (E rfl) rfl rfl rfl ?_)
      refine l_nil ?_
      refine a_ret ?_
      refine ⟨_, resA_agg rfl ty_ag_167 rfl rfl rfl rfl, rfl, ?_, rfl, fun _ h => h⟩
      rw [trim1c hc, parse1 hc]; rfl
  · exfalso; simp at h

theorem c_parse_reader_block (c : UInt8) (hc : c = 97 ∨ c = 98) : FnM Tryz.prog 264 (fun o => [.ptr o 0]) (RD [[c]] 0 0) (RD [[c]] 1 0) (.tup [.agg (blk1 c), i64 0]) := by
  intro ob L o hob
  refine a_fn Tryz.func264 rfl (by decide) (Nat.le_of_ble_eq_true rfl) ?_
  show AWP _ _ ⟨28, [(0, .ptr o 0)], [], ob, L⟩ _
  refine a_seq ?_
  refine a_regl ?_
  refine l_e (e_alloc ty_zi_167 rfl ?_)
  refine l_o (p_as (E rfl)) rfl ?_
  refine l_nil ?_
  refine a_seq ?_
  refine a_seq ?_
  refine a_reg (o1 (p_mv (E rfl)) (o1 (p_callp (c_parse_reader_here [[c]] 0 0 (by omega) (fun _ => 8) (by intro s hs; rw [List.mem_singleton] at hs; subst hs; exact c_kind_Of_one c (rng hc))) (.cons (E rfl) .nil) rfl (by first | exact hob | exact set_get hob _ | exact set_get (set_get hob _) _ | exact set_get (set_get (set_get hob _) _) _ | exact set_get (set_get (set_get (set_get hob _) _) _) _) rfl rfl) oz)) rfl rfl ?_
  refine a_block ?_
  refine a_seq ?_
  refine a_reg (o1 (p_eq (E rfl) (E rfl)) (o1 (p_as (E rfl)) oz)) rfl rfl ?_
  refine a_cond (E rfl) (fun h => ?_) (fun h => ?_)
  · exfalso; simp [hereS] at h
  · refine a_seq ?_
    refine a_reg (o1 (p_eq (E rfl) (E rfl)) (o1 (p_as (E rfl)) oz)) rfl rfl ?_
    refine a_cond (E rfl) (fun h => ?_) (fun h => ?_)
    · exfalso; simp [hereS] at h
    · refine a_seq ?_
      refine a_reg (o1 (p_eq (E rfl) (E rfl)) (o1 (p_as (E rfl)) oz)) rfl rfl ?_
      refine a_cond (E rfl) (fun h => ?_) (fun h => ?_)
      · exfalso; simp [hereS] at h
      · refine a_seq ?_
        refine a_reg (o1 (p_eq (E rfl) (E rfl)) (o1 (p_as (E rfl)) oz)) rfl rfl ?_
        refine a_cond (E rfl) (fun h => ?_) (fun h => ?_)
        · refine a_seq ?_
          refine a_regl ?_
          refine l_o (p_mv (E rfl)) rfl ?_
          refine l_e (e_callmp (c_parse_reader_para c hc) (.cons (E rfl) .nil) rfl (by first | exact hob | exact set_get hob _ | exact set_get (set_get hob _) _ | exact set_get (set_get (set_get hob _) _) _ | exact set_get (set_get (set_get (set_get hob _) _) _) _) rfl rfl rfl ?_)
          refine l_e (e_st ty_sz_167 rfl rfl (E rfl) rfl rfl rfl ?_)
          refine l_o (p_as (E rfl)) rfl ?_
          refine l_nil ?_
          refine a_ret ?_
          refine ⟨_, resA_agg1 rfl ty_ag_167 rfl rfl rfl rfl (E rfl), rfl, ?_, rfl, fun _ h => h⟩
          simp [blk1, putC, PV.cellsP, PV.toD]
        · exfalso; simp [hereS] at h

theorem c_parse_reader_all (c : UInt8) (hc : c = 97 ∨ c = 98) : FnM Tryz.prog 224 (fun o => [.ptr o 0]) (RD [[c]] 0 0) (RD [[c]] 1 0) (.tup [lst 6 [blk1 c], i64 0]) := by
  intro ob L o hob
  refine a_fn Tryz.func224 rfl (by decide) (Nat.le_of_ble_eq_true rfl) ?_
  show AWP _ _ ⟨32, [(0, .ptr o 0)], [], ob, L⟩ _
  refine a_seq ?_
  refine a_reg (o1 (p_as (E rfl)) (o1 (p_as (E rfl)) oz)) rfl rfl ?_
  refine a_seq ?_
  refine a_seq ?_
  refine a_reg (o1 (p_mv (E rfl)) (o1 (p_nck (E rfl) rfl) (o1 (p_fap ty_fo_277_2 (E rfl)) (o1 (p_ldp ty_na_3 (E rfl) (by first | exact hob | exact set_get hob _ | exact set_get (set_get hob _) _ | exact set_get (set_get (set_get hob _) _) _ | exact set_get (set_get (set_get (set_get hob _) _) _) _) rfl) (o1 (p_gtr (E rfl) (E rfl)) oz))))) rfl rfl ?_
  refine a_cond (E rfl) (fun h => ?_) (fun h => ?_)
  · exfalso; simp at h
  · refine a_skip ?_
    refine a_seq ?_
    refine a_reg (o1 (p_as (E rfl)) oz) rfl rfl ?_
    refine a_accr (t := 4) 167 6 rfl fun k hk0 => ?_
    have hk : k ∈ k :: L := List.mem_cons_self
    refine a_seq ?_
    refine a_seq ?_
    refine a_regl ?_
    refine l_o (p_mv (E rfl)) rfl ?_
    refine l_e (e_callmp (c_parse_reader_run [[c]] (by simp) 0 0 1 (by decide) (by simp) (fun _ => 8) (by intro s hs; rw [List.mem_singleton] at hs; subst hs; exact c_kind_Of_one c (rng hc))) (.cons (E rfl) (.cons (E rfl) .nil)) rfl (by first | exact hob | exact set_get hob _ | exact set_get (set_get hob _) _ | exact set_get (set_get (set_get hob _) _) _ | exact set_get (set_get (set_get (set_get hob _) _) _) _) rfl rfl rfl ?_)
    refine l_nil ?_
    refine a_block ?_
    refine a_unroll 2 ?_
    refine au_s (n := 1) ?_
    refine a_seq ?_
    refine a_seq ?_
    refine a_reg (o1 (p_mv (E rfl)) (o1 (p_callp (c_parse_reader_here [[c]] 0 0 (by omega) (fun _ => 8) (by intro s hs; rw [List.mem_singleton] at hs; subst hs; exact c_kind_Of_one c (rng hc))) (.cons (E rfl) .nil) rfl (by first | exact hob | exact set_get hob _ | exact set_get (set_get hob _) _ | exact set_get (set_get (set_get hob _) _) _ | exact set_get (set_get (set_get (set_get hob _) _) _) _) rfl rfl) (o1 (p_ne (E rfl) (E rfl)) oz))) rfl rfl ?_
    refine a_cond (E rfl) (fun h => ?_) (fun h => ?_)
    · refine a_skip ?_
      refine a_seq ?_
      refine a_block ?_
      refine a_seq ?_
      refine a_regl ?_
      refine l_o (p_mv (E rfl)) rfl ?_
      refine l_e (e_callmp (c_parse_reader_block c hc) (.cons (E rfl) .nil) rfl (by first | exact hob | exact set_get hob _ | exact set_get (set_get hob _) _ | exact set_get (set_get (set_get hob _) _) _ | exact set_get (set_get (set_get (set_get hob _) _) _) _) rfl rfl rfl ?_)
      refine l_o (p_mv (E rfl)) rfl ?_
      refine l_o (p_ext (E rfl) rfl) rfl ?_
      refine l_o (p_ext (E rfl) rfl) rfl ?_
      refine l_e (e_alloc ty_zi_167 rfl ?_)
      refine l_e (e_st ty_sz_167 rfl rfl (E rfl) rfl rfl rfl ?_)
      refine l_o (p_as (E rfl)) rfl ?_
      refine l_nil ?_
      refine a_seq ?_
      refine a_seq ?_
      refine a_reg (o1 (p_mv (E rfl)) (o1 (p_ne (E rfl) (E rfl)) oz)) rfl rfl ?_
      refine a_cond (E rfl) (fun h => ?_) (fun h => ?_)
      · exfalso; simp at h
      · refine a_skip ?_
        refine a_regl ?_
        refine l_o (p_mv (E rfl)) rfl ?_
        refine l_o (p_ldla ty_ag_167 (E rfl) rfl (Nat.le_of_ble_eq_true rfl) rfl) rfl ?_
        refine l_o (p_bs (xs := [.tmp 28]) (sz := 6) Tryz.underlying114 ty_zo_167 rfl rfl rfl (.cons (E rfl) .nil) rfl rfl rfl) rfl ?_
        refine l_e (e_appr (Lr := L) Tryz.underlying114 ty_zo_167 rfl ty_by_167 rfl rfl hk (E rfl) (by simp) (fun j hj => ⟨List.mem_cons_of_mem _ hj, fun e => hk0 (e ▸ hj)⟩) (fun k' hk' => ?_))
        have hk0 : k' ∉ L := fun h => hk' (List.mem_cons_of_mem _ h)
        refine l_o (p_as (E rfl)) rfl ?_
        refine l_nil ?_
        have hk0 : k' ∉ L := fun h => hk' (List.mem_cons_of_mem _ h)
        refine a_regl ?_
        refine l_o (p_mv (E rfl)) rfl ?_
        refine l_e (e_callmp (c_parse_reader_run [[c]] (by simp) 1 0 1 (by decide) (by simp) (fun _ => 8) (by intro s hs; rw [List.mem_singleton] at hs; subst hs; exact c_kind_Of_one c (rng hc))) (.cons (E rfl) (.cons (E rfl) .nil)) rfl (by first | exact hob | exact set_get hob _ | exact set_get (set_get hob _) _ | exact set_get (set_get (set_get hob _) _) _ | exact set_get (set_get (set_get (set_get hob _) _) _) _) rfl rfl rfl ?_)
        refine l_nil ?_
        refine au_s (n := 0) ?_
        refine a_seq ?_
        refine a_seq ?_
        refine a_reg (o1 (p_mv (E rfl)) (o1 (p_callp (c_parse_reader_here [[c]] 1 0 (by omega) (fun _ => 8) (by intro s hs; rw [List.mem_singleton] at hs; subst hs; exact c_kind_Of_one c (rng hc))) (.cons (E rfl) .nil) rfl (by first | exact hob | exact set_get hob _ | exact set_get (set_get hob _) _ | exact set_get (set_get (set_get hob _) _) _ | exact set_get (set_get (set_get (set_get hob _) _) _) _) rfl rfl) (o1 (p_ne (E rfl) (E rfl)) oz))) rfl rfl ?_
        refine a_cond (E rfl) (fun h => ?_) (fun h => ?_)
        · exfalso; simp [hereS] at h
        · refine a_exit ?_
          refine a_seq ?_
          refine a_reg (o1 (p_mv (E rfl)) (o1 (p_as (E rfl)) (o1 (p_as (E rfl)) oz))) rfl rfl ?_
          refine a_frz (t := 2) (Lr := L) rfl List.mem_cons_self (fun j hj => ⟨List.mem_cons_of_mem _ hj, fun e => hk0 (e ▸ hj)⟩) ?_
          refine a_ret ?_
          refine ⟨_, resA_two rfl (E rfl) (E rfl), rfl, ?_, ?_, fun _ h => h⟩
          · simp [blk1, putC, PV.cellsP, PV.toD, PV.cellsD]
          · simp [List.set_set, runCnt]
    · exfalso; simp [hereS] at h


end Go.Proofs.YtcemejmegbefgaaGreatDoor.Em
