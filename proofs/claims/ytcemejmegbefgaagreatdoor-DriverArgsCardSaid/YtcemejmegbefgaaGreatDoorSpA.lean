/-
  What the reader of spans returns; each under the hypotheses that it states.
-/
import Derived.Test.YtcemejmegbefgaaGreatDoorLibB
set_option maxRecDepth 100000
set_option linter.unusedVariables false
set_option linter.unusedSimpArgs false
namespace Go.Proofs.YtcemejmegbefgaaGreatDoor.Em
open Go.Proofs

/-! Spans. -/
inductive Sp where
  | mk (kind : Int) (s : List UInt8) (kids : List Sp)
def Sp.kind : Sp → Int | .mk k _ _ => k
def Sp.s : Sp → List UInt8 | .mk _ s _ => s
def Sp.kids : Sp → List Sp | .mk _ _ l => l
mutual
def Sp.enc : Sp → List D
  | .mk k s kids => [.v (.int .i64 k), .v (.string ⟨s.toArray⟩), .lst 3 (encs kids)]
def encs : List Sp → List (List D)
  | [] => []
  | x :: xs => x.enc :: encs xs
end
theorem encs_map : ∀ l, encs l = l.map Sp.enc
  | [] => by simp [encs]
  | x :: xs => by simp [encs, encs_map xs]
theorem enc_eq (x : Sp) : x.enc = [.v (.int .i64 x.kind), .v (.string ⟨x.s.toArray⟩), .lst 3 (encs x.kids)] := by
  cases x; simp [Sp.enc, Sp.kind, Sp.s, Sp.kids]
theorem encs_length (l : List Sp) : (encs l).length = l.length := by simp [encs_map]
theorem encs_append (l m : List Sp) : encs (l ++ m) = encs l ++ encs m := by simp [encs_map]
def sp0 : Sp := .mk 0 [] []
def putL (l : List Sp) (s : List UInt8) : List Sp :=
  if 0 < l.length ∧ (l.getLastD sp0).kind = 1 then l.dropLast ++ [.mk 1 ((l.getLastD sp0).s ++ s) (l.getLastD sp0).kids] else l ++ [.mk 1 s []]
theorem getLastD_get (l : List Sp) (h : 0 < l.length) : l[l.length - 1]? = some (l.getLastD sp0) := by
  cases l with
  | nil => simp at h
  | cons x xs => simp [List.getLastD, List.getLast_eq_getElem]
theorem encs_last (l : List Sp) (h : 0 ≤ ((encs l).length : Int) - 1) : (encs l)[(((encs l).length : Int) - 1).toNat]? = some [.v (.int .i64 (l.getLastD sp0).kind), .v (.string ⟨(l.getLastD sp0).s.toArray⟩), .lst 3 (encs (l.getLastD sp0).kids)] := by
  rw [encs_length] at h ⊢
  rw [← enc_eq, encs_map, List.getElem?_map, show ((l.length : Int) - 1).toNat = l.length - 1 by omega, getLastD_get l (by omega)]; rfl
theorem encs_put1 (l : List Sp) (s : List UInt8) (h : 0 ≤ ((encs l).length : Int) - 1 ∧ (l.getLastD sp0).kind = 1) :
    (encs l).set (((encs l).length : Int) - 1).toNat (splice [.v (.int .i64 (l.getLastD sp0).kind), .v (.string ⟨(l.getLastD sp0).s.toArray⟩), .lst 3 (encs (l.getLastD sp0).kids)] 1 [.v (.string ⟨((l.getLastD sp0).s ++ s).toArray⟩)]) = encs (putL l s) := by
  rw [encs_length] at h ⊢
  have hl : 0 < l.length := by omega
  unfold putL
  rw [if_pos ⟨hl, h.2⟩, encs_append]
  have e1 : encs [Sp.mk 1 ((l.getLastD sp0).s ++ s) (l.getLastD sp0).kids] = [splice [.v (.int .i64 (l.getLastD sp0).kind), .v (.string ⟨(l.getLastD sp0).s.toArray⟩), .lst 3 (encs (l.getLastD sp0).kids)] 1 [.v (.string ⟨((l.getLastD sp0).s ++ s).toArray⟩)]] := by
    have hk := h.2
    generalize l.getLastD sp0 = z at hk ⊢
    simp [encs, Sp.enc, splice, hk]
  rw [e1]
  have e2 : encs l = encs l.dropLast ++ [(l.getLastD sp0).enc] := by
    have : l = l.dropLast ++ [l.getLastD sp0] := by
      have hne : l ≠ [] := by intro e; simp [e] at hl
      have := (List.dropLast_concat_getLast hne).symm
      rw [List.getLastD_eq_getLast?, List.getLast?_eq_some_getLast hne, Option.getD_some]
      exact this
    conv => lhs; rw [this]
    rw [encs_append]; rfl
  rw [e2, show ((l.length : Int) - 1).toNat = (encs l.dropLast).length by rw [encs_length, List.length_dropLast]; omega, List.set_append_right _ _ (Nat.le_refl _)]
  simp
theorem encs_put2 (l : List Sp) (s : List UInt8) (h : ¬ (0 ≤ ((encs l).length : Int) - 1 ∧ (l.getLastD sp0).kind = 1)) :
    encs l ++ [[.v (.int .i64 1), .v (.string ⟨s.toArray⟩), .lst 3 []]] = encs (putL l s) := by
  rw [encs_length] at h
  unfold putL
  rw [if_neg (by intro hh; exact h ⟨by omega, hh.2⟩), encs_append]
  rfl
/-- Text without spaces at its ends: 'cut' names the spaces. -/
def trimL (cut : List UInt8) (s : List UInt8) : List UInt8 := s.dropWhile (fun b => cut.contains b)
def trimB (cut : List UInt8) (s : List UInt8) : List UInt8 := ((trimL cut s).reverse.dropWhile (fun b => cut.contains b)).reverse
def trim1 (c : Nat) (s : List UInt8) : List UInt8 := trimLB c (trimRB c s)
def stripB (s : List UInt8) : List UInt8 := if 2 < s.length ∧ bt s 0 = 32 ∧ bt s (s.length - 1) = 32 ∧ trim1 32 s ≠ [] then cut s 1 (s.length - 1) else s

theorem c_spanin_put (l : List Sp) (s : List UInt8) (hl : l.length + 1 ≤ 4294967296) (hb : (l.getLastD sp0).s.length + s.length ≤ LIM) : FnRow Tryz.prog 84 (fun k => [.row 61 3 (encs l) k, str s]) (fun k => .row 61 3 (encs (putL l s)) k) := by
  intro ob L k hk
  refine a_fn Tryz.func84 rfl (by decide) (Nat.le_of_ble_eq_true rfl) ?_
  show AWP _ _ ⟨34, [(0, .row 61 3 (encs l) k), (1, str s)], [], ob, L⟩ _
  refine a_fstr (t := 1) (E rfl) fun hA1 => ?_
  refine a_seq ?_
  refine a_reg (o1 (p_as (E rfl)) oz) rfl rfl ?_
  refine a_seq ?_
  refine a_seq ?_
  refine a_reg (o1 (p_mv (E rfl)) (o1 (p_lenr Tryz.underlying22 (E rfl)) (o1 (p_subf (E rfl) (E rfl) (fun _ _ => (by have := encs_length l; first | omega | (simp only [beq_iff_eq, decide_eq_true_eq] at *; omega)))) (o1 (p_as (E rfl)) oz)))) rfl rfl ?_
  refine a_seq ?_
  refine a_reg (o1 (p_mv (E rfl)) (o1 (p_geq (E rfl) (E rfl)) (o1 (p_mv (E rfl)) (g1 rfl rfl (fun h3 => p_mv (E rfl)) (g1 rfl rfl (fun h4 => p_mv (E rfl)) (g1 rfl rfl (fun h5 => p_iar Tryz.underlying22 ty_sz_61 (Eo rfl h5) (Eo rfl h5) (by have := encs_length l; first | omega | (simp only [beq_iff_eq, decide_eq_true_eq] at *; omega))) (g1 rfl rfl (fun h6 => p_far ty_fo_61_0 (Eo rfl h6)) (g1 rfl rfl (fun h7 => p_ldr ty_na_3 (Eo rfl h7) hk (encs_last l (by simp only [beq_iff_eq, decide_eq_true_eq] at *; omega)) rfl) (g1 rfl rfl (fun h8 => p_eq (Eo rfl h8) (E rfl)) (o1 (p_and (E rfl) rfl rfl (fun h => bqt h)) oz)))))))))) rfl rfl ?_
  refine a_cond (E rfl) (fun h => ?_) (fun h => ?_)
  · have hl0 : 0 ≤ ((encs l).length : Int) - 1 ∧ (l.getLastD sp0).kind = 1 := by simpa using h
    refine a_seq ?_
    refine a_regl ?_
    refine l_o (p_mv (E rfl)) rfl ?_
    refine l_o (p_mv (E rfl)) rfl ?_
    refine l_o (p_iar Tryz.underlying22 ty_sz_61 (E rfl) (E rfl) (by have := encs_length l; first | omega | (simp only [beq_iff_eq, decide_eq_true_eq] at *; omega))) rfl ?_
    refine l_o (p_far ty_fo_61_1 (E rfl)) rfl ?_
    refine l_o (p_ldr ty_na_9 (E rfl) hk (encs_last l hl0.1) rfl) rfl ?_
    refine l_o (p_mv (E rfl)) rfl ?_
    refine l_o (p_cat (E rfl) (E rfl) (by exact hb)) rfl ?_
    refine l_o (p_iar Tryz.underlying22 ty_sz_61 (E rfl) (E rfl) (by have := encs_length l; first | omega | (simp only [beq_iff_eq, decide_eq_true_eq] at *; omega))) rfl ?_
    refine l_o (p_far ty_fo_61_1 (E rfl)) rfl ?_
    refine l_e (e_str (t := 0) (Lr := L.filter (fun j => j ≠ k)) ty_sz_9 rfl rfl hk (fun j hj => by simpa using hj) (encs_last l hl0.1) (E rfl) rfl rfl (by decide) (fun k' hk' => ?_))
    refine l_nil ?_
    refine a_seq ?_
    refine a_reg (o1 (p_mv (E rfl)) (o1 (p_as (E rfl)) oz)) rfl rfl ?_
    refine a_ret ?_
    refine ⟨_, resA_one rfl (E rfl), rfl, k', ?_, rfl, ?_, ?_, ?_⟩
    · exact congrArg (fun z => PV.row 61 3 z k') (encs_put1 l s hl0)
    · intro j hj hjk; simp; exact .inr ⟨hj, hjk⟩
    · simp
    · intro h; exact absurd h hk'
  · have hl0 : ¬ (0 ≤ ((encs l).length : Int) - 1 ∧ (l.getLastD sp0).kind = 1) := by
      simp only [Bool.and_eq_false_iff, decide_eq_false_iff_not] at h
      intro hh
      rcases h with h | h
      · exact h hh.1
      · exact h hh.2
    refine a_skip ?_
    refine a_seq ?_
    refine a_regl ?_
    refine l_o (p_mv (E rfl)) rfl ?_
    refine l_o (p_mv (E rfl)) rfl ?_
    refine l_o (p_bd ty_so_61 (.cons (E rfl) (.cons (E rfl) .nil)) rfl) rfl ?_
    refine l_o (p_bs (xs := [.tmp 31]) (sz := 3) Tryz.underlying22 ty_zo_61 rfl rfl rfl (.cons (E rfl) .nil) rfl rfl rfl) rfl ?_
    refine l_e (e_appr (Lr := L.filter (fun j => j ≠ k)) Tryz.underlying22 ty_zo_61 rfl ty_by_61 rfl rfl hk (E rfl) (by have := encs_length l; simp; omega) (fun j hj => by simpa using hj) (fun k' hk' => ?_))
    refine l_o (p_as (E rfl)) rfl ?_
    refine l_nil ?_
    refine a_ret ?_
    refine ⟨_, resA_one rfl (E rfl), rfl, k', ?_, rfl, ?_, ?_, ?_⟩
    · exact congrArg (fun z => PV.row 61 3 z k') (encs_put2 l s hl0)
    · intro j hj hjk; simp; exact .inr ⟨hj, hjk⟩
    · simp
    · intro h; exact absurd h hk'


end Go.Proofs.YtcemejmegbefgaaGreatDoor.Em

set_option maxRecDepth 100000
set_option linter.unusedVariables false
set_option linter.unusedSimpArgs false
namespace Go.Proofs.YtcemejmegbefgaaGreatDoor.Em
open Go.Proofs

theorem bs_enc (k : Int) (s : List UInt8) (l : List Sp) : ([PV.d (.v (.int .i64 k)), .d (.v (.string ⟨s.toArray⟩)), .d (.lst 3 (encs l))].map PV.toD) = (Sp.mk k s l).enc := by simp [Sp.enc, PV.toD]
def destRun : List UInt8 → Nat
  | [] => 0
  | x :: xs => if destB x = true then destRun xs + 1 else 0
theorem destRun_le : ∀ s, destRun s ≤ s.length
  | [] => by simp [destRun]
  | x :: xs => by simp only [destRun]; split <;> simp; have := destRun_le xs; omega
theorem destRun_at : ∀ (s : List UInt8) (k : Nat), k ≤ destRun s → ((k < s.length ∧ destOk (cut s k (k + 1)) = true) ↔ k < destRun s)
  | [], k, h => by simp [destRun] at h ⊢
  | x :: xs, 0, h => by
    simp only [destRun]
    split <;> simp_all [cut, destOk]
  | x :: xs, k + 1, h => by
    simp only [destRun] at h ⊢
    split at h
    · rename_i hx
      rw [if_pos hx]
      have := destRun_at xs k (by omega)
      have e : cut (x :: xs) (k + 1) (k + 1 + 1) = cut xs k (k + 1) := by simp [cut]
      rw [e]
      simp only [List.length_cons]
      constructor
      · rintro ⟨h1, h2⟩
        have := this.1 ⟨by omega, h2⟩
        omega
      · intro h1
        obtain ⟨h2, h3⟩ := this.2 (by omega)
        exact ⟨by omega, h3⟩
    · omega
theorem cut_drop (s : List UInt8) (a j k : Nat) : cut (s.drop a) j k = cut s (a + j) (a + k) := by simp [cut]; congr 1; omega
def destE (s : List UInt8) (n : Int) : Int := n + 1 + destRun (s.drop (n + 1).toNat)
def destF (s : List UInt8) (n : Int) : List UInt8 × Int × Bool :=
  if isAt s n 40 = false ∨ destE s n = n + 1 ∨ isAt s (destE s n) 41 = false then ([], n, false) else (cut s (n + 1).toNat (destE s n).toNat, destE s n + 1, true)

theorem c_spanin_strip (s : List UInt8) : Fn Tryz.prog 204 [str s] (str (stripB s)) := by
  intro ob L
  refine a_fn Tryz.func204 rfl (by decide) (Nat.le_of_ble_eq_true rfl) ?_
  show AWP _ _ ⟨30, [(0, str s)], [], ob, L⟩ _
  refine a_fstr (t := 0) (E rfl) fun hA0 => ?_
  refine a_seq ?_
  refine a_reg (o1 (p_as (E rfl)) oz) rfl rfl ?_
  refine a_seq ?_
  refine a_seq ?_
  refine a_reg (o1 (p_mv (E rfl)) (o1 (p_lens Tryz.underlying9 (E rfl)) (o1 (p_gtr (E rfl) (E rfl)) (o1 (p_mv (E rfl)) (g1 rfl rfl (fun h4 => p_mv (E rfl)) (g1 rfl rfl (fun h5 => p_idx Tryz.underlying9 (Eo rfl h5) (E rfl) (by first | omega | (simp only [beq_iff_eq, decide_eq_true_eq, decide_eq_false_iff_not, Bool.and_eq_true, Bool.and_eq_false_iff, Bool.or_eq_true, Bool.or_eq_false_iff, Bool.not_eq_true', Bool.not_eq_false', bs_length] at *; omega) | (simp at * <;> omega))) (g1 rfl rfl (fun h6 => p_eq (Eo rfl h6) (E rfl)) (o1 (p_and (E rfl) rfl rfl (fun h => bqt h)) (o1 (p_mv (E rfl)) (g1 rfl rfl (fun h9 => p_mv (E rfl)) (g1 rfl rfl (fun h10 => p_mv (E rfl)) (g1 rfl rfl (fun h11 => p_lens Tryz.underlying9 (Eo rfl h11)) (g1 rfl rfl (fun h12 => p_subf (Eo rfl h12) (E rfl) (fun _ _ => (by first | omega | (simp only [beq_iff_eq, decide_eq_true_eq, decide_eq_false_iff_not, Bool.and_eq_true, Bool.and_eq_false_iff, Bool.or_eq_true, Bool.or_eq_false_iff, Bool.not_eq_true', Bool.not_eq_false', bs_length] at *; omega) | (simp at * <;> omega)))) (g1 rfl rfl (fun h13 => p_idx Tryz.underlying9 (Eo rfl h13) (Eo rfl h13) (by first | omega | (simp only [beq_iff_eq, decide_eq_true_eq, decide_eq_false_iff_not, Bool.and_eq_true, Bool.and_eq_false_iff, Bool.or_eq_true, Bool.or_eq_false_iff, Bool.not_eq_true', Bool.not_eq_false', bs_length] at *; omega) | (simp at * <;> omega))) (g1 rfl rfl (fun h14 => p_eq (Eo rfl h14) (E rfl)) (o1 (p_and (E rfl) rfl rfl (fun h => bqt h)) (o1 (p_mv (E rfl)) (g1 rfl rfl (fun h17 => p_mv (E rfl)) (g1 rfl rfl (fun h18 => p_call (c_strings_Trim1 _ 32 (by decide)) (.cons (Eo rfl h18) (.cons (E rfl) .nil)) rfl rfl) (g1 rfl rfl (fun h19 => p_nes (Eo rfl h19) (E rfl)) (o1 (p_and (E rfl) rfl rfl (fun h => bqt h)) oz))))))))))))))))))))) rfl rfl ?_
  refine a_cond (E rfl) (fun h => ?_) (fun h => ?_)
  · refine a_seq ?_
    refine a_reg (o1 (p_mv (E rfl)) (o1 (p_mv (E rfl)) (o1 (p_lens Tryz.underlying9 (E rfl)) (o1 (p_subf (E rfl) (E rfl) (fun _ _ => (by first | omega | (simp only [beq_iff_eq, decide_eq_true_eq, decide_eq_false_iff_not, Bool.and_eq_true, Bool.and_eq_false_iff, Bool.or_eq_true, Bool.or_eq_false_iff, Bool.not_eq_true', Bool.not_eq_false', bs_length] at *; omega) | (simp at * <;> omega)))) (o1 (p_ss Tryz.underlying9 (E rfl) (E rfl) (E rfl) (by first | omega | (simp only [beq_iff_eq, decide_eq_true_eq, decide_eq_false_iff_not, Bool.and_eq_true, Bool.and_eq_false_iff, Bool.or_eq_true, Bool.or_eq_false_iff, Bool.not_eq_true', Bool.not_eq_false', bs_length] at *; omega) | (simp at * <;> omega))) (o1 (p_as (E rfl)) oz)))))) rfl rfl ?_
    refine a_ret ?_
    refine ⟨_, resA_one rfl (E rfl), rfl, ?_, rfl, fun _ h => h⟩
    simp only [Bool.and_eq_true, decide_eq_true_eq, Bool.not_eq_true', decide_eq_false_iff_not] at h
    rw [stripB, if_pos ⟨by omega, h.1.1.2, h.1.2, h.2⟩, show ((s.length : Int) - 1).toNat = s.length - 1 by omega]; rfl
  · refine a_skip ?_
    refine a_seq ?_
    refine a_reg (o1 (p_mv (E rfl)) (o1 (p_as (E rfl)) oz)) rfl rfl ?_
    refine a_ret ?_
    refine ⟨_, resA_one rfl (E rfl), rfl, ?_, rfl, fun _ h => h⟩
    have hn : ¬ (2 < s.length ∧ bt s 0 = 32 ∧ bt s (s.length - 1) = 32 ∧ trim1 32 s ≠ []) := by
      rintro ⟨a, b, c, d⟩
      have a' : (2 : Int) < s.length := by omega
      have d' : ¬ trimLB 32 (trimRB 32 s) = [] := d
      simp [a', b, c, d'] at h
    rw [stripB, if_neg hn]

theorem c_spanin_reader_dest (s : List UInt8) (n : Int) (hn : 0 ≤ n ∧ n ≤ s.length ∧ s.length ≤ 4294967295) : Fn Tryz.prog 148 [.agg [.v (.string ⟨s.toArray⟩)], i64 n] (.tup [str (destF s n).1, i64 (destF s n).2.1, bool (destF s n).2.2]) := by
  intro ob L
  refine a_fn Tryz.func148 rfl (by decide) (Nat.le_of_ble_eq_true rfl) ?_
  show AWP _ _ ⟨50, [(0, .agg [.v (.string ⟨s.toArray⟩)]), (1, i64 n)], [], ob, L⟩ _
  refine a_fint (t := 1) (E rfl) fun hA1 => ?_
  refine a_seq ?_
  refine a_reg (o1 (p_box (E rfl) rfl) (o1 (p_as (E rfl)) (o1 (p_as (E rfl)) (o1 (p_as (E rfl)) oz)))) rfl rfl ?_
  refine a_seq ?_
  refine a_seq ?_
  refine a_reg (o1 (p_lda ty_ag_95 (E rfl) (Nat.le_of_ble_eq_true rfl)) (o1 (p_mv (E rfl)) (o1 (p_call (c_spanin_reader_is _ _ _ (by omega)) (.cons (E rfl) (.cons (E rfl) (.cons (E rfl) .nil))) rfl rfl) (o1 (p_not (E rfl)) oz)))) rfl rfl ?_
  refine a_cond (E rfl) (fun h => ?_) (fun h => ?_)
  · refine a_seq ?_
    refine a_reg (o1 (p_mv (E rfl)) (o1 (p_as (E rfl)) (o1 (p_as (E rfl)) (o1 (p_as (E rfl)) oz)))) rfl rfl ?_
    refine a_ret ?_
    refine ⟨_, resA_three rfl (E rfl) (E rfl) (E rfl), rfl, ?_, rfl, fun _ h => h⟩
    rw [destF, if_pos (.inl (by simpa using h))]
  · have h0 : isAt s n 40 = true := by simpa using h
    have hn1 : n < s.length := by simp [isAt] at h0; omega
    refine a_skip ?_
    refine a_seq ?_
    refine a_reg (o1 (p_mv (E rfl)) (o1 (p_addf (E rfl) (E rfl) (fun _ _ => (by first | omega | (simp only [beq_iff_eq, decide_eq_true_eq, decide_eq_false_iff_not, Bool.and_eq_true, Bool.and_eq_false_iff, Bool.or_eq_true, Bool.or_eq_false_iff, Bool.not_eq_true', Bool.not_eq_false', bs_length] at *; omega) | (simp at * <;> omega)))) (o1 (p_as (E rfl)) oz))) rfl rfl ?_
    refine a_seq ?_
    refine a_block ?_
    refine a_loop (fun j : Nat => j ≤ destRun (s.drop (n + 1).toNat)) (fun j => s.length - j) (fun j => ⟨50, [(1, i64 n), (2, .cel [.v (.string ⟨s.toArray⟩)]), (7, i64 (n + 1 + j))], [], ob, L⟩) 0 (Nat.zero_le _) ⟨rfl, rfl, rfl, fun _ h => h, E rfl, E rfl, Eq_ rfl (by simp), trivial⟩ fun j hj => ?_
    refine a_seq ?_
    refine a_seq ?_
    refine a_reg (o1 (p_mv (E rfl)) (o1 (p_fa ty_fo_95_0 (E rfl)) (o1 (p_ld ty_na_9 (E rfl)) (o1 (p_lens Tryz.underlying9 (E rfl)) (o1 (p_lss (E rfl) (E rfl)) (o1 (p_mv (E rfl)) (g1 rfl rfl (fun h6 => p_fa ty_fo_95_0 (E rfl)) (g1 rfl rfl (fun h7 => p_ld ty_na_9 (Eo rfl h7)) (g1 rfl rfl (fun h8 => p_mv (E rfl)) (g1 rfl rfl (fun h9 => p_mv (E rfl)) (g1 rfl rfl (fun h10 => p_addf (Eo rfl h10) (E rfl) (fun _ _ => (by first | omega | (simp only [beq_iff_eq, decide_eq_true_eq, decide_eq_false_iff_not, Bool.and_eq_true, Bool.and_eq_false_iff, Bool.or_eq_true, Bool.or_eq_false_iff, Bool.not_eq_true', Bool.not_eq_false', bs_length] at *; omega) | (simp at * <;> omega)))) (g1 rfl rfl (fun h11 => p_ss Tryz.underlying9 (Eo rfl h11) (Eo rfl h11) (Eo rfl h11) (by first | omega | (simp only [beq_iff_eq, decide_eq_true_eq, decide_eq_false_iff_not, Bool.and_eq_true, Bool.and_eq_false_iff, Bool.or_eq_true, Bool.or_eq_false_iff, Bool.not_eq_true', Bool.not_eq_false', bs_length] at *; omega) | (simp at * <;> omega))) (g1 rfl rfl (fun h12 => p_call (c_span_Dest _) (.cons (Eo rfl h12) .nil) rfl rfl) (o1 (p_and (E rfl) rfl rfl (fun h => bqt h)) oz)))))))))))))) rfl rfl ?_
    refine a_cond (E rfl) (fun h => ?_) (fun h => ?_)
    · have hle := destRun_le (s.drop (n + 1).toNat)
      simp only [Bool.and_eq_true, decide_eq_true_eq] at h
      have h2 := (destRun_at (s.drop (n + 1).toNat) j hj).1 ⟨by simp; omega, by rw [cut_drop, show (n + 1).toNat + j = (n + 1 + (j : Int)).toNat by omega, show (n + 1).toNat + (j + 1) = (n + 1 + (j : Int) + 1).toNat by omega]; exact h.2⟩
      refine a_skip ?_
      refine a_block ?_
      refine a_reg (o1 (p_mv (E rfl)) (o1 (p_addf (E rfl) (E rfl) (fun _ _ => (by first | omega | (simp only [beq_iff_eq, decide_eq_true_eq, decide_eq_false_iff_not, Bool.and_eq_true, Bool.and_eq_false_iff, Bool.or_eq_true, Bool.or_eq_false_iff, Bool.not_eq_true', Bool.not_eq_false', bs_length] at *; omega) | (simp at * <;> omega)))) (o1 (p_as (E rfl)) oz))) rfl rfl ?_
      exact ⟨j + 1, by omega, by simp at *; omega, rfl, rfl, rfl, fun _ h => h, E rfl, E rfl, Eq_ rfl (by simp; omega), trivial⟩
    · have hkk : j = destRun (s.drop (n + 1).toNat) := by
        have h2 := destRun_at (s.drop (n + 1).toNat) j hj
        rw [cut_drop, show (n + 1).toNat + j = (n + 1 + (j : Int)).toNat by omega, show (n + 1).toNat + (j + 1) = (n + 1 + (j : Int) + 1).toNat by omega] at h2
        rcases Nat.lt_or_ge j (destRun (s.drop (n + 1).toNat)) with h3 | h3
        · obtain ⟨h4, h5⟩ := h2.2 h3
          simp only [List.length_drop] at h4
          simp [h5] at h; omega
        · omega
      have hE : n + 1 + (j : Int) = destE s n := by rw [destE, hkk]
      have hle := destRun_le (s.drop (n + 1).toNat)
      simp only [List.length_drop] at hle
      have hEb : 0 ≤ destE s n ∧ destE s n ≤ s.length := by rw [destE]; omega
      rw [hE]
      refine a_exit ?_
      refine a_seq ?_
      refine a_seq ?_
      refine a_reg (o1 (p_mv (E rfl)) (o1 (p_mv (E rfl)) (o1 (p_addf (E rfl) (E rfl) (fun _ _ => (by first | omega | (simp only [beq_iff_eq, decide_eq_true_eq, decide_eq_false_iff_not, Bool.and_eq_true, Bool.and_eq_false_iff, Bool.or_eq_true, Bool.or_eq_false_iff, Bool.not_eq_true', Bool.not_eq_false', bs_length] at *; omega) | (simp at * <;> omega)))) (o1 (p_eq (E rfl) (E rfl)) (o1 (p_mv (E rfl)) (g1 rfl rfl (fun h5 => p_lda ty_ag_95 (E rfl) (Nat.le_of_ble_eq_true rfl)) (g1 rfl rfl (fun h6 => p_mv (E rfl)) (g1 rfl rfl (fun h7 => p_call (c_spanin_reader_is _ _ _ (by omega)) (.cons (Eo rfl h7) (.cons (Eo rfl h7) (.cons (E rfl) .nil))) rfl rfl) (g1 rfl rfl (fun h8 => p_not (Eo rfl h8)) (o1 (p_or (E rfl) rfl rfl (fun h => bqf h)) oz)))))))))) rfl rfl ?_
      refine a_cond (E rfl) (fun h => ?_) (fun h => ?_)
      · refine a_seq ?_
        refine a_reg (o1 (p_mv (E rfl)) (o1 (p_as (E rfl)) (o1 (p_as (E rfl)) (o1 (p_as (E rfl)) oz)))) rfl rfl ?_
        refine a_ret ?_
        refine ⟨_, resA_three rfl (E rfl) (E rfl) (E rfl), rfl, ?_, rfl, fun _ h => h⟩
        rw [destF, if_pos (.inr (by simpa using h))]
      · refine a_skip ?_
        refine a_seq ?_
        refine a_reg (o1 (p_fa ty_fo_95_0 (E rfl)) (o1 (p_ld ty_na_9 (E rfl)) (o1 (p_mv (E rfl)) (o1 (p_addf (E rfl) (E rfl) (fun _ _ => (by first | omega | (simp only [beq_iff_eq, decide_eq_true_eq, decide_eq_false_iff_not, Bool.and_eq_true, Bool.and_eq_false_iff, Bool.or_eq_true, Bool.or_eq_false_iff, Bool.not_eq_true', Bool.not_eq_false', bs_length] at *; omega) | (simp at * <;> omega)))) (o1 (p_mv (E rfl)) (o1 (p_ss Tryz.underlying9 (E rfl) (E rfl) (E rfl) (by first | omega | (simp only [beq_iff_eq, decide_eq_true_eq, decide_eq_false_iff_not, Bool.and_eq_true, Bool.and_eq_false_iff, Bool.or_eq_true, Bool.or_eq_false_iff, Bool.not_eq_true', Bool.not_eq_false', bs_length] at *; omega) | (simp at * <;> omega))) (o1 (p_mv (E rfl)) (o1 (p_addf (E rfl) (E rfl) (fun _ _ => (by first | omega | (simp only [beq_iff_eq, decide_eq_true_eq, decide_eq_false_iff_not, Bool.and_eq_true, Bool.and_eq_false_iff, Bool.or_eq_true, Bool.or_eq_false_iff, Bool.not_eq_true', Bool.not_eq_false', bs_length] at *; omega) | (simp at * <;> omega)))) (o1 (p_as (E rfl)) (o1 (p_as (E rfl)) (o1 (p_as (E rfl)) oz))))))))))) rfl rfl ?_
        refine a_ret ?_
        refine ⟨_, resA_three rfl (E rfl) (E rfl) (E rfl), rfl, ?_, rfl, fun _ h => h⟩
        rw [destF, if_neg]
        rintro (h1 | h1)
        · rw [h0] at h1; cases h1
        · rcases h1 with h1 | h1 <;> simp [h1] at h


end Go.Proofs.YtcemejmegbefgaaGreatDoor.Em

set_option maxRecDepth 100000
set_option linter.unusedVariables false
set_option linter.unusedSimpArgs false
namespace Go.Proofs.YtcemejmegbefgaaGreatDoor.Em
open Go.Proofs

theorem ticks_le (s : List UInt8) (i : Int) (h : 0 ≤ i ∧ i ≤ s.length) : 0 ≤ ticks s i ∧ i + ticks s i ≤ s.length := by
  unfold ticks
  split
  · omega
  · have := runI_le 96 (s.drop i.toNat)
    simp only [List.length_drop] at this
    omega
def encX (x : Sp) : List D := [.v (.int .i64 x.kind), .v (.string ⟨x.s.toArray⟩), .lst 3 (encs x.kids)]
theorem enc_X (x : Sp) : x.enc = encX x := enc_eq x
def codeL (s : List UInt8) (n : Int) : Nat → Int → Option Int
  | 0, _ => none
  | f + 1, i => if i < s.length ∧ bt s i ≠ 10 then (if ticks s i = n then some i else codeL s n f (i + max (ticks s i - 1) 0 + 1)) else none
def codeF (s : List UInt8) (a n : Int) : Sp × Int × Bool :=
  match codeL s n (s.length + 1) (a + n) with
  | some i => (.mk 2 (stripB (cut s (a + n).toNat i.toNat)) [], i + n, true)
  | none => (sp0, a, false)
theorem codeF_eq (s : List UInt8) (a n : Int) {r : Option Int} (h : codeL s n (s.length + 1) (a + n) = r) : codeF s a n = match (generalizing := false) r with
  | some i => (.mk 2 (stripB (cut s (a + n).toNat i.toNat)) [], i + n, true)
  | none => (sp0, a, false) := by rw [codeF, h]

theorem c_spanin_reader_code (s : List UInt8) (a n : Int) (hn : 0 ≤ a ∧ 0 ≤ n ∧ a + n ≤ s.length ∧ s.length ≤ 4294967295) : Fn Tryz.prog 149 [.agg [.v (.string ⟨s.toArray⟩)], i64 a, i64 n] (.tup [.agg (encX (codeF s a n).1), i64 (codeF s a n).2.1, bool (codeF s a n).2.2]) := by
  intro ob L
  refine a_fn Tryz.func149 rfl (by decide) (Nat.le_of_ble_eq_true rfl) ?_
  show AWP _ _ ⟨54, [(0, .agg [.v (.string ⟨s.toArray⟩)]), (1, i64 a), (2, i64 n)], [], ob, L⟩ _
  refine a_fint (t := 1) (E rfl) fun hA1 => ?_
  refine a_fint (t := 2) (E rfl) fun hA2 => ?_
  refine a_seq ?_
  refine a_regl ?_
  refine l_o (p_box (E rfl) rfl) rfl ?_
  refine l_e (e_alloc ty_zi_61 rfl ?_)
  refine l_o (p_as (E rfl)) rfl ?_
  refine l_o (p_as (E rfl)) rfl ?_
  refine l_nil ?_
  refine a_seq ?_
  refine a_seq ?_
  refine a_reg (o1 (p_mv (E rfl)) (o1 (p_mv (E rfl)) (o1 (p_addf (E rfl) (E rfl) (fun _ _ => (by first | omega | (simp only [beq_iff_eq, decide_eq_true_eq, decide_eq_false_iff_not, Bool.and_eq_true, Bool.and_eq_false_iff, Bool.or_eq_true, Bool.or_eq_false_iff, Bool.not_eq_true', Bool.not_eq_false', bs_length] at *; omega) | (simp at * <;> omega)))) (o1 (p_as (E rfl)) oz)))) rfl rfl ?_
  refine a_block ?_
  refine a_loop (fun p : Int × Nat => a + n ≤ p.1 ∧ p.1 ≤ s.length ∧ s.length < p.1 + p.2 ∧ codeL s n p.2 p.1 = codeL s n (s.length + 1) (a + n)) (fun p => (s.length - p.1).toNat) (fun p => ⟨54, [(1, i64 a), (2, i64 n), (3, .cel [.v (.string ⟨s.toArray⟩)]), (6, .loc 0 0), (9, i64 p.1)], [[.d (.v (.int .i64 0)), .d (.v (.string ⟨#[]⟩)), .d (.lst 3 [])]], ob, L⟩) (a + n, s.length + 1) ⟨by omega, by omega, by omega, rfl⟩ ⟨rfl, rfl, rfl, fun _ h => h, E rfl, E rfl, E rfl, E rfl, E rfl, trivial⟩ fun p hp => ?_
  obtain ⟨i, f⟩ := p
  obtain ⟨hp1, hp2, hp3, hp4⟩ := hp
  simp only at hp1 hp2 hp3 hp4
  have htk := ticks_le s i ⟨by omega, hp2⟩
  refine a_seq ?_
  refine a_seq ?_
  refine a_reg (o1 (p_mv (E rfl)) (o1 (p_fa ty_fo_95_0 (E rfl)) (o1 (p_ld ty_na_9 (E rfl)) (o1 (p_lens Tryz.underlying9 (E rfl)) (o1 (p_lss (E rfl) (E rfl)) (o1 (p_mv (E rfl)) (g1 rfl rfl (fun h6 => p_fa ty_fo_95_0 (E rfl)) (g1 rfl rfl (fun h7 => p_ld ty_na_9 (Eo rfl h7)) (g1 rfl rfl (fun h8 => p_mv (E rfl)) (g1 rfl rfl (fun h9 => p_idx Tryz.underlying9 (Eo rfl h9) (Eo rfl h9) (by first | omega | (simp only [beq_iff_eq, decide_eq_true_eq, decide_eq_false_iff_not, Bool.and_eq_true, Bool.and_eq_false_iff, Bool.or_eq_true, Bool.or_eq_false_iff, Bool.not_eq_true', Bool.not_eq_false', bs_length] at *; omega) | (simp at * <;> omega))) (g1 rfl rfl (fun h10 => p_ne (Eo rfl h10) (E rfl)) (o1 (p_and (E rfl) rfl rfl (fun h => bqt h)) oz)))))))))))) rfl rfl ?_
  refine a_cond (E rfl) (fun h => ?_) (fun h => ?_)
  · simp only [Bool.and_eq_true, decide_eq_true_eq, Bool.not_eq_true', decide_eq_false_iff_not] at h
    obtain ⟨f, rfl⟩ : ∃ g, f = g + 1 := ⟨f - 1, by omega⟩
    rw [codeL, if_pos h] at hp4
    refine a_skip ?_
    refine a_seq ?_
    refine a_block ?_
    refine a_seq ?_
    refine a_reg (o1 (p_fa ty_fo_95_0 (E rfl)) (o1 (p_ld ty_na_9 (E rfl)) (o1 (p_mv (E rfl)) (o1 (p_call (c_spanin_Ticks _ _) (.cons (E rfl) (.cons (E rfl) .nil)) rfl rfl) (o1 (p_as (E rfl)) oz))))) rfl rfl ?_
    refine a_seq ?_
    refine a_seq ?_
    refine a_reg (o1 (p_mv (E rfl)) (o1 (p_mv (E rfl)) (o1 (p_eq (E rfl) (E rfl)) oz))) rfl rfl ?_
    refine a_cond (E rfl) (fun h => ?_) (fun h => ?_)
    · simp only [decide_eq_true_eq] at h
      rename_i h'
      rw [if_pos h] at hp4
      refine a_seq ?_
      refine a_regl ?_
      refine l_o (p_fa ty_fo_95_0 (E rfl)) rfl ?_
      refine l_o (p_ld ty_na_9 (E rfl)) rfl ?_
      refine l_o (p_mv (E rfl)) rfl ?_
      refine l_o (p_mv (E rfl)) rfl ?_
      refine l_o (p_addf (E rfl) (E rfl) (fun _ _ => (by first | omega | (simp only [beq_iff_eq, decide_eq_true_eq, decide_eq_false_iff_not, Bool.and_eq_true, Bool.and_eq_false_iff, Bool.or_eq_true, Bool.or_eq_false_iff, Bool.not_eq_true', Bool.not_eq_false', bs_length] at *; omega) | (simp at * <;> omega)))) rfl ?_
      refine l_o (p_mv (E rfl)) rfl ?_
      refine l_o (p_ss Tryz.underlying9 (E rfl) (E rfl) (E rfl) (by first | omega | (simp only [beq_iff_eq, decide_eq_true_eq, decide_eq_false_iff_not, Bool.and_eq_true, Bool.and_eq_false_iff, Bool.or_eq_true, Bool.or_eq_false_iff, Bool.not_eq_true', Bool.not_eq_false', bs_length] at *; omega) | (simp at * <;> omega))) rfl ?_
      refine l_o (p_call (c_spanin_strip _) (.cons (E rfl) .nil) rfl rfl) rfl ?_
      refine l_o (p_bd ty_so_61 (.cons (E rfl) (.cons (E rfl) .nil)) rfl) rfl ?_
      refine l_o (p_mv (E rfl)) rfl ?_
      refine l_o (p_mv (E rfl)) rfl ?_
      refine l_o (p_addf (E rfl) (E rfl) (fun _ _ => (by first | omega | (simp only [beq_iff_eq, decide_eq_true_eq, decide_eq_false_iff_not, Bool.and_eq_true, Bool.and_eq_false_iff, Bool.or_eq_true, Bool.or_eq_false_iff, Bool.not_eq_true', Bool.not_eq_false', bs_length] at *; omega) | (simp at * <;> omega)))) rfl ?_
      refine l_e (e_st ty_sz_61 rfl rfl (E rfl) rfl rfl rfl ?_)
      refine l_o (p_as (E rfl)) rfl ?_
      refine l_o (p_as (E rfl)) rfl ?_
      refine l_nil ?_
      refine a_ret ?_
      refine ⟨_, resA_agg2 rfl ty_ag_61 rfl rfl rfl rfl (E rfl) (E rfl), rfl, ?_, rfl, fun _ h => h⟩
      rw [codeF_eq s a n hp4.symm]; simp [encX, Sp.kind, Sp.s, Sp.kids, encs, PV.toD, putC, PV.cellsP, PV.cellsD]
    · simp only [decide_eq_false_iff_not] at h
      rename_i h'
      rw [if_neg h] at hp4
      refine a_skip ?_
      refine a_reg (o1 (p_mv (E rfl)) (o1 (p_mv (E rfl)) (o1 (p_subf (E rfl) (E rfl) (fun _ _ => (by first | omega | (simp only [beq_iff_eq, decide_eq_true_eq, decide_eq_false_iff_not, Bool.and_eq_true, Bool.and_eq_false_iff, Bool.or_eq_true, Bool.or_eq_false_iff, Bool.not_eq_true', Bool.not_eq_false', bs_length] at *; omega) | (simp at * <;> omega)))) (o1 (p_max2 (E rfl) (E rfl)) (o1 (p_addf (E rfl) (E rfl) (fun _ _ => (by first | omega | (simp only [beq_iff_eq, decide_eq_true_eq, decide_eq_false_iff_not, Bool.and_eq_true, Bool.and_eq_false_iff, Bool.or_eq_true, Bool.or_eq_false_iff, Bool.not_eq_true', Bool.not_eq_false', bs_length] at *; omega) | (simp at * <;> omega)))) (o1 (p_as (E rfl)) oz)))))) rfl rfl ?_
      refine a_reg (o1 (p_mv (E rfl)) (o1 (p_addf (E rfl) (E rfl) (fun _ _ => (by first | omega | (simp only [beq_iff_eq, decide_eq_true_eq, decide_eq_false_iff_not, Bool.and_eq_true, Bool.and_eq_false_iff, Bool.or_eq_true, Bool.or_eq_false_iff, Bool.not_eq_true', Bool.not_eq_false', bs_length] at *; omega) | (simp at * <;> omega)))) (o1 (p_as (E rfl)) oz))) rfl rfl ?_
      exact ⟨(i + max (ticks s i - 1) 0 + 1, f), ⟨by omega, by omega, by omega, hp4⟩, by simp only; omega, rfl, rfl, rfl, fun _ h => h, E rfl, E rfl, E rfl, E rfl, E rfl, trivial⟩
  · have hnone : codeL s n (s.length + 1) (a + n) = none := by
      rw [← hp4]
      cases f with
      | zero => rfl
      | succ f =>
        rw [codeL, if_neg]
        rintro ⟨h1, h2⟩
        simp [h1, h2] at h
    refine a_exit ?_
    refine a_seq ?_
    refine a_regl ?_
    refine l_o (p_bd ty_so_61 .nil rfl) rfl ?_
    refine l_o (p_mv (E rfl)) rfl ?_
    refine l_e (e_st ty_sz_61 rfl rfl (E rfl) rfl rfl rfl ?_)
    refine l_o (p_as (E rfl)) rfl ?_
    refine l_o (p_as (E rfl)) rfl ?_
    refine l_nil ?_
    refine a_ret ?_
    refine ⟨_, resA_agg2 rfl ty_ag_61 rfl rfl rfl rfl (E rfl) (E rfl), rfl, ?_, rfl, fun _ h => h⟩
    rw [codeF_eq s a n hnone]; simp [encX, Sp.kind, Sp.s, Sp.kids, encs, PV.toD, putC, PV.cellsP, PV.cellsD, sp0]


end Go.Proofs.YtcemejmegbefgaaGreatDoor.Em

set_option linter.unusedVariables false
set_option linter.unusedSimpArgs false
namespace Go.Proofs.YtcemejmegbefgaaGreatDoor.Em
mutual
def readF (s : List UInt8) : Nat → Int → Bool → Bool → List Sp → List Sp × Int
  | 0, a, _, _, acc => (acc, a)
  | f + 1, a, em, li, acc =>
    if a < s.length then
      if (bt s a = 42 ∧ em = true) ∨ (bt s a = 93 ∧ li = true) then (acc, a)
      else if bt s a = 92 ∧ a + 1 < s.length ∧ cls (bt s (a + 1)) = 4 then readF s f (a + 2) em li (putL acc (cut s (a + 1).toNat (a + 2).toNat))
      else if (enclF s f a em li).2.2 = true then readF s f (enclF s f a em li).2.1 em li (acc ++ [(enclF s f a em li).1])
      else readF s f (a + max 1 (ticks s a)) em li (putL acc (cut s a.toNat (a + max 1 (ticks s a)).toNat))
    else (acc, a)
def enclF (s : List UInt8) : Nat → Int → Bool → Bool → Sp × Int × Bool
  | 0, a, _, _ => (sp0, a, false)
  | f + 1, a, em, li =>
    if bt s a = 42 then
      (.mk 3 [] (readF s f (a + 1) true li []).1, (readF s f (a + 1) true li []).2 + 1, isAt s (readF s f (a + 1) true li []).2 42 && decide (0 < (readF s f (a + 1) true li []).1.length))
    else if bt s a = 91 ∧ li = false then
      (if isAt s (readF s f (a + 1) em true []).2 93 = false ∨ (readF s f (a + 1) em true []).1.length = 0 then (sp0, a, false)
       else (.mk 4 (destF s ((readF s f (a + 1) em true []).2 + 1)).1 (readF s f (a + 1) em true []).1, (destF s ((readF s f (a + 1) em true []).2 + 1)).2.1, (destF s ((readF s f (a + 1) em true []).2 + 1)).2.2))
    else if bt s a = 96 then codeF s a (ticks s a)
    else (sp0, a, false)
end
theorem destE_bd (s : List UInt8) (n : Int) (h : 0 ≤ n ∧ n < s.length) : n + 1 ≤ destE s n ∧ destE s n ≤ s.length := by
  have := destRun_le (s.drop (n + 1).toNat)
  simp only [List.length_drop] at this
  unfold destE; omega
theorem cut_len (s : List UInt8) (i j : Nat) : (cut s i j).length ≤ j - i := by simp [cut]; omega
theorem destF_bd (s : List UInt8) (n : Int) (h : 0 ≤ n ∧ n ≤ s.length) : (destF s n).2.2 = true → n < (destF s n).2.1 ∧ (destF s n).2.1 ≤ s.length ∧ ((destF s n).1.length : Int) ≤ (destF s n).2.1 := by
  unfold destF
  split
  · simp
  · rename_i hh
    intro _
    simp only [not_or, Bool.not_eq_false] at hh
    have h1 : n < s.length := by have := hh.1; simp [isAt] at this; omega
    have h2 : destE s n < s.length := by have := hh.2.2; simp [isAt] at this; omega
    have h3 := destE_bd s n ⟨h.1, h1⟩
    have h4 := cut_len s (n + 1).toNat (destE s n).toNat
    simp only
    omega
theorem codeL_bd (s : List UInt8) (n : Int) : ∀ (f : Nat) (i j : Int), 0 ≤ i ∧ i ≤ s.length → codeL s n f i = some j → i ≤ j ∧ j + n ≤ s.length
  | 0, i, j, hi, h => by simp [codeL] at h
  | f + 1, i, j, hi, h => by
    have ht := ticks_le s i hi
    simp only [codeL] at h
    split at h
    · rename_i hc
      split at h
      · rename_i he
        simp only [Option.some.injEq] at h
        subst h; subst he
        omega
      · have := codeL_bd s n f _ j (by omega) h
        omega
    · cases h
theorem stripB_len (s : List UInt8) : (stripB s).length ≤ s.length := by
  unfold stripB
  split
  · have := cut_len s 1 (s.length - 1); omega
  · omega
theorem codeF_bd (s : List UInt8) (a n : Int) (h : 0 ≤ a ∧ 0 < n ∧ a + n ≤ s.length) : (codeF s a n).2.2 = true → a < (codeF s a n).2.1 ∧ (codeF s a n).2.1 ≤ s.length ∧ ((codeF s a n).1.s.length : Int) ≤ (codeF s a n).2.1 := by
  unfold codeF
  split
  · rename_i i hi
    intro _
    have h1 := codeL_bd s n _ _ _ (by omega) hi
    have h2 := stripB_len (cut s (a + n).toNat i.toNat)
    have h3 := cut_len s (a + n).toNat i.toNat
    simp only [Sp.s]
    omega
  · simp
theorem runI_pos (s : List UInt8) (a : Int) (h : 0 ≤ a ∧ a < s.length) (hb : bt s a = 96) : 0 < ticks s a := by
  unfold ticks
  rw [if_neg (by omega)]
  have := (runI_at 96 (s.drop a.toNat) 0 (Nat.zero_le _)).1 ⟨by simp; omega, by simp [bt] at hb ⊢; exact hb⟩
  omega
theorem rd_bd (s : List UInt8) : ∀ (g : Nat), (∀ (a : Int) em li acc, 0 ≤ a ∧ a ≤ s.length → a ≤ (readF s g a em li acc).2 ∧ (readF s g a em li acc).2 ≤ s.length) ∧
    (∀ (a : Int) em li, 0 ≤ a ∧ a < s.length → (enclF s g a em li).2.2 = true → a < (enclF s g a em li).2.1 ∧ (enclF s g a em li).2.1 ≤ s.length ∧ ((enclF s g a em li).1.s.length : Int) ≤ (enclF s g a em li).2.1)
  | 0 => ⟨fun a em li acc h => by simp [readF]; omega, fun a em li h => by simp [enclF]⟩
  | g + 1 => by
    obtain ⟨ih1, ih2⟩ := rd_bd s g
    constructor
    · intro a em li acc h
      simp only [readF]
      split
      · split
        · simp; omega
        · split
          · have := ih1 (a + 2) em li (putL acc (cut s (a + 1).toNat (a + 2).toNat)) (by omega); omega
          · split
            · rename_i he
              have h1 := ih2 a em li ⟨h.1, by assumption⟩ he
              have := ih1 (enclF s g a em li).2.1 em li (acc ++ [(enclF s g a em li).1]) (by omega)
              omega
            · have ht := ticks_le s a h
              have := ih1 (a + max 1 (ticks s a)) em li (putL acc (cut s a.toNat (a + max 1 (ticks s a)).toNat)) (by omega)
              omega
      · simp; omega
    · intro a em li h
      simp only [enclF]
      split
      · intro h1
        have := ih1 (a + 1) true li [] (by omega)
        simp only [isAt, Bool.and_eq_true, decide_eq_true_eq] at h1
        simp only [Sp.s, List.length_nil]
        omega
      · split
        · split
          · simp
          · intro h1
            rename_i hh
            have h2 := ih1 (a + 1) em true [] (by omega)
            simp only [not_or, Bool.not_eq_false] at hh
            have h3 : (readF s g (a + 1) em true []).2 < s.length := by have := hh.1; simp [isAt] at this; omega
            have h4 := destF_bd s ((readF s g (a + 1) em true []).2 + 1) (by omega) h1
            simp only [Sp.s]
            omega
        · split
          · rename_i hb
            have ht := ticks_le s a (by omega)
            have := runI_pos s a h hb
            exact codeF_bd s a (ticks s a) ⟨h.1, this, ht.2⟩
          · simp
theorem putL_len (l : List Sp) (s : List UInt8) : (putL l s).length ≤ l.length + 1 := by
  unfold putL
  split <;> simp
theorem putL_last (l : List Sp) (s : List UInt8) : ((putL l s).getLastD sp0).s.length ≤ (l.getLastD sp0).s.length + s.length := by
  unfold putL
  split
  · simp [Sp.s]
  · simp [Sp.s]
theorem app_last (l : List Sp) (x : Sp) : (l ++ [x]).getLastD sp0 = x := by simp
end Go.Proofs.YtcemejmegbefgaaGreatDoor.Em

set_option maxRecDepth 100000
set_option linter.unusedVariables false
set_option linter.unusedSimpArgs false
namespace Go.Proofs.YtcemejmegbefgaaGreatDoor.Em
open Go.Proofs

theorem c_spanin_reader_enclosed (s : List UInt8) (a : Int) (em li : Bool) (f : Nat) (hn : 0 ≤ a ∧ a < s.length ∧ s.length ≤ 4294967295) (rd : ∀ (e' l' : Bool), Fn Tryz.prog 48 [.agg [.v (.string ⟨s.toArray⟩)], i64 (a + 1), bool e', bool l'] (.tup [lst 3 (encs (readF s f (a + 1) e' l' []).1), i64 (readF s f (a + 1) e' l' []).2])) : Fn Tryz.prog 85 [.agg [.v (.string ⟨s.toArray⟩)], i64 a, bool em, bool li] (.tup [.agg (encX (enclF s (f + 1) a em li).1), i64 (enclF s (f + 1) a em li).2.1, bool (enclF s (f + 1) a em li).2.2]) := by
  intro ob L
  refine a_fn Tryz.func85 rfl (by decide) (Nat.le_of_ble_eq_true rfl) ?_
  show AWP _ _ ⟨104, [(0, .agg [.v (.string ⟨s.toArray⟩)]), (1, i64 a), (2, bool em), (3, bool li)], [], ob, L⟩ _
  refine a_fint (t := 1) (E rfl) fun hA1 => ?_
  have hb1 := fun (e l : Bool) => (rd_bd s f).1 (a + 1) e l [] (by omega)
  have hb2 := hb1 true li
  have hb3 := hb1 em true
  have htk := ticks_le s a (by omega)
  refine a_seq ?_
  refine a_regl ?_
  refine l_o (p_box (E rfl) rfl) rfl ?_
  refine l_e (e_alloc ty_zi_61 rfl ?_)
  refine l_o (p_as (E rfl)) rfl ?_
  refine l_o (p_as (E rfl)) rfl ?_
  refine l_nil ?_
  refine a_seq ?_
  refine a_block ?_
  refine a_seq ?_
  refine a_reg (o1 (p_fa ty_fo_95_0 (E rfl)) (o1 (p_ld ty_na_9 (E rfl)) (o1 (p_mv (E rfl)) (o1 (p_idx Tryz.underlying9 (E rfl) (E rfl) (by first | omega | (simp only [beq_iff_eq, decide_eq_true_eq, decide_eq_false_iff_not, Bool.and_eq_true, Bool.and_eq_false_iff, Bool.or_eq_true, Bool.or_eq_false_iff, Bool.not_eq_true', Bool.not_eq_false', bs_length] at *; omega) | (simp at * <;> omega))) (o1 (p_eq (E rfl) (E rfl)) (o1 (p_as (E rfl)) oz)))))) rfl rfl ?_
  refine a_cond (E rfl) (fun h => ?_) (fun h => ?_)
  · refine a_seq ?_
    refine a_reg (o1 (p_lda ty_ag_95 (E rfl) (Nat.le_of_ble_eq_true rfl)) (o1 (p_mv (E rfl)) (o1 (p_addf (E rfl) (E rfl) (fun _ _ => (by first | omega | (simp only [beq_iff_eq, decide_eq_true_eq, decide_eq_false_iff_not, Bool.and_eq_true, Bool.and_eq_false_iff, Bool.or_eq_true, Bool.or_eq_false_iff, Bool.not_eq_true', Bool.not_eq_false', bs_length] at *; omega) | (simp at * <;> omega)))) (o1 (p_mv (E rfl)) (o1 (p_call (rd _ _) (.cons (E rfl) (.cons (E rfl) (.cons (E rfl) (.cons (E rfl) .nil)))) rfl rfl) (o1 (p_mv (E rfl)) (o1 (p_ext (E rfl) rfl) (o1 (p_ext (E rfl) rfl) (o1 (p_as (E rfl)) (o1 (p_as (E rfl)) oz)))))))))) rfl rfl ?_
    refine a_seq ?_
    refine a_regl ?_
    refine l_o (p_mv (E rfl)) rfl ?_
    refine l_o (p_bd ty_so_61 (.cons (E rfl) (.cons (E rfl) .nil)) rfl) rfl ?_
    refine l_o (p_mv (E rfl)) rfl ?_
    refine l_o (p_addf (E rfl) (E rfl) (fun _ _ => (by first | omega | (simp only [beq_iff_eq, decide_eq_true_eq, decide_eq_false_iff_not, Bool.and_eq_true, Bool.and_eq_false_iff, Bool.or_eq_true, Bool.or_eq_false_iff, Bool.not_eq_true', Bool.not_eq_false', bs_length] at *; omega) | (simp at * <;> omega)))) rfl ?_
    refine l_o (p_lda ty_ag_95 (E rfl) (Nat.le_of_ble_eq_true rfl)) rfl ?_
    refine l_o (p_mv (E rfl)) rfl ?_
    refine l_o (p_call (c_spanin_reader_is _ _ _ (by omega)) (.cons (E rfl) (.cons (E rfl) (.cons (E rfl) .nil))) rfl rfl) rfl ?_
    refine l_o (p_mv (E rfl)) rfl ?_
    refine l_c rfl rfl rfl (.gd _ _ _ _ rfl rfl rfl (fun h8 => p_mv (E rfl))) ?_
    refine l_c rfl rfl rfl (.gd _ _ _ _ rfl rfl rfl (fun h9 => p_lenl Tryz.underlying22 (Eo rfl h9))) ?_
    refine l_c rfl rfl rfl (.gd _ _ _ _ rfl rfl rfl (fun h10 => p_gtr (Eo rfl h10) (E rfl))) ?_
    refine l_o (p_and (E rfl) rfl rfl (fun h => bqt h)) rfl ?_
    refine l_e (e_st ty_sz_61 rfl rfl (E rfl) rfl rfl rfl ?_)
    refine l_o (p_as (E rfl)) rfl ?_
    refine l_o (p_as (E rfl)) rfl ?_
    refine l_nil ?_
    refine a_ret ?_
    refine ⟨_, resA_agg2 rfl ty_ag_61 rfl rfl rfl rfl (E rfl) (E rfl), rfl, ?_, rfl, fun _ h => h⟩
    rw [enclF, if_pos (by simpa using h)]; simp [encX, Sp.kind, Sp.s, Sp.kids, encs, PV.toD, putC, PV.cellsP, PV.cellsD, sp0, encs_length]
  · have h0 := h
    refine a_seq ?_
    refine a_reg (o1 (p_fa ty_fo_95_0 (E rfl)) (o1 (p_ld ty_na_9 (E rfl)) (o1 (p_mv (E rfl)) (o1 (p_idx Tryz.underlying9 (E rfl) (E rfl) (by first | omega | (simp only [beq_iff_eq, decide_eq_true_eq, decide_eq_false_iff_not, Bool.and_eq_true, Bool.and_eq_false_iff, Bool.or_eq_true, Bool.or_eq_false_iff, Bool.not_eq_true', Bool.not_eq_false', bs_length] at *; omega) | (simp at * <;> omega))) (o1 (p_eq (E rfl) (E rfl)) (o1 (p_mv (E rfl)) (g1 rfl rfl (fun h6 => p_mv (E rfl)) (g1 rfl rfl (fun h7 => p_not (Eo rfl h7)) (o1 (p_and (E rfl) rfl rfl (fun h => bqt h)) (o1 (p_as (E rfl)) oz)))))))))) rfl rfl ?_
    refine a_cond (E rfl) (fun h => ?_) (fun h => ?_)
    · have h1 := h
      refine a_seq ?_
      refine a_reg (o1 (p_lda ty_ag_95 (E rfl) (Nat.le_of_ble_eq_true rfl)) (o1 (p_mv (E rfl)) (o1 (p_addf (E rfl) (E rfl) (fun _ _ => (by first | omega | (simp only [beq_iff_eq, decide_eq_true_eq, decide_eq_false_iff_not, Bool.and_eq_true, Bool.and_eq_false_iff, Bool.or_eq_true, Bool.or_eq_false_iff, Bool.not_eq_true', Bool.not_eq_false', bs_length] at *; omega) | (simp at * <;> omega)))) (o1 (p_mv (E rfl)) (o1 (p_call (rd _ _) (.cons (E rfl) (.cons (E rfl) (.cons (E rfl) (.cons (E rfl) .nil)))) rfl rfl) (o1 (p_mv (E rfl)) (o1 (p_ext (E rfl) rfl) (o1 (p_ext (E rfl) rfl) (o1 (p_as (E rfl)) (o1 (p_as (E rfl)) oz)))))))))) rfl rfl ?_
      refine a_seq ?_
      refine a_seq ?_
      refine a_reg (o1 (p_lda ty_ag_95 (E rfl) (Nat.le_of_ble_eq_true rfl)) (o1 (p_mv (E rfl)) (o1 (p_call (c_spanin_reader_is _ _ _ (by omega)) (.cons (E rfl) (.cons (E rfl) (.cons (E rfl) .nil))) rfl rfl) (o1 (p_not (E rfl)) (o1 (p_mv (E rfl)) (g1 rfl rfl (fun h5 => p_mv (E rfl)) (g1 rfl rfl (fun h6 => p_lenl Tryz.underlying22 (Eo rfl h6)) (g1 rfl rfl (fun h7 => p_eq (Eo rfl h7) (E rfl)) (o1 (p_or (E rfl) rfl rfl (fun h => bqf h)) oz))))))))) rfl rfl ?_
      refine a_cond (E rfl) (fun h => ?_) (fun h => ?_)
      · refine a_seq ?_
        refine a_regl ?_
        refine l_o (p_bd ty_so_61 .nil rfl) rfl ?_
        refine l_o (p_mv (E rfl)) rfl ?_
        refine l_e (e_st ty_sz_61 rfl rfl (E rfl) rfl rfl rfl ?_)
        refine l_o (p_as (E rfl)) rfl ?_
        refine l_o (p_as (E rfl)) rfl ?_
        refine l_nil ?_
        refine a_ret ?_
        refine ⟨_, resA_agg2 rfl ty_ag_61 rfl rfl rfl rfl (E rfl) (E rfl), rfl, ?_, rfl, fun _ h => h⟩
        rw [enclF, if_neg (by simpa using h0), if_pos (by simpa using h1), if_pos (by simpa [encs_length] using h)]; simp [encX, Sp.kind, Sp.s, Sp.kids, encs, PV.toD, putC, PV.cellsP, PV.cellsD, sp0, encs_length]
      · have hlt : (readF s f (a + 1) em true []).2 < s.length := by simp [isAt] at h; omega
        refine a_skip ?_
        refine a_seq ?_
        refine a_reg (o1 (p_lda ty_ag_95 (E rfl) (Nat.le_of_ble_eq_true rfl)) (o1 (p_mv (E rfl)) (o1 (p_addf (E rfl) (E rfl) (fun _ _ => (by first | omega | (simp only [beq_iff_eq, decide_eq_true_eq, decide_eq_false_iff_not, Bool.and_eq_true, Bool.and_eq_false_iff, Bool.or_eq_true, Bool.or_eq_false_iff, Bool.not_eq_true', Bool.not_eq_false', bs_length] at *; omega) | (simp at * <;> omega)))) (o1 (p_call (c_spanin_reader_dest _ _ ⟨by omega, by omega, by omega⟩) (.cons (E rfl) (.cons (E rfl) .nil)) rfl rfl) (o1 (p_mv (E rfl)) (o1 (p_ext (E rfl) rfl) (o1 (p_ext (E rfl) rfl) (o1 (p_ext (E rfl) rfl) (o1 (p_as (E rfl)) (o1 (p_as (E rfl)) (o1 (p_as (E rfl)) oz))))))))))) rfl rfl ?_
        refine a_seq ?_
        refine a_regl ?_
        refine l_o (p_mv (E rfl)) rfl ?_
        refine l_o (p_mv (E rfl)) rfl ?_
        refine l_o (p_bd ty_so_61 (.cons (E rfl) (.cons (E rfl) (.cons (E rfl) .nil))) rfl) rfl ?_
        refine l_o (p_mv (E rfl)) rfl ?_
        refine l_o (p_mv (E rfl)) rfl ?_
        refine l_e (e_st ty_sz_61 rfl rfl (E rfl) rfl rfl rfl ?_)
        refine l_o (p_as (E rfl)) rfl ?_
        refine l_o (p_as (E rfl)) rfl ?_
        refine l_nil ?_
        refine a_ret ?_
        refine ⟨_, resA_agg2 rfl ty_ag_61 rfl rfl rfl rfl (E rfl) (E rfl), rfl, ?_, rfl, fun _ h => h⟩
        rw [enclF, if_neg (by simpa using h0), if_pos (by simpa using h1), if_neg (by simpa [encs_length] using h)]; simp [encX, Sp.kind, Sp.s, Sp.kids, encs, PV.toD, putC, PV.cellsP, PV.cellsD, sp0, encs_length]
    · have h1 := h
      refine a_seq ?_
      refine a_reg (o1 (p_fa ty_fo_95_0 (E rfl)) (o1 (p_ld ty_na_9 (E rfl)) (o1 (p_mv (E rfl)) (o1 (p_idx Tryz.underlying9 (E rfl) (E rfl) (by first | omega | (simp only [beq_iff_eq, decide_eq_true_eq, decide_eq_false_iff_not, Bool.and_eq_true, Bool.and_eq_false_iff, Bool.or_eq_true, Bool.or_eq_false_iff, Bool.not_eq_true', Bool.not_eq_false', bs_length] at *; omega) | (simp at * <;> omega))) (o1 (p_eq (E rfl) (E rfl)) (o1 (p_as (E rfl)) oz)))))) rfl rfl ?_
      refine a_cond (E rfl) (fun h => ?_) (fun h => ?_)
      · refine a_seq ?_
        refine a_regde (fun _ _ _ => True) [10] mix (.free rfl rfl (fun _ _ _ hG => .op rfl (p_lda ty_ag_95 (E rfl) (Nat.le_of_ble_eq_true rfl))) (.free rfl rfl (fun _ _ _ hG => .op rfl (p_mv (E rfl))) (.free rfl rfl (fun _ _ _ hG => .op rfl (p_fa ty_fo_95_0 (E rfl))) (.free rfl rfl (fun _ _ _ hG => .op rfl (p_ld ty_na_9 (E rfl))) (.free rfl rfl (fun _ _ _ hG => .op rfl (p_mv (E rfl))) (.free rfl rfl (fun _ _ _ hG => .op rfl (p_call (c_spanin_Ticks _ _) (.cons (E rfl) (.cons (E rfl) .nil)) rfl rfl)) (.free rfl rfl (fun _ _ _ hG => .op rfl (p_call (c_spanin_reader_code _ _ _ ⟨by omega, by omega, by omega, by omega⟩) (.cons (E rfl) (.cons (E rfl) (.cons (E rfl) .nil))) rfl rfl)) (.free rfl rfl (fun _ _ _ hG => .op rfl (p_ext (E rfl) rfl)) (.free rfl rfl (fun _ _ _ hG => .op rfl (p_ext (E rfl) rfl)) (.free rfl rfl (fun _ _ _ hG => .op rfl (p_ext (E rfl) rfl)) (.chain rfl (.free rfl rfl (fun _ _ _ hG => .op rfl (p_as (E rfl))) (.free rfl rfl (fun _ _ _ hG => .op rfl (p_as (E rfl))) .nil))))))))))))) rfl rfl (by kernel_rfl) ?_
        refine ch_e trivial rfl (by kernel_rfl) (e_st ty_sz_61 rfl rfl (E rfl) rfl rfl rfl ?_)
        refine ⟨rfl, [], rfl, rfl, rfl, ?_⟩
        refine ch_nil trivial ?_
        refine a_ret ?_
        refine ⟨_, resA_agg2 rfl ty_ag_61 rfl rfl rfl rfl (E rfl) (E rfl), rfl, ?_, rfl, fun _ h => h⟩
        rw [enclF, if_neg (by simpa using h0), if_neg (by simpa using h1), if_pos (by simpa using h)]; simp [encX, Sp.kind, Sp.s, Sp.kids, encs, PV.toD, putC, PV.cellsP, PV.cellsD, sp0, encs_length]
      · have h3 := h
        refine a_skip ?_
        refine a_seq ?_
        refine a_regl ?_
        refine l_o (p_bd ty_so_61 .nil rfl) rfl ?_
        refine l_o (p_mv (E rfl)) rfl ?_
        refine l_e (e_st ty_sz_61 rfl rfl (E rfl) rfl rfl rfl ?_)
        refine l_o (p_as (E rfl)) rfl ?_
        refine l_o (p_as (E rfl)) rfl ?_
        refine l_nil ?_
        refine a_ret ?_
        refine ⟨_, resA_agg2 rfl ty_ag_61 rfl rfl rfl rfl (E rfl) (E rfl), rfl, ?_, rfl, fun _ h => h⟩
        rw [enclF, if_neg (by simpa using h0), if_neg (by simpa using h1), if_neg (by simpa using h3)]; simp [encX, Sp.kind, Sp.s, Sp.kids, encs, PV.toD, putC, PV.cellsP, PV.cellsD, sp0, encs_length]


end Go.Proofs.YtcemejmegbefgaaGreatDoor.Em

set_option maxRecDepth 100000
set_option linter.unusedVariables false
set_option linter.unusedSimpArgs false
namespace Go.Proofs.YtcemejmegbefgaaGreatDoor.Em
open Go.Proofs

theorem c_spanin_reader_read_step (s : List UInt8) (a : Int) (em li : Bool) (g : Nat) (hn : 0 ≤ a ∧ a ≤ s.length ∧ s.length ≤ 4294967295 ∧ 2 * (s.length - a) < g) (ih : ∀ (a' : Int) (e' l' : Bool) (g' : Nat), a < a' ∧ a' ≤ s.length ∧ 2 * (s.length - a') < g' → Fn Tryz.prog 48 [.agg [.v (.string ⟨s.toArray⟩)], i64 a', bool e', bool l'] (.tup [lst 3 (encs (readF s g' a' e' l' []).1), i64 (readF s g' a' e' l' []).2])) : Fn Tryz.prog 48 [.agg [.v (.string ⟨s.toArray⟩)], i64 a, bool em, bool li] (.tup [lst 3 (encs (readF s g a em li []).1), i64 (readF s g a em li []).2]) := by
  intro ob L
  refine a_fn Tryz.func48 rfl (by decide) (Nat.le_of_ble_eq_true rfl) ?_
  show AWP _ _ ⟨98, [(0, .agg [.v (.string ⟨s.toArray⟩)]), (1, i64 a), (2, bool em), (3, bool li)], [], ob, L⟩ _
  refine a_fint (t := 1) (E rfl) fun hA1 => ?_
  refine a_seq ?_
  refine a_reg (o1 (p_box (E rfl) rfl) (o1 (p_as (E rfl)) (o1 (p_as (E rfl)) oz))) rfl rfl ?_
  refine a_seq ?_
  refine a_reg (o1 (p_as (E rfl)) oz) rfl rfl ?_
  refine a_seq ?_
  refine a_block ?_
  refine a_accr (t := 10) 61 3 rfl fun k hk0 => ?_
  refine a_loopd (fun p : Int × List Sp × Nat × Nat => a ≤ p.1 ∧ p.1 ≤ s.length ∧ (p.2.1.length : Int) ≤ p.1 ∧ ((p.2.1.getLastD sp0).s.length : Int) ≤ p.1 ∧ 2 * (s.length - p.1) < p.2.2.1 ∧ p.2.2.2 ∉ L ∧ readF s p.2.2.1 p.1 em li p.2.1 = readF s g a em li []) (fun p => (s.length - p.1).toNat) (fun p => ⟨98, [(1, i64 p.1), (2, bool em), (3, bool li), (4, .cel [.v (.string ⟨s.toArray⟩)]), (10, .row 61 3 (encs p.2.1) p.2.2.2)], [], ob, p.2.2.2 :: L⟩) (a, [], g, k) ⟨by omega, by omega, by simp; omega, by simp [sp0, Sp.s]; omega, by show 2 * ((s.length : Int) - a) < (g : Int); omega, hk0, rfl⟩ ⟨rfl, rfl, rfl, fun _ h => h, E rfl, E rfl, E rfl, E rfl, E rfl, trivial⟩ (fun _ => rfl) fun p hp => ?_
  obtain ⟨i, acc, f, k⟩ := p
  obtain ⟨hp1, hp2, hp3, hp4, hp5, hk0, hp7⟩ := hp
  simp only at hp1 hp2 hp3 hp4 hp5 hk0 hp7
  show AWP _ _ ⟨98, [(1, i64 i), (2, bool em), (3, bool li), (4, .cel [.v (.string ⟨s.toArray⟩)]), (10, .row 61 3 (encs acc) k)], [], ob, k :: L⟩ _
  have hk : k ∈ k :: L := List.mem_cons_self
  have htk := ticks_le s i ⟨by omega, hp2⟩
  refine a_seq ?_
  refine a_seq ?_
  refine a_reg (o1 (p_mv (E rfl)) (o1 (p_fa ty_fo_95_0 (E rfl)) (o1 (p_ld ty_na_9 (E rfl)) (o1 (p_lens Tryz.underlying9 (E rfl)) (o1 (p_lss (E rfl) (E rfl)) oz))))) rfl rfl ?_
  refine a_cond (E rfl) (fun h => ?_) (fun h => ?_)
  · have hi : i < s.length := by simpa using h
    obtain ⟨f, rfl⟩ : ∃ x, f = x + 2 := ⟨f - 2, by omega⟩
    rw [readF, if_pos hi] at hp7
    refine a_skip ?_
    refine a_block ?_
    refine a_seq ?_
    refine a_reg (o1 (p_fa ty_fo_95_0 (E rfl)) (o1 (p_ld ty_na_9 (E rfl)) (o1 (p_mv (E rfl)) (o1 (p_idx Tryz.underlying9 (E rfl) (E rfl) (by first | omega | (simp only [beq_iff_eq, decide_eq_true_eq, decide_eq_false_iff_not, Bool.and_eq_true, Bool.and_eq_false_iff, Bool.or_eq_true, Bool.or_eq_false_iff, Bool.not_eq_true', Bool.not_eq_false', bs_length] at *; omega) | (simp at * <;> omega))) (o1 (p_as (E rfl)) oz))))) rfl rfl ?_
    refine a_seq ?_
    refine a_seq ?_
    refine a_reg (o1 (p_mv (E rfl)) (o1 (p_eq (E rfl) (E rfl)) (o1 (p_mv (E rfl)) (g1 rfl rfl (fun h3 => p_mv (E rfl)) (o1 (p_and (E rfl) rfl rfl (fun h => bqt h)) (o1 (p_mv (E rfl)) (g1 rfl rfl (fun h6 => p_mv (E rfl)) (g1 rfl rfl (fun h7 => p_eq (Eo rfl h7) (E rfl)) (g1 rfl rfl (fun h8 => p_mv (Eo rfl h8)) (g2 rfl rfl (fun h9 => p_mv (E rfl)) (g1 rfl rfl (fun h10 => p_and (Eo rfl h10) rfl rfl (fun h => ai h10 (bqt h))) (o1 (p_or (E rfl) rfl rfl (fun h => bqf h)) oz)))))))))))) rfl rfl ?_
    refine a_cond (E rfl) (fun h => ?_) (fun h => ?_)
    · rw [if_pos (by simpa using h)] at hp7
      refine a_exit ?_
      refine a_seq ?_
      refine a_reg (o1 (p_mv (E rfl)) (o1 (p_mv (E rfl)) (o1 (p_as (E rfl)) (o1 (p_as (E rfl)) oz)))) rfl rfl ?_
      refine a_frz (t := 8) (Lr := L) rfl List.mem_cons_self (fun j hj => ⟨List.mem_cons_of_mem _ hj, fun e => hk0 (e ▸ hj)⟩) ?_
      refine a_ret ?_
      refine ⟨_, resA_two rfl (E rfl) (E rfl), rfl, ?_, rfl, fun _ h => h⟩
      rw [← hp7]
    · rw [if_neg (by intro hh; rcases hh with ⟨h8, h9⟩ | ⟨h8, h9⟩ <;> simp [h8, h9] at h)] at hp7
      refine a_skip ?_
      refine a_seq ?_
      refine a_seq ?_
      refine a_reg (o1 (p_mv (E rfl)) (o1 (p_eq (E rfl) (E rfl)) (o1 (p_mv (E rfl)) (g1 rfl rfl (fun h3 => p_mv (E rfl)) (g1 rfl rfl (fun h4 => p_addf (Eo rfl h4) (E rfl) (fun _ _ => (by first | omega | (simp only [beq_iff_eq, decide_eq_true_eq, decide_eq_false_iff_not, Bool.and_eq_true, Bool.and_eq_false_iff, Bool.or_eq_true, Bool.or_eq_false_iff, Bool.not_eq_true', Bool.not_eq_false', bs_length] at *; omega) | (simp at * <;> omega)))) (g1 rfl rfl (fun h5 => p_fa ty_fo_95_0 (E rfl)) (g1 rfl rfl (fun h6 => p_ld ty_na_9 (Eo rfl h6)) (g1 rfl rfl (fun h7 => p_lens Tryz.underlying9 (Eo rfl h7)) (g1 rfl rfl (fun h8 => p_lss (Eo rfl h8) (Eo rfl h8)) (o1 (p_and (E rfl) rfl rfl (fun h => bqt h)) (o1 (p_mv (E rfl)) (g1 rfl rfl (fun h11 => p_fa ty_fo_95_0 (E rfl)) (g1 rfl rfl (fun h12 => p_ld ty_na_9 (Eo rfl h12)) (g1 rfl rfl (fun h13 => p_mv (E rfl)) (g1 rfl rfl (fun h14 => p_addf (Eo rfl h14) (E rfl) (fun _ _ => (by first | omega | (simp only [beq_iff_eq, decide_eq_true_eq, decide_eq_false_iff_not, Bool.and_eq_true, Bool.and_eq_false_iff, Bool.or_eq_true, Bool.or_eq_false_iff, Bool.not_eq_true', Bool.not_eq_false', bs_length] at *; omega) | (simp at * <;> omega)))) (g1 rfl rfl (fun h15 => p_idx Tryz.underlying9 (Eo rfl h15) (Eo rfl h15) (by first | omega | (simp only [beq_iff_eq, decide_eq_true_eq, decide_eq_false_iff_not, Bool.and_eq_true, Bool.and_eq_false_iff, Bool.or_eq_true, Bool.or_eq_false_iff, Bool.not_eq_true', Bool.not_eq_false', bs_length] at *; omega) | (simp at * <;> omega))) (g1 rfl rfl (fun h16 => p_call (c_utf_Escapes _) (.cons (Eo rfl h16) .nil) rfl rfl) (o1 (p_and (E rfl) rfl rfl (fun h => bqt h)) oz)))))))))))))))))) rfl rfl ?_
      refine a_cond (E rfl) (fun h => ?_) (fun h => ?_)
      · rw [if_pos (by simpa [and_assoc] using h)] at hp7
        simp only [Bool.and_eq_true, decide_eq_true_eq] at h
        refine a_seq ?_
        refine a_regl ?_
        refine l_o (p_mv (E rfl)) rfl ?_
        refine l_o (p_fa ty_fo_95_0 (E rfl)) rfl ?_
        refine l_o (p_ld ty_na_9 (E rfl)) rfl ?_
        refine l_o (p_mv (E rfl)) rfl ?_
        refine l_o (p_addf (E rfl) (E rfl) (fun _ _ => (by first | omega | (simp only [beq_iff_eq, decide_eq_true_eq, decide_eq_false_iff_not, Bool.and_eq_true, Bool.and_eq_false_iff, Bool.or_eq_true, Bool.or_eq_false_iff, Bool.not_eq_true', Bool.not_eq_false', bs_length] at *; omega) | (simp at * <;> omega)))) rfl ?_
        refine l_o (p_mv (E rfl)) rfl ?_
        refine l_o (p_addf (E rfl) (E rfl) (fun _ _ => (by first | omega | (simp only [beq_iff_eq, decide_eq_true_eq, decide_eq_false_iff_not, Bool.and_eq_true, Bool.and_eq_false_iff, Bool.or_eq_true, Bool.or_eq_false_iff, Bool.not_eq_true', Bool.not_eq_false', bs_length] at *; omega) | (simp at * <;> omega)))) rfl ?_
        refine l_o (p_ss Tryz.underlying9 (E rfl) (E rfl) (E rfl) (by first | omega | (simp only [beq_iff_eq, decide_eq_true_eq, decide_eq_false_iff_not, Bool.and_eq_true, Bool.and_eq_false_iff, Bool.or_eq_true, Bool.or_eq_false_iff, Bool.not_eq_true', Bool.not_eq_false', bs_length] at *; omega) | (simp at * <;> omega))) rfl ?_
        refine l_e (e_row (Lr := L) (c_spanin_put _ _ (by omega) (by unfold LIM; first | (have := cut_len s (i + 1).toNat (i + 2).toNat; omega) | (have := cut_len s i.toNat (i + max 1 (ticks s i)).toNat; omega))) (.cons (E rfl) (.cons (E rfl) .nil)) rfl rfl rfl hk (fun _ => rfl) (fun j hj => ⟨List.mem_cons_of_mem _ hj, fun e => hk0 (e ▸ hj)⟩) (fun k' hk' => ?_))
        refine l_o (p_as (E rfl)) rfl ?_
        refine l_nil ?_
        refine a_seq ?_
        refine a_reg (o1 (p_mv (E rfl)) (o1 (p_addf (E rfl) (E rfl) (fun _ _ => (by first | omega | (simp only [beq_iff_eq, decide_eq_true_eq, decide_eq_false_iff_not, Bool.and_eq_true, Bool.and_eq_false_iff, Bool.or_eq_true, Bool.or_eq_false_iff, Bool.not_eq_true', Bool.not_eq_false', bs_length] at *; omega) | (simp at * <;> omega)))) (o1 (p_as (E rfl)) oz))) rfl rfl ?_
        refine a_exit ?_
        first
          | exact ⟨(i + 2, putL acc (cut s (i + 1).toNat (i + 2).toNat), f + 1, k'), ⟨by omega, by omega, by have := putL_len acc (cut s (i + 1).toNat (i + 2).toNat); simp only; omega, by have h8 := putL_last acc (cut s (i + 1).toNat (i + 2).toNat); have h9 := cut_len s (i + 1).toNat (i + 2).toNat; simp only; omega, by simp only; omega, hk', hp7⟩, by simp only; omega, ⟨rfl, rfl, rfl, fun _ h => h, ⟨E rfl, E rfl, E rfl, E rfl, E rfl, trivial⟩, rfl⟩⟩
          | exact ⟨((enclF s (f + 1) i em li).2.1, acc ++ [(enclF s (f + 1) i em li).1], f + 1, k'), ⟨by omega, by omega, by simp; omega, by simp only [app_last]; omega, by simp only; omega, fun h => hk' (List.mem_cons_of_mem _ h), hp7⟩, by simp only; omega, ⟨rfl, rfl, rfl, fun _ h => h, ⟨E rfl, E rfl, E rfl, E rfl, Eq_ rfl (by simp [encs_map, enc_X, encX, PV.cellsD, putC, PV.toD, PV.cellsP]), trivial⟩, rfl⟩⟩
          | exact ⟨(i + max 1 (ticks s i), putL acc (cut s i.toNat (i + max 1 (ticks s i)).toNat), f + 1, k'), ⟨by omega, by omega, by have := putL_len acc (cut s i.toNat (i + max 1 (ticks s i)).toNat); simp only; omega, by have h8 := putL_last acc (cut s i.toNat (i + max 1 (ticks s i)).toNat); have h9 := cut_len s i.toNat (i + max 1 (ticks s i)).toNat; simp only; omega, by simp only; omega, hk', hp7⟩, by simp only; omega, ⟨rfl, rfl, rfl, fun _ h => h, ⟨E rfl, E rfl, E rfl, E rfl, E rfl, trivial⟩, rfl⟩⟩
      · rw [if_neg (by rintro ⟨h7, h8, h9⟩; simp [h7, h8, h9] at h)] at hp7
        refine a_skip ?_
        refine a_seq ?_
        refine a_seq ?_
        refine a_regl ?_
        refine l_o (p_lda ty_ag_95 (E rfl) (Nat.le_of_ble_eq_true rfl)) rfl ?_
        refine l_o (p_mv (E rfl)) rfl ?_
        refine l_o (p_mv (E rfl)) rfl ?_
        refine l_o (p_mv (E rfl)) rfl ?_
        refine l_o (p_call (c_spanin_reader_enclosed s i em li f ⟨by omega, hi, by omega⟩ (fun e' l' => ih (i + 1) e' l' f ⟨by omega, by omega, by omega⟩)) (.cons (E rfl) (.cons (E rfl) (.cons (E rfl) (.cons (E rfl) .nil)))) rfl rfl) rfl ?_
        refine l_o (p_mv (E rfl)) rfl ?_
        refine l_o (p_ext (E rfl) rfl) rfl ?_
        refine l_o (p_ext (E rfl) rfl) rfl ?_
        refine l_o (p_ext (E rfl) rfl) rfl ?_
        refine l_e (e_alloc ty_zi_61 rfl ?_)
        refine l_e (e_st ty_sz_61 rfl rfl (E rfl) rfl rfl rfl ?_)
        refine l_o (p_as (E rfl)) rfl ?_
        refine l_o (p_as (E rfl)) rfl ?_
        refine l_nil ?_
        refine a_seq ?_
        refine a_reg (o1 (p_mv (E rfl)) oz) rfl rfl ?_
        refine a_cond (E rfl) (fun h => ?_) (fun h => ?_)
        · rw [if_pos h] at hp7
          have hbd := (rd_bd s (f + 1)).2 i em li ⟨by omega, hi⟩ h
          refine a_seq ?_
          refine a_regl ?_
          refine l_o (p_mv (E rfl)) rfl ?_
          refine l_o (p_ldla ty_ag_61 (E rfl) rfl (Nat.le_of_ble_eq_true rfl) rfl) rfl ?_
          refine l_o (p_bs (xs := [.tmp 77]) (sz := 3) Tryz.underlying22 ty_zo_61 rfl rfl rfl (.cons (E rfl) .nil) rfl rfl rfl) rfl ?_
          refine l_e (e_appr (Lr := L) Tryz.underlying22 ty_zo_61 rfl ty_by_61 rfl rfl hk (E rfl) (by have := encs_length acc; simp; omega) (fun j hj => ⟨List.mem_cons_of_mem _ hj, fun e => hk0 (e ▸ hj)⟩) (fun k' hk' => ?_))
          have hk0 : k' ∉ L := fun h => hk' (List.mem_cons_of_mem _ h)
          refine l_o (p_as (E rfl)) rfl ?_
          refine l_nil ?_
          refine a_seq ?_
          refine a_reg (o1 (p_mv (E rfl)) (o1 (p_as (E rfl)) oz)) rfl rfl ?_
          refine a_exit ?_
          first
            | exact ⟨(i + 2, putL acc (cut s (i + 1).toNat (i + 2).toNat), f + 1, k'), ⟨by omega, by omega, by have := putL_len acc (cut s (i + 1).toNat (i + 2).toNat); simp only; omega, by have h8 := putL_last acc (cut s (i + 1).toNat (i + 2).toNat); have h9 := cut_len s (i + 1).toNat (i + 2).toNat; simp only; omega, by simp only; omega, hk', hp7⟩, by simp only; omega, ⟨rfl, rfl, rfl, fun _ h => h, ⟨E rfl, E rfl, E rfl, E rfl, E rfl, trivial⟩, rfl⟩⟩
            | exact ⟨((enclF s (f + 1) i em li).2.1, acc ++ [(enclF s (f + 1) i em li).1], f + 1, k'), ⟨by omega, by omega, by simp; omega, by simp only [app_last]; omega, by simp only; omega, fun h => hk' (List.mem_cons_of_mem _ h), hp7⟩, by simp only; omega, ⟨rfl, rfl, rfl, fun _ h => h, ⟨E rfl, E rfl, E rfl, E rfl, Eq_ rfl (by simp [encs_map, enc_X, encX, PV.cellsD, putC, PV.toD, PV.cellsP]), trivial⟩, rfl⟩⟩
            | exact ⟨(i + max 1 (ticks s i), putL acc (cut s i.toNat (i + max 1 (ticks s i)).toNat), f + 1, k'), ⟨by omega, by omega, by have := putL_len acc (cut s i.toNat (i + max 1 (ticks s i)).toNat); simp only; omega, by have h8 := putL_last acc (cut s i.toNat (i + max 1 (ticks s i)).toNat); have h9 := cut_len s i.toNat (i + max 1 (ticks s i)).toNat; simp only; omega, by simp only; omega, hk', hp7⟩, by simp only; omega, ⟨rfl, rfl, rfl, fun _ h => h, ⟨E rfl, E rfl, E rfl, E rfl, E rfl, trivial⟩, rfl⟩⟩
        · rw [if_neg (by rw [h]; simp)] at hp7
          refine a_skip ?_
          refine a_seq ?_
          refine a_reg (o1 (p_lda ty_ag_95 (E rfl) (Nat.le_of_ble_eq_true rfl)) (o1 (p_mv (E rfl)) (o1 (p_call (c_spanin_reader_plain _ _) (.cons (E rfl) (.cons (E rfl) .nil)) rfl rfl) (o1 (p_as (E rfl)) oz)))) rfl rfl ?_
          refine a_seq ?_
          refine a_regl ?_
          refine l_o (p_mv (E rfl)) rfl ?_
          refine l_o (p_fa ty_fo_95_0 (E rfl)) rfl ?_
          refine l_o (p_ld ty_na_9 (E rfl)) rfl ?_
          refine l_o (p_mv (E rfl)) rfl ?_
          refine l_o (p_mv (E rfl)) rfl ?_
          refine l_o (p_mv (E rfl)) rfl ?_
          refine l_o (p_addf (E rfl) (E rfl) (fun _ _ => (by first | omega | (simp only [beq_iff_eq, decide_eq_true_eq, decide_eq_false_iff_not, Bool.and_eq_true, Bool.and_eq_false_iff, Bool.or_eq_true, Bool.or_eq_false_iff, Bool.not_eq_true', Bool.not_eq_false', bs_length] at *; omega) | (simp at * <;> omega)))) rfl ?_
          refine l_o (p_ss Tryz.underlying9 (E rfl) (E rfl) (E rfl) (by first | omega | (simp only [beq_iff_eq, decide_eq_true_eq, decide_eq_false_iff_not, Bool.and_eq_true, Bool.and_eq_false_iff, Bool.or_eq_true, Bool.or_eq_false_iff, Bool.not_eq_true', Bool.not_eq_false', bs_length] at *; omega) | (simp at * <;> omega))) rfl ?_
          refine l_e (e_row (Lr := L) (c_spanin_put _ _ (by omega) (by unfold LIM; first | (have := cut_len s (i + 1).toNat (i + 2).toNat; omega) | (have := cut_len s i.toNat (i + max 1 (ticks s i)).toNat; omega))) (.cons (E rfl) (.cons (E rfl) .nil)) rfl rfl rfl hk (fun _ => rfl) (fun j hj => ⟨List.mem_cons_of_mem _ hj, fun e => hk0 (e ▸ hj)⟩) (fun k' hk' => ?_))
          refine l_o (p_as (E rfl)) rfl ?_
          refine l_nil ?_
          refine a_reg (o1 (p_mv (E rfl)) (o1 (p_mv (E rfl)) (o1 (p_addf (E rfl) (E rfl) (fun _ _ => (by first | omega | (simp only [beq_iff_eq, decide_eq_true_eq, decide_eq_false_iff_not, Bool.and_eq_true, Bool.and_eq_false_iff, Bool.or_eq_true, Bool.or_eq_false_iff, Bool.not_eq_true', Bool.not_eq_false', bs_length] at *; omega) | (simp at * <;> omega)))) (o1 (p_as (E rfl)) oz)))) rfl rfl ?_
          first
            | exact ⟨(i + 2, putL acc (cut s (i + 1).toNat (i + 2).toNat), f + 1, k'), ⟨by omega, by omega, by have := putL_len acc (cut s (i + 1).toNat (i + 2).toNat); simp only; omega, by have h8 := putL_last acc (cut s (i + 1).toNat (i + 2).toNat); have h9 := cut_len s (i + 1).toNat (i + 2).toNat; simp only; omega, by simp only; omega, hk', hp7⟩, by simp only; omega, ⟨rfl, rfl, rfl, fun _ h => h, ⟨E rfl, E rfl, E rfl, E rfl, E rfl, trivial⟩, rfl⟩⟩
            | exact ⟨((enclF s (f + 1) i em li).2.1, acc ++ [(enclF s (f + 1) i em li).1], f + 1, k'), ⟨by omega, by omega, by simp; omega, by simp only [app_last]; omega, by simp only; omega, fun h => hk' (List.mem_cons_of_mem _ h), hp7⟩, by simp only; omega, ⟨rfl, rfl, rfl, fun _ h => h, ⟨E rfl, E rfl, E rfl, E rfl, Eq_ rfl (by simp [encs_map, enc_X, encX, PV.cellsD, putC, PV.toD, PV.cellsP]), trivial⟩, rfl⟩⟩
            | exact ⟨(i + max 1 (ticks s i), putL acc (cut s i.toNat (i + max 1 (ticks s i)).toNat), f + 1, k'), ⟨by omega, by omega, by have := putL_len acc (cut s i.toNat (i + max 1 (ticks s i)).toNat); simp only; omega, by have h8 := putL_last acc (cut s i.toNat (i + max 1 (ticks s i)).toNat); have h9 := cut_len s i.toNat (i + max 1 (ticks s i)).toNat; simp only; omega, by simp only; omega, hk', hp7⟩, by simp only; omega, ⟨rfl, rfl, rfl, fun _ h => h, ⟨E rfl, E rfl, E rfl, E rfl, E rfl, trivial⟩, rfl⟩⟩
  · have hR : readF s f i em li acc = (acc, i) := by
      cases f with
      | zero => rfl
      | succ f => rw [readF, if_neg (by simpa using h)]
    rw [hR] at hp7
    refine a_exit ?_
    refine a_seq ?_
    refine a_reg (o1 (p_mv (E rfl)) (o1 (p_mv (E rfl)) (o1 (p_as (E rfl)) (o1 (p_as (E rfl)) oz)))) rfl rfl ?_
    refine a_frz (t := 8) (Lr := L) rfl List.mem_cons_self (fun j hj => ⟨List.mem_cons_of_mem _ hj, fun e => hk0 (e ▸ hj)⟩) ?_
    refine a_ret ?_
    refine ⟨_, resA_two rfl (E rfl) (E rfl), rfl, ?_, rfl, fun _ h => h⟩
    rw [← hp7]


end Go.Proofs.YtcemejmegbefgaaGreatDoor.Em

set_option maxRecDepth 100000
set_option linter.unusedVariables false
set_option linter.unusedSimpArgs false
namespace Go.Proofs.YtcemejmegbefgaaGreatDoor.Em
open Go.Proofs

theorem c_read_aux (s : List UInt8) (hs : s.length ≤ 4294967295) : ∀ (m : Nat) (a : Int) (em li : Bool) (g : Nat), (s.length - a).toNat ≤ m → (0 ≤ a ∧ a ≤ s.length ∧ 2 * (s.length - a) < g) → Fn Tryz.prog 48 [.agg [.v (.string ⟨s.toArray⟩)], i64 a, bool em, bool li] (.tup [lst 3 (encs (readF s g a em li []).1), i64 (readF s g a em li []).2])
  | 0, a, em, li, g, hm, h => c_spanin_reader_read_step s a em li g ⟨h.1, h.2.1, hs, h.2.2⟩ (fun a' e' l' g' h' => by omega)
  | m + 1, a, em, li, g, hm, h => c_spanin_reader_read_step s a em li g ⟨h.1, h.2.1, hs, h.2.2⟩ (fun a' e' l' g' h' => c_read_aux s hs m a' e' l' g' (by omega) ⟨by omega, h'.2.1, h'.2.2⟩)
theorem c_spanin_reader_read (s : List UInt8) (a : Int) (em li : Bool) (g : Nat) (hn : 0 ≤ a ∧ a ≤ s.length ∧ s.length ≤ 4294967295 ∧ 2 * (s.length - a) < g) : Fn Tryz.prog 48 [.agg [.v (.string ⟨s.toArray⟩)], i64 a, bool em, bool li] (.tup [lst 3 (encs (readF s g a em li []).1), i64 (readF s g a em li []).2]) :=
  c_read_aux s hn.2.2.1 _ a em li g (Nat.le_refl _) ⟨hn.1, hn.2.1, hn.2.2.2⟩
def parseS (s : List UInt8) : List Sp := (readF s (2 * s.length + 1) 0 false false []).1

theorem c_spanin_Parse (s : List UInt8) (hs : s.length ≤ 4294967295) : Fn Tryz.prog 23 [str s] (lst 3 (encs (parseS s))) := by
  intro ob L
  refine a_fn Tryz.func23 rfl (by decide) (Nat.le_of_ble_eq_true rfl) ?_
  show AWP _ _ ⟨12, [(0, str s)], [], ob, L⟩ _
  refine a_fstr (t := 0) (E rfl) fun hA0 => ?_
  refine a_seq ?_
  refine a_reg (o1 (p_as (E rfl)) oz) rfl rfl ?_
  refine a_seq ?_
  refine a_reg (o1 (p_mv (E rfl)) (o1 (p_bd ty_so_95 (.cons (E rfl) .nil) rfl) (o1 (p_call (c_spanin_reader_read s _ _ _ (2 * s.length + 1) ⟨by omega, by omega, by omega, by omega⟩) (.cons (E rfl) (.cons (E rfl) (.cons (E rfl) (.cons (E rfl) .nil)))) rfl rfl) (o1 (p_mv (E rfl)) (o1 (p_ext (E rfl) rfl) (o1 (p_ext (E rfl) rfl) (o1 (p_as (E rfl)) (o1 (p_as (E rfl)) oz)))))))) rfl rfl ?_
  refine a_seq ?_
  refine a_reg (o1 (p_mv (E rfl)) (o1 (p_as (E rfl)) oz)) rfl rfl ?_
  refine a_ret ?_
  refine ⟨_, resA_one rfl (E rfl), rfl, ?_, rfl, fun _ h => h⟩
  rfl


end Go.Proofs.YtcemejmegbefgaaGreatDoor.Em
