/-
  What small functions of the program and of the library return; each under the hypotheses that it states.
-/
import Derived.Test.YtcemejmegbefgaaGreatDoorLayD
import Derived.Test.YtcemejmegbefgaaGreatDoorProg
import Derived.KernelRfl
namespace Go.Proofs.YtcemejmegbefgaaGreatDoor.Em
open Go.Proofs
theorem mix : Tryz.prog.follows .mixedOrders = true := by kernel_rfl
theorem ty_iu_5 : intOf? Tryz.prog 5 .u8 = true := by kernel_rfl
theorem ty_iu_3 : intOf? Tryz.prog 3 .i64 = true := by kernel_rfl
theorem ty_na_9 : notAgg Tryz.prog 9 = true := by kernel_rfl
theorem ty_fo_95_0 : fieldOk Tryz.prog 95 0 0 = true := by kernel_rfl
theorem ty_iu_21 : intOf? Tryz.prog 21 .i32 = true := by kernel_rfl
theorem ty_sz_192 : szOf Tryz.prog 192 = some 256 := by kernel_rfl
theorem ty_ag_192 : aggOf Tryz.prog 192 256 = true := by kernel_rfl
theorem ty_sz_4 : szOf Tryz.prog 4 = some 1 := by kernel_rfl
theorem ty_na_4 : notAgg Tryz.prog 4 = true := by kernel_rfl
theorem ty_na_3 : notAgg Tryz.prog 3 = true := by kernel_rfl
theorem ty_fo_61_0 : fieldOk Tryz.prog 61 0 0 = true := by kernel_rfl
theorem ty_sz_61 : szOf Tryz.prog 61 = some 3 := by kernel_rfl
theorem ty_fo_61_1 : fieldOk Tryz.prog 61 1 1 = true := by kernel_rfl
theorem ty_sz_9 : szOf Tryz.prog 9 = some 1 := by kernel_rfl
theorem ty_so_61 : structOk Tryz.prog 61 [(0, 1), (1, 1), (2, 1)] [.v (.int .i64 0), .v (.string ⟨#[]⟩), .lst 3 []] = true := by kernel_rfl
theorem ty_zo_61 : zeroOk Tryz.prog 61 3 = true := by kernel_rfl
theorem ty_by_61 : bytesLe Tryz.prog 61 1024 = true := by kernel_rfl
theorem ty_ag_95 : aggOf Tryz.prog 95 1 = true := by kernel_rfl
theorem ty_zi_61 : zeroIs Tryz.prog 61 [.v (.int .i64 0), .v (.string ⟨#[]⟩), .lst 3 []] = true := by kernel_rfl
theorem ty_ag_61 : aggOf Tryz.prog 61 3 = true := by kernel_rfl
theorem ty_so_95 : structOk Tryz.prog 95 [(0, 1)] [.v (.string ⟨#[]⟩)] = true := by kernel_rfl
theorem ty_zo_9 : zeroOk Tryz.prog 9 1 = true := by kernel_rfl
theorem ty_by_9 : bytesLe Tryz.prog 9 1024 = true := by kernel_rfl
theorem ty_ag_63 : aggOf Tryz.prog 63 2 = true := by kernel_rfl
theorem ty_na_5 : notAgg Tryz.prog 5 = true := by kernel_rfl
theorem ty_sz_5 : szOf Tryz.prog 5 = some 1 := by kernel_rfl
theorem ty_na_22 : notAgg Tryz.prog 22 = true := by kernel_rfl
theorem ty_fo_61_2 : fieldOk Tryz.prog 61 2 2 = true := by kernel_rfl
theorem ty_so_63 : structOk Tryz.prog 63 [(0, 1), (1, 1)] [.v (.bool false), .v (.bool false)] = true := by kernel_rfl
theorem ty_fo_63_1 : fieldOk Tryz.prog 63 1 1 = true := by kernel_rfl
theorem ty_fo_63_0 : fieldOk Tryz.prog 63 0 0 = true := by kernel_rfl
theorem ty_zo_5 : zeroOk Tryz.prog 5 1 = true := by kernel_rfl
theorem ty_by_5 : bytesLe Tryz.prog 5 1024 = true := by kernel_rfl
theorem ty_na_2 : notAgg Tryz.prog 2 = true := by kernel_rfl
theorem ty_na_33 : notAgg Tryz.prog 33 = true := by kernel_rfl
theorem ty_fo_277_0 : fieldOk Tryz.prog 277 0 0 = true := by kernel_rfl
theorem ty_fo_277_1 : fieldOk Tryz.prog 277 1 1 = true := by kernel_rfl
theorem ty_sz_3 : szOf Tryz.prog 3 = some 1 := by kernel_rfl
theorem ty_ag_167 : aggOf Tryz.prog 167 6 = true := by kernel_rfl
theorem ty_zi_167 : zeroIs Tryz.prog 167 [.v (.int .i64 0), .v (.int .i64 0), .v (.string ⟨#[]⟩), .lst 1 [], .lst 3 [], .lst 6 []] = true := by kernel_rfl
theorem ty_so_167 : structOk Tryz.prog 167 [(0, 1), (1, 1), (2, 1), (3, 1), (4, 1), (5, 1)] [.v (.int .i64 0), .v (.int .i64 0), .v (.string ⟨#[]⟩), .lst 1 [], .lst 3 [], .lst 6 []] = true := by kernel_rfl
theorem ty_sz_167 : szOf Tryz.prog 167 = some 6 := by kernel_rfl
theorem ty_fo_277_2 : fieldOk Tryz.prog 277 2 2 = true := by kernel_rfl
theorem ty_zo_167 : zeroOk Tryz.prog 167 6 = true := by kernel_rfl
theorem ty_by_167 : bytesLe Tryz.prog 167 1024 = true := by kernel_rfl
theorem ty_na_114 : notAgg Tryz.prog 114 = true := by kernel_rfl
theorem ty_fo_167_5 : fieldOk Tryz.prog 167 5 5 = true := by kernel_rfl
theorem ty_fo_167_4 : fieldOk Tryz.prog 167 4 4 = true := by kernel_rfl
theorem ty_fo_167_3 : fieldOk Tryz.prog 167 3 3 = true := by kernel_rfl
theorem ty_fo_167_2 : fieldOk Tryz.prog 167 2 2 = true := by kernel_rfl
theorem ty_fo_167_1 : fieldOk Tryz.prog 167 1 1 = true := by kernel_rfl
theorem ty_fo_167_0 : fieldOk Tryz.prog 167 0 0 = true := by kernel_rfl
theorem ty_so_277 : structOk Tryz.prog 277 [(0, 1), (1, 1), (2, 1)] [.lst 1 [], .v (.int .i64 0), .v (.int .i64 0)] = true := by kernel_rfl
theorem ty_so_116 : structOk Tryz.prog 116 [(0, 1), (1, 1)] [.v (.string ⟨#[]⟩), .lst 6 []] = true := by kernel_rfl
theorem ty_zo_116 : zeroOk Tryz.prog 116 2 = true := by kernel_rfl
theorem ty_by_116 : bytesLe Tryz.prog 116 1024 = true := by kernel_rfl
theorem ty_sz_116 : szOf Tryz.prog 116 = some 2 := by kernel_rfl
theorem ty_sz_70 : szOf Tryz.prog 70 = some 3 := by kernel_rfl
theorem ty_ag_70 : aggOf Tryz.prog 70 3 = true := by kernel_rfl
theorem ty_zi_70 : zeroIs Tryz.prog 70 [.v (.string ⟨#[]⟩), .v (.int .i64 0), .v (.int .i64 0)] = true := by kernel_rfl
theorem ty_ag_116 : aggOf Tryz.prog 116 2 = true := by kernel_rfl
theorem ty_zi_116 : zeroIs Tryz.prog 116 [.v (.string ⟨#[]⟩), .lst 6 []] = true := by kernel_rfl
theorem ty_fo_116_1 : fieldOk Tryz.prog 116 1 1 = true := by kernel_rfl
theorem ty_so_70 : structOk Tryz.prog 70 [(0, 1), (1, 1), (2, 1)] [.v (.string ⟨#[]⟩), .v (.int .i64 0), .v (.int .i64 0)] = true := by kernel_rfl
theorem ty_fo_37_0 : fieldOk Tryz.prog 37 0 0 = true := by kernel_rfl
theorem ty_fo_37_1 : fieldOk Tryz.prog 37 1 1 = true := by kernel_rfl
theorem ty_fo_35_0 : fieldOk Tryz.prog 35 0 0 = true := by kernel_rfl
theorem ty_fo_35_1 : fieldOk Tryz.prog 35 1 1 = true := by kernel_rfl
theorem ty_fo_35_2 : fieldOk Tryz.prog 35 2 2 = true := by kernel_rfl
theorem ty_zi_37 : zeroIs Tryz.prog 37 [.v (.int .i64 0), .v (.string ⟨#[]⟩), .v (.string ⟨#[]⟩), .v (.string ⟨#[]⟩)] = true := by kernel_rfl
theorem ty_so_37 : structOk Tryz.prog 37 [(0, 1), (1, 3)] [.v (.int .i64 0), .v (.string ⟨#[]⟩), .v (.string ⟨#[]⟩), .v (.string ⟨#[]⟩)] = true := by kernel_rfl
theorem ty_sz_37 : szOf Tryz.prog 37 = some 4 := by kernel_rfl
theorem ty_zb_4 : zIsB Tryz.prog 4 = true := by kernel_rfl
theorem ty_ag_37 : aggOf Tryz.prog 37 4 = true := by kernel_rfl
theorem ty_zi_43 : zeroIs Tryz.prog 43 [.v (.int .i64 0), .v (.string ⟨#[]⟩), .v (.string ⟨#[]⟩), .v (.string ⟨#[]⟩)] = true := by kernel_rfl
theorem ty_so_43 : structOk Tryz.prog 43 [(0, 1), (1, 3)] [.v (.int .i64 0), .v (.string ⟨#[]⟩), .v (.string ⟨#[]⟩), .v (.string ⟨#[]⟩)] = true := by kernel_rfl
theorem ty_sz_43 : szOf Tryz.prog 43 = some 4 := by kernel_rfl
theorem ty_zi_77 : zeroIs Tryz.prog 77 [.v (.bool false), .v (.bool false), .v (.bool false), .v (.bool false)] = true := by kernel_rfl
theorem ty_ag_43 : aggOf Tryz.prog 43 4 = true := by kernel_rfl
theorem ty_fo_43_0 : fieldOk Tryz.prog 43 0 0 = true := by kernel_rfl
theorem ty_fo_43_1 : fieldOk Tryz.prog 43 1 1 = true := by kernel_rfl
theorem ty_fo_41_0 : fieldOk Tryz.prog 41 0 0 = true := by kernel_rfl
theorem ty_fo_41_1 : fieldOk Tryz.prog 41 1 1 = true := by kernel_rfl
theorem ty_fo_41_2 : fieldOk Tryz.prog 41 2 2 = true := by kernel_rfl
theorem ty_ag_41 : aggOf Tryz.prog 41 3 = true := by kernel_rfl
theorem ty_fo_70_2 : fieldOk Tryz.prog 70 2 2 = true := by kernel_rfl
theorem ty_fo_70_0 : fieldOk Tryz.prog 70 0 0 = true := by kernel_rfl
theorem ty_sz_249 : szOf Tryz.prog 249 = some 1 := by kernel_rfl
theorem ty_iu_48 : intOf? Tryz.prog 48 .u16 = true := by kernel_rfl
theorem ty_iu_51 : intOf? Tryz.prog 51 .u64 = true := by kernel_rfl
theorem ty_na_51 : notAgg Tryz.prog 51 = true := by kernel_rfl
theorem ty_sz_51 : szOf Tryz.prog 51 = some 1 := by kernel_rfl
theorem ty_so_35 : structOk Tryz.prog 35 [(0, 1), (1, 1), (2, 1)] [.v (.string ⟨#[]⟩), .v (.string ⟨#[]⟩), .v (.string ⟨#[]⟩)] = true := by kernel_rfl
end Go.Proofs.YtcemejmegbefgaaGreatDoor.Em

set_option maxRecDepth 100000
set_option linter.unusedVariables false
set_option linter.unusedSimpArgs false
namespace Go.Proofs.YtcemejmegbefgaaGreatDoor.Em
open Go.Proofs

def cls (c : Int) : Int := if c = 10 ∨ c = 13 then 3 else if c = 9 ∨ c = 32 then 2 else if (32 < c ∧ c < 48) ∨ (57 < c ∧ c < 65) ∨ (90 < c ∧ c < 97) ∨ (122 < c ∧ c ≤ 126) then 4 else 1
theorem Eq_ {tm : List (Nat × PV)} {x : Operand} {p q : PV} (h : ev tm x = some p) (e : p = q) : Ev tm x q := e ▸ E h
/-- How often a byte stands at the beginning. -/
def runL (c : UInt8) : List UInt8 → Nat
  | [] => 0
  | x :: xs => if x = c then runL c xs + 1 else 0

theorem c_utf_Class (c : Int) : Fn Tryz.prog 62 [i64 c] (i64 (cls c)) := by
  intro ob L
  refine a_fn Tryz.func62 rfl (by decide) (Nat.le_of_ble_eq_true rfl) ?_
  show AWP _ _ ⟨42, [(0, i64 c)], [], ob, L⟩ _
  refine a_fint (t := 0) (E rfl) fun hA0 => ?_
  refine a_seq ?_
  refine a_reg (o1 (p_as (E rfl)) oz) rfl rfl ?_
  refine a_seq ?_
  refine a_block ?_
  refine a_seq ?_
  refine a_reg (o1 (p_mv (E rfl)) (o1 (p_eq (E rfl) (E rfl)) (o1 (p_mv (E rfl)) (g1 rfl rfl (fun h3 => p_mv (E rfl)) (g1 rfl rfl (fun h4 => p_eq (Eo rfl h4) (E rfl)) (o1 (p_or (E rfl) rfl rfl (fun h => bqf h)) (o1 (p_as (E rfl)) oz))))))) rfl rfl ?_
  refine a_cond (E rfl) (fun h => ?_) (fun h => ?_)
  · refine a_seq ?_
    refine a_reg (o1 (p_as (E rfl)) oz) rfl rfl ?_
    refine a_ret ?_
    refine ⟨_, resA_one rfl (E rfl), rfl, ?_, rfl, fun _ h => h⟩
    first | (simp_all [cls]; done) | (simp_all [cls]; omega)
  · refine a_seq ?_
    refine a_reg (o1 (p_mv (E rfl)) (o1 (p_eq (E rfl) (E rfl)) (o1 (p_mv (E rfl)) (g1 rfl rfl (fun h3 => p_mv (E rfl)) (g1 rfl rfl (fun h4 => p_eq (Eo rfl h4) (E rfl)) (o1 (p_or (E rfl) rfl rfl (fun h => bqf h)) (o1 (p_as (E rfl)) oz))))))) rfl rfl ?_
    refine a_cond (E rfl) (fun h => ?_) (fun h => ?_)
    · refine a_seq ?_
      refine a_reg (o1 (p_as (E rfl)) oz) rfl rfl ?_
      refine a_ret ?_
      refine ⟨_, resA_one rfl (E rfl), rfl, ?_, rfl, fun _ h => h⟩
      first | (simp_all [cls]; done) | (simp_all [cls]; omega)
    · refine a_seq ?_
      refine a_seq ?_
      refine a_reg (o1 (p_mv (E rfl)) (o1 (p_gtr (E rfl) (E rfl)) (o1 (p_mv (E rfl)) (g1 rfl rfl (fun h3 => p_mv (E rfl)) (g1 rfl rfl (fun h4 => p_lss (Eo rfl h4) (E rfl)) (o1 (p_and (E rfl) rfl rfl (fun h => bqt h)) (o1 (p_as (E rfl)) oz))))))) rfl rfl ?_
      refine a_cond (E rfl) (fun h => ?_) (fun h => ?_)
      · refine a_skip ?_
        refine a_cond (E rfl) (fun h => ?_) (fun h => ?_)
        · refine a_seq ?_
          refine a_reg (o1 (p_as (E rfl)) oz) rfl rfl ?_
          refine a_ret ?_
          refine ⟨_, resA_one rfl (E rfl), rfl, ?_, rfl, fun _ h => h⟩
          first | (simp_all [cls]; done) | (simp_all [cls]; omega)
        · refine a_skip ?_
          refine a_seq ?_
          refine a_reg (o1 (p_as (E rfl)) oz) rfl rfl ?_
          refine a_ret ?_
          refine ⟨_, resA_one rfl (E rfl), rfl, ?_, rfl, fun _ h => h⟩
          first | (simp_all [cls]; done) | (simp_all [cls]; omega)
      · refine a_seq ?_
        refine a_reg (o1 (p_mv (E rfl)) (o1 (p_gtr (E rfl) (E rfl)) (o1 (p_mv (E rfl)) (g1 rfl rfl (fun h3 => p_mv (E rfl)) (g1 rfl rfl (fun h4 => p_lss (Eo rfl h4) (E rfl)) (o1 (p_and (E rfl) rfl rfl (fun h => bqt h)) (o1 (p_as (E rfl)) oz))))))) rfl rfl ?_
        refine a_cond (E rfl) (fun h => ?_) (fun h => ?_)
        · refine a_skip ?_
          refine a_cond (E rfl) (fun h => ?_) (fun h => ?_)
          · refine a_seq ?_
            refine a_reg (o1 (p_as (E rfl)) oz) rfl rfl ?_
            refine a_ret ?_
            refine ⟨_, resA_one rfl (E rfl), rfl, ?_, rfl, fun _ h => h⟩
            first | (simp_all [cls]; done) | (simp_all [cls]; omega)
          · refine a_skip ?_
            refine a_seq ?_
            refine a_reg (o1 (p_as (E rfl)) oz) rfl rfl ?_
            refine a_ret ?_
            refine ⟨_, resA_one rfl (E rfl), rfl, ?_, rfl, fun _ h => h⟩
            first | (simp_all [cls]; done) | (simp_all [cls]; omega)
        · refine a_seq ?_
          refine a_reg (o1 (p_mv (E rfl)) (o1 (p_gtr (E rfl) (E rfl)) (o1 (p_mv (E rfl)) (g1 rfl rfl (fun h3 => p_mv (E rfl)) (g1 rfl rfl (fun h4 => p_lss (Eo rfl h4) (E rfl)) (o1 (p_and (E rfl) rfl rfl (fun h => bqt h)) (o1 (p_as (E rfl)) oz))))))) rfl rfl ?_
          refine a_cond (E rfl) (fun h => ?_) (fun h => ?_)
          · refine a_skip ?_
            refine a_cond (E rfl) (fun h => ?_) (fun h => ?_)
            · refine a_seq ?_
              refine a_reg (o1 (p_as (E rfl)) oz) rfl rfl ?_
              refine a_ret ?_
              refine ⟨_, resA_one rfl (E rfl), rfl, ?_, rfl, fun _ h => h⟩
              first | (simp_all [cls]; done) | (simp_all [cls]; omega)
            · refine a_skip ?_
              refine a_seq ?_
              refine a_reg (o1 (p_as (E rfl)) oz) rfl rfl ?_
              refine a_ret ?_
              refine ⟨_, resA_one rfl (E rfl), rfl, ?_, rfl, fun _ h => h⟩
              first | (simp_all [cls]; done) | (simp_all [cls]; omega)
          · refine a_reg (o1 (p_mv (E rfl)) (o1 (p_gtr (E rfl) (E rfl)) (o1 (p_mv (E rfl)) (g1 rfl rfl (fun h3 => p_mv (E rfl)) (g1 rfl rfl (fun h4 => p_leq (Eo rfl h4) (E rfl)) (o1 (p_and (E rfl) rfl rfl (fun h => bqt h)) (o1 (p_as (E rfl)) oz))))))) rfl rfl ?_
            refine a_cond (E rfl) (fun h => ?_) (fun h => ?_)
            · refine a_seq ?_
              refine a_reg (o1 (p_as (E rfl)) oz) rfl rfl ?_
              refine a_ret ?_
              refine ⟨_, resA_one rfl (E rfl), rfl, ?_, rfl, fun _ h => h⟩
              first | (simp_all [cls]; done) | (simp_all [cls]; omega)
            · refine a_skip ?_
              refine a_seq ?_
              refine a_reg (o1 (p_as (E rfl)) oz) rfl rfl ?_
              refine a_ret ?_
              refine ⟨_, resA_one rfl (E rfl), rfl, ?_, rfl, fun _ h => h⟩
              first | (simp_all [cls]; done) | (simp_all [cls]; omega)

theorem c_utf_Escapes (c : Int) : Fn Tryz.prog 83 [u8 c] (bool (decide (cls c = 4))) := by
  intro ob L
  refine a_fn Tryz.func83 rfl (by decide) (Nat.le_of_ble_eq_true rfl) ?_
  show AWP _ _ ⟨7, [(0, u8 c)], [], ob, L⟩ _
  refine a_seq ?_
  refine a_reg (o1 (p_as (E rfl)) oz) rfl rfl ?_
  refine a_seq ?_
  refine a_reg (o1 (p_mv (E rfl)) (o1 (p_cvb ty_iu_5 ty_iu_3 (E rfl)) (o1 (p_call (c_utf_Class _) (.cons (E rfl) .nil) rfl rfl) (o1 (p_eq (E rfl) (E rfl)) (o1 (p_as (E rfl)) oz))))) rfl rfl ?_
  refine a_ret ?_
  refine ⟨_, resA_one rfl (E rfl), rfl, ?_, rfl, fun _ h => h⟩
  rfl

theorem c_token_long (c : Int) : Fn Tryz.prog 63 [i64 c] (bool (decide (c = 1 ∨ c = 2))) := by
  intro ob L
  refine a_fn Tryz.func63 rfl (by decide) (Nat.le_of_ble_eq_true rfl) ?_
  show AWP _ _ ⟨9, [(0, i64 c)], [], ob, L⟩ _
  refine a_fint (t := 0) (E rfl) fun hA0 => ?_
  refine a_seq ?_
  refine a_reg (o1 (p_as (E rfl)) oz) rfl rfl ?_
  refine a_seq ?_
  refine a_reg (o1 (p_mv (E rfl)) (o1 (p_eq (E rfl) (E rfl)) (o1 (p_mv (E rfl)) (g1 rfl rfl (fun h3 => p_mv (E rfl)) (g1 rfl rfl (fun h4 => p_eq (Eo rfl h4) (E rfl)) (o1 (p_or (E rfl) rfl rfl (fun h => bqf h)) (o1 (p_as (E rfl)) oz))))))) rfl rfl ?_
  refine a_ret ?_
  refine ⟨_, resA_one rfl (E rfl), rfl, ?_, rfl, fun _ h => h⟩
  simp [Bool.or_comm]


end Go.Proofs.YtcemejmegbefgaaGreatDoor.Em

set_option maxRecDepth 100000
set_option linter.unusedVariables false
set_option linter.unusedSimpArgs false
namespace Go.Proofs.YtcemejmegbefgaaGreatDoor.Em
open Go.Proofs

def runI (c : Int) : List UInt8 → Nat
  | [] => 0
  | x :: xs => if (x.toNat : Int) = c then runI c xs + 1 else 0
theorem runI_le (c : Int) : ∀ s, runI c s ≤ s.length
  | [] => by simp [runI]
  | x :: xs => by simp only [runI]; split <;> simp; have := runI_le c xs; omega
theorem bt_zero (x : UInt8) (xs : List UInt8) : bt (x :: xs) 0 = x.toNat := by simp [bt]
theorem bt_succ (x : UInt8) (xs : List UInt8) (k : Nat) : bt (x :: xs) ((k + 1 : Nat) : Int) = bt xs (k : Nat) := by simp [bt]
theorem runI_at (c : Int) : ∀ (s : List UInt8) (k : Nat), k ≤ runI c s → ((k < s.length ∧ bt s k = c) ↔ k < runI c s)
  | [], k, h => by simp [runI] at h ⊢
  | x :: xs, 0, h => by
    simp only [runI, Int.ofNat_zero, Int.natCast_zero, bt_zero]
    split <;> simp_all
  | x :: xs, k + 1, h => by
    simp only [runI] at h ⊢
    split at h
    · rename_i hx
      rw [if_pos hx, bt_succ]
      have := runI_at c xs k (by omega)
      simp only [List.length_cons]
      omega
    · omega
def ticks (s : List UInt8) (at_ : Int) : Int := if at_ < 0 ∨ at_ ≥ s.length then 0 else runI 96 (s.drop at_.toNat)
def isAt (s : List UInt8) (at_ c : Int) : Bool := decide (at_ < s.length) && decide (bt s at_ = c)

theorem c_lines_Run (s : List UInt8) (c : Int) : Fn Tryz.prog 130 [str s, u8 c] (i64 (runI c s)) := by
  intro ob L
  refine a_fn Tryz.func130 rfl (by decide) (Nat.le_of_ble_eq_true rfl) ?_
  show AWP _ _ ⟨20, [(0, str s), (1, u8 c)], [], ob, L⟩ _
  refine a_fstr (t := 0) (E rfl) fun hA0 => ?_
  refine a_seq ?_
  refine a_reg (o1 (p_as (E rfl)) oz) rfl rfl ?_
  refine a_seq ?_
  refine a_reg (o1 (p_as (E rfl)) oz) rfl rfl ?_
  refine a_seq ?_
  refine a_block ?_
  refine a_loop (fun k : Nat => k ≤ runI c s) (fun k => s.length - k) (fun k => ⟨20, [(0, str s), (1, u8 c), (5, i64 k)], [], ob, L⟩) 0 (Nat.zero_le _) ⟨rfl, rfl, rfl, fun _ h => h, E rfl, E rfl, E rfl, trivial⟩ fun k hk => ?_
  refine a_seq ?_
  refine a_seq ?_
  refine a_reg (o1 (p_mv (E rfl)) (o1 (p_mv (E rfl)) (o1 (p_lens Tryz.underlying9 (E rfl)) (o1 (p_lss (E rfl) (E rfl)) (o1 (p_mv (E rfl)) (g1 rfl rfl (fun h5 => p_mv (E rfl)) (g1 rfl rfl (fun h6 => p_mv (E rfl)) (g1 rfl rfl (fun h7 => p_idx Tryz.underlying9 (Eo rfl h7) (Eo rfl h7) (by first | omega | (simp only [beq_iff_eq, decide_eq_true_eq, decide_eq_false_iff_not, Bool.and_eq_true, Bool.and_eq_false_iff, Bool.or_eq_true, Bool.or_eq_false_iff, Bool.not_eq_true', Bool.not_eq_false', bs_length] at *; omega) | (simp at * <;> omega))) (g1 rfl rfl (fun h8 => p_mv (E rfl)) (g1 rfl rfl (fun h9 => p_eq (Eo rfl h9) (Eo rfl h9)) (o1 (p_and (E rfl) rfl rfl (fun h => bqt h)) oz))))))))))) rfl rfl ?_
  refine a_cond (E rfl) (fun h => ?_) (fun h => ?_)
  · simp only [Bool.and_eq_true, decide_eq_true_eq, Int.ofNat_lt] at h
    have h2 := (runI_at c s k hk).1 h
    have h3 := runI_le c s
    refine a_skip ?_
    refine a_block ?_
    refine a_reg (o1 (p_mv (E rfl)) (o1 (p_addf (E rfl) (E rfl) (fun _ _ => (by first | omega | (simp only [beq_iff_eq, decide_eq_true_eq, decide_eq_false_iff_not, Bool.and_eq_true, Bool.and_eq_false_iff, Bool.or_eq_true, Bool.or_eq_false_iff, Bool.not_eq_true', Bool.not_eq_false', bs_length] at *; omega) | (simp at * <;> omega)))) (o1 (p_as (E rfl)) oz))) rfl rfl ?_
    exact ⟨k + 1, by omega, by omega, rfl, rfl, rfl, fun _ h => h, E rfl, E rfl, E rfl, trivial⟩
  · have hkk : k = runI c s := by
      have := runI_at c s k hk
      simp only [Bool.and_eq_false_iff, decide_eq_false_iff_not, Int.ofNat_lt] at h
      omega
    subst hkk
    refine a_exit ?_
    refine a_seq ?_
    refine a_reg (o1 (p_mv (E rfl)) (o1 (p_as (E rfl)) oz)) rfl rfl ?_
    refine a_ret ?_
    refine ⟨_, resA_one rfl (E rfl), rfl, ?_, rfl, fun _ h => h⟩
    rfl

theorem c_spanin_Ticks (s : List UInt8) (n : Int) : Fn Tryz.prog 150 [str s, i64 n] (i64 (ticks s n)) := by
  intro ob L
  refine a_fn Tryz.func150 rfl (by decide) (Nat.le_of_ble_eq_true rfl) ?_
  show AWP _ _ ⟨17, [(0, str s), (1, i64 n)], [], ob, L⟩ _
  refine a_fstr (t := 0) (E rfl) fun hA0 => ?_
  refine a_fint (t := 1) (E rfl) fun hA1 => ?_
  refine a_seq ?_
  refine a_reg (o1 (p_as (E rfl)) oz) rfl rfl ?_
  refine a_seq ?_
  refine a_seq ?_
  refine a_reg (o1 (p_mv (E rfl)) (o1 (p_lss (E rfl) (E rfl)) (o1 (p_mv (E rfl)) (g1 rfl rfl (fun h3 => p_mv (E rfl)) (g1 rfl rfl (fun h4 => p_mv (E rfl)) (g1 rfl rfl (fun h5 => p_lens Tryz.underlying9 (Eo rfl h5)) (g1 rfl rfl (fun h6 => p_geq (Eo rfl h6) (Eo rfl h6)) (o1 (p_or (E rfl) rfl rfl (fun h => bqf h)) oz)))))))) rfl rfl ?_
  refine a_cond (E rfl) (fun h => ?_) (fun h => ?_)
  · refine a_seq ?_
    refine a_reg (o1 (p_as (E rfl)) oz) rfl rfl ?_
    refine a_ret ?_
    refine ⟨_, resA_one rfl (E rfl), rfl, ?_, rfl, fun _ h => h⟩
    simp only [ticks]; rw [if_pos (by simp at h; omega)]
  · refine a_skip ?_
    refine a_seq ?_
    refine a_reg (o1 (p_mv (E rfl)) (o1 (p_mv (E rfl)) (o1 (p_ss_l Tryz.underlying9 (E rfl) (E rfl) (by first | omega | (simp only [beq_iff_eq, decide_eq_true_eq, decide_eq_false_iff_not, Bool.and_eq_true, Bool.and_eq_false_iff, Bool.or_eq_true, Bool.or_eq_false_iff, Bool.not_eq_true', Bool.not_eq_false', bs_length] at *; omega) | (simp at * <;> omega))) (o1 (p_call (c_lines_Run _ _) (.cons (E rfl) (.cons (E rfl) .nil)) rfl rfl) (o1 (p_as (E rfl)) oz))))) rfl rfl ?_
    refine a_ret ?_
    refine ⟨_, resA_one rfl (E rfl), rfl, ?_, rfl, fun _ h => h⟩
    simp only [ticks]; rw [if_neg (by simp at h; omega)]

theorem c_spanin_reader_is (s : List UInt8) (n c : Int) (hn : 0 ≤ n) : Fn Tryz.prog 147 [.agg [.v (.string ⟨s.toArray⟩)], i64 n, u8 c] (bool (isAt s n c)) := by
  intro ob L
  refine a_fn Tryz.func147 rfl (by decide) (Nat.le_of_ble_eq_true rfl) ?_
  show AWP _ _ ⟨20, [(0, .agg [.v (.string ⟨s.toArray⟩)]), (1, i64 n), (2, u8 c)], [], ob, L⟩ _
  refine a_fint (t := 1) (E rfl) fun hA1 => ?_
  refine a_seq ?_
  refine a_reg (o1 (p_box (E rfl) rfl) (o1 (p_as (E rfl)) oz)) rfl rfl ?_
  refine a_seq ?_
  refine a_reg (o1 (p_mv (E rfl)) (o1 (p_fa ty_fo_95_0 (E rfl)) (o1 (p_ld ty_na_9 (E rfl)) (o1 (p_lens Tryz.underlying9 (E rfl)) (o1 (p_lss (E rfl) (E rfl)) (o1 (p_mv (E rfl)) (g1 rfl rfl (fun h6 => p_fa ty_fo_95_0 (E rfl)) (g1 rfl rfl (fun h7 => p_ld ty_na_9 (Eo rfl h7)) (g1 rfl rfl (fun h8 => p_mv (E rfl)) (g1 rfl rfl (fun h9 => p_idx Tryz.underlying9 (Eo rfl h9) (Eo rfl h9) (by first | omega | (simp only [beq_iff_eq, decide_eq_true_eq, decide_eq_false_iff_not, Bool.and_eq_true, Bool.and_eq_false_iff, Bool.or_eq_true, Bool.or_eq_false_iff, Bool.not_eq_true', Bool.not_eq_false', bs_length] at *; omega) | (simp at * <;> omega))) (g1 rfl rfl (fun h10 => p_mv (E rfl)) (g1 rfl rfl (fun h11 => p_eq (Eo rfl h11) (Eo rfl h11)) (o1 (p_and (E rfl) rfl rfl (fun h => bqt h)) (o1 (p_as (E rfl)) oz)))))))))))))) rfl rfl ?_
  refine a_ret ?_
  refine ⟨_, resA_one rfl (E rfl), rfl, ?_, rfl, fun _ h => h⟩
  rfl

theorem c_spanin_reader_plain (s : List UInt8) (n : Int) : Fn Tryz.prog 86 [.agg [.v (.string ⟨s.toArray⟩)], i64 n] (i64 (max 1 (ticks s n))) := by
  intro ob L
  refine a_fn Tryz.func86 rfl (by decide) (Nat.le_of_ble_eq_true rfl) ?_
  show AWP _ _ ⟨10, [(0, .agg [.v (.string ⟨s.toArray⟩)]), (1, i64 n)], [], ob, L⟩ _
  refine a_fint (t := 1) (E rfl) fun hA1 => ?_
  refine a_seq ?_
  refine a_reg (o1 (p_box (E rfl) rfl) (o1 (p_as (E rfl)) oz)) rfl rfl ?_
  refine a_seq ?_
  refine a_reg (o1 (p_fa ty_fo_95_0 (E rfl)) (o1 (p_ld ty_na_9 (E rfl)) (o1 (p_mv (E rfl)) (o1 (p_call (c_spanin_Ticks _ _) (.cons (E rfl) (.cons (E rfl) .nil)) rfl rfl) (o1 (p_max2 (E rfl) (E rfl)) (o1 (p_as (E rfl)) oz)))))) rfl rfl ?_
  refine a_ret ?_
  refine ⟨_, resA_one rfl (E rfl), rfl, ?_, rfl, fun _ h => h⟩
  rfl


end Go.Proofs.YtcemejmegbefgaaGreatDoor.Em

set_option maxRecDepth 100000
set_option linter.unusedVariables false
set_option linter.unusedSimpArgs false
namespace Go.Proofs.YtcemejmegbefgaaGreatDoor.Em
open Go.Proofs

def idxI (c : Int) : List UInt8 → Int
  | [] => -1
  | x :: xs => if (x.toNat : Int) = c then 0 else (if idxI c xs = -1 then -1 else idxI c xs + 1)
theorem idxI_eq (c : Int) (h : 0 ≤ c ∧ c ≤ 255) : ∀ (s : List UInt8), Lib.indexByte s c.toNat.toUInt8 = idxI c s
  | [] => rfl
  | x :: xs => by
    have ih := idxI_eq c h xs
    have e : (x == c.toNat.toUInt8) = decide ((x.toNat : Int) = c) := by
      have h1 : (c.toNat.toUInt8).toNat = c.toNat := by simp [Nat.toUInt8]; omega
      rw [Bool.eq_iff_iff]
      simp only [beq_iff_eq, decide_eq_true_eq]
      constructor
      · rintro rfl; rw [h1]; omega
      · intro hx
        apply UInt8.toNat_inj.1
        rw [h1]; omega
    simp only [Lib.indexByte, idxI, ih, e, beq_iff_eq, decide_eq_true_eq]
theorem idxI_bd (c : Int) : ∀ (s : List UInt8), -1 ≤ idxI c s ∧ idxI c s < s.length ∨ s = [] ∧ idxI c s = -1
  | [] => by simp [idxI]
  | x :: xs => by
    have := idxI_bd c xs
    simp only [idxI, List.length_cons]
    left
    split
    · omega
    · split
      · omega
      · rcases this with h | ⟨rfl, h⟩
        · omega
        · simp at *; omega
theorem reps2 {cx : Cx} {p q : PV} {vs : List Value} (h : Reps cx [p, q] vs) : ∃ a b, vs = [a, b] ∧ Rep cx p a ∧ Rep cx q b := by
  simp only [Reps] at h
  obtain ⟨a, r, rfl, h1, b, r', rfl, h2, rfl⟩ := h
  exact ⟨a, b, rfl, h1, h2⟩
theorem idx_ok {c : Int} {s : List UInt8} (h : s.length ≤ LIM) : okv (.int .i64 (idxI c s)) := by
  have := idxI_bd c s
  unfold LIM at h
  simp only [okv, IntKind.min, IntKind.max, IntKind.signed, IntKind.bits, if_true]
  rcases this with h1 | ⟨rfl, h1⟩ <;> omega
theorem u8_bd {c : Int} (h : okv (.int .u8 c)) : 0 ≤ c ∧ c ≤ 255 := by
  simp [okv, IntKind.min, IntKind.max, IntKind.signed, IntKind.bits] at h; omega
theorem p_ibsP {P : Program} {lo ob : List (List PV)} {L : List Nat} {tm : List (Nat × PV)} {dst : Option Tmp} {ty : TypeId} {pos : String} {aft : Array Edge} {g : Option (Nat × Bool)} {f : FuncId} {fn : Func} {x y : Operand} {tys : Array TypeId} {s : List UInt8} {c : Int}
    (hf : P.funcs[f]? = some fn) (hname : (fn.name == "runtime.NumGoroutine") = false) (hb : fn.body.isNone = true) (hn : Extern.findNext fn = none) (he : Extern.find fn = some Extern.BytealgIndexByte.indexByte) (hx : Ev tm x (str s)) (hy : Ev tm y (u8 c)) :
    POp P lo ob L ⟨dst, .call ⟨.value (.func f), [x, y].toArray, tys⟩, ty, pos, aft, g⟩ tm (i64 (idxI c s)) :=
  p_callx (xs := [x, y]) (ps := [str s, u8 c]) hf hname hb hn he (.cons hx (.cons hy .nil)) fun cx vs hi hr => by
    obtain ⟨a, b, rfl, h1, h2⟩ := reps2 hr
    have h3 := rep_v h1
    have h4 := rep_v h2
    obtain ⟨rfl, h5⟩ := h3
    obtain ⟨rfl, h6⟩ := h4
    refine ⟨.int .i64 (idxI c s), ?_, mk_v (idx_ok (by simpa only [okv, mkS_size] using h5))⟩
    have := Lib.run_indexByteString (P := P) ⟨s.toArray⟩ c cx.w
    rw [← idxI_eq c (u8_bd h6)]
    exact this
theorem ibs_n : (Tryz.f243.name == "runtime.NumGoroutine") = false := by kernel_rfl
theorem ibs_b : Tryz.f243.body.isNone = true := by kernel_rfl
theorem ibs_x : Extern.findNext Tryz.f243 = none := by kernel_rfl
theorem ibs_e : Extern.find Tryz.f243 = some Extern.BytealgIndexByte.indexByte := by kernel_rfl
theorem p_ibs {lo ob : List (List PV)} {L : List Nat} {tm : List (Nat × PV)} {dst : Option Tmp} {ty : TypeId} {pos : String} {aft : Array Edge} {g : Option (Nat × Bool)} {x y : Operand} {tys : Array TypeId} {s : List UInt8} {c : Int} (hx : Ev tm x (str s)) (hy : Ev tm y (u8 c)) :
    POp Tryz.prog lo ob L ⟨dst, .call ⟨.value (.func 243), [x, y].toArray, tys⟩, ty, pos, aft, g⟩ tm (i64 (idxI c s)) :=
  @p_ibsP Tryz.prog lo ob L tm dst ty pos aft g 243 Tryz.f243 x y tys s c Tryz.func243 ibs_n ibs_b ibs_x ibs_e hx hy

theorem c_internal_stringslite_HasPrefix (s p : List UInt8) : Fn Tryz.prog 198 [str s, str p] (bool (p.isPrefixOf s)) := by
  intro ob L
  refine a_fn Tryz.func198 rfl (by decide) (Nat.le_of_ble_eq_true rfl) ?_
  show AWP _ _ ⟨18, [(0, str s), (1, str p)], [], ob, L⟩ _
  refine a_fstr (t := 0) (E rfl) fun hA0 => ?_
  refine a_fstr (t := 1) (E rfl) fun hA1 => ?_
  refine a_seq ?_
  refine a_reg (o1 (p_as (E rfl)) oz) rfl rfl ?_
  refine a_seq ?_
  refine a_reg (o1 (p_mv (E rfl)) (o1 (p_lens Tryz.underlying9 (E rfl)) (o1 (p_mv (E rfl)) (o1 (p_lens Tryz.underlying9 (E rfl)) (o1 (p_geq (E rfl) (E rfl)) (o1 (p_mv (E rfl)) (g1 rfl rfl (fun h6 => p_mv (E rfl)) (g1 rfl rfl (fun h7 => p_mv (E rfl)) (g1 rfl rfl (fun h8 => p_lens Tryz.underlying9 (Eo rfl h8)) (g1 rfl rfl (fun h9 => p_ss_h Tryz.underlying9 (Eo rfl h9) (Eo rfl h9) (by first | omega | (simp only [beq_iff_eq, decide_eq_true_eq, decide_eq_false_iff_not, Bool.and_eq_true, Bool.and_eq_false_iff, Bool.or_eq_true, Bool.or_eq_false_iff, Bool.not_eq_true', Bool.not_eq_false', bs_length] at *; omega) | (simp at * <;> omega))) (g1 rfl rfl (fun h10 => p_mv (E rfl)) (g1 rfl rfl (fun h11 => p_eqs (Eo rfl h11) (Eo rfl h11)) (o1 (p_and (E rfl) rfl rfl (fun h => bqt h)) (o1 (p_as (E rfl)) oz)))))))))))))) rfl rfl ?_
  refine a_ret ?_
  refine ⟨_, resA_one rfl (E rfl), rfl, ?_, rfl, fun _ h => h⟩
  refine congrArg bool ?_
  rw [Bool.eq_iff_iff, List.isPrefixOf_iff_prefix]; simp only [Bool.and_eq_true, decide_eq_true_eq, cut]; constructor
  · rintro ⟨h1, h2⟩; simp at h2; rw [← h2]; exact List.take_prefix _ _
  · rintro ⟨t, rfl⟩; simp; omega

theorem c_strings_HasPrefix (s p : List UInt8) : Fn Tryz.prog 128 [str s, str p] (bool (p.isPrefixOf s)) := by
  intro ob L
  refine a_fn Tryz.func128 rfl (by decide) (Nat.le_of_ble_eq_true rfl) ?_
  show AWP _ _ ⟨8, [(0, str s), (1, str p)], [], ob, L⟩ _
  refine a_fstr (t := 0) (E rfl) fun hA0 => ?_
  refine a_fstr (t := 1) (E rfl) fun hA1 => ?_
  refine a_seq ?_
  refine a_reg (o1 (p_as (E rfl)) oz) rfl rfl ?_
  refine a_seq ?_
  refine a_reg (o1 (p_mv (E rfl)) (o1 (p_mv (E rfl)) (o1 (p_call (c_internal_stringslite_HasPrefix _ _) (.cons (E rfl) (.cons (E rfl) .nil)) rfl rfl) (o1 (p_as (E rfl)) oz)))) rfl rfl ?_
  refine a_ret ?_
  refine ⟨_, resA_one rfl (E rfl), rfl, ?_, rfl, fun _ h => h⟩
  rfl

theorem c_internal_stringslite_HasSuffix (s p : List UInt8) : Fn Tryz.prog 199 [str s, str p] (bool (p.isSuffixOf s)) := by
  intro ob L
  refine a_fn Tryz.func199 rfl (by decide) (Nat.le_of_ble_eq_true rfl) ?_
  show AWP _ _ ⟨21, [(0, str s), (1, str p)], [], ob, L⟩ _
  refine a_fstr (t := 0) (E rfl) fun hA0 => ?_
  refine a_fstr (t := 1) (E rfl) fun hA1 => ?_
  refine a_seq ?_
  refine a_reg (o1 (p_as (E rfl)) oz) rfl rfl ?_
  refine a_seq ?_
  refine a_reg (o1 (p_mv (E rfl)) (o1 (p_lens Tryz.underlying9 (E rfl)) (o1 (p_mv (E rfl)) (o1 (p_lens Tryz.underlying9 (E rfl)) (o1 (p_geq (E rfl) (E rfl)) (o1 (p_mv (E rfl)) (g1 rfl rfl (fun h6 => p_mv (E rfl)) (g1 rfl rfl (fun h7 => p_mv (E rfl)) (g1 rfl rfl (fun h8 => p_lens Tryz.underlying9 (Eo rfl h8)) (g1 rfl rfl (fun h9 => p_mv (E rfl)) (g1 rfl rfl (fun h10 => p_lens Tryz.underlying9 (Eo rfl h10)) (g1 rfl rfl (fun h11 => p_subf (Eo rfl h11) (Eo rfl h11) (fun _ _ => (by first | omega | (simp only [beq_iff_eq, decide_eq_true_eq, decide_eq_false_iff_not, Bool.and_eq_true, Bool.and_eq_false_iff, Bool.or_eq_true, Bool.or_eq_false_iff, Bool.not_eq_true', Bool.not_eq_false', bs_length] at *; omega) | (simp at * <;> omega)))) (g1 rfl rfl (fun h12 => p_ss_l Tryz.underlying9 (Eo rfl h12) (Eo rfl h12) (by first | omega | (simp only [beq_iff_eq, decide_eq_true_eq, decide_eq_false_iff_not, Bool.and_eq_true, Bool.and_eq_false_iff, Bool.or_eq_true, Bool.or_eq_false_iff, Bool.not_eq_true', Bool.not_eq_false', bs_length] at *; omega) | (simp at * <;> omega))) (g1 rfl rfl (fun h13 => p_mv (E rfl)) (g1 rfl rfl (fun h14 => p_eqs (Eo rfl h14) (Eo rfl h14)) (o1 (p_and (E rfl) rfl rfl (fun h => bqt h)) (o1 (p_as (E rfl)) oz))))))))))))))))) rfl rfl ?_
  refine a_ret ?_
  refine ⟨_, resA_one rfl (E rfl), rfl, ?_, rfl, fun _ h => h⟩
  refine congrArg bool ?_
  rw [Bool.eq_iff_iff, List.isSuffixOf_iff_suffix]; simp only [Bool.and_eq_true, decide_eq_true_eq, cut]; constructor
  · rintro ⟨h1, h2⟩; rw [← h2]; exact List.drop_suffix _ _
  · rintro ⟨t, rfl⟩
    refine ⟨by simp <;> omega, ?_⟩
    rw [show (((t ++ p).length : Int) - (p.length : Int)).toNat = t.length by simp]
    simp

theorem c_strings_HasSuffix (s p : List UInt8) : Fn Tryz.prog 131 [str s, str p] (bool (p.isSuffixOf s)) := by
  intro ob L
  refine a_fn Tryz.func131 rfl (by decide) (Nat.le_of_ble_eq_true rfl) ?_
  show AWP _ _ ⟨8, [(0, str s), (1, str p)], [], ob, L⟩ _
  refine a_fstr (t := 0) (E rfl) fun hA0 => ?_
  refine a_fstr (t := 1) (E rfl) fun hA1 => ?_
  refine a_seq ?_
  refine a_reg (o1 (p_as (E rfl)) oz) rfl rfl ?_
  refine a_seq ?_
  refine a_reg (o1 (p_mv (E rfl)) (o1 (p_mv (E rfl)) (o1 (p_call (c_internal_stringslite_HasSuffix _ _) (.cons (E rfl) (.cons (E rfl) .nil)) rfl rfl) (o1 (p_as (E rfl)) oz)))) rfl rfl ?_
  refine a_ret ?_
  refine ⟨_, resA_one rfl (E rfl), rfl, ?_, rfl, fun _ h => h⟩
  rfl

theorem c_internal_stringslite_IndexByte (s : List UInt8) (c : Int) : Fn Tryz.prog 189 [str s, u8 c] (i64 (idxI c s)) := by
  intro ob L
  refine a_fn Tryz.func189 rfl (by decide) (Nat.le_of_ble_eq_true rfl) ?_
  show AWP _ _ ⟨8, [(0, str s), (1, u8 c)], [], ob, L⟩ _
  refine a_fstr (t := 0) (E rfl) fun hA0 => ?_
  refine a_seq ?_
  refine a_reg (o1 (p_as (E rfl)) oz) rfl rfl ?_
  refine a_seq ?_
  refine a_reg (o1 (p_mv (E rfl)) (o1 (p_mv (E rfl)) (o1 (p_ibs (E rfl) (E rfl)) (o1 (p_as (E rfl)) oz)))) rfl rfl ?_
  refine a_ret ?_
  refine ⟨_, resA_one rfl (E rfl), rfl, ?_, rfl, fun _ h => h⟩
  rfl

theorem c_strings_IndexByte (s : List UInt8) (c : Int) : Fn Tryz.prog 126 [str s, u8 c] (i64 (idxI c s)) := by
  intro ob L
  refine a_fn Tryz.func126 rfl (by decide) (Nat.le_of_ble_eq_true rfl) ?_
  show AWP _ _ ⟨8, [(0, str s), (1, u8 c)], [], ob, L⟩ _
  refine a_fstr (t := 0) (E rfl) fun hA0 => ?_
  refine a_seq ?_
  refine a_reg (o1 (p_as (E rfl)) oz) rfl rfl ?_
  refine a_seq ?_
  refine a_reg (o1 (p_mv (E rfl)) (o1 (p_mv (E rfl)) (o1 (p_call (c_internal_stringslite_IndexByte _ _) (.cons (E rfl) (.cons (E rfl) .nil)) rfl rfl) (o1 (p_as (E rfl)) oz)))) rfl rfl ?_
  refine a_ret ?_
  refine ⟨_, resA_one rfl (E rfl), rfl, ?_, rfl, fun _ h => h⟩
  rfl

theorem c_strings_IndexRune_ascii (s : List UInt8) (r : Int) (hr : 0 ≤ r ∧ r < 128) : Fn Tryz.prog 80 [str s, int .i32 r] (i64 (idxI r s)) := by
  intro ob L
  refine a_fn Tryz.func80 rfl (by decide) (Nat.le_of_ble_eq_true rfl) ?_
  show AWP _ _ ⟨187, [(0, str s), (1, int .i32 r)], [], ob, L⟩ _
  refine a_fstr (t := 0) (E rfl) fun hA0 => ?_
  refine a_seq ?_
  refine a_reg (o1 (p_as (E rfl)) oz) rfl rfl ?_
  refine a_block ?_
  refine a_seq ?_
  refine a_reg (o1 (p_mv (E rfl)) (o1 (p_leq (E rfl) (E rfl)) (o1 (p_mv (E rfl)) (g1 rfl rfl (fun h3 => p_mv (E rfl)) (g1 rfl rfl (fun h4 => p_lss (Eo rfl h4) (E rfl)) (o1 (p_and (E rfl) rfl rfl (fun h => bqt h)) (o1 (p_as (E rfl)) oz))))))) rfl rfl ?_
  refine a_cond (E rfl) (fun h => ?_) (fun h => ?_)
  · refine a_seq ?_
    refine a_reg (o1 (p_mv (E rfl)) (o1 (p_mv (E rfl)) (o1 (p_cvw ty_iu_21 ty_iu_5 (E rfl)) (o1 (p_call (c_strings_IndexByte _ _) (.cons (E rfl) (.cons (E rfl) .nil)) rfl rfl) (o1 (p_as (E rfl)) oz))))) rfl rfl ?_
    refine a_ret ?_
    refine ⟨_, resA_one rfl (E rfl), rfl, ?_, rfl, fun _ h => h⟩
    refine congrArg i64 ?_
    rw [show IntKind.u8.wrap r = r from wrap_in _ (by simp [IntKind.min, IntKind.max, IntKind.signed, IntKind.bits]; omega)]
  · exfalso; simp at h; omega

theorem c_strings_ContainsRune (s : List UInt8) (r : Int) (hr : 0 ≤ r ∧ r < 128) : Fn Tryz.prog 45 [str s, int .i32 r] (bool (decide (idxI r s ≥ 0))) := by
  intro ob L
  refine a_fn Tryz.func45 rfl (by decide) (Nat.le_of_ble_eq_true rfl) ?_
  show AWP _ _ ⟨9, [(0, str s), (1, int .i32 r)], [], ob, L⟩ _
  refine a_fstr (t := 0) (E rfl) fun hA0 => ?_
  refine a_seq ?_
  refine a_reg (o1 (p_as (E rfl)) oz) rfl rfl ?_
  refine a_seq ?_
  refine a_reg (o1 (p_mv (E rfl)) (o1 (p_mv (E rfl)) (o1 (p_call (c_strings_IndexRune_ascii _ _ hr) (.cons (E rfl) (.cons (E rfl) .nil)) rfl rfl) (o1 (p_geq (E rfl) (E rfl)) (o1 (p_as (E rfl)) oz))))) rfl rfl ?_
  refine a_ret ?_
  refine ⟨_, resA_one rfl (E rfl), rfl, ?_, rfl, fun _ h => h⟩
  rfl


end Go.Proofs.YtcemejmegbefgaaGreatDoor.Em

set_option maxRecDepth 100000
set_option linter.unusedVariables false
set_option linter.unusedSimpArgs false
namespace Go.Proofs.YtcemejmegbefgaaGreatDoor.Em
open Go.Proofs

theorem bytesOf_u8 (s : List UInt8) : Lib.bytesOf (s.map fun b => ((b.toNat : Nat) : Int)) = s := by
  induction s with
  | nil => rfl
  | cons x xs ih => simp [Lib.bytesOf] at ih ⊢; exact ih
theorem p_iblP {P : Program} {lo ob : List (List PV)} {L : List Nat} {tm : List (Nat × PV)} {dst : Option Tmp} {ty : TypeId} {pos : String} {aft : Array Edge} {g : Option (Nat × Bool)} {f : FuncId} {fn : Func} {x y : Operand} {tys : Array TypeId} {s : List UInt8} {c : Int}
    (hf : P.funcs[f]? = some fn) (hname : (fn.name == "runtime.NumGoroutine") = false) (hb : fn.body.isNone = true) (hn : Extern.findNext fn = none) (he : Extern.find fn = some Extern.BytealgIndexByte.indexByte) (hx : Ev tm x (lst 1 (bs s))) (hy : Ev tm y (u8 c)) :
    POp P lo ob L ⟨dst, .call ⟨.value (.func f), [x, y].toArray, tys⟩, ty, pos, aft, g⟩ tm (i64 (idxI c s)) :=
  p_callx (xs := [x, y]) (ps := [lst 1 (bs s), u8 c]) hf hname hb hn he (.cons hx (.cons hy .nil)) fun cx vs hi hr => by
    obtain ⟨a, b, rfl, h1, h2⟩ := reps2 hr
    obtain ⟨rfl, h6⟩ := rep_v h2
    simp only [Rep, RepD] at h1
    rcases h1 with ⟨h1, rfl⟩ | ⟨bk, off, cc, vs, rfl, h3, h4, h5, h7⟩
    · have hl : s = [] := by cases s with | nil => rfl | cons b l => simp [bs] at h1
      subst hl
      have h9 := Lib.run_indexByteNil (P := P) cx.w 0 0 c
      exact ⟨.int .i64 (-1), h9, mk_v (idx_ok (c := c) (s := []) (by simp [LIM]))⟩
    · have hv := repC_bs_inv s vs h7
      rw [bs_length] at h3 h4 ⊢
      refine ⟨.int .i64 (idxI c s), ?_, mk_v (idx_ok h4)⟩
      have := Lib.run_indexByteSlice (P := P) cx.w bk off s.length cc (s.map fun b => ((b.toNat : Nat) : Int)) (by simp) (fun i hi => by
        have h8 := (h5 i (.int .u8 (s[i].toNat : Int)) (by rw [hv]; simp [hi])).1
        rw [h8]; simp [hi]) c
      rw [bytesOf_u8, idxI_eq c (u8_bd h6)] at this
      exact this
theorem ibl_n : (Tryz.f132.name == "runtime.NumGoroutine") = false := by kernel_rfl
theorem ibl_b : Tryz.f132.body.isNone = true := by kernel_rfl
theorem ibl_x : Extern.findNext Tryz.f132 = none := by kernel_rfl
theorem ibl_e : Extern.find Tryz.f132 = some Extern.BytealgIndexByte.indexByte := by kernel_rfl
theorem p_ibl {lo ob : List (List PV)} {L : List Nat} {tm : List (Nat × PV)} {dst : Option Tmp} {ty : TypeId} {pos : String} {aft : Array Edge} {g : Option (Nat × Bool)} {x y : Operand} {tys : Array TypeId} {s : List UInt8} {c : Int} (hx : Ev tm x (lst 1 (bs s))) (hy : Ev tm y (u8 c)) :
    POp Tryz.prog lo ob L ⟨dst, .call ⟨.value (.func 132), [x, y].toArray, tys⟩, ty, pos, aft, g⟩ tm (i64 (idxI c s)) :=
  @p_iblP Tryz.prog lo ob L tm dst ty pos aft g 132 Tryz.f132 x y tys s c Tryz.func132 ibl_n ibl_b ibl_x ibl_e hx hy

theorem c_bytes_IndexByte (s : List UInt8) (c : Int) : Fn Tryz.prog 78 [lst 1 (bs s), u8 c] (i64 (idxI c s)) := by
  intro ob L
  refine a_fn Tryz.func78 rfl (by decide) (Nat.le_of_ble_eq_true rfl) ?_
  show AWP _ _ ⟨8, [(0, lst 1 (bs s)), (1, u8 c)], [], ob, L⟩ _
  refine a_flst (t := 0) (E rfl) fun hA0 => ?_
  refine a_seq ?_
  refine a_reg (o1 (p_as (E rfl)) oz) rfl rfl ?_
  refine a_seq ?_
  refine a_reg (o1 (p_mv (E rfl)) (o1 (p_mv (E rfl)) (o1 (p_ibl (E rfl) (E rfl)) (o1 (p_as (E rfl)) oz)))) rfl rfl ?_
  refine a_ret ?_
  refine ⟨_, resA_one rfl (E rfl), rfl, ?_, rfl, fun _ h => h⟩
  rfl


end Go.Proofs.YtcemejmegbefgaaGreatDoor.Em

set_option maxRecDepth 100000
set_option linter.unusedVariables false
set_option linter.unusedSimpArgs false
namespace Go.Proofs.YtcemejmegbefgaaGreatDoor.Em
open Go.Proofs

def trimLB (c : Int) : List UInt8 → List UInt8
  | [] => []
  | x :: xs => if (x.toNat : Int) = c then trimLB c xs else x :: xs
def trimRB (c : Int) (s : List UInt8) : List UInt8 := (trimLB c s.reverse).reverse
theorem bt_last (s : List UInt8) (x : UInt8) : bt (s ++ [x]) (((s ++ [x]).length : Int) - 1) = x.toNat := by
  have : (((s ++ [x]).length : Int) - 1).toNat = s.length := by simp
  unfold bt
  rw [this]; simp
theorem snoc_of (s : List UInt8) (h : 0 < s.length) : ∃ t x, s = t ++ [x] := ⟨s.dropLast, s.getLast (by intro e; simp [e] at h), (List.dropLast_concat_getLast _).symm⟩

theorem c_strings_trimLeftByte (s : List UInt8) (c : Int) : Fn Tryz.prog 140 [str s, u8 c] (str (trimLB c s)) := by
  intro ob L
  refine a_fn Tryz.func140 rfl (by decide) (Nat.le_of_ble_eq_true rfl) ?_
  show AWP _ _ ⟨17, [(0, str s), (1, u8 c)], [], ob, L⟩ _
  refine a_fstr (t := 0) (E rfl) fun hA0 => ?_
  refine a_seq ?_
  refine a_reg (o1 (p_as (E rfl)) oz) rfl rfl ?_
  refine a_seq ?_
  refine a_block ?_
  refine a_loop (fun p : List UInt8 => trimLB c p = trimLB c s) (fun p => p.length) (fun p => ⟨17, [(0, str p), (1, u8 c)], [], ob, L⟩) s rfl ⟨rfl, rfl, rfl, fun _ h => h, E rfl, E rfl, trivial⟩ fun p hp => ?_
  refine a_seq ?_
  refine a_seq ?_
  refine a_reg (o1 (p_mv (E rfl)) (o1 (p_lens Tryz.underlying9 (E rfl)) (o1 (p_gtr (E rfl) (E rfl)) (o1 (p_mv (E rfl)) (g1 rfl rfl (fun h4 => p_mv (E rfl)) (g1 rfl rfl (fun h5 => p_idx Tryz.underlying9 (Eo rfl h5) (E rfl) (by first | omega | (simp only [beq_iff_eq, decide_eq_true_eq, decide_eq_false_iff_not, Bool.and_eq_true, Bool.and_eq_false_iff, Bool.or_eq_true, Bool.or_eq_false_iff, Bool.not_eq_true', Bool.not_eq_false', bs_length] at *; omega) | (simp at * <;> omega))) (g1 rfl rfl (fun h6 => p_mv (E rfl)) (g1 rfl rfl (fun h7 => p_eq (Eo rfl h7) (Eo rfl h7)) (o1 (p_and (E rfl) rfl rfl (fun h => bqt h)) oz))))))))) rfl rfl ?_
  refine a_cond (E rfl) (fun h => ?_) (fun h => ?_)
  · simp only [Bool.and_eq_true, decide_eq_true_eq] at h
    obtain ⟨x, xs, rfl⟩ : ∃ x xs, p = x :: xs := by
      cases p with
      | nil => simp at h
      | cons x xs => exact ⟨x, xs, rfl⟩
    rw [bt_zero] at h
    rw [trimLB, if_pos h.2] at hp
    refine a_skip ?_
    refine a_block ?_
    refine a_reg (o1 (p_mv (E rfl)) (o1 (p_ss_l Tryz.underlying9 (E rfl) (E rfl) (by first | omega | (simp only [beq_iff_eq, decide_eq_true_eq, decide_eq_false_iff_not, Bool.and_eq_true, Bool.and_eq_false_iff, Bool.or_eq_true, Bool.or_eq_false_iff, Bool.not_eq_true', Bool.not_eq_false', bs_length] at *; omega) | (simp at * <;> omega))) (o1 (p_as (E rfl)) oz))) rfl rfl ?_
    exact ⟨xs, hp, by simp, rfl, rfl, rfl, fun _ h => h, E rfl, E rfl, trivial⟩
  · have hR : trimLB c p = p := by
      cases p with
      | nil => rfl
      | cons x xs =>
        rw [trimLB, if_neg]
        intro hx
        have : bt (x :: xs) 0 = c := by rw [bt_zero]; exact hx
        rw [this] at h
        simp at h <;> omega
    rw [hR] at hp
    refine a_exit ?_
    refine a_seq ?_
    refine a_reg (o1 (p_mv (E rfl)) (o1 (p_as (E rfl)) oz)) rfl rfl ?_
    refine a_ret ?_
    refine ⟨_, resA_one rfl (E rfl), rfl, ?_, rfl, fun _ h => h⟩
    rw [hp]

theorem c_strings_trimRightByte (s : List UInt8) (c : Int) : Fn Tryz.prog 141 [str s, u8 c] (str (trimRB c s)) := by
  intro ob L
  refine a_fn Tryz.func141 rfl (by decide) (Nat.le_of_ble_eq_true rfl) ?_
  show AWP _ _ ⟨23, [(0, str s), (1, u8 c)], [], ob, L⟩ _
  refine a_fstr (t := 0) (E rfl) fun hA0 => ?_
  refine a_seq ?_
  refine a_reg (o1 (p_as (E rfl)) oz) rfl rfl ?_
  refine a_seq ?_
  refine a_block ?_
  refine a_loop (fun p : List UInt8 => trimRB c p = trimRB c s) (fun p => p.length) (fun p => ⟨23, [(0, str p), (1, u8 c)], [], ob, L⟩) s rfl ⟨rfl, rfl, rfl, fun _ h => h, E rfl, E rfl, trivial⟩ fun p hp => ?_
  refine a_seq ?_
  refine a_seq ?_
  refine a_reg (o1 (p_mv (E rfl)) (o1 (p_lens Tryz.underlying9 (E rfl)) (o1 (p_gtr (E rfl) (E rfl)) (o1 (p_mv (E rfl)) (g1 rfl rfl (fun h4 => p_mv (E rfl)) (g1 rfl rfl (fun h5 => p_mv (E rfl)) (g1 rfl rfl (fun h6 => p_lens Tryz.underlying9 (Eo rfl h6)) (g1 rfl rfl (fun h7 => p_subf (Eo rfl h7) (E rfl) (fun _ _ => (by first | omega | (simp only [beq_iff_eq, decide_eq_true_eq, decide_eq_false_iff_not, Bool.and_eq_true, Bool.and_eq_false_iff, Bool.or_eq_true, Bool.or_eq_false_iff, Bool.not_eq_true', Bool.not_eq_false', bs_length] at *; omega) | (simp at * <;> omega)))) (g1 rfl rfl (fun h8 => p_idx Tryz.underlying9 (Eo rfl h8) (Eo rfl h8) (by first | omega | (simp only [beq_iff_eq, decide_eq_true_eq, decide_eq_false_iff_not, Bool.and_eq_true, Bool.and_eq_false_iff, Bool.or_eq_true, Bool.or_eq_false_iff, Bool.not_eq_true', Bool.not_eq_false', bs_length] at *; omega) | (simp at * <;> omega))) (g1 rfl rfl (fun h9 => p_mv (E rfl)) (g1 rfl rfl (fun h10 => p_eq (Eo rfl h10) (Eo rfl h10)) (o1 (p_and (E rfl) rfl rfl (fun h => bqt h)) oz)))))))))))) rfl rfl ?_
  refine a_cond (E rfl) (fun h => ?_) (fun h => ?_)
  · simp only [Bool.and_eq_true, decide_eq_true_eq] at h
    obtain ⟨xs, x, rfl⟩ := snoc_of p (by omega)
    rw [bt_last] at h
    rw [trimRB, List.reverse_append, List.reverse_singleton, List.singleton_append, trimLB, if_pos h.2] at hp
    refine a_skip ?_
    refine a_block ?_
    refine a_reg (o1 (p_mv (E rfl)) (o1 (p_mv (E rfl)) (o1 (p_lens Tryz.underlying9 (E rfl)) (o1 (p_subf (E rfl) (E rfl) (fun _ _ => (by first | omega | (simp only [beq_iff_eq, decide_eq_true_eq, decide_eq_false_iff_not, Bool.and_eq_true, Bool.and_eq_false_iff, Bool.or_eq_true, Bool.or_eq_false_iff, Bool.not_eq_true', Bool.not_eq_false', bs_length] at *; omega) | (simp at * <;> omega)))) (o1 (p_ss_h Tryz.underlying9 (E rfl) (E rfl) (by first | omega | (simp only [beq_iff_eq, decide_eq_true_eq, decide_eq_false_iff_not, Bool.and_eq_true, Bool.and_eq_false_iff, Bool.or_eq_true, Bool.or_eq_false_iff, Bool.not_eq_true', Bool.not_eq_false', bs_length] at *; omega) | (simp at * <;> omega))) (o1 (p_as (E rfl)) oz)))))) rfl rfl ?_
    exact ⟨xs, hp, by simp, rfl, rfl, rfl, fun _ h => h, Eq_ rfl (by simp), E rfl, trivial⟩
  · have hR : trimRB c p = p := by
      rcases Nat.eq_zero_or_pos p.length with h0 | h0
      · rw [List.eq_nil_of_length_eq_zero h0]; rfl
      · obtain ⟨xs, x, rfl⟩ := snoc_of p h0
        rw [bt_last] at h
        rw [trimRB, List.reverse_append, List.reverse_singleton, List.singleton_append, trimLB, if_neg]
        · simp
        · intro hx
          rw [hx] at h
          simp at h <;> omega
    rw [hR] at hp
    refine a_exit ?_
    refine a_seq ?_
    refine a_reg (o1 (p_mv (E rfl)) (o1 (p_as (E rfl)) oz)) rfl rfl ?_
    refine a_ret ?_
    refine ⟨_, resA_one rfl (E rfl), rfl, ?_, rfl, fun _ h => h⟩
    rw [hp]

theorem c_strings_Trim1 (s : List UInt8) (c : UInt8) (hc : c.toNat < 128) : Fn Tryz.prog 82 [str s, str [c]] (str (trimLB c.toNat (trimRB c.toNat s))) := by
  intro ob L
  refine a_fn Tryz.func82 rfl (by decide) (Nat.le_of_ble_eq_true rfl) ?_
  show AWP _ _ ⟨43, [(0, str s), (1, str [c])], [], ob, L⟩ _
  refine a_fstr (t := 0) (E rfl) fun hA0 => ?_
  refine a_fstr (t := 1) (E rfl) fun hA1 => ?_
  refine a_seq ?_
  refine a_reg (o1 (p_as (E rfl)) oz) rfl rfl ?_
  refine a_seq ?_
  refine a_seq ?_
  refine a_reg (o1 (p_mv (E rfl)) (o1 (p_eqs (E rfl) (E rfl)) (o1 (p_mv (E rfl)) (g1 rfl rfl (fun h3 => p_mv (E rfl)) (g1 rfl rfl (fun h4 => p_eqs (Eo rfl h4) (E rfl)) (o1 (p_or (E rfl) rfl rfl (fun h => bqf h)) oz)))))) rfl rfl ?_
  refine a_cond (E rfl) (fun h => ?_) (fun h => ?_)
  · refine a_seq ?_
    refine a_reg (o1 (p_mv (E rfl)) (o1 (p_as (E rfl)) oz)) rfl rfl ?_
    refine a_ret ?_
    refine ⟨_, resA_one rfl (E rfl), rfl, ?_, rfl, fun _ h => h⟩
    have h0 : s = [] := by simpa using h
    subst h0; rfl
  · refine a_skip ?_
    refine a_seq ?_
    refine a_seq ?_
    refine a_reg (o1 (p_mv (E rfl)) (o1 (p_lens Tryz.underlying9 (E rfl)) (o1 (p_eq (E rfl) (E rfl)) (o1 (p_mv (E rfl)) (g1 rfl rfl (fun h4 => p_mv (E rfl)) (g1 rfl rfl (fun h5 => p_idx Tryz.underlying9 (Eo rfl h5) (E rfl) (by first | omega | (simp only [beq_iff_eq, decide_eq_true_eq, decide_eq_false_iff_not, Bool.and_eq_true, Bool.and_eq_false_iff, Bool.or_eq_true, Bool.or_eq_false_iff, Bool.not_eq_true', Bool.not_eq_false', bs_length] at *; omega) | (simp at * <;> omega))) (g1 rfl rfl (fun h6 => p_lss (Eo rfl h6) (E rfl)) (o1 (p_and (E rfl) rfl rfl (fun h => bqt h)) oz)))))))) rfl rfl ?_
    refine a_cond (E rfl) (fun h => ?_) (fun h => ?_)
    · refine a_seq ?_
      refine a_regd mix (o1 (p_mv (E rfl)) (o1 (p_mv (E rfl)) (o1 (p_idx Tryz.underlying9 (E rfl) (E rfl) (by first | omega | (simp only [beq_iff_eq, decide_eq_true_eq, decide_eq_false_iff_not, Bool.and_eq_true, Bool.and_eq_false_iff, Bool.or_eq_true, Bool.or_eq_false_iff, Bool.not_eq_true', Bool.not_eq_false', bs_length] at *; omega) | (simp at * <;> omega))) (o1 (p_call (c_strings_trimRightByte _ _) (.cons (E rfl) (.cons (E rfl) .nil)) rfl rfl) (o1 (p_mv (E rfl)) (o1 (p_idx Tryz.underlying9 (E rfl) (E rfl) (by first | omega | (simp only [beq_iff_eq, decide_eq_true_eq, decide_eq_false_iff_not, Bool.and_eq_true, Bool.and_eq_false_iff, Bool.or_eq_true, Bool.or_eq_false_iff, Bool.not_eq_true', Bool.not_eq_false', bs_length] at *; omega) | (simp at * <;> omega))) (o1 (p_call (c_strings_trimLeftByte _ _) (.cons (E rfl) (.cons (E rfl) .nil)) rfl rfl) (o1 (p_as (E rfl)) oz)))))))) rfl rfl (by kernel_rfl) ?_
      refine a_ret ?_
      refine ⟨_, resA_one rfl (E rfl), rfl, ?_, rfl, fun _ h => h⟩
      simp [bt]
    · exfalso; simp [bt] at h; omega


end Go.Proofs.YtcemejmegbefgaaGreatDoor.Em
