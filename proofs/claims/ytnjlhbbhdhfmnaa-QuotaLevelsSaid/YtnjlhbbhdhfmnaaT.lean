/-
  Closed facts of the program's types, by xp.py.
-/
import Derived.Test.YtnjlhbbhdhfmnaaX9
import Derived.Test.YtnjlhbbhdhfmnaaProg
namespace Go.Proofs.Ytnjlhbbhdhfmnaa.Xe
open Go

theorem T.mixed : Try.prog.follows .mixedOrders = true := by kernel_rfl
theorem T.own : ownKnob Try.prog.godebug = none := by kernel_rfl
theorem T.laidOut : laidOutB Try.prog = true := by kernel_rfl
theorem T.agg_23_7 : aggB Try.prog 23 7 = true := by kernel_rfl
theorem T.bool_4 : boolB Try.prog 4 = true := by kernel_rfl
theorem T.fld_23_0_0 : fldB Try.prog 23 0 0 = true := by kernel_rfl
theorem T.fld_23_1_1 : fldB Try.prog 23 1 1 = true := by kernel_rfl
theorem T.fld_23_2_2 : fldB Try.prog 23 2 2 = true := by kernel_rfl
theorem T.fld_23_3_3 : fldB Try.prog 23 3 3 = true := by kernel_rfl
theorem T.fld_23_4_4 : fldB Try.prog 23 4 4 = true := by kernel_rfl
theorem T.fld_23_5_5 : fldB Try.prog 23 5 5 = true := by kernel_rfl
theorem T.fld_23_6_6 : fldB Try.prog 23 6 6 = true := by kernel_rfl
theorem T.int_24_i64 : intB Try.prog 24 .i64 = true := by kernel_rfl
theorem T.int_31_u64 : intB Try.prog 31 .u64 = true := by kernel_rfl
theorem T.int_3_i64 : intB Try.prog 3 .i64 = true := by kernel_rfl
theorem T.scal_24 : scalB Try.prog 24 = true := by kernel_rfl
theorem T.scal_3 : scalB Try.prog 3 = true := by kernel_rfl
theorem T.scal_32 : scalB Try.prog 32 = true := by kernel_rfl
theorem T.scal_4 : scalB Try.prog 4 = true := by kernel_rfl
theorem T.zero_23 : (Try.prog.info? 23).map (·.zero) = some (some (.agg #[(.int .i64 0), (.int .i64 0), (.int .i64 0), (.int .i64 0), (.int .i64 0), (.int .i64 0), (.int .i64 0)])) := by kernel_rfl

end Go.Proofs.Ytnjlhbbhdhfmnaa.Xe
