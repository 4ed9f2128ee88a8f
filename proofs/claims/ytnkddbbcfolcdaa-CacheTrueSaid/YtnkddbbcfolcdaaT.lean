/-
  Closed facts of the program's types, by xp.py.
-/
import Derived.Test.YtnkddbbcfolcdaaX11
import Derived.Test.YtnkddbbcfolcdaaProg
namespace Go.Proofs.Ytnkddbbcfolcdaa.Xe
open Go

theorem T.mixed : Try.prog.follows .mixedOrders = true := by kernel_rfl
theorem T.own : ownKnob Try.prog.godebug = none := by kernel_rfl
theorem T.laidOut : laidOutB Try.prog = true := by kernel_rfl
theorem T.agg_25_3 : aggB Try.prog 25 3 = true := by kernel_rfl
theorem T.agg_34_4 : aggB Try.prog 34 4 = true := by kernel_rfl
theorem T.agg_42_8 : aggB Try.prog 42 8 = true := by kernel_rfl
theorem T.agg_49_6 : aggB Try.prog 49 6 = true := by kernel_rfl
theorem T.agg_73_2 : aggB Try.prog 73 2 = true := by kernel_rfl
theorem T.agg_80_3 : aggB Try.prog 80 3 = true := by kernel_rfl
theorem T.agg_82_5 : aggB Try.prog 82 5 = true := by kernel_rfl
theorem T.bool_4 : boolB Try.prog 4 = true := by kernel_rfl
theorem T.build_25  : Try.prog.built 25 [] = some [((.bool false) : Value), (.slice none 0 0), (.slice none 0 0)].toArray := by kernel_rfl
theorem T.build_25_0 (x1 : Bool) : Try.prog.built 25 [(0, (.bool x1))] = some [((.bool x1) : Value), (.slice none 0 0), (.slice none 0 0)].toArray := by kernel_rfl
theorem T.build_25_0_2 (x1 : Bool) (x2 : Option Addr) (x3 : Nat) (x4 : Nat) : Try.prog.built 25 [(0, (.bool x1)), (2, (.slice x2 x3 x4))] = some [((.bool x1) : Value), (.slice none 0 0), (.slice x2 x3 x4)].toArray := by kernel_rfl
theorem T.build_34_0_1_2_3 (x1 : Int) (x2 : Int) (x3 : Int) (x4 : Int) : Try.prog.built 34 [(0, (.int .u64 x1)), (1, (.int .i64 x2)), (2, (.int .i64 x3)), (3, (.int .i64 x4))] = some [((.int .u64 x1) : Value), (.int .i64 x2), (.int .i64 x3), (.int .i64 x4)].toArray := by kernel_rfl
theorem T.build_42  : Try.prog.built 42 [] = some [((.int .u64 0) : Value), (.int .i64 0), (.int .i64 0), (.int .i64 0), (.bool false), (.slice none 0 0), (.slice none 0 0), (.int .i64 0)].toArray := by kernel_rfl
theorem T.build_42_0_1 (x1 : Value) (x2 : Value) (x3 : Value) (x4 : Value) (x5 : Value) (x6 : Value) (x7 : Value) : Try.prog.built 42 [(0, (.agg #[x1, x2, x3, x4])), (1, (.agg #[x5, x6, x7]))] = some [(x1 : Value), x2, x3, x4, x5, x6, x7, (.int .i64 0)].toArray := by kernel_rfl
theorem T.build_67_0 (x1 : Int) : Try.prog.built 67 [(0, (.int .i64 x1))] = some [((.int .i64 x1) : Value), (.slice none 0 0), (.int .i64 0), (.int .i64 0)].toArray := by kernel_rfl
theorem T.build_70_0 (x1 : Int) : Try.prog.built 70 [(0, (.int .i64 x1))] = some [((.int .i64 x1) : Value), (.slice none 0 0), (.int .i64 0), (.int .i64 0)].toArray := by kernel_rfl
theorem T.build_73_0_1 (x1 : ByteArray) (x2 : Option Addr) (x3 : Nat) (x4 : Nat) : Try.prog.built 73 [(0, (.string x1)), (1, (.slice x2 x3 x4))] = some [((.string x1) : Value), (.slice x2 x3 x4)].toArray := by kernel_rfl
theorem T.bytes_34_32 : (Try.prog.info? 34).map (·.bytes) = some 32 := by kernel_rfl
theorem T.bytes_3_8 : (Try.prog.info? 3).map (·.bytes) = some 8 := by kernel_rfl
theorem T.bytes_42_96 : (Try.prog.info? 42).map (·.bytes) = some 96 := by kernel_rfl
theorem T.bytes_49_96 : (Try.prog.info? 49).map (·.bytes) = some 96 := by kernel_rfl
theorem T.bytes_4_1 : (Try.prog.info? 4).map (·.bytes) = some 1 := by kernel_rfl
theorem T.bytes_73_40 : (Try.prog.info? 73).map (·.bytes) = some 40 := by kernel_rfl
theorem T.bytes_80_40 : (Try.prog.info? 80).map (·.bytes) = some 40 := by kernel_rfl
theorem T.bytes_82_48 : (Try.prog.info? 82).map (·.bytes) = some 48 := by kernel_rfl
theorem T.cmpN_82_csniiii : cmpNB Try.prog 82 [.c .s, .n [.i, .i, .i, .i]] = true := by kernel_rfl
theorem T.cmp_34_iiii : cmpB Try.prog 34 [.i, .i, .i, .i] = true := by kernel_rfl
theorem T.cmp_80_iss : cmpB Try.prog 80 [.i, .s, .s] = true := by kernel_rfl
theorem T.fld_25_0_0 : fldB Try.prog 25 0 0 = true := by kernel_rfl
theorem T.fld_25_1_1 : fldB Try.prog 25 1 1 = true := by kernel_rfl
theorem T.fld_25_2_2 : fldB Try.prog 25 2 2 = true := by kernel_rfl
theorem T.fld_42_0_0 : fldB Try.prog 42 0 0 = true := by kernel_rfl
theorem T.fld_42_1_4 : fldB Try.prog 42 1 4 = true := by kernel_rfl
theorem T.fld_42_2_7 : fldB Try.prog 42 2 7 = true := by kernel_rfl
theorem T.fld_49_0_0 : fldB Try.prog 49 0 0 = true := by kernel_rfl
theorem T.fld_49_1_1 : fldB Try.prog 49 1 1 = true := by kernel_rfl
theorem T.fld_49_2_2 : fldB Try.prog 49 2 2 = true := by kernel_rfl
theorem T.fld_49_3_5 : fldB Try.prog 49 3 5 = true := by kernel_rfl
theorem T.fld_67_0_0 : fldB Try.prog 67 0 0 = true := by kernel_rfl
theorem T.fld_67_1_1 : fldB Try.prog 67 1 1 = true := by kernel_rfl
theorem T.fld_67_2_2 : fldB Try.prog 67 2 2 = true := by kernel_rfl
theorem T.fld_67_3_3 : fldB Try.prog 67 3 3 = true := by kernel_rfl
theorem T.fld_70_0_0 : fldB Try.prog 70 0 0 = true := by kernel_rfl
theorem T.fld_70_1_1 : fldB Try.prog 70 1 1 = true := by kernel_rfl
theorem T.fld_70_2_2 : fldB Try.prog 70 2 2 = true := by kernel_rfl
theorem T.fld_70_3_3 : fldB Try.prog 70 3 3 = true := by kernel_rfl
theorem T.fld_73_0_0 : fldB Try.prog 73 0 0 = true := by kernel_rfl
theorem T.fld_73_1_1 : fldB Try.prog 73 1 1 = true := by kernel_rfl
theorem T.fld_80_0_0 : fldB Try.prog 80 0 0 = true := by kernel_rfl
theorem T.fld_82_0_0 : fldB Try.prog 82 0 0 = true := by kernel_rfl
theorem T.fldv_42_2_7_1_false : fldvB Try.prog 42 2 7 1 false = true := by kernel_rfl
theorem T.int_27_i64 : intB Try.prog 27 .i64 = true := by kernel_rfl
theorem T.int_32_u64 : intB Try.prog 32 .u64 = true := by kernel_rfl
theorem T.int_3_i64 : intB Try.prog 3 .i64 = true := by kernel_rfl
theorem T.ptr_26 : ptrB Try.prog 26 = true := by kernel_rfl
theorem T.ptr_62 : ptrB Try.prog 62 = true := by kernel_rfl
theorem T.scal_22 : scalB Try.prog 22 = true := by kernel_rfl
theorem T.scal_23 : scalB Try.prog 23 = true := by kernel_rfl
theorem T.scal_26 : scalB Try.prog 26 = true := by kernel_rfl
theorem T.scal_27 : scalB Try.prog 27 = true := by kernel_rfl
theorem T.scal_3 : scalB Try.prog 3 = true := by kernel_rfl
theorem T.scal_32 : scalB Try.prog 32 = true := by kernel_rfl
theorem T.scal_39 : scalB Try.prog 39 = true := by kernel_rfl
theorem T.scal_4 : scalB Try.prog 4 = true := by kernel_rfl
theorem T.scal_45 : scalB Try.prog 45 = true := by kernel_rfl
theorem T.scal_46 : scalB Try.prog 46 = true := by kernel_rfl
theorem T.scal_53 : scalB Try.prog 53 = true := by kernel_rfl
theorem T.scal_60 : scalB Try.prog 60 = true := by kernel_rfl
theorem T.scal_62 : scalB Try.prog 62 = true := by kernel_rfl
theorem T.scal_71 : scalB Try.prog 71 = true := by kernel_rfl
theorem T.scal_78 : scalB Try.prog 78 = true := by kernel_rfl
theorem T.scal_9 : scalB Try.prog 9 = true := by kernel_rfl
theorem T.sl_22_73_2 : slB Try.prog 22 73 2 = true := by kernel_rfl
theorem T.sl_23_82_5 : slB Try.prog 23 82 5 = true := by kernel_rfl
theorem T.sl_39_42_8 : slB Try.prog 39 42 8 = true := by kernel_rfl
theorem T.sl_45_49_6 : slB Try.prog 45 49 6 = true := by kernel_rfl
theorem T.sl_46_3_1 : slB Try.prog 46 3 1 = true := by kernel_rfl
theorem T.sl_53_34_4 : slB Try.prog 53 34 4 = true := by kernel_rfl
theorem T.sl_60_4_1 : slB Try.prog 60 4 1 = true := by kernel_rfl
theorem T.sl_71_80_3 : slB Try.prog 71 80 3 = true := by kernel_rfl
theorem T.str_9 : strB Try.prog 9 = true := by kernel_rfl
theorem T.zero_25 : (Try.prog.info? 25).map (·.zero) = some (some (.agg #[(.bool false), (.slice none 0 0), (.slice none 0 0)])) := by kernel_rfl
theorem T.zero_34 : (Try.prog.info? 34).map (·.zero) = some (some (.agg #[(.int .u64 0), (.int .i64 0), (.int .i64 0), (.int .i64 0)])) := by kernel_rfl
theorem T.zero_4 : (Try.prog.info? 4).map (·.zero) = some (some (.bool false)) := by kernel_rfl
theorem T.zero_42 : (Try.prog.info? 42).map (·.zero) = some (some (.agg #[(.int .u64 0), (.int .i64 0), (.int .i64 0), (.int .i64 0), (.bool false), (.slice none 0 0), (.slice none 0 0), (.int .i64 0)])) := by kernel_rfl
theorem T.zero_49 : (Try.prog.info? 49).map (·.zero) = some (some (.agg #[(.int .i64 0), (.int .i64 0), (.bool false), (.slice none 0 0), (.slice none 0 0), (.slice none 0 0)])) := by kernel_rfl
theorem T.zero_73 : (Try.prog.info? 73).map (·.zero) = some (some (.agg #[(.string ByteArray.empty), (.slice none 0 0)])) := by kernel_rfl
theorem T.zero_80 : (Try.prog.info? 80).map (·.zero) = some (some (.agg #[(.int .i64 0), (.string ByteArray.empty), (.string ByteArray.empty)])) := by kernel_rfl
theorem T.zero_82 : (Try.prog.info? 82).map (·.zero) = some (some (.agg #[(.string ByteArray.empty), (.int .u64 0), (.int .i64 0), (.int .i64 0), (.int .i64 0)])) := by kernel_rfl

end Go.Proofs.Ytnkddbbcfolcdaa.Xe
