/-
  Closed facts of the program's types, by xp.py.
-/
import Derived.Test.YtipdklbedpkobaaX11
import Derived.Test.YtipdklbedpkobaaProg
namespace Go.Proofs.Ytipdklbedpkobaa.Xe
open Go

theorem T.mixed : Try.prog.follows .mixedOrders = true := by kernel_rfl
theorem T.own : ownKnob Try.prog.godebug = none := by kernel_rfl
theorem T.laidOut : laidOutB Try.prog = true := by kernel_rfl
theorem T.agg_104_3 : aggB Try.prog 104 3 = true := by kernel_rfl
theorem T.agg_23_7 : aggB Try.prog 23 7 = true := by kernel_rfl
theorem T.agg_58_3 : aggB Try.prog 58 3 = true := by kernel_rfl
theorem T.agg_72_5 : aggB Try.prog 72 5 = true := by kernel_rfl
theorem T.agg_78_4 : aggB Try.prog 78 4 = true := by kernel_rfl
theorem T.bool_4 : boolB Try.prog 4 = true := by kernel_rfl
theorem T.build_102_0 (x1 : Option Addr) (x2 : Nat) (x3 : Nat) : Try.prog.built 102 [(0, (.slice x1 x2 x3))] = some [((.slice x1 x2 x3) : Value), (.int .i64 0)].toArray := by kernel_rfl
theorem T.build_116_0_1_2 (x1 : Option Addr) (x2 : Int) (x3 : Option Addr) (x4 : Nat) (x5 : Nat) : Try.prog.built 116 [(0, (.pointer x1)), (1, (.int .i64 x2)), (2, (.slice x3 x4 x5))] = some [((.pointer x1) : Value), (.int .i64 x2), (.slice x3 x4 x5), (.slice none 0 0)].toArray := by kernel_rfl
theorem T.build_118_0 (x1 : Bool) : Try.prog.built 118 [(0, (.bool x1))] = some [((.bool x1) : Value), (.int .i64 0), (.int .i64 0)].toArray := by kernel_rfl
theorem T.build_120_0_1_2_3 (x1 : Option Addr) (x2 : Option Addr) (x3 : Nat) (x4 : Nat) (x5 : Option Addr) (x6 : Nat) (x7 : Nat) (x8 : Option Addr) (x9 : Nat) (x10 : Nat) : Try.prog.built 120 [(0, (.pointer x1)), (1, (.slice x2 x3 x4)), (2, (.slice x5 x6 x7)), (3, (.slice x8 x9 x10))] = some [((.pointer x1) : Value), (.slice x2 x3 x4), (.slice x5 x6 x7), (.slice x8 x9 x10)].toArray := by kernel_rfl
theorem T.build_128_0_1_2 (x1 : Int) (x2 : Int) (x3 : ByteArray) : Try.prog.built 128 [(0, (.int .i64 x1)), (1, (.int .i64 x2)), (2, (.string x3))] = some [((.int .i64 x1) : Value), (.int .i64 x2), (.string x3)].toArray := by kernel_rfl
theorem T.build_43_0_1_2_3 (x1 : Option Addr) (x2 : Option Addr) (x3 : Option Addr) (x4 : Value) (x5 : Value) (x6 : Value) (x7 : Value) (x8 : Value) (x9 : Value) (x10 : Value) : Try.prog.built 43 [(0, (.pointer x1)), (1, (.pointer x2)), (2, (.pointer x3)), (3, (.agg #[x4, x5, x6, x7, x8, x9, x10]))] = some [((.pointer x1) : Value), (.pointer x2), (.pointer x3), x4, x5, x6, x7, x8, x9, x10].toArray := by kernel_rfl
theorem T.build_47_0_2 (x1 : Option Addr) (x2 : Option Addr) (x3 : Nat) (x4 : Nat) : Try.prog.built 47 [(0, (.pointer x1)), (2, (.slice x2 x3 x4))] = some [((.pointer x1) : Value), (.int .i64 0), (.slice x2 x3 x4)].toArray := by kernel_rfl
theorem T.build_52_0_1_2 (x1 : Option Addr) (x2 : Int) (x3 : Option Addr) (x4 : Nat) (x5 : Nat) : Try.prog.built 52 [(0, (.pointer x1)), (1, (.int .i64 x2)), (2, (.slice x3 x4 x5))] = some [((.pointer x1) : Value), (.int .i64 x2), (.slice x3 x4 x5), (.slice none 0 0), (.int .i64 0)].toArray := by kernel_rfl
theorem T.build_58  : Try.prog.built 58 [] = some [((.int .i64 0) : Value), (.int .i64 0), (.int .i64 0)].toArray := by kernel_rfl
theorem T.build_58_0_1_2 (x1 : Int) (x2 : Int) (x3 : Int) : Try.prog.built 58 [(0, (.int .i64 x1)), (1, (.int .i64 x2)), (2, (.int .i64 x3))] = some [((.int .i64 x1) : Value), (.int .i64 x2), (.int .i64 x3)].toArray := by kernel_rfl
theorem T.build_58_0_2 (x1 : Int) (x2 : Int) : Try.prog.built 58 [(0, (.int .i64 x1)), (2, (.int .i64 x2))] = some [((.int .i64 x1) : Value), (.int .i64 0), (.int .i64 x2)].toArray := by kernel_rfl
theorem T.build_58_2 (x1 : Int) : Try.prog.built 58 [(2, (.int .i64 x1))] = some [((.int .i64 0) : Value), (.int .i64 0), (.int .i64 x1)].toArray := by kernel_rfl
theorem T.build_90_0_1 (x1 : Option Addr) (x2 : Option Addr) : Try.prog.built 90 [(0, (.pointer x1)), (1, (.pointer x2))] = some [((.pointer x1) : Value), (.pointer x2), (.slice none 0 0)].toArray := by kernel_rfl
theorem T.build_94  : Try.prog.built 94 [] = some [((.bool false) : Value), (.int .i64 0), (.int .i64 0)].toArray := by kernel_rfl
theorem T.build_97_0 (x1 : Int) : Try.prog.built 97 [(0, (.int .i64 x1))] = some [((.int .i64 x1) : Value), (.slice none 0 0), (.int .i64 0), (.int .i64 0)].toArray := by kernel_rfl
theorem T.bytes_100_8 : (Try.prog.info? 100).map (·.bytes) = some 8 := by kernel_rfl
theorem T.bytes_104_24 : (Try.prog.info? 104).map (·.bytes) = some 24 := by kernel_rfl
theorem T.bytes_113_24 : (Try.prog.info? 113).map (·.bytes) = some 24 := by kernel_rfl
theorem T.bytes_128_32 : (Try.prog.info? 128).map (·.bytes) = some 32 := by kernel_rfl
theorem T.bytes_3_8 : (Try.prog.info? 3).map (·.bytes) = some 8 := by kernel_rfl
theorem T.bytes_58_24 : (Try.prog.info? 58).map (·.bytes) = some 24 := by kernel_rfl
theorem T.bytes_5_1 : (Try.prog.info? 5).map (·.bytes) = some 1 := by kernel_rfl
theorem T.bytes_72_64 : (Try.prog.info? 72).map (·.bytes) = some 64 := by kernel_rfl
theorem T.bytes_9_16 : (Try.prog.info? 9).map (·.bytes) = some 16 := by kernel_rfl
theorem T.cmp_58_iii : cmpB Try.prog 58 [.i, .i, .i] = true := by kernel_rfl
theorem T.fld_102_1_1 : fldB Try.prog 102 1 1 = true := by kernel_rfl
theorem T.fld_104_0_0 : fldB Try.prog 104 0 0 = true := by kernel_rfl
theorem T.fld_104_1_1 : fldB Try.prog 104 1 1 = true := by kernel_rfl
theorem T.fld_104_2_2 : fldB Try.prog 104 2 2 = true := by kernel_rfl
theorem T.fld_116_0_0 : fldB Try.prog 116 0 0 = true := by kernel_rfl
theorem T.fld_116_1_1 : fldB Try.prog 116 1 1 = true := by kernel_rfl
theorem T.fld_116_2_2 : fldB Try.prog 116 2 2 = true := by kernel_rfl
theorem T.fld_116_3_3 : fldB Try.prog 116 3 3 = true := by kernel_rfl
theorem T.fld_118_0_0 : fldB Try.prog 118 0 0 = true := by kernel_rfl
theorem T.fld_118_1_1 : fldB Try.prog 118 1 1 = true := by kernel_rfl
theorem T.fld_118_2_2 : fldB Try.prog 118 2 2 = true := by kernel_rfl
theorem T.fld_120_0_0 : fldB Try.prog 120 0 0 = true := by kernel_rfl
theorem T.fld_120_1_1 : fldB Try.prog 120 1 1 = true := by kernel_rfl
theorem T.fld_120_2_2 : fldB Try.prog 120 2 2 = true := by kernel_rfl
theorem T.fld_120_3_3 : fldB Try.prog 120 3 3 = true := by kernel_rfl
theorem T.fld_23_0_0 : fldB Try.prog 23 0 0 = true := by kernel_rfl
theorem T.fld_23_1_1 : fldB Try.prog 23 1 1 = true := by kernel_rfl
theorem T.fld_23_2_2 : fldB Try.prog 23 2 2 = true := by kernel_rfl
theorem T.fld_23_3_3 : fldB Try.prog 23 3 3 = true := by kernel_rfl
theorem T.fld_23_4_4 : fldB Try.prog 23 4 4 = true := by kernel_rfl
theorem T.fld_23_5_5 : fldB Try.prog 23 5 5 = true := by kernel_rfl
theorem T.fld_23_6_6 : fldB Try.prog 23 6 6 = true := by kernel_rfl
theorem T.fld_43_0_0 : fldB Try.prog 43 0 0 = true := by kernel_rfl
theorem T.fld_43_1_1 : fldB Try.prog 43 1 1 = true := by kernel_rfl
theorem T.fld_43_2_2 : fldB Try.prog 43 2 2 = true := by kernel_rfl
theorem T.fld_47_0_0 : fldB Try.prog 47 0 0 = true := by kernel_rfl
theorem T.fld_47_1_1 : fldB Try.prog 47 1 1 = true := by kernel_rfl
theorem T.fld_47_2_2 : fldB Try.prog 47 2 2 = true := by kernel_rfl
theorem T.fld_52_0_0 : fldB Try.prog 52 0 0 = true := by kernel_rfl
theorem T.fld_52_1_1 : fldB Try.prog 52 1 1 = true := by kernel_rfl
theorem T.fld_52_2_2 : fldB Try.prog 52 2 2 = true := by kernel_rfl
theorem T.fld_52_3_3 : fldB Try.prog 52 3 3 = true := by kernel_rfl
theorem T.fld_52_4_4 : fldB Try.prog 52 4 4 = true := by kernel_rfl
theorem T.fld_58_0_0 : fldB Try.prog 58 0 0 = true := by kernel_rfl
theorem T.fld_58_1_1 : fldB Try.prog 58 1 1 = true := by kernel_rfl
theorem T.fld_58_2_2 : fldB Try.prog 58 2 2 = true := by kernel_rfl
theorem T.fld_72_0_0 : fldB Try.prog 72 0 0 = true := by kernel_rfl
theorem T.fld_72_1_1 : fldB Try.prog 72 1 1 = true := by kernel_rfl
theorem T.fld_72_2_2 : fldB Try.prog 72 2 2 = true := by kernel_rfl
theorem T.fld_72_3_3 : fldB Try.prog 72 3 3 = true := by kernel_rfl
theorem T.fld_72_4_4 : fldB Try.prog 72 4 4 = true := by kernel_rfl
theorem T.fld_78_0_0 : fldB Try.prog 78 0 0 = true := by kernel_rfl
theorem T.fld_78_1_1 : fldB Try.prog 78 1 1 = true := by kernel_rfl
theorem T.fld_78_2_2 : fldB Try.prog 78 2 2 = true := by kernel_rfl
theorem T.fld_78_3_3 : fldB Try.prog 78 3 3 = true := by kernel_rfl
theorem T.fld_90_0_0 : fldB Try.prog 90 0 0 = true := by kernel_rfl
theorem T.fld_90_1_1 : fldB Try.prog 90 1 1 = true := by kernel_rfl
theorem T.fld_90_2_2 : fldB Try.prog 90 2 2 = true := by kernel_rfl
theorem T.fld_94_0_0 : fldB Try.prog 94 0 0 = true := by kernel_rfl
theorem T.fld_94_1_1 : fldB Try.prog 94 1 1 = true := by kernel_rfl
theorem T.fld_94_2_2 : fldB Try.prog 94 2 2 = true := by kernel_rfl
theorem T.int_100_u64 : intB Try.prog 100 .u64 = true := by kernel_rfl
theorem T.int_145_u64 : intB Try.prog 145 .u64 = true := by kernel_rfl
theorem T.int_147_i64 : intB Try.prog 147 .i64 = true := by kernel_rfl
theorem T.int_155_u32 : intB Try.prog 155 .u32 = true := by kernel_rfl
theorem T.int_157_u64 : intB Try.prog 157 .u64 = true := by kernel_rfl
theorem T.int_25_i64 : intB Try.prog 25 .i64 = true := by kernel_rfl
theorem T.int_3_i64 : intB Try.prog 3 .i64 = true := by kernel_rfl
theorem T.int_5_u8 : intB Try.prog 5 .u8 = true := by kernel_rfl
theorem T.ptr_161 : ptrB Try.prog 161 = true := by kernel_rfl
theorem T.ptr_163 : ptrB Try.prog 163 = true := by kernel_rfl
theorem T.ptr_24 : ptrB Try.prog 24 = true := by kernel_rfl
theorem T.ptr_28 : ptrB Try.prog 28 = true := by kernel_rfl
theorem T.ptr_30 : ptrB Try.prog 30 = true := by kernel_rfl
theorem T.ptr_33 : ptrB Try.prog 33 = true := by kernel_rfl
theorem T.ptr_36 : ptrB Try.prog 36 = true := by kernel_rfl
theorem T.ptr_38 : ptrB Try.prog 38 = true := by kernel_rfl
theorem T.ptr_81 : ptrB Try.prog 81 = true := by kernel_rfl
theorem T.ptr_84 : ptrB Try.prog 84 = true := by kernel_rfl
theorem T.ptr_86 : ptrB Try.prog 86 = true := by kernel_rfl
theorem T.ptr_87 : ptrB Try.prog 87 = true := by kernel_rfl
theorem T.scal_100 : scalB Try.prog 100 = true := by kernel_rfl
theorem T.scal_107 : scalB Try.prog 107 = true := by kernel_rfl
theorem T.scal_113 : scalB Try.prog 113 = true := by kernel_rfl
theorem T.scal_131 : scalB Try.prog 131 = true := by kernel_rfl
theorem T.scal_134 : scalB Try.prog 134 = true := by kernel_rfl
theorem T.scal_141 : scalB Try.prog 141 = true := by kernel_rfl
theorem T.scal_145 : scalB Try.prog 145 = true := by kernel_rfl
theorem T.scal_147 : scalB Try.prog 147 = true := by kernel_rfl
theorem T.scal_155 : scalB Try.prog 155 = true := by kernel_rfl
theorem T.scal_157 : scalB Try.prog 157 = true := by kernel_rfl
theorem T.scal_161 : scalB Try.prog 161 = true := by kernel_rfl
theorem T.scal_163 : scalB Try.prog 163 = true := by kernel_rfl
theorem T.scal_24 : scalB Try.prog 24 = true := by kernel_rfl
theorem T.scal_25 : scalB Try.prog 25 = true := by kernel_rfl
theorem T.scal_28 : scalB Try.prog 28 = true := by kernel_rfl
theorem T.scal_3 : scalB Try.prog 3 = true := by kernel_rfl
theorem T.scal_30 : scalB Try.prog 30 = true := by kernel_rfl
theorem T.scal_33 : scalB Try.prog 33 = true := by kernel_rfl
theorem T.scal_36 : scalB Try.prog 36 = true := by kernel_rfl
theorem T.scal_38 : scalB Try.prog 38 = true := by kernel_rfl
theorem T.scal_4 : scalB Try.prog 4 = true := by kernel_rfl
theorem T.scal_45 : scalB Try.prog 45 = true := by kernel_rfl
theorem T.scal_49 : scalB Try.prog 49 = true := by kernel_rfl
theorem T.scal_50 : scalB Try.prog 50 = true := by kernel_rfl
theorem T.scal_54 : scalB Try.prog 54 = true := by kernel_rfl
theorem T.scal_61 : scalB Try.prog 61 = true := by kernel_rfl
theorem T.scal_67 : scalB Try.prog 67 = true := by kernel_rfl
theorem T.scal_69 : scalB Try.prog 69 = true := by kernel_rfl
theorem T.scal_70 : scalB Try.prog 70 = true := by kernel_rfl
theorem T.scal_81 : scalB Try.prog 81 = true := by kernel_rfl
theorem T.scal_84 : scalB Try.prog 84 = true := by kernel_rfl
theorem T.scal_86 : scalB Try.prog 86 = true := by kernel_rfl
theorem T.scal_87 : scalB Try.prog 87 = true := by kernel_rfl
theorem T.scal_9 : scalB Try.prog 9 = true := by kernel_rfl
theorem T.scal_98 : scalB Try.prog 98 = true := by kernel_rfl
theorem T.sl_113_5_1 : slB Try.prog 113 5 1 = true := by kernel_rfl
theorem T.sl_45_104_3 : slB Try.prog 45 104 3 = true := by kernel_rfl
theorem T.sl_49_113_1 : slB Try.prog 49 113 1 = true := by kernel_rfl
theorem T.sl_50_128_3 : slB Try.prog 50 128 3 = true := by kernel_rfl
theorem T.sl_54_9_1 : slB Try.prog 54 9 1 = true := by kernel_rfl
theorem T.sl_61_3_1 : slB Try.prog 61 3 1 = true := by kernel_rfl
theorem T.sl_69_72_5 : slB Try.prog 69 72 5 = true := by kernel_rfl
theorem T.sl_70_58_3 : slB Try.prog 70 58 3 = true := by kernel_rfl
theorem T.sl_98_100_1 : slB Try.prog 98 100 1 = true := by kernel_rfl
theorem T.str_9 : strB Try.prog 9 = true := by kernel_rfl
theorem T.u8_5 : u8B Try.prog 5 = true := by kernel_rfl
theorem T.zero_100 : (Try.prog.info? 100).map (·.zero) = some (some (.int .u64 0)) := by kernel_rfl
theorem T.zero_104 : (Try.prog.info? 104).map (·.zero) = some (some (.agg #[(.int .i64 0), (.int .i64 0), (.int .i64 0)])) := by kernel_rfl
theorem T.zero_113 : (Try.prog.info? 113).map (·.zero) = some (some (.slice none 0 0)) := by kernel_rfl
theorem T.zero_128 : (Try.prog.info? 128).map (·.zero) = some (some (.agg #[(.int .i64 0), (.int .i64 0), (.string ByteArray.empty)])) := by kernel_rfl
theorem T.zero_157 : (Try.prog.info? 157).map (·.zero) = some (some (.int .u64 0)) := by kernel_rfl
theorem T.zero_3 : (Try.prog.info? 3).map (·.zero) = some (some (.int .i64 0)) := by kernel_rfl
theorem T.zero_5 : (Try.prog.info? 5).map (·.zero) = some (some (.int .u8 0)) := by kernel_rfl
theorem T.zero_58 : (Try.prog.info? 58).map (·.zero) = some (some (.agg #[(.int .i64 0), (.int .i64 0), (.int .i64 0)])) := by kernel_rfl
theorem T.zero_72 : (Try.prog.info? 72).map (·.zero) = some (some (.agg #[(.int .i64 0), (.string ByteArray.empty), (.int .i64 0), (.int .i64 0), (.slice none 0 0)])) := by kernel_rfl
theorem T.zero_9 : (Try.prog.info? 9).map (·.zero) = some (some (.string ByteArray.empty)) := by kernel_rfl

end Go.Proofs.Ytipdklbedpkobaa.Xe
