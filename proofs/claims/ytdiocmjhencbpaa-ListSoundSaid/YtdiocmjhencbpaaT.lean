/-
  Closed facts of the program's types, by xp.py.
-/
import Derived.Test.YtdiocmjhencbpaaX11
import Derived.Test.YtdiocmjhencbpaaProg
namespace Go.Proofs.Ytdiocmjhencbpaa.Xe
open Go

theorem T.mixed : Try.prog.follows .mixedOrders = true := by kernel_rfl
theorem T.own : ownKnob Try.prog.godebug = none := by kernel_rfl
theorem T.laidOut : laidOutB Try.prog = true := by kernel_rfl
theorem T.agg_101_1 : aggB Try.prog 101 1 = true := by kernel_rfl
theorem T.agg_104_5 : aggB Try.prog 104 5 = true := by kernel_rfl
theorem T.agg_113_3 : aggB Try.prog 113 3 = true := by kernel_rfl
theorem T.agg_117_3 : aggB Try.prog 117 3 = true := by kernel_rfl
theorem T.agg_23_7 : aggB Try.prog 23 7 = true := by kernel_rfl
theorem T.agg_26_4 : aggB Try.prog 26 4 = true := by kernel_rfl
theorem T.agg_40_2 : aggB Try.prog 40 2 = true := by kernel_rfl
theorem T.agg_45_4 : aggB Try.prog 45 4 = true := by kernel_rfl
theorem T.agg_84_3 : aggB Try.prog 84 3 = true := by kernel_rfl
theorem T.agg_86_8 : aggB Try.prog 86 8 = true := by kernel_rfl
theorem T.bool_4 : boolB Try.prog 4 = true := by kernel_rfl
theorem T.build_101_0 (x1 : TypeId) (x2 : Value) : Try.prog.built 101 [(0, (.iface x1 x2))] = some [((.iface x1 x2) : Value)].toArray := by kernel_rfl
theorem T.build_104_0_1 (x1 : ByteArray) (x2 : Value) (x3 : Value) (x4 : Value) (x5 : Value) : Try.prog.built 104 [(0, (.string x1)), (1, (.agg #[x2, x3, x4, x5]))] = some [((.string x1) : Value), x2, x3, x4, x5].toArray := by kernel_rfl
theorem T.build_117  : Try.prog.built 117 [] = some [((.bool false) : Value), (.slice none 0 0), (.slice none 0 0)].toArray := by kernel_rfl
theorem T.build_117_0 (x1 : Value) (x2 : Value) (x3 : Value) : Try.prog.built 117 [(0, (.agg #[x1, x2, x3]))] = some [(x1 : Value), x2, x3].toArray := by kernel_rfl
theorem T.build_26  : Try.prog.built 26 [] = some [((.int .u64 0) : Value), (.int .i64 0), (.int .i64 0), (.int .i64 0)].toArray := by kernel_rfl
theorem T.build_26_0_1_2_3 (x1 : Int) (x2 : Int) (x3 : Int) (x4 : Int) : Try.prog.built 26 [(0, (.int .u64 x1)), (1, (.int .i64 x2)), (2, (.int .i64 x3)), (3, (.int .i64 x4))] = some [((.int .u64 x1) : Value), (.int .i64 x2), (.int .i64 x3), (.int .i64 x4)].toArray := by kernel_rfl
theorem T.build_40  : Try.prog.built 40 [] = some [((.string ByteArray.empty) : Value), (.slice none 0 0)].toArray := by kernel_rfl
theorem T.build_40_0_1 (x1 : ByteArray) (x2 : Option Addr) (x3 : Nat) (x4 : Nat) : Try.prog.built 40 [(0, (.string x1)), (1, (.slice x2 x3 x4))] = some [((.string x1) : Value), (.slice x2 x3 x4)].toArray := by kernel_rfl
theorem T.build_45  : Try.prog.built 45 [] = some [((.int .i64 0) : Value), (.int .i64 0), (.int .i64 0), (.int .i64 0)].toArray := by kernel_rfl
theorem T.build_45_1 (x1 : Int) : Try.prog.built 45 [(1, (.int .i64 x1))] = some [((.int .i64 0) : Value), (.int .i64 x1), (.int .i64 0), (.int .i64 0)].toArray := by kernel_rfl
theorem T.build_69  : Try.prog.built 69 [] = some [((.slice none 0 0) : Value)].toArray := by kernel_rfl
theorem T.build_84  : Try.prog.built 84 [] = some [((.bool false) : Value), (.slice none 0 0), (.slice none 0 0)].toArray := by kernel_rfl
theorem T.build_84_0 (x1 : Bool) : Try.prog.built 84 [(0, (.bool x1))] = some [((.bool x1) : Value), (.slice none 0 0), (.slice none 0 0)].toArray := by kernel_rfl
theorem T.build_84_0_2 (x1 : Bool) (x2 : Option Addr) (x3 : Nat) (x4 : Nat) : Try.prog.built 84 [(0, (.bool x1)), (2, (.slice x2 x3 x4))] = some [((.bool x1) : Value), (.slice none 0 0), (.slice x2 x3 x4)].toArray := by kernel_rfl
theorem T.build_84_2 (x1 : Option Addr) (x2 : Nat) (x3 : Nat) : Try.prog.built 84 [(2, (.slice x1 x2 x3))] = some [((.bool false) : Value), (.slice none 0 0), (.slice x1 x2 x3)].toArray := by kernel_rfl
theorem T.build_86_0_1_2 (x1 : Int) (x2 : Value) (x3 : Value) (x4 : Value) (x5 : Value) (x6 : Value) (x7 : Value) (x8 : Value) : Try.prog.built 86 [(0, (.int .i64 x1)), (1, (.agg #[x2, x3, x4, x5])), (2, (.agg #[x6, x7, x8]))] = some [((.int .i64 x1) : Value), x2, x3, x4, x5, x6, x7, x8].toArray := by kernel_rfl
theorem T.bytes_104_48 : (Try.prog.info? 104).map (·.bytes) = some 48 := by kernel_rfl
theorem T.bytes_113_40 : (Try.prog.info? 113).map (·.bytes) = some 40 := by kernel_rfl
theorem T.bytes_117_56 : (Try.prog.info? 117).map (·.bytes) = some 56 := by kernel_rfl
theorem T.bytes_40_40 : (Try.prog.info? 40).map (·.bytes) = some 40 := by kernel_rfl
theorem T.bytes_84_56 : (Try.prog.info? 84).map (·.bytes) = some 56 := by kernel_rfl
theorem T.bytes_86_96 : (Try.prog.info? 86).map (·.bytes) = some 96 := by kernel_rfl
theorem T.bytes_9_16 : (Try.prog.info? 9).map (·.bytes) = some 16 := by kernel_rfl
theorem T.cmp_113_iss : cmpB Try.prog 113 [.i, .s, .s] = true := by kernel_rfl
theorem T.cmp_26_iiii : cmpB Try.prog 26 [.i, .i, .i, .i] = true := by kernel_rfl
theorem T.cmp_45_iiii : cmpB Try.prog 45 [.i, .i, .i, .i] = true := by kernel_rfl
theorem T.fld_101_0_0 : fldB Try.prog 101 0 0 = true := by kernel_rfl
theorem T.fld_104_0_0 : fldB Try.prog 104 0 0 = true := by kernel_rfl
theorem T.fld_104_1_1 : fldB Try.prog 104 1 1 = true := by kernel_rfl
theorem T.fld_113_0_0 : fldB Try.prog 113 0 0 = true := by kernel_rfl
theorem T.fld_113_1_1 : fldB Try.prog 113 1 1 = true := by kernel_rfl
theorem T.fld_113_2_2 : fldB Try.prog 113 2 2 = true := by kernel_rfl
theorem T.fld_117_0_0 : fldB Try.prog 117 0 0 = true := by kernel_rfl
theorem T.fld_23_0_0 : fldB Try.prog 23 0 0 = true := by kernel_rfl
theorem T.fld_23_1_1 : fldB Try.prog 23 1 1 = true := by kernel_rfl
theorem T.fld_23_2_2 : fldB Try.prog 23 2 2 = true := by kernel_rfl
theorem T.fld_23_3_3 : fldB Try.prog 23 3 3 = true := by kernel_rfl
theorem T.fld_23_4_4 : fldB Try.prog 23 4 4 = true := by kernel_rfl
theorem T.fld_23_5_5 : fldB Try.prog 23 5 5 = true := by kernel_rfl
theorem T.fld_23_6_6 : fldB Try.prog 23 6 6 = true := by kernel_rfl
theorem T.fld_26_0_0 : fldB Try.prog 26 0 0 = true := by kernel_rfl
theorem T.fld_26_1_1 : fldB Try.prog 26 1 1 = true := by kernel_rfl
theorem T.fld_26_2_2 : fldB Try.prog 26 2 2 = true := by kernel_rfl
theorem T.fld_26_3_3 : fldB Try.prog 26 3 3 = true := by kernel_rfl
theorem T.fld_40_0_0 : fldB Try.prog 40 0 0 = true := by kernel_rfl
theorem T.fld_40_1_1 : fldB Try.prog 40 1 1 = true := by kernel_rfl
theorem T.fld_45_0_0 : fldB Try.prog 45 0 0 = true := by kernel_rfl
theorem T.fld_45_1_1 : fldB Try.prog 45 1 1 = true := by kernel_rfl
theorem T.fld_45_2_2 : fldB Try.prog 45 2 2 = true := by kernel_rfl
theorem T.fld_45_3_3 : fldB Try.prog 45 3 3 = true := by kernel_rfl
theorem T.fld_69_0_0 : fldB Try.prog 69 0 0 = true := by kernel_rfl
theorem T.fld_84_0_0 : fldB Try.prog 84 0 0 = true := by kernel_rfl
theorem T.fld_84_1_1 : fldB Try.prog 84 1 1 = true := by kernel_rfl
theorem T.fld_84_2_2 : fldB Try.prog 84 2 2 = true := by kernel_rfl
theorem T.fld_86_0_0 : fldB Try.prog 86 0 0 = true := by kernel_rfl
theorem T.fld_86_1_1 : fldB Try.prog 86 1 1 = true := by kernel_rfl
theorem T.fld_86_2_5 : fldB Try.prog 86 2 5 = true := by kernel_rfl
theorem T.int_24_u64 : intB Try.prog 24 .u64 = true := by kernel_rfl
theorem T.int_30_i64 : intB Try.prog 30 .i64 = true := by kernel_rfl
theorem T.int_3_i64 : intB Try.prog 3 .i64 = true := by kernel_rfl
theorem T.int_96_u64 : intB Try.prog 96 .u64 = true := by kernel_rfl
theorem T.ptr_139 : ptrB Try.prog 139 = true := by kernel_rfl
theorem T.ptr_27 : ptrB Try.prog 27 = true := by kernel_rfl
theorem T.scal_108 : scalB Try.prog 108 = true := by kernel_rfl
theorem T.scal_132 : scalB Try.prog 132 = true := by kernel_rfl
theorem T.scal_24 : scalB Try.prog 24 = true := by kernel_rfl
theorem T.scal_27 : scalB Try.prog 27 = true := by kernel_rfl
theorem T.scal_29 : scalB Try.prog 29 = true := by kernel_rfl
theorem T.scal_3 : scalB Try.prog 3 = true := by kernel_rfl
theorem T.scal_30 : scalB Try.prog 30 = true := by kernel_rfl
theorem T.scal_33 : scalB Try.prog 33 = true := by kernel_rfl
theorem T.scal_38 : scalB Try.prog 38 = true := by kernel_rfl
theorem T.scal_4 : scalB Try.prog 4 = true := by kernel_rfl
theorem T.scal_67 : scalB Try.prog 67 = true := by kernel_rfl
theorem T.scal_71 : scalB Try.prog 71 = true := by kernel_rfl
theorem T.scal_75 : scalB Try.prog 75 = true := by kernel_rfl
theorem T.scal_76 : scalB Try.prog 76 = true := by kernel_rfl
theorem T.scal_79 : scalB Try.prog 79 = true := by kernel_rfl
theorem T.scal_82 : scalB Try.prog 82 = true := by kernel_rfl
theorem T.scal_9 : scalB Try.prog 9 = true := by kernel_rfl
theorem T.scal_97 : scalB Try.prog 97 = true := by kernel_rfl
theorem T.sl_108_117_3 : slB Try.prog 108 117 3 = true := by kernel_rfl
theorem T.sl_29_9_1 : slB Try.prog 29 9 1 = true := by kernel_rfl
theorem T.sl_33_40_2 : slB Try.prog 33 40 2 = true := by kernel_rfl
theorem T.sl_38_113_3 : slB Try.prog 38 113 3 = true := by kernel_rfl
theorem T.sl_67_84_3 : slB Try.prog 67 84 3 = true := by kernel_rfl
theorem T.sl_79_86_8 : slB Try.prog 79 86 8 = true := by kernel_rfl
theorem T.sl_82_104_5 : slB Try.prog 82 104 5 = true := by kernel_rfl
theorem T.str_9 : strB Try.prog 9 = true := by kernel_rfl
theorem T.zero_101 : (Try.prog.info? 101).map (·.zero) = some (some (.agg #[.nilIface])) := by kernel_rfl
theorem T.zero_104 : (Try.prog.info? 104).map (·.zero) = some (some (.agg #[(.string ByteArray.empty), (.int .u64 0), (.int .i64 0), (.int .i64 0), (.int .i64 0)])) := by kernel_rfl
theorem T.zero_113 : (Try.prog.info? 113).map (·.zero) = some (some (.agg #[(.int .i64 0), (.string ByteArray.empty), (.string ByteArray.empty)])) := by kernel_rfl
theorem T.zero_117 : (Try.prog.info? 117).map (·.zero) = some (some (.agg #[(.bool false), (.slice none 0 0), (.slice none 0 0)])) := by kernel_rfl
theorem T.zero_26 : (Try.prog.info? 26).map (·.zero) = some (some (.agg #[(.int .u64 0), (.int .i64 0), (.int .i64 0), (.int .i64 0)])) := by kernel_rfl
theorem T.zero_40 : (Try.prog.info? 40).map (·.zero) = some (some (.agg #[(.string ByteArray.empty), (.slice none 0 0)])) := by kernel_rfl
theorem T.zero_45 : (Try.prog.info? 45).map (·.zero) = some (some (.agg #[(.int .i64 0), (.int .i64 0), (.int .i64 0), (.int .i64 0)])) := by kernel_rfl
theorem T.zero_84 : (Try.prog.info? 84).map (·.zero) = some (some (.agg #[(.bool false), (.slice none 0 0), (.slice none 0 0)])) := by kernel_rfl
theorem T.zero_86 : (Try.prog.info? 86).map (·.zero) = some (some (.agg #[(.int .i64 0), (.int .u64 0), (.int .i64 0), (.int .i64 0), (.int .i64 0), (.bool false), (.slice none 0 0), (.slice none 0 0)])) := by kernel_rfl
theorem T.zero_9 : (Try.prog.info? 9).map (·.zero) = some (some (.string ByteArray.empty)) := by kernel_rfl

end Go.Proofs.Ytdiocmjhencbpaa.Xe
