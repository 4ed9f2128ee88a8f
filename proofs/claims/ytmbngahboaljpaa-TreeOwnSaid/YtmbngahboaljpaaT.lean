/-
  Closed facts of the program's types, by xp.py.
-/
import Derived.Test.YtmbngahboaljpaaX11
import Derived.Test.YtmbngahboaljpaaProg
namespace Go.Proofs.Ytmbngahboaljpaa.Xe
open Go

theorem T.mixed : Try.prog.follows .mixedOrders = true := by kernel_rfl
theorem T.own : ownKnob Try.prog.godebug = none := by kernel_rfl
theorem T.laidOut : laidOutB Try.prog = true := by kernel_rfl
theorem T.agg_102_1 : aggB Try.prog 102 1 = true := by kernel_rfl
theorem T.agg_110_3 : aggB Try.prog 110 3 = true := by kernel_rfl
theorem T.agg_123_6 : aggB Try.prog 123 6 = true := by kernel_rfl
theorem T.agg_25_4 : aggB Try.prog 25 4 = true := by kernel_rfl
theorem T.agg_32_3 : aggB Try.prog 32 3 = true := by kernel_rfl
theorem T.agg_46_5 : aggB Try.prog 46 5 = true := by kernel_rfl
theorem T.agg_49_2 : aggB Try.prog 49 2 = true := by kernel_rfl
theorem T.agg_53_3 : aggB Try.prog 53 3 = true := by kernel_rfl
theorem T.agg_61_8 : aggB Try.prog 61 8 = true := by kernel_rfl
theorem T.agg_70_5 : aggB Try.prog 70 5 = true := by kernel_rfl
theorem T.agg_82_3 : aggB Try.prog 82 3 = true := by kernel_rfl
theorem T.bool_4 : boolB Try.prog 4 = true := by kernel_rfl
theorem T.build_102_0 (x1 : TypeId) (x2 : Value) : Try.prog.built 102 [(0, (.iface x1 x2))] = some [((.iface x1 x2) : Value)].toArray := by kernel_rfl
theorem T.build_110  : Try.prog.built 110 [] = some [((.bool false) : Value), (.slice none 0 0), (.slice none 0 0)].toArray := by kernel_rfl
theorem T.build_110_0 (x1 : Value) (x2 : Value) (x3 : Value) : Try.prog.built 110 [(0, (.agg #[x1, x2, x3]))] = some [(x1 : Value), x2, x3].toArray := by kernel_rfl
theorem T.build_123_0_1 (x1 : Value) (x2 : Value) (x3 : Value) (x4 : Option Addr) (x5 : Nat) (x6 : Nat) : Try.prog.built 123 [(0, (.agg #[x1, x2, x3])), (1, (.slice x4 x5 x6))] = some [(x1 : Value), x2, x3, (.slice x4 x5 x6), (.bool false), (.int .i64 0)].toArray := by kernel_rfl
theorem T.build_123_0_1_2 (x1 : Value) (x2 : Value) (x3 : Value) (x4 : Option Addr) (x5 : Nat) (x6 : Nat) (x7 : Bool) : Try.prog.built 123 [(0, (.agg #[x1, x2, x3])), (1, (.slice x4 x5 x6)), (2, (.bool x7))] = some [(x1 : Value), x2, x3, (.slice x4 x5 x6), (.bool x7), (.int .i64 0)].toArray := by kernel_rfl
theorem T.build_123_0_3 (x1 : Value) (x2 : Value) (x3 : Value) (x4 : Int) : Try.prog.built 123 [(0, (.agg #[x1, x2, x3])), (3, (.int .i64 x4))] = some [(x1 : Value), x2, x3, (.slice none 0 0), (.bool false), (.int .i64 x4)].toArray := by kernel_rfl
theorem T.build_123_1_2 (x1 : Option Addr) (x2 : Nat) (x3 : Nat) (x4 : Bool) : Try.prog.built 123 [(1, (.slice x1 x2 x3)), (2, (.bool x4))] = some [((.slice none 0 0) : Value), (.slice none 0 0), (.int .i64 0), (.slice x1 x2 x3), (.bool x4), (.int .i64 0)].toArray := by kernel_rfl
theorem T.build_25  : Try.prog.built 25 [] = some [((.int .u64 0) : Value), (.int .i64 0), (.int .i64 0), (.int .i64 0)].toArray := by kernel_rfl
theorem T.build_25_0_1_2_3 (x1 : Int) (x2 : Int) (x3 : Int) (x4 : Int) : Try.prog.built 25 [(0, (.int .u64 x1)), (1, (.int .i64 x2)), (2, (.int .i64 x3)), (3, (.int .i64 x4))] = some [((.int .u64 x1) : Value), (.int .i64 x2), (.int .i64 x3), (.int .i64 x4)].toArray := by kernel_rfl
theorem T.build_32  : Try.prog.built 32 [] = some [((.bool false) : Value), (.slice none 0 0), (.slice none 0 0)].toArray := by kernel_rfl
theorem T.build_32_0 (x1 : Bool) : Try.prog.built 32 [(0, (.bool x1))] = some [((.bool x1) : Value), (.slice none 0 0), (.slice none 0 0)].toArray := by kernel_rfl
theorem T.build_32_0_1_2 (x1 : Bool) (x2 : Option Addr) (x3 : Nat) (x4 : Nat) (x5 : Option Addr) (x6 : Nat) (x7 : Nat) : Try.prog.built 32 [(0, (.bool x1)), (1, (.slice x2 x3 x4)), (2, (.slice x5 x6 x7))] = some [((.bool x1) : Value), (.slice x2 x3 x4), (.slice x5 x6 x7)].toArray := by kernel_rfl
theorem T.build_32_0_2 (x1 : Bool) (x2 : Option Addr) (x3 : Nat) (x4 : Nat) : Try.prog.built 32 [(0, (.bool x1)), (2, (.slice x2 x3 x4))] = some [((.bool x1) : Value), (.slice none 0 0), (.slice x2 x3 x4)].toArray := by kernel_rfl
theorem T.build_32_2 (x1 : Option Addr) (x2 : Nat) (x3 : Nat) : Try.prog.built 32 [(2, (.slice x1 x2 x3))] = some [((.bool false) : Value), (.slice none 0 0), (.slice x1 x2 x3)].toArray := by kernel_rfl
theorem T.build_49  : Try.prog.built 49 [] = some [((.string ByteArray.empty) : Value), (.slice none 0 0)].toArray := by kernel_rfl
theorem T.build_49_0_1 (x1 : ByteArray) (x2 : Option Addr) (x3 : Nat) (x4 : Nat) : Try.prog.built 49 [(0, (.string x1)), (1, (.slice x2 x3 x4))] = some [((.string x1) : Value), (.slice x2 x3 x4)].toArray := by kernel_rfl
theorem T.build_53_0 (x1 : Int) : Try.prog.built 53 [(0, (.int .i64 x1))] = some [((.int .i64 x1) : Value), (.string ByteArray.empty), (.string ByteArray.empty)].toArray := by kernel_rfl
theorem T.build_53_0_1 (x1 : Int) (x2 : ByteArray) : Try.prog.built 53 [(0, (.int .i64 x1)), (1, (.string x2))] = some [((.int .i64 x1) : Value), (.string x2), (.string ByteArray.empty)].toArray := by kernel_rfl
theorem T.build_61_0_1_2 (x1 : Int) (x2 : Value) (x3 : Value) (x4 : Value) (x5 : Value) (x6 : Value) (x7 : Value) (x8 : Value) : Try.prog.built 61 [(0, (.int .i64 x1)), (1, (.agg #[x2, x3, x4, x5])), (2, (.agg #[x6, x7, x8]))] = some [((.int .i64 x1) : Value), x2, x3, x4, x5, x6, x7, x8].toArray := by kernel_rfl
theorem T.build_70_0_1 (x1 : ByteArray) (x2 : Value) (x3 : Value) (x4 : Value) (x5 : Value) : Try.prog.built 70 [(0, (.string x1)), (1, (.agg #[x2, x3, x4, x5]))] = some [((.string x1) : Value), x2, x3, x4, x5].toArray := by kernel_rfl
theorem T.build_82  : Try.prog.built 82 [] = some [((.slice none 0 0) : Value), (.slice none 0 0), (.int .i64 0)].toArray := by kernel_rfl
theorem T.build_96  : Try.prog.built 96 [] = some [((.slice none 0 0) : Value)].toArray := by kernel_rfl
theorem T.bytes_110_56 : (Try.prog.info? 110).map (·.bytes) = some 56 := by kernel_rfl
theorem T.bytes_25_32 : (Try.prog.info? 25).map (·.bytes) = some 32 := by kernel_rfl
theorem T.bytes_29_24 : (Try.prog.info? 29).map (·.bytes) = some 24 := by kernel_rfl
theorem T.bytes_30_24 : (Try.prog.info? 30).map (·.bytes) = some 24 := by kernel_rfl
theorem T.bytes_32_56 : (Try.prog.info? 32).map (·.bytes) = some 56 := by kernel_rfl
theorem T.bytes_3_8 : (Try.prog.info? 3).map (·.bytes) = some 8 := by kernel_rfl
theorem T.bytes_41_24 : (Try.prog.info? 41).map (·.bytes) = some 24 := by kernel_rfl
theorem T.bytes_46_72 : (Try.prog.info? 46).map (·.bytes) = some 72 := by kernel_rfl
theorem T.bytes_49_40 : (Try.prog.info? 49).map (·.bytes) = some 40 := by kernel_rfl
theorem T.bytes_53_40 : (Try.prog.info? 53).map (·.bytes) = some 40 := by kernel_rfl
theorem T.bytes_61_96 : (Try.prog.info? 61).map (·.bytes) = some 96 := by kernel_rfl
theorem T.bytes_70_48 : (Try.prog.info? 70).map (·.bytes) = some 48 := by kernel_rfl
theorem T.cmpN_70_csniiii : cmpNB Try.prog 70 [.c .s, .n [.i, .i, .i, .i]] = true := by kernel_rfl
theorem T.cmp_25_iiii : cmpB Try.prog 25 [.i, .i, .i, .i] = true := by kernel_rfl
theorem T.cmp_53_iss : cmpB Try.prog 53 [.i, .s, .s] = true := by kernel_rfl
theorem T.fld_102_0_0 : fldB Try.prog 102 0 0 = true := by kernel_rfl
theorem T.fld_110_0_0 : fldB Try.prog 110 0 0 = true := by kernel_rfl
theorem T.fld_123_0_0 : fldB Try.prog 123 0 0 = true := by kernel_rfl
theorem T.fld_123_1_3 : fldB Try.prog 123 1 3 = true := by kernel_rfl
theorem T.fld_123_2_4 : fldB Try.prog 123 2 4 = true := by kernel_rfl
theorem T.fld_123_3_5 : fldB Try.prog 123 3 5 = true := by kernel_rfl
theorem T.fld_25_0_0 : fldB Try.prog 25 0 0 = true := by kernel_rfl
theorem T.fld_25_1_1 : fldB Try.prog 25 1 1 = true := by kernel_rfl
theorem T.fld_32_0_0 : fldB Try.prog 32 0 0 = true := by kernel_rfl
theorem T.fld_32_1_1 : fldB Try.prog 32 1 1 = true := by kernel_rfl
theorem T.fld_32_2_2 : fldB Try.prog 32 2 2 = true := by kernel_rfl
theorem T.fld_46_0_0 : fldB Try.prog 46 0 0 = true := by kernel_rfl
theorem T.fld_46_1_1 : fldB Try.prog 46 1 1 = true := by kernel_rfl
theorem T.fld_46_2_2 : fldB Try.prog 46 2 2 = true := by kernel_rfl
theorem T.fld_46_3_3 : fldB Try.prog 46 3 3 = true := by kernel_rfl
theorem T.fld_46_4_4 : fldB Try.prog 46 4 4 = true := by kernel_rfl
theorem T.fld_49_0_0 : fldB Try.prog 49 0 0 = true := by kernel_rfl
theorem T.fld_49_1_1 : fldB Try.prog 49 1 1 = true := by kernel_rfl
theorem T.fld_53_0_0 : fldB Try.prog 53 0 0 = true := by kernel_rfl
theorem T.fld_53_1_1 : fldB Try.prog 53 1 1 = true := by kernel_rfl
theorem T.fld_61_0_0 : fldB Try.prog 61 0 0 = true := by kernel_rfl
theorem T.fld_61_1_1 : fldB Try.prog 61 1 1 = true := by kernel_rfl
theorem T.fld_61_2_5 : fldB Try.prog 61 2 5 = true := by kernel_rfl
theorem T.fld_70_0_0 : fldB Try.prog 70 0 0 = true := by kernel_rfl
theorem T.fld_70_1_1 : fldB Try.prog 70 1 1 = true := by kernel_rfl
theorem T.fld_82_0_0 : fldB Try.prog 82 0 0 = true := by kernel_rfl
theorem T.fld_82_1_1 : fldB Try.prog 82 1 1 = true := by kernel_rfl
theorem T.fld_82_2_2 : fldB Try.prog 82 2 2 = true := by kernel_rfl
theorem T.fld_96_0_0 : fldB Try.prog 96 0 0 = true := by kernel_rfl
theorem T.int_154_u64 : intB Try.prog 154 .u64 = true := by kernel_rfl
theorem T.int_23_u64 : intB Try.prog 23 .u64 = true := by kernel_rfl
theorem T.int_33_i64 : intB Try.prog 33 .i64 = true := by kernel_rfl
theorem T.int_3_i64 : intB Try.prog 3 .i64 = true := by kernel_rfl
theorem T.ptr_160 : ptrB Try.prog 160 = true := by kernel_rfl
theorem T.ptr_26 : ptrB Try.prog 26 = true := by kernel_rfl
theorem T.scal_100 : scalB Try.prog 100 = true := by kernel_rfl
theorem T.scal_103 : scalB Try.prog 103 = true := by kernel_rfl
theorem T.scal_139 : scalB Try.prog 139 = true := by kernel_rfl
theorem T.scal_165 : scalB Try.prog 165 = true := by kernel_rfl
theorem T.scal_167 : scalB Try.prog 167 = true := by kernel_rfl
theorem T.scal_22 : scalB Try.prog 22 = true := by kernel_rfl
theorem T.scal_23 : scalB Try.prog 23 = true := by kernel_rfl
theorem T.scal_26 : scalB Try.prog 26 = true := by kernel_rfl
theorem T.scal_28 : scalB Try.prog 28 = true := by kernel_rfl
theorem T.scal_29 : scalB Try.prog 29 = true := by kernel_rfl
theorem T.scal_3 : scalB Try.prog 3 = true := by kernel_rfl
theorem T.scal_30 : scalB Try.prog 30 = true := by kernel_rfl
theorem T.scal_33 : scalB Try.prog 33 = true := by kernel_rfl
theorem T.scal_4 : scalB Try.prog 4 = true := by kernel_rfl
theorem T.scal_41 : scalB Try.prog 41 = true := by kernel_rfl
theorem T.scal_44 : scalB Try.prog 44 = true := by kernel_rfl
theorem T.scal_47 : scalB Try.prog 47 = true := by kernel_rfl
theorem T.scal_57 : scalB Try.prog 57 = true := by kernel_rfl
theorem T.scal_9 : scalB Try.prog 9 = true := by kernel_rfl
theorem T.sl_103_110_3 : slB Try.prog 103 110 3 = true := by kernel_rfl
theorem T.sl_165_29_1 : slB Try.prog 165 29 1 = true := by kernel_rfl
theorem T.sl_167_30_1 : slB Try.prog 167 30 1 = true := by kernel_rfl
theorem T.sl_22_32_3 : slB Try.prog 22 32 3 = true := by kernel_rfl
theorem T.sl_28_25_4 : slB Try.prog 28 25 4 = true := by kernel_rfl
theorem T.sl_29_49_2 : slB Try.prog 29 49 2 = true := by kernel_rfl
theorem T.sl_30_70_5 : slB Try.prog 30 70 5 = true := by kernel_rfl
theorem T.sl_41_46_5 : slB Try.prog 41 46 5 = true := by kernel_rfl
theorem T.sl_44_3_1 : slB Try.prog 44 3 1 = true := by kernel_rfl
theorem T.sl_47_53_3 : slB Try.prog 47 53 3 = true := by kernel_rfl
theorem T.sl_57_61_8 : slB Try.prog 57 61 8 = true := by kernel_rfl
theorem T.sl_77_41_1 : slB Try.prog 77 41 1 = true := by kernel_rfl
theorem T.str_9 : strB Try.prog 9 = true := by kernel_rfl
theorem T.zero_102 : (Try.prog.info? 102).map (·.zero) = some (some (.agg #[.nilIface])) := by kernel_rfl
theorem T.zero_110 : (Try.prog.info? 110).map (·.zero) = some (some (.agg #[(.bool false), (.slice none 0 0), (.slice none 0 0)])) := by kernel_rfl
theorem T.zero_123 : (Try.prog.info? 123).map (·.zero) = some (some (.agg #[(.slice none 0 0), (.slice none 0 0), (.int .i64 0), (.slice none 0 0), (.bool false), (.int .i64 0)])) := by kernel_rfl
theorem T.zero_25 : (Try.prog.info? 25).map (·.zero) = some (some (.agg #[(.int .u64 0), (.int .i64 0), (.int .i64 0), (.int .i64 0)])) := by kernel_rfl
theorem T.zero_29 : (Try.prog.info? 29).map (·.zero) = some (some (.slice none 0 0)) := by kernel_rfl
theorem T.zero_3 : (Try.prog.info? 3).map (·.zero) = some (some (.int .i64 0)) := by kernel_rfl
theorem T.zero_30 : (Try.prog.info? 30).map (·.zero) = some (some (.slice none 0 0)) := by kernel_rfl
theorem T.zero_32 : (Try.prog.info? 32).map (·.zero) = some (some (.agg #[(.bool false), (.slice none 0 0), (.slice none 0 0)])) := by kernel_rfl
theorem T.zero_41 : (Try.prog.info? 41).map (·.zero) = some (some (.slice none 0 0)) := by kernel_rfl
theorem T.zero_46 : (Try.prog.info? 46).map (·.zero) = some (some (.agg #[(.int .i64 0), (.string ByteArray.empty), (.string ByteArray.empty), (.slice none 0 0), (.int .i64 0)])) := by kernel_rfl
theorem T.zero_49 : (Try.prog.info? 49).map (·.zero) = some (some (.agg #[(.string ByteArray.empty), (.slice none 0 0)])) := by kernel_rfl
theorem T.zero_53 : (Try.prog.info? 53).map (·.zero) = some (some (.agg #[(.int .i64 0), (.string ByteArray.empty), (.string ByteArray.empty)])) := by kernel_rfl
theorem T.zero_61 : (Try.prog.info? 61).map (·.zero) = some (some (.agg #[(.int .i64 0), (.int .u64 0), (.int .i64 0), (.int .i64 0), (.int .i64 0), (.bool false), (.slice none 0 0), (.slice none 0 0)])) := by kernel_rfl
theorem T.zero_70 : (Try.prog.info? 70).map (·.zero) = some (some (.agg #[(.string ByteArray.empty), (.int .u64 0), (.int .i64 0), (.int .i64 0), (.int .i64 0)])) := by kernel_rfl
theorem T.zero_82 : (Try.prog.info? 82).map (·.zero) = some (some (.agg #[(.slice none 0 0), (.slice none 0 0), (.int .i64 0)])) := by kernel_rfl

end Go.Proofs.Ytmbngahboaljpaa.Xe
