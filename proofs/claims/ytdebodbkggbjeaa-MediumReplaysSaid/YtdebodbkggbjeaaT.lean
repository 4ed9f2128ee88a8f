/-
  Closed facts of the program's types, by xp.py.
-/
import Derived.Test.YtdebodbkggbjeaaX11
import Derived.Test.YtdebodbkggbjeaaProg
namespace Go.Proofs.Ytdebodbkggbjeaa.Xe
open Go

theorem T.mixed : Try.prog.follows .mixedOrders = true := by kernel_rfl
theorem T.own : ownKnob Try.prog.godebug = none := by kernel_rfl
theorem T.laidOut : laidOutB Try.prog = true := by kernel_rfl
theorem T.agg_29_3 : aggB Try.prog 29 3 = true := by kernel_rfl
theorem T.agg_41_4 : aggB Try.prog 41 4 = true := by kernel_rfl
theorem T.agg_50_6 : aggB Try.prog 50 6 = true := by kernel_rfl
theorem T.agg_57_3 : aggB Try.prog 57 3 = true := by kernel_rfl
theorem T.agg_69_4 : aggB Try.prog 69 4 = true := by kernel_rfl
theorem T.agg_70_2 : aggB Try.prog 70 2 = true := by kernel_rfl
theorem T.arr_70_2_9_1 : arrB Try.prog 70 2 9 1 = true := by kernel_rfl
theorem T.bool_4 : boolB Try.prog 4 = true := by kernel_rfl
theorem T.build_48_0_1_2 (x1 : Option Addr) (x2 : Int) (x3 : Option Addr) (x4 : Nat) (x5 : Nat) : Try.prog.built 48 [(0, (.pointer x1)), (1, (.int .i64 x2)), (2, (.slice x3 x4 x5))] = some [((.pointer x1) : Value), (.int .i64 x2), (.slice x3 x4 x5), (.slice none 0 0), (.int .i64 0)].toArray := by kernel_rfl
theorem T.build_57_0_1_2 (x1 : Int) (x2 : Int) (x3 : ByteArray) : Try.prog.built 57 [(0, (.int .i64 x1)), (1, (.int .i64 x2)), (2, (.string x3))] = some [((.int .i64 x1) : Value), (.int .i64 x2), (.string x3)].toArray := by kernel_rfl
theorem T.build_72_0 (x1 : Option Addr) : Try.prog.built 72 [(0, (.pointer x1))] = some [((.pointer x1) : Value), (.string ByteArray.empty), (.string ByteArray.empty), (.int .i64 0)].toArray := by kernel_rfl
theorem T.build_88  : Try.prog.built 88 [] = some [((.bool false) : Value), (.int .i64 0), (.int .i64 0)].toArray := by kernel_rfl
theorem T.build_90_0 (x1 : Bool) : Try.prog.built 90 [(0, (.bool x1))] = some [((.bool x1) : Value), (.int .i64 0), (.int .i64 0)].toArray := by kernel_rfl
theorem T.build_97_0 (x1 : Option Addr) : Try.prog.built 97 [(0, (.pointer x1))] = some [((.pointer x1) : Value), (.string ByteArray.empty), (.string ByteArray.empty), (.int .i64 0)].toArray := by kernel_rfl
theorem T.bytes_29_24 : (Try.prog.info? 29).map (·.bytes) = some 24 := by kernel_rfl
theorem T.bytes_3_8 : (Try.prog.info? 3).map (·.bytes) = some 8 := by kernel_rfl
theorem T.bytes_50_56 : (Try.prog.info? 50).map (·.bytes) = some 56 := by kernel_rfl
theorem T.bytes_57_32 : (Try.prog.info? 57).map (·.bytes) = some 32 := by kernel_rfl
theorem T.bytes_5_1 : (Try.prog.info? 5).map (·.bytes) = some 1 := by kernel_rfl
theorem T.bytes_69_40 : (Try.prog.info? 69).map (·.bytes) = some 40 := by kernel_rfl
theorem T.bytes_92_24 : (Try.prog.info? 92).map (·.bytes) = some 24 := by kernel_rfl
theorem T.bytes_9_16 : (Try.prog.info? 9).map (·.bytes) = some 16 := by kernel_rfl
theorem T.cmp_57_iis : cmpB Try.prog 57 [.i, .i, .s] = true := by kernel_rfl
theorem T.fld_29_0_0 : fldB Try.prog 29 0 0 = true := by kernel_rfl
theorem T.fld_29_1_1 : fldB Try.prog 29 1 1 = true := by kernel_rfl
theorem T.fld_29_2_2 : fldB Try.prog 29 2 2 = true := by kernel_rfl
theorem T.fld_41_0_0 : fldB Try.prog 41 0 0 = true := by kernel_rfl
theorem T.fld_41_1_1 : fldB Try.prog 41 1 1 = true := by kernel_rfl
theorem T.fld_41_2_2 : fldB Try.prog 41 2 2 = true := by kernel_rfl
theorem T.fld_41_3_3 : fldB Try.prog 41 3 3 = true := by kernel_rfl
theorem T.fld_48_0_0 : fldB Try.prog 48 0 0 = true := by kernel_rfl
theorem T.fld_48_1_1 : fldB Try.prog 48 1 1 = true := by kernel_rfl
theorem T.fld_48_2_2 : fldB Try.prog 48 2 2 = true := by kernel_rfl
theorem T.fld_48_3_3 : fldB Try.prog 48 3 3 = true := by kernel_rfl
theorem T.fld_48_4_4 : fldB Try.prog 48 4 4 = true := by kernel_rfl
theorem T.fld_50_0_0 : fldB Try.prog 50 0 0 = true := by kernel_rfl
theorem T.fld_50_2_2 : fldB Try.prog 50 2 2 = true := by kernel_rfl
theorem T.fld_50_3_3 : fldB Try.prog 50 3 3 = true := by kernel_rfl
theorem T.fld_50_4_4 : fldB Try.prog 50 4 4 = true := by kernel_rfl
theorem T.fld_50_5_5 : fldB Try.prog 50 5 5 = true := by kernel_rfl
theorem T.fld_57_0_0 : fldB Try.prog 57 0 0 = true := by kernel_rfl
theorem T.fld_57_1_1 : fldB Try.prog 57 1 1 = true := by kernel_rfl
theorem T.fld_57_2_2 : fldB Try.prog 57 2 2 = true := by kernel_rfl
theorem T.fld_69_0_0 : fldB Try.prog 69 0 0 = true := by kernel_rfl
theorem T.fld_69_1_1 : fldB Try.prog 69 1 1 = true := by kernel_rfl
theorem T.fld_69_2_2 : fldB Try.prog 69 2 2 = true := by kernel_rfl
theorem T.fld_69_3_3 : fldB Try.prog 69 3 3 = true := by kernel_rfl
theorem T.fld_72_0_0 : fldB Try.prog 72 0 0 = true := by kernel_rfl
theorem T.fld_72_1_1 : fldB Try.prog 72 1 1 = true := by kernel_rfl
theorem T.fld_72_2_3 : fldB Try.prog 72 2 3 = true := by kernel_rfl
theorem T.fld_88_0_0 : fldB Try.prog 88 0 0 = true := by kernel_rfl
theorem T.fld_88_1_1 : fldB Try.prog 88 1 1 = true := by kernel_rfl
theorem T.fld_88_2_2 : fldB Try.prog 88 2 2 = true := by kernel_rfl
theorem T.fld_90_0_0 : fldB Try.prog 90 0 0 = true := by kernel_rfl
theorem T.fld_90_1_1 : fldB Try.prog 90 1 1 = true := by kernel_rfl
theorem T.fld_90_2_2 : fldB Try.prog 90 2 2 = true := by kernel_rfl
theorem T.fld_97_0_0 : fldB Try.prog 97 0 0 = true := by kernel_rfl
theorem T.fld_97_1_1 : fldB Try.prog 97 1 1 = true := by kernel_rfl
theorem T.fld_97_2_3 : fldB Try.prog 97 2 3 = true := by kernel_rfl
theorem T.int_36_i64 : intB Try.prog 36 .i64 = true := by kernel_rfl
theorem T.int_3_i64 : intB Try.prog 3 .i64 = true := by kernel_rfl
theorem T.ptr_24 : ptrB Try.prog 24 = true := by kernel_rfl
theorem T.ptr_26 : ptrB Try.prog 26 = true := by kernel_rfl
theorem T.ptr_42 : ptrB Try.prog 42 = true := by kernel_rfl
theorem T.ptr_63 : ptrB Try.prog 63 = true := by kernel_rfl
theorem T.ptr_65 : ptrB Try.prog 65 = true := by kernel_rfl
theorem T.scal_22 : scalB Try.prog 22 = true := by kernel_rfl
theorem T.scal_24 : scalB Try.prog 24 = true := by kernel_rfl
theorem T.scal_26 : scalB Try.prog 26 = true := by kernel_rfl
theorem T.scal_3 : scalB Try.prog 3 = true := by kernel_rfl
theorem T.scal_36 : scalB Try.prog 36 = true := by kernel_rfl
theorem T.scal_39 : scalB Try.prog 39 = true := by kernel_rfl
theorem T.scal_4 : scalB Try.prog 4 = true := by kernel_rfl
theorem T.scal_42 : scalB Try.prog 42 = true := by kernel_rfl
theorem T.scal_45 : scalB Try.prog 45 = true := by kernel_rfl
theorem T.scal_46 : scalB Try.prog 46 = true := by kernel_rfl
theorem T.scal_59 : scalB Try.prog 59 = true := by kernel_rfl
theorem T.scal_62 : scalB Try.prog 62 = true := by kernel_rfl
theorem T.scal_63 : scalB Try.prog 63 = true := by kernel_rfl
theorem T.scal_65 : scalB Try.prog 65 = true := by kernel_rfl
theorem T.scal_74 : scalB Try.prog 74 = true := by kernel_rfl
theorem T.scal_9 : scalB Try.prog 9 = true := by kernel_rfl
theorem T.scal_92 : scalB Try.prog 92 = true := by kernel_rfl
theorem T.scal_93 : scalB Try.prog 93 = true := by kernel_rfl
theorem T.sl_22_29_3 : slB Try.prog 22 29 3 = true := by kernel_rfl
theorem T.sl_39_50_6 : slB Try.prog 39 50 6 = true := by kernel_rfl
theorem T.sl_45_92_1 : slB Try.prog 45 92 1 = true := by kernel_rfl
theorem T.sl_46_57_3 : slB Try.prog 46 57 3 = true := by kernel_rfl
theorem T.sl_62_69_4 : slB Try.prog 62 69 4 = true := by kernel_rfl
theorem T.sl_74_3_1 : slB Try.prog 74 3 1 = true := by kernel_rfl
theorem T.sl_85_9_1 : slB Try.prog 85 9 1 = true := by kernel_rfl
theorem T.sl_92_5_1 : slB Try.prog 92 5 1 = true := by kernel_rfl
theorem T.str_9 : strB Try.prog 9 = true := by kernel_rfl
theorem T.u8_5 : u8B Try.prog 5 = true := by kernel_rfl
theorem T.zero_3 : (Try.prog.info? 3).map (·.zero) = some (some (.int .i64 0)) := by kernel_rfl
theorem T.zero_36 : (Try.prog.info? 36).map (·.zero) = some (some (.int .i64 0)) := by kernel_rfl
theorem T.zero_4 : (Try.prog.info? 4).map (·.zero) = some (some (.bool false)) := by kernel_rfl
theorem T.zero_5 : (Try.prog.info? 5).map (·.zero) = some (some (.int .u8 0)) := by kernel_rfl
theorem T.zero_50 : (Try.prog.info? 50).map (·.zero) = some (some (.agg #[(.int .i64 0), (.bool false), (.int .i64 0), (.int .i64 0), (.int .i64 0), (.string ByteArray.empty)])) := by kernel_rfl
theorem T.zero_57 : (Try.prog.info? 57).map (·.zero) = some (some (.agg #[(.int .i64 0), (.int .i64 0), (.string ByteArray.empty)])) := by kernel_rfl
theorem T.zero_59 : (Try.prog.info? 59).map (·.zero) = some (some .nilFunc) := by kernel_rfl
theorem T.zero_69 : (Try.prog.info? 69).map (·.zero) = some (some (.agg #[(.int .i64 0), (.bool false), (.int .i64 0), (.string ByteArray.empty)])) := by kernel_rfl
theorem T.zero_9 : (Try.prog.info? 9).map (·.zero) = some (some (.string ByteArray.empty)) := by kernel_rfl
theorem T.zero_92 : (Try.prog.info? 92).map (·.zero) = some (some (.slice none 0 0)) := by kernel_rfl

end Go.Proofs.Ytdebodbkggbjeaa.Xe
