/-
  Closed facts of the program's types, by xp.py.
-/
import Derived.Test.YtlgpdglnfjndhaaX11
import Derived.Test.YtlgpdglnfjndhaaProg
namespace Go.Proofs.Ytlgpdglnfjndhaa.Xe
open Go

theorem T.mixed : Try.prog.follows .mixedOrders = true := by kernel_rfl
theorem T.own : ownKnob Try.prog.godebug = none := by kernel_rfl
theorem T.laidOut : laidOutB Try.prog = true := by kernel_rfl
theorem T.agg_101_5 : aggB Try.prog 101 5 = true := by kernel_rfl
theorem T.agg_108_3 : aggB Try.prog 108 3 = true := by kernel_rfl
theorem T.agg_111_4 : aggB Try.prog 111 4 = true := by kernel_rfl
theorem T.agg_119_8 : aggB Try.prog 119 8 = true := by kernel_rfl
theorem T.agg_126_2 : aggB Try.prog 126 2 = true := by kernel_rfl
theorem T.agg_136_3 : aggB Try.prog 136 3 = true := by kernel_rfl
theorem T.agg_23_7 : aggB Try.prog 23 7 = true := by kernel_rfl
theorem T.agg_48_3 : aggB Try.prog 48 3 = true := by kernel_rfl
theorem T.agg_51_4 : aggB Try.prog 51 4 = true := by kernel_rfl
theorem T.agg_84_3 : aggB Try.prog 84 3 = true := by kernel_rfl
theorem T.bool_4 : boolB Try.prog 4 = true := by kernel_rfl
theorem T.build_101  : Try.prog.built 101 [] = some [((.string ByteArray.empty) : Value), (.int .u64 0), (.int .i64 0), (.int .i64 0), (.int .i64 0)].toArray := by kernel_rfl
theorem T.build_101_0_1 (x1 : ByteArray) (x2 : Value) (x3 : Value) (x4 : Value) (x5 : Value) : Try.prog.built 101 [(0, (.string x1)), (1, (.agg #[x2, x3, x4, x5]))] = some [((.string x1) : Value), x2, x3, x4, x5].toArray := by kernel_rfl
theorem T.build_104_0 (x1 : Int) : Try.prog.built 104 [(0, (.int .i64 x1))] = some [((.int .i64 x1) : Value), (.slice none 0 0), (.int .i64 0), (.int .i64 0)].toArray := by kernel_rfl
theorem T.build_111  : Try.prog.built 111 [] = some [((.int .i64 0) : Value), (.int .u64 0), (.string ByteArray.empty), (.slice none 0 0)].toArray := by kernel_rfl
theorem T.build_111_0 (x1 : Int) : Try.prog.built 111 [(0, (.int .i64 x1))] = some [((.int .i64 x1) : Value), (.int .u64 0), (.string ByteArray.empty), (.slice none 0 0)].toArray := by kernel_rfl
theorem T.build_111_0_1 (x1 : Int) (x2 : Int) : Try.prog.built 111 [(0, (.int .i64 x1)), (1, (.int .u64 x2))] = some [((.int .i64 x1) : Value), (.int .u64 x2), (.string ByteArray.empty), (.slice none 0 0)].toArray := by kernel_rfl
theorem T.build_111_0_1_3 (x1 : Int) (x2 : Int) (x3 : Option Addr) (x4 : Nat) (x5 : Nat) : Try.prog.built 111 [(0, (.int .i64 x1)), (1, (.int .u64 x2)), (3, (.slice x3 x4 x5))] = some [((.int .i64 x1) : Value), (.int .u64 x2), (.string ByteArray.empty), (.slice x3 x4 x5)].toArray := by kernel_rfl
theorem T.build_111_0_2 (x1 : Int) (x2 : ByteArray) : Try.prog.built 111 [(0, (.int .i64 x1)), (2, (.string x2))] = some [((.int .i64 x1) : Value), (.int .u64 0), (.string x2), (.slice none 0 0)].toArray := by kernel_rfl
theorem T.build_111_0_3 (x1 : Int) (x2 : Option Addr) (x3 : Nat) (x4 : Nat) : Try.prog.built 111 [(0, (.int .i64 x1)), (3, (.slice x2 x3 x4))] = some [((.int .i64 x1) : Value), (.int .u64 0), (.string ByteArray.empty), (.slice x2 x3 x4)].toArray := by kernel_rfl
theorem T.build_119  : Try.prog.built 119 [] = some [((.int .u64 0) : Value), (.int .i64 0), (.int .i64 0), (.int .i64 0), (.bool false), (.slice none 0 0), (.slice none 0 0), (.int .i64 0)].toArray := by kernel_rfl
theorem T.build_119_0_1 (x1 : Value) (x2 : Value) (x3 : Value) (x4 : Value) (x5 : Value) (x6 : Value) (x7 : Value) : Try.prog.built 119 [(0, (.agg #[x1, x2, x3, x4])), (1, (.agg #[x5, x6, x7]))] = some [(x1 : Value), x2, x3, x4, x5, x6, x7, (.int .i64 0)].toArray := by kernel_rfl
theorem T.build_126_0 (x1 : ByteArray) : Try.prog.built 126 [(0, (.string x1))] = some [((.string x1) : Value), (.slice none 0 0)].toArray := by kernel_rfl
theorem T.build_126_0_1 (x1 : ByteArray) (x2 : Option Addr) (x3 : Nat) (x4 : Nat) : Try.prog.built 126 [(0, (.string x1)), (1, (.slice x2 x3 x4))] = some [((.string x1) : Value), (.slice x2 x3 x4)].toArray := by kernel_rfl
theorem T.build_136_0_1_2 (x1 : Int) (x2 : ByteArray) (x3 : ByteArray) : Try.prog.built 136 [(0, (.int .i64 x1)), (1, (.string x2)), (2, (.string x3))] = some [((.int .i64 x1) : Value), (.string x2), (.string x3)].toArray := by kernel_rfl
theorem T.build_152  : Try.prog.built 152 [] = some [((.bool false) : Value)].toArray := by kernel_rfl
theorem T.build_164_0 (x1 : ByteArray) : Try.prog.built 164 [(0, (.string x1))] = some [((.string x1) : Value), (.int .i64 0)].toArray := by kernel_rfl
theorem T.build_35_0_1_2_3 (x1 : Option Addr) (x2 : Option Addr) (x3 : Option Addr) (x4 : Value) (x5 : Value) (x6 : Value) (x7 : Value) (x8 : Value) (x9 : Value) (x10 : Value) : Try.prog.built 35 [(0, (.pointer x1)), (1, (.pointer x2)), (2, (.pointer x3)), (3, (.agg #[x4, x5, x6, x7, x8, x9, x10]))] = some [((.pointer x1) : Value), (.pointer x2), (.pointer x3), x4, x5, x6, x7, x8, x9, x10].toArray := by kernel_rfl
theorem T.build_39_0_2 (x1 : Option Addr) (x2 : Option Addr) (x3 : Nat) (x4 : Nat) : Try.prog.built 39 [(0, (.pointer x1)), (2, (.slice x2 x3 x4))] = some [((.pointer x1) : Value), (.int .i64 0), (.slice x2 x3 x4)].toArray := by kernel_rfl
theorem T.build_44_0_1_2 (x1 : Option Addr) (x2 : Int) (x3 : Option Addr) (x4 : Nat) (x5 : Nat) : Try.prog.built 44 [(0, (.pointer x1)), (1, (.int .i64 x2)), (2, (.slice x3 x4 x5))] = some [((.pointer x1) : Value), (.int .i64 x2), (.slice x3 x4 x5), (.slice none 0 0), (.int .i64 0)].toArray := by kernel_rfl
theorem T.build_48  : Try.prog.built 48 [] = some [((.bool false) : Value), (.slice none 0 0), (.slice none 0 0)].toArray := by kernel_rfl
theorem T.build_48_0 (x1 : Bool) : Try.prog.built 48 [(0, (.bool x1))] = some [((.bool x1) : Value), (.slice none 0 0), (.slice none 0 0)].toArray := by kernel_rfl
theorem T.build_48_0_2 (x1 : Bool) (x2 : Option Addr) (x3 : Nat) (x4 : Nat) : Try.prog.built 48 [(0, (.bool x1)), (2, (.slice x2 x3 x4))] = some [((.bool x1) : Value), (.slice none 0 0), (.slice x2 x3 x4)].toArray := by kernel_rfl
theorem T.build_51  : Try.prog.built 51 [] = some [((.int .u64 0) : Value), (.int .i64 0), (.int .i64 0), (.int .i64 0)].toArray := by kernel_rfl
theorem T.build_51_0_1_2_3 (x1 : Int) (x2 : Int) (x3 : Int) (x4 : Int) : Try.prog.built 51 [(0, (.int .u64 x1)), (1, (.int .i64 x2)), (2, (.int .i64 x3)), (3, (.int .i64 x4))] = some [((.int .u64 x1) : Value), (.int .i64 x2), (.int .i64 x3), (.int .i64 x4)].toArray := by kernel_rfl
theorem T.build_79  : Try.prog.built 79 [] = some [((.bool false) : Value), (.int .i64 0), (.int .i64 0)].toArray := by kernel_rfl
theorem T.build_84  : Try.prog.built 84 [] = some [((.int .i64 0) : Value), (.int .i64 0), (.int .i64 0)].toArray := by kernel_rfl
theorem T.build_84_0_1_2 (x1 : Int) (x2 : Int) (x3 : Int) : Try.prog.built 84 [(0, (.int .i64 x1)), (1, (.int .i64 x2)), (2, (.int .i64 x3))] = some [((.int .i64 x1) : Value), (.int .i64 x2), (.int .i64 x3)].toArray := by kernel_rfl
theorem T.build_89_0 (x1 : Option Addr) (x2 : Nat) (x3 : Nat) : Try.prog.built 89 [(0, (.slice x1 x2 x3))] = some [((.slice x1 x2 x3) : Value), (.int .i64 0)].toArray := by kernel_rfl
theorem T.build_93_0_1_2 (x1 : Int) (x2 : Int) (x3 : ByteArray) : Try.prog.built 93 [(0, (.int .i64 x1)), (1, (.int .i64 x2)), (2, (.string x3))] = some [((.int .i64 x1) : Value), (.int .i64 x2), (.string x3)].toArray := by kernel_rfl
theorem T.bytes_101_48 : (Try.prog.info? 101).map (·.bytes) = some 48 := by kernel_rfl
theorem T.bytes_108_24 : (Try.prog.info? 108).map (·.bytes) = some 24 := by kernel_rfl
theorem T.bytes_111_56 : (Try.prog.info? 111).map (·.bytes) = some 56 := by kernel_rfl
theorem T.bytes_119_96 : (Try.prog.info? 119).map (·.bytes) = some 96 := by kernel_rfl
theorem T.bytes_126_40 : (Try.prog.info? 126).map (·.bytes) = some 40 := by kernel_rfl
theorem T.bytes_136_40 : (Try.prog.info? 136).map (·.bytes) = some 40 := by kernel_rfl
theorem T.bytes_3_8 : (Try.prog.info? 3).map (·.bytes) = some 8 := by kernel_rfl
theorem T.bytes_48_56 : (Try.prog.info? 48).map (·.bytes) = some 56 := by kernel_rfl
theorem T.bytes_49_8 : (Try.prog.info? 49).map (·.bytes) = some 8 := by kernel_rfl
theorem T.bytes_51_32 : (Try.prog.info? 51).map (·.bytes) = some 32 := by kernel_rfl
theorem T.bytes_5_1 : (Try.prog.info? 5).map (·.bytes) = some 1 := by kernel_rfl
theorem T.bytes_60_24 : (Try.prog.info? 60).map (·.bytes) = some 24 := by kernel_rfl
theorem T.bytes_93_32 : (Try.prog.info? 93).map (·.bytes) = some 32 := by kernel_rfl
theorem T.cmpN_101_csniiii : cmpNB Try.prog 101 [.c .s, .n [.i, .i, .i, .i]] = true := by kernel_rfl
theorem T.cmp_136_iss : cmpB Try.prog 136 [.i, .s, .s] = true := by kernel_rfl
theorem T.cmp_51_iiii : cmpB Try.prog 51 [.i, .i, .i, .i] = true := by kernel_rfl
theorem T.fld_101_0_0 : fldB Try.prog 101 0 0 = true := by kernel_rfl
theorem T.fld_101_1_1 : fldB Try.prog 101 1 1 = true := by kernel_rfl
theorem T.fld_104_0_0 : fldB Try.prog 104 0 0 = true := by kernel_rfl
theorem T.fld_104_1_1 : fldB Try.prog 104 1 1 = true := by kernel_rfl
theorem T.fld_104_2_2 : fldB Try.prog 104 2 2 = true := by kernel_rfl
theorem T.fld_104_3_3 : fldB Try.prog 104 3 3 = true := by kernel_rfl
theorem T.fld_108_0_0 : fldB Try.prog 108 0 0 = true := by kernel_rfl
theorem T.fld_108_1_1 : fldB Try.prog 108 1 1 = true := by kernel_rfl
theorem T.fld_111_0_0 : fldB Try.prog 111 0 0 = true := by kernel_rfl
theorem T.fld_111_1_1 : fldB Try.prog 111 1 1 = true := by kernel_rfl
theorem T.fld_111_2_2 : fldB Try.prog 111 2 2 = true := by kernel_rfl
theorem T.fld_111_3_3 : fldB Try.prog 111 3 3 = true := by kernel_rfl
theorem T.fld_119_0_0 : fldB Try.prog 119 0 0 = true := by kernel_rfl
theorem T.fld_119_1_4 : fldB Try.prog 119 1 4 = true := by kernel_rfl
theorem T.fld_119_2_7 : fldB Try.prog 119 2 7 = true := by kernel_rfl
theorem T.fld_126_0_0 : fldB Try.prog 126 0 0 = true := by kernel_rfl
theorem T.fld_126_1_1 : fldB Try.prog 126 1 1 = true := by kernel_rfl
theorem T.fld_136_0_0 : fldB Try.prog 136 0 0 = true := by kernel_rfl
theorem T.fld_136_1_1 : fldB Try.prog 136 1 1 = true := by kernel_rfl
theorem T.fld_136_2_2 : fldB Try.prog 136 2 2 = true := by kernel_rfl
theorem T.fld_152_0_0 : fldB Try.prog 152 0 0 = true := by kernel_rfl
theorem T.fld_164_0_0 : fldB Try.prog 164 0 0 = true := by kernel_rfl
theorem T.fld_164_1_1 : fldB Try.prog 164 1 1 = true := by kernel_rfl
theorem T.fld_23_0_0 : fldB Try.prog 23 0 0 = true := by kernel_rfl
theorem T.fld_23_1_1 : fldB Try.prog 23 1 1 = true := by kernel_rfl
theorem T.fld_23_2_2 : fldB Try.prog 23 2 2 = true := by kernel_rfl
theorem T.fld_23_3_3 : fldB Try.prog 23 3 3 = true := by kernel_rfl
theorem T.fld_23_4_4 : fldB Try.prog 23 4 4 = true := by kernel_rfl
theorem T.fld_23_5_5 : fldB Try.prog 23 5 5 = true := by kernel_rfl
theorem T.fld_23_6_6 : fldB Try.prog 23 6 6 = true := by kernel_rfl
theorem T.fld_35_0_0 : fldB Try.prog 35 0 0 = true := by kernel_rfl
theorem T.fld_35_1_1 : fldB Try.prog 35 1 1 = true := by kernel_rfl
theorem T.fld_35_2_2 : fldB Try.prog 35 2 2 = true := by kernel_rfl
theorem T.fld_35_3_3 : fldB Try.prog 35 3 3 = true := by kernel_rfl
theorem T.fld_39_0_0 : fldB Try.prog 39 0 0 = true := by kernel_rfl
theorem T.fld_39_1_1 : fldB Try.prog 39 1 1 = true := by kernel_rfl
theorem T.fld_39_2_2 : fldB Try.prog 39 2 2 = true := by kernel_rfl
theorem T.fld_44_0_0 : fldB Try.prog 44 0 0 = true := by kernel_rfl
theorem T.fld_44_1_1 : fldB Try.prog 44 1 1 = true := by kernel_rfl
theorem T.fld_44_2_2 : fldB Try.prog 44 2 2 = true := by kernel_rfl
theorem T.fld_44_3_3 : fldB Try.prog 44 3 3 = true := by kernel_rfl
theorem T.fld_44_4_4 : fldB Try.prog 44 4 4 = true := by kernel_rfl
theorem T.fld_48_0_0 : fldB Try.prog 48 0 0 = true := by kernel_rfl
theorem T.fld_48_1_1 : fldB Try.prog 48 1 1 = true := by kernel_rfl
theorem T.fld_48_2_2 : fldB Try.prog 48 2 2 = true := by kernel_rfl
theorem T.fld_51_0_0 : fldB Try.prog 51 0 0 = true := by kernel_rfl
theorem T.fld_51_1_1 : fldB Try.prog 51 1 1 = true := by kernel_rfl
theorem T.fld_51_2_2 : fldB Try.prog 51 2 2 = true := by kernel_rfl
theorem T.fld_51_3_3 : fldB Try.prog 51 3 3 = true := by kernel_rfl
theorem T.fld_79_0_0 : fldB Try.prog 79 0 0 = true := by kernel_rfl
theorem T.fld_79_1_1 : fldB Try.prog 79 1 1 = true := by kernel_rfl
theorem T.fld_79_2_2 : fldB Try.prog 79 2 2 = true := by kernel_rfl
theorem T.fld_84_0_0 : fldB Try.prog 84 0 0 = true := by kernel_rfl
theorem T.fld_84_1_1 : fldB Try.prog 84 1 1 = true := by kernel_rfl
theorem T.fld_84_2_2 : fldB Try.prog 84 2 2 = true := by kernel_rfl
theorem T.fld_89_0_0 : fldB Try.prog 89 0 0 = true := by kernel_rfl
theorem T.fld_89_1_1 : fldB Try.prog 89 1 1 = true := by kernel_rfl
theorem T.fldv_111_3_3_1_false : fldvB Try.prog 111 3 3 1 false = true := by kernel_rfl
theorem T.fldv_119_2_7_1_false : fldvB Try.prog 119 2 7 1 false = true := by kernel_rfl
theorem T.int_175_u64 : intB Try.prog 175 .u64 = true := by kernel_rfl
theorem T.int_3_i64 : intB Try.prog 3 .i64 = true := by kernel_rfl
theorem T.int_49_u64 : intB Try.prog 49 .u64 = true := by kernel_rfl
theorem T.int_5_u8 : intB Try.prog 5 .u8 = true := by kernel_rfl
theorem T.ptr_26 : ptrB Try.prog 26 = true := by kernel_rfl
theorem T.ptr_31 : ptrB Try.prog 31 = true := by kernel_rfl
theorem T.ptr_32 : ptrB Try.prog 32 = true := by kernel_rfl
theorem T.ptr_33 : ptrB Try.prog 33 = true := by kernel_rfl
theorem T.ptr_36 : ptrB Try.prog 36 = true := by kernel_rfl
theorem T.ptr_40 : ptrB Try.prog 40 = true := by kernel_rfl
theorem T.scal_102 : scalB Try.prog 102 = true := by kernel_rfl
theorem T.scal_109 : scalB Try.prog 109 = true := by kernel_rfl
theorem T.scal_124 : scalB Try.prog 124 = true := by kernel_rfl
theorem T.scal_24 : scalB Try.prog 24 = true := by kernel_rfl
theorem T.scal_3 : scalB Try.prog 3 = true := by kernel_rfl
theorem T.scal_31 : scalB Try.prog 31 = true := by kernel_rfl
theorem T.scal_32 : scalB Try.prog 32 = true := by kernel_rfl
theorem T.scal_33 : scalB Try.prog 33 = true := by kernel_rfl
theorem T.scal_36 : scalB Try.prog 36 = true := by kernel_rfl
theorem T.scal_37 : scalB Try.prog 37 = true := by kernel_rfl
theorem T.scal_4 : scalB Try.prog 4 = true := by kernel_rfl
theorem T.scal_40 : scalB Try.prog 40 = true := by kernel_rfl
theorem T.scal_41 : scalB Try.prog 41 = true := by kernel_rfl
theorem T.scal_42 : scalB Try.prog 42 = true := by kernel_rfl
theorem T.scal_45 : scalB Try.prog 45 = true := by kernel_rfl
theorem T.scal_46 : scalB Try.prog 46 = true := by kernel_rfl
theorem T.scal_49 : scalB Try.prog 49 = true := by kernel_rfl
theorem T.scal_60 : scalB Try.prog 60 = true := by kernel_rfl
theorem T.scal_9 : scalB Try.prog 9 = true := by kernel_rfl
theorem T.sl_102_119_8 : slB Try.prog 102 119 8 = true := by kernel_rfl
theorem T.sl_109_111_4 : slB Try.prog 109 111 4 = true := by kernel_rfl
theorem T.sl_124_136_3 : slB Try.prog 124 136 3 = true := by kernel_rfl
theorem T.sl_24_49_1 : slB Try.prog 24 49 1 = true := by kernel_rfl
theorem T.sl_25_48_3 : slB Try.prog 25 48 3 = true := by kernel_rfl
theorem T.sl_37_108_3 : slB Try.prog 37 108 3 = true := by kernel_rfl
theorem T.sl_41_60_1 : slB Try.prog 41 60 1 = true := by kernel_rfl
theorem T.sl_42_93_3 : slB Try.prog 42 93 3 = true := by kernel_rfl
theorem T.sl_45_126_2 : slB Try.prog 45 126 2 = true := by kernel_rfl
theorem T.sl_46_101_5 : slB Try.prog 46 101 5 = true := by kernel_rfl
theorem T.sl_59_51_4 : slB Try.prog 59 51 4 = true := by kernel_rfl
theorem T.sl_60_5_1 : slB Try.prog 60 5 1 = true := by kernel_rfl
theorem T.sl_65_3_1 : slB Try.prog 65 3 1 = true := by kernel_rfl
theorem T.str_9 : strB Try.prog 9 = true := by kernel_rfl
theorem T.u8_5 : u8B Try.prog 5 = true := by kernel_rfl
theorem T.zero_101 : (Try.prog.info? 101).map (·.zero) = some (some (.agg #[(.string ByteArray.empty), (.int .u64 0), (.int .i64 0), (.int .i64 0), (.int .i64 0)])) := by kernel_rfl
theorem T.zero_108 : (Try.prog.info? 108).map (·.zero) = some (some (.agg #[(.int .i64 0), (.int .i64 0), (.int .i64 0)])) := by kernel_rfl
theorem T.zero_111 : (Try.prog.info? 111).map (·.zero) = some (some (.agg #[(.int .i64 0), (.int .u64 0), (.string ByteArray.empty), (.slice none 0 0)])) := by kernel_rfl
theorem T.zero_119 : (Try.prog.info? 119).map (·.zero) = some (some (.agg #[(.int .u64 0), (.int .i64 0), (.int .i64 0), (.int .i64 0), (.bool false), (.slice none 0 0), (.slice none 0 0), (.int .i64 0)])) := by kernel_rfl
theorem T.zero_126 : (Try.prog.info? 126).map (·.zero) = some (some (.agg #[(.string ByteArray.empty), (.slice none 0 0)])) := by kernel_rfl
theorem T.zero_136 : (Try.prog.info? 136).map (·.zero) = some (some (.agg #[(.int .i64 0), (.string ByteArray.empty), (.string ByteArray.empty)])) := by kernel_rfl
theorem T.zero_23 : (Try.prog.info? 23).map (·.zero) = some (some (.agg #[(.int .i64 0), (.int .i64 0), (.int .i64 0), (.int .i64 0), (.int .i64 0), (.int .i64 0), (.int .i64 0)])) := by kernel_rfl
theorem T.zero_48 : (Try.prog.info? 48).map (·.zero) = some (some (.agg #[(.bool false), (.slice none 0 0), (.slice none 0 0)])) := by kernel_rfl
theorem T.zero_49 : (Try.prog.info? 49).map (·.zero) = some (some (.int .u64 0)) := by kernel_rfl
theorem T.zero_5 : (Try.prog.info? 5).map (·.zero) = some (some (.int .u8 0)) := by kernel_rfl
theorem T.zero_51 : (Try.prog.info? 51).map (·.zero) = some (some (.agg #[(.int .u64 0), (.int .i64 0), (.int .i64 0), (.int .i64 0)])) := by kernel_rfl
theorem T.zero_60 : (Try.prog.info? 60).map (·.zero) = some (some (.slice none 0 0)) := by kernel_rfl
theorem T.zero_84 : (Try.prog.info? 84).map (·.zero) = some (some (.agg #[(.int .i64 0), (.int .i64 0), (.int .i64 0)])) := by kernel_rfl
theorem T.zero_93 : (Try.prog.info? 93).map (·.zero) = some (some (.agg #[(.int .i64 0), (.int .i64 0), (.string ByteArray.empty)])) := by kernel_rfl

end Go.Proofs.Ytlgpdglnfjndhaa.Xe
