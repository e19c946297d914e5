/-
  A part of a proof: the lemmas that the last text joins. No conditions.
-/
import Derived.Test.YtifplgkfjpkppaaProg
import Derived.KernelRfl
import Derived.Test.YtifplgkfjpkppaaC2
set_option linter.unusedSimpArgs false
set_option linter.unusedVariables false
namespace Go.Sx
open Go.Proofs
def tds : List (Nat × TD) := [
  (3, ⟨1, false, .int .i64 0, .int .i64, (.ints .i64)⟩),
  (4, ⟨1, false, .bool false, .bool, .agg⟩),
  (5, ⟨1, false, .int .u8 0, .int .u8, (.ints .u8)⟩),
  (9, ⟨1, false, .str ByteArray.empty, .str, .agg⟩),
  (22, ⟨1, false, .nilsl, .slice 5, .agg⟩),
  (24, ⟨1, false, .int .i64 0, .int .i64, (.ints .i64)⟩),
  (31, ⟨16, true, .ints .i64 (zl 16), .array 16 3, .none⟩),
  (34, ⟨56, true, .ints .u8 (zl 56), .array 56 5, .none⟩),
  (35, ⟨56, true, .ints .u8 (zl 56), .array 56 5, .none⟩),
  (38, ⟨1, false, .int .u64 0, .int .u64, (.ints .u64)⟩),
  (39, ⟨8, true, .ints .u64 (zl 8), .array 8 38, .none⟩),
  (41, ⟨8, true, .ints .u64 (zl 8), .struct [(0, 39)], .els⟩),
  (48, ⟨1, false, .nilsl, .slice 38, .agg⟩),
  (59, ⟨57, true, .ints .u8 (zl 57), .array 57 5, .none⟩),
  (61, ⟨58, true, .agg [.int .u8 0, .int .u8 0, .int .u8 0, .int .u8 0, .int .u8 0, .int .u8 0, .int .u8 0, .int .u8 0, .int .u8 0, .int .u8 0, .int .u8 0, .int .u8 0, .int .u8 0, .int .u8 0, .int .u8 0, .int .u8 0, .int .u8 0, .int .u8 0, .int .u8 0, .int .u8 0, .int .u8 0, .int .u8 0, .int .u8 0, .int .u8 0, .int .u8 0, .int .u8 0, .int .u8 0, .int .u8 0, .int .u8 0, .int .u8 0, .int .u8 0, .int .u8 0, .int .u8 0, .int .u8 0, .int .u8 0, .int .u8 0, .int .u8 0, .int .u8 0, .int .u8 0, .int .u8 0, .int .u8 0, .int .u8 0, .int .u8 0, .int .u8 0, .int .u8 0, .int .u8 0, .int .u8 0, .int .u8 0, .int .u8 0, .int .u8 0, .int .u8 0, .int .u8 0, .int .u8 0, .int .u8 0, .int .u8 0, .int .u8 0, .int .u8 0, .int .i64 0], .struct [(0, 59), (57, 3)], .none⟩),
  (63, ⟨24, true, .ints .u64 (zl 24), .struct [(0, 41), (8, 41), (16, 41)], .pts⟩),
  (69, ⟨48, true, .ints .i64 (zl 48), .struct [(0, 31), (16, 31), (32, 31)], .none⟩),
  (81, ⟨2, true, .agg [.nilsl, .nilsl], .array 2 22, .none⟩),
  (83, ⟨2, true, .agg [.nilsl, .int .i64 0], .struct [(0, 22), (1, 3)], .none⟩),
  (87, ⟨32, true, .ints .i64 (zl 32), .struct [(0, 31), (16, 31)], .none⟩),
  (92, ⟨16, true, .ints .u64 (zl 16), .struct [(0, 41), (8, 41)], .none⟩),
  (100, ⟨4, true, .agg [.nilsl, .int .i64 0, .nilsl, .int .i64 0], .array 2 83, .none⟩),
  (101, ⟨48, true, .ints .u64 (zl 48), .array 2 63, .none⟩),
  (102, ⟨96, true, .ints .i64 (zl 96), .array 2 69, .none⟩),
  (125, ⟨1, false, .nilptr, .ptr, .agg⟩),
  (129, ⟨1, false, .nilsl, .slice 83, .agg⟩),
  (130, ⟨1, false, .nilsl, .slice 63, .agg⟩),
  (142, ⟨2, true, .ints .i64 (zl 2), .struct [(0, 3), (1, 3)], .none⟩),
  (156, ⟨25, true, .agg [.nilsl, .int .u64 0, .int .u64 0, .int .u64 0, .int .u64 0, .int .u64 0, .int .u64 0, .int .u64 0, .int .u64 0, .int .u64 0, .int .u64 0, .int .u64 0, .int .u64 0, .int .u64 0, .int .u64 0, .int .u64 0, .int .u64 0, .int .u64 0, .int .u64 0, .int .u64 0, .int .u64 0, .int .u64 0, .int .u64 0, .int .u64 0, .int .u64 0], .struct [(0, 22), (1, 63)], .none⟩),
  (167, ⟨1, false, .nilfn, .other, .agg⟩),
  (173, ⟨2, true, .ints .u64 (zl 2), .struct [(0, 38), (1, 38)], .none⟩),
  (174, ⟨30, true, .ints .u64 (zl 30), .array 15 173, .none⟩),
  (194, ⟨16, true, .ints .u64 (zl 16), .array 2 41, .none⟩),
  (195, ⟨16, true, .ints .u64 (zl 16), .array 2 41, .none⟩),
  (200, ⟨3, true, .agg [.nilsl, .int .i64 0, .int .i64 0], .struct [(0, 130), (1, 3), (2, 3)], .none⟩),
  (201, ⟨1, false, .nilsl, .slice 3, .agg⟩),
  (215, ⟨1, false, .nilsl, .slice 22, .agg⟩),
  (216, ⟨2, true, .agg [.nilsl, .nilsl], .array 2 130, .none⟩),
  (219, ⟨1, false, .nilsl, .slice 156, .agg⟩),
  (223, ⟨64, true, .ints .i64 (zl 64), .struct [(0, 31), (16, 31), (32, 31), (48, 31)], .none⟩),
  (228, ⟨31, true, .ints .i64 (zl 31), .array 31 3, .none⟩),
  (229, ⟨1, false, .nilsl, .slice 41, .agg⟩),
  (232, ⟨1, false, .nilfn, .other, .agg⟩),
  (236, ⟨1, true, .ints .i64 (zl 1), .struct [(0, 3)], .none⟩)]
def E : Env := ⟨fun t => lk t tds, []⟩
theorem tds_ok : tds.map (fun p => tdOf Try.prog p.1 p.2.seq) = tds.map (fun p => some p.2) := by kernel_rfl
theorem env_ok : EnvOK Try.prog E := envOK_of tds_ok
end Go.Sx

namespace Go.Sx
open Go.Proofs
noncomputable abbrev prog : Program := Try.prog
theorem mixed : prog.follows .mixedOrders = true := by kernel_rfl
abbrev n_main_main : Nat := 0
noncomputable abbrev f_main_main : Func := Try.f0
abbrev n_gosem_cut : Nat := 1
noncomputable abbrev f_gosem_cut : Func := Try.f1
abbrev n_gosem_cut_init : Nat := 2
noncomputable abbrev f_gosem_cut_init : Func := Try.f2
abbrev n_law10_LadderShares : Nat := 3
noncomputable abbrev f_law10_LadderShares : Func := Try.f3
abbrev n_law10_LadderMeets : Nat := 4
noncomputable abbrev f_law10_LadderMeets : Func := Try.f4
abbrev n_law11_CombSame : Nat := 5
noncomputable abbrev f_law11_CombSame : Func := Try.f5
abbrev n_law05_RootSums : Nat := 6
noncomputable abbrev f_law05_RootSums : Func := Try.f6
abbrev n_law09_CodingWrites : Nat := 7
noncomputable abbrev f_law09_CodingWrites : Func := Try.f7
abbrev n_law09_CodingBack : Nat := 8
noncomputable abbrev f_law09_CodingBack : Func := Try.f8
abbrev n_law09_CodingSame : Nat := 9
noncomputable abbrev f_law09_CodingSame : Func := Try.f9
abbrev n_law13_TwistPoints : Nat := 10
noncomputable abbrev f_law13_TwistPoints : Func := Try.f10
abbrev n_law13_TwistAdds : Nat := 11
noncomputable abbrev f_law13_TwistAdds : Func := Try.f11
abbrev n_law13_TwistHomes : Nat := 12
noncomputable abbrev f_law13_TwistHomes : Func := Try.f12
abbrev n_law13_TwistFours : Nat := 13
noncomputable abbrev f_law13_TwistFours : Func := Try.f13
abbrev n_law10_LadderPoints : Nat := 14
noncomputable abbrev f_law10_LadderPoints : Func := Try.f14
abbrev n_law11_CombNil : Nat := 15
noncomputable abbrev f_law11_CombNil : Func := Try.f15
abbrev n_law11_CombLooks : Nat := 16
noncomputable abbrev f_law11_CombLooks : Func := Try.f16
abbrev n_law11_CombPowers : Nat := 17
noncomputable abbrev f_law11_CombPowers : Func := Try.f17
abbrev n_law11_CombTables : Nat := 18
noncomputable abbrev f_law11_CombTables : Func := Try.f18
abbrev n_law12_MultSwaps : Nat := 19
noncomputable abbrev f_law12_MultSwaps : Func := Try.f19
abbrev n_law12_MultTimes : Nat := 20
noncomputable abbrev f_law12_MultTimes : Func := Try.f20
abbrev n_law11_CombAdds : Nat := 21
noncomputable abbrev f_law11_CombAdds : Func := Try.f21
abbrev n_law12_MultParts : Nat := 22
noncomputable abbrev f_law12_MultParts : Func := Try.f22
abbrev n_law10_awake : Nat := 23
noncomputable abbrev f_law10_awake : Func := Try.f23
abbrev n_ladder_X448 : Nat := 24
noncomputable abbrev f_ladder_X448 : Func := Try.f24
abbrev n_ladder_Public : Nat := 25
noncomputable abbrev f_ladder_Public : Func := Try.f25
abbrev n_ref10_X448 : Nat := 26
noncomputable abbrev f_ref10_X448 : Func := Try.f26
abbrev n_ref04_Bytes : Nat := 27
noncomputable abbrev f_ref04_Bytes : Func := Try.f27
abbrev n_ref04_Int : Nat := 28
noncomputable abbrev f_ref04_Int : Func := Try.f28
abbrev n_law01_Bytes : Nat := 29
noncomputable abbrev f_law01_Bytes : Func := Try.f29
abbrev n_law04_Bytes : Nat := 30
noncomputable abbrev f_law04_Bytes : Func := Try.f30
abbrev n_field_Bytes : Nat := 31
noncomputable abbrev f_field_Bytes : Func := Try.f31
abbrev n_field_Int : Nat := 32
noncomputable abbrev f_field_Int : Func := Try.f32
abbrev n_law10_twice : Nat := 33
noncomputable abbrev f_law10_twice : Func := Try.f33
abbrev n_comb_Same : Nat := 34
noncomputable abbrev f_comb_Same : Func := Try.f34
abbrev n_law11_awake : Nat := 35
noncomputable abbrev f_law11_awake : Func := Try.f35
abbrev n_law04_Made : Nat := 36
noncomputable abbrev f_law04_Made : Func := Try.f36
abbrev n_law05_awake : Nat := 37
noncomputable abbrev f_law05_awake : Func := Try.f37
abbrev n_number_Bytes : Nat := 38
noncomputable abbrev f_number_Bytes : Func := Try.f38
abbrev n_number_Add : Nat := 39
noncomputable abbrev f_number_Add : Func := Try.f39
abbrev n_number_Mul : Nat := 40
noncomputable abbrev f_number_Mul : Func := Try.f40
abbrev n_law03_Words : Nat := 41
noncomputable abbrev f_law03_Words : Func := Try.f41
abbrev n_number_Of : Nat := 42
noncomputable abbrev f_number_Of : Func := Try.f42
abbrev n_root_Power : Nat := 43
noncomputable abbrev f_root_Power : Func := Try.f43
abbrev n_field_Equal : Nat := 44
noncomputable abbrev f_field_Equal : Func := Try.f44
abbrev n_field_Mul : Nat := 45
noncomputable abbrev f_field_Mul : Func := Try.f45
abbrev n_law08_Made : Nat := 46
noncomputable abbrev f_law08_Made : Func := Try.f46
abbrev n_coding_Encode : Nat := 47
noncomputable abbrev f_coding_Encode : Func := Try.f47
abbrev n_ref09_Encode : Nat := 48
noncomputable abbrev f_ref09_Encode : Func := Try.f48
abbrev n_law08_Plain : Nat := 49
noncomputable abbrev f_law08_Plain : Func := Try.f49
abbrev n_law09_awake : Nat := 50
noncomputable abbrev f_law09_awake : Func := Try.f50
abbrev n_coding_Decode : Nat := 51
noncomputable abbrev f_coding_Decode : Func := Try.f51
abbrev n_point_Equal : Nat := 52
noncomputable abbrev f_point_Equal : Func := Try.f52
abbrev n_point_Neg : Nat := 53
noncomputable abbrev f_point_Neg : Func := Try.f53
abbrev n_point_Affine : Nat := 54
noncomputable abbrev f_point_Affine : Func := Try.f54
abbrev n_field_Zero : Nat := 55
noncomputable abbrev f_field_Zero : Func := Try.f55
abbrev n_law13_Two : Nat := 56
noncomputable abbrev f_law13_Two : Func := Try.f56
abbrev n_law13_awake : Nat := 57
noncomputable abbrev f_law13_awake : Func := Try.f57
abbrev n_law11_Made : Nat := 58
noncomputable abbrev f_law11_Made : Func := Try.f58
abbrev n_twist_Affine : Nat := 59
noncomputable abbrev f_twist_Affine : Func := Try.f59
abbrev n_twist_To : Nat := 60
noncomputable abbrev f_twist_To : Func := Try.f60
abbrev n_ref13_To : Nat := 61
noncomputable abbrev f_ref13_To : Func := Try.f61
abbrev n_twist_Of : Nat := 62
noncomputable abbrev f_twist_Of : Func := Try.f62
abbrev n_ref13_On : Nat := 63
noncomputable abbrev f_ref13_On : Func := Try.f63
abbrev n_law13_same : Nat := 64
noncomputable abbrev f_law13_same : Func := Try.f64
abbrev n_law13_spots : Nat := 65
noncomputable abbrev f_law13_spots : Func := Try.f65
abbrev n_twist_Add : Nat := 66
noncomputable abbrev f_twist_Add : Func := Try.f66
abbrev n_ref13_Add : Nat := 67
noncomputable abbrev f_ref13_Add : Func := Try.f67
abbrev n_twist_Double : Nat := 68
noncomputable abbrev f_twist_Double : Func := Try.f68
abbrev n_twist_Neg : Nat := 69
noncomputable abbrev f_twist_Neg : Func := Try.f69
abbrev n_ref04_Neg : Nat := 70
noncomputable abbrev f_ref04_Neg : Func := Try.f70
abbrev n_twist_Back : Nat := 71
noncomputable abbrev f_twist_Back : Func := Try.f71
abbrev n_ref13_Back : Nat := 72
noncomputable abbrev f_ref13_Back : Func := Try.f72
abbrev n_ref04_Same : Nat := 73
noncomputable abbrev f_ref04_Same : Func := Try.f73
abbrev n_law13_Same : Nat := 74
noncomputable abbrev f_law13_Same : Func := Try.f74
abbrev n_twist_Equal : Nat := 75
noncomputable abbrev f_twist_Equal : Func := Try.f75
abbrev n_point_Add : Nat := 76
noncomputable abbrev f_point_Add : Func := Try.f76
abbrev n_twist_Identity : Nat := 77
noncomputable abbrev f_twist_Identity : Func := Try.f77
abbrev n_point_Four : Nat := 78
noncomputable abbrev f_point_Four : Func := Try.f78
abbrev n_point_Identity : Nat := 79
noncomputable abbrev f_point_Identity : Func := Try.f79
abbrev n_ladder_Ladder : Nat := 80
noncomputable abbrev f_ladder_Ladder : Func := Try.f80
abbrev n_law10_u : Nat := 81
noncomputable abbrev f_law10_u : Func := Try.f81
abbrev n_comb_Table_Look : Nat := 82
noncomputable abbrev f_comb_Table_Look : Func := Try.f82
abbrev n_comb_Table_Mult : Nat := 83
noncomputable abbrev f_comb_Table_Mult : Func := Try.f83
abbrev n_comb_Table_Len : Nat := 84
noncomputable abbrev f_comb_Table_Len : Func := Try.f84
abbrev n_law11_points : Nat := 85
noncomputable abbrev f_law11_points : Func := Try.f85
abbrev n_comb_Look : Nat := 86
noncomputable abbrev f_comb_Look : Func := Try.f86
abbrev n_point_Base : Nat := 87
noncomputable abbrev f_point_Base : Func := Try.f87
abbrev n_comb_Powers : Nat := 88
noncomputable abbrev f_comb_Powers : Func := Try.f88
abbrev n_law11_Same : Nat := 89
noncomputable abbrev f_law11_Same : Func := Try.f89
abbrev n_ref08_Times : Nat := 90
noncomputable abbrev f_ref08_Times : Func := Try.f90
abbrev n_ref11_Power : Nat := 91
noncomputable abbrev f_ref11_Power : Func := Try.f91
abbrev n_comb_New : Nat := 92
noncomputable abbrev f_comb_New : Func := Try.f92
abbrev n_ref11_Worth : Nat := 93
noncomputable abbrev f_ref11_Worth : Func := Try.f93
abbrev n_law12_awake : Nat := 94
noncomputable abbrev f_law12_awake : Func := Try.f94
abbrev n_mult_Mult : Nat := 95
noncomputable abbrev f_mult_Mult : Func := Try.f95
abbrev n_ref03_Mul : Nat := 96
noncomputable abbrev f_ref03_Mul : Func := Try.f96
abbrev n_law12_wrong : Nat := 97
noncomputable abbrev f_law12_wrong : Func := Try.f97
abbrev n_ref03_Add : Nat := 98
noncomputable abbrev f_ref03_Add : Func := Try.f98
abbrev n_law11_filled : Nat := 99
noncomputable abbrev f_law11_filled : Func := Try.f99
abbrev n_mult_Both : Nat := 100
noncomputable abbrev f_mult_Both : Func := Try.f100
abbrev n_mult_Sum : Nat := 101
noncomputable abbrev f_mult_Sum : Func := Try.f101
abbrev n_ladder_sized : Nat := 102
noncomputable abbrev f_ladder_sized : Func := Try.f102
abbrev n_scalar_Clamp : Nat := 103
noncomputable abbrev f_scalar_Clamp : Func := Try.f103
abbrev n_field_Of : Nat := 104
noncomputable abbrev f_field_Of : Func := Try.f104
abbrev n_ref10_Ladder : Nat := 105
noncomputable abbrev f_ref10_Ladder : Func := Try.f105
abbrev n_ref06_Clamp : Nat := 106
noncomputable abbrev f_ref06_Clamp : Func := Try.f106
abbrev n_ref04_Of : Nat := 107
noncomputable abbrev f_ref04_Of : Func := Try.f107
abbrev n_ref04_Norm : Nat := 108
noncomputable abbrev f_ref04_Norm : Func := Try.f108
abbrev n_field_raw : Nat := 109
noncomputable abbrev f_field_raw : Func := Try.f109
abbrev n_field_Element_strong : Nat := 110
noncomputable abbrev f_field_Element_strong : Func := Try.f110
abbrev n_field_Neg : Nat := 111
noncomputable abbrev f_field_Neg : Func := Try.f111
abbrev n_root_Root : Nat := 112
noncomputable abbrev f_root_Root : Func := Try.f112
abbrev n_root_Ratio : Nat := 113
noncomputable abbrev f_root_Ratio : Func := Try.f113
abbrev n_root_Inverse : Nat := 114
noncomputable abbrev f_root_Inverse : Func := Try.f114
abbrev n_number_Len : Nat := 115
noncomputable abbrev f_number_Len : Func := Try.f115
abbrev n_number_Nat_at : Nat := 116
noncomputable abbrev f_number_Nat_at : Func := Try.f116
abbrev n_math_bits_Add64 : Nat := 117
noncomputable abbrev f_math_bits_Add64 : Func := Try.f117
abbrev n_number_Nat_cut : Nat := 118
noncomputable abbrev f_number_Nat_cut : Func := Try.f118
abbrev n_math_bits_Mul64 : Nat := 119
noncomputable abbrev f_math_bits_Mul64 : Func := Try.f119
abbrev n_field_Square : Nat := 120
noncomputable abbrev f_field_Square : Func := Try.f120
abbrev n_field_Sub : Nat := 121
noncomputable abbrev f_field_Sub : Func := Try.f121
abbrev n_field_wide_times : Nat := 122
noncomputable abbrev f_field_wide_times : Func := Try.f122
abbrev n_field_wide_add : Nat := 123
noncomputable abbrev f_field_wide_add : Func := Try.f123
abbrev n_field_wide_over : Nat := 124
noncomputable abbrev f_field_wide_over : Func := Try.f124
abbrev n_field_Element_carry : Nat := 125
noncomputable abbrev f_field_Element_carry : Func := Try.f125
abbrev n_law08_Quarter : Nat := 126
noncomputable abbrev f_law08_Quarter : Func := Try.f126
abbrev n_law08_times : Nat := 127
noncomputable abbrev f_law08_times : Func := Try.f127
abbrev n_ref08_Affine : Nat := 128
noncomputable abbrev f_ref08_Affine : Func := Try.f128
abbrev n_ref05_Negative : Nat := 129
noncomputable abbrev f_ref05_Negative : Func := Try.f129
abbrev n_ref08_Base : Nat := 130
noncomputable abbrev f_ref08_Base : Func := Try.f130
abbrev n_ref08_Add : Nat := 131
noncomputable abbrev f_ref08_Add : Func := Try.f131
abbrev n_coding_Decode_1 : Nat := 132
noncomputable abbrev f_coding_Decode_1 : Func := Try.f132
abbrev n_field_Decode : Nat := 133
noncomputable abbrev f_field_Decode : Func := Try.f133
abbrev n_field_Times : Nat := 134
noncomputable abbrev f_field_Times : Func := Try.f134
abbrev n_point_Of : Nat := 135
noncomputable abbrev f_point_Of : Func := Try.f135
abbrev n_field_Select : Nat := 136
noncomputable abbrev f_field_Select : Func := Try.f136
abbrev n_point_Affine_1 : Nat := 137
noncomputable abbrev f_point_Affine_1 : Func := Try.f137
abbrev n_ref08_Identity : Nat := 138
noncomputable abbrev f_ref08_Identity : Func := Try.f138
abbrev n_ref11_Torsion : Nat := 139
noncomputable abbrev f_ref11_Torsion : Func := Try.f139
abbrev n_twist_four : Nat := 140
noncomputable abbrev f_twist_four : Func := Try.f140
abbrev n_field_Add : Nat := 141
noncomputable abbrev f_field_Add : Func := Try.f141
abbrev n_ref04_Mul : Nat := 142
noncomputable abbrev f_ref04_Mul : Func := Try.f142
abbrev n_ref04_Add : Nat := 143
noncomputable abbrev f_ref04_Add : Func := Try.f143
abbrev n_ref13_Over : Nat := 144
noncomputable abbrev f_ref13_Over : Func := Try.f144
abbrev n_ref04_Sub : Nat := 145
noncomputable abbrev f_ref04_Sub : Func := Try.f145
abbrev n_twist_product : Nat := 146
noncomputable abbrev f_twist_product : Func := Try.f146
abbrev n_twist_Add_1 : Nat := 147
noncomputable abbrev f_twist_Add_1 : Func := Try.f147
abbrev n_twist_over : Nat := 148
noncomputable abbrev f_twist_over : Func := Try.f148
abbrev n_ref04_prime : Nat := 149
noncomputable abbrev f_ref04_prime : Func := Try.f149
abbrev n_law11_Bytes : Nat := 150
noncomputable abbrev f_law11_Bytes : Func := Try.f150
abbrev n_point_Double : Nat := 151
noncomputable abbrev f_point_Double : Func := Try.f151
abbrev n_ladder_pair_swap : Nat := 152
noncomputable abbrev f_ladder_pair_swap : Func := Try.f152
abbrev n_ladder_Step : Nat := 153
noncomputable abbrev f_ladder_Step : Func := Try.f153
abbrev n_digits_Columns : Nat := 154
noncomputable abbrev f_digits_Columns : Func := Try.f154
abbrev n_slices_Backward_int_int : Nat := 155
noncomputable abbrev f_slices_Backward_int_int : Func := Try.f155
abbrev n_point_Select : Nat := 156
noncomputable abbrev f_point_Select : Func := Try.f156
abbrev n_point_element : Nat := 157
noncomputable abbrev f_point_element : Func := Try.f157
abbrev n_comb_doubled : Nat := 158
noncomputable abbrev f_comb_doubled : Func := Try.f158
abbrev n_ref03_Len : Nat := 159
noncomputable abbrev f_ref03_Len : Func := Try.f159
abbrev n_ref03_Bit : Nat := 160
noncomputable abbrev f_ref03_Bit : Func := Try.f160
abbrev n_comb_New_1 : Nat := 161
noncomputable abbrev f_comb_New_1 : Func := Try.f161
abbrev n_slices_Clone_point_Point_point_Point : Nat := 162
noncomputable abbrev f_slices_Clone_point_Point_point_Point : Func := Try.f162
abbrev n_ref11_Rows : Nat := 163
noncomputable abbrev f_ref11_Rows : Func := Try.f163
abbrev n_mult_size : Nat := 164
noncomputable abbrev f_mult_size : Func := Try.f164
abbrev n_digits_Signed : Nat := 165
noncomputable abbrev f_digits_Signed : Func := Try.f165
abbrev n_mult_multiples : Nat := 166
noncomputable abbrev f_mult_multiples : Func := Try.f166
abbrev n_ref03_at : Nat := 167
noncomputable abbrev f_ref03_at : Func := Try.f167
abbrev n_ref03_Cut : Nat := 168
noncomputable abbrev f_ref03_Cut : Func := Try.f168
abbrev n_digits_Naf : Nat := 169
noncomputable abbrev f_digits_Naf : Func := Try.f169
abbrev n_mult_odd : Nat := 170
noncomputable abbrev f_mult_odd : Func := Try.f170
abbrev n_mult_put : Nat := 171
noncomputable abbrev f_mult_put : Func := Try.f171
abbrev n_mult_at : Nat := 172
noncomputable abbrev f_mult_at : Func := Try.f172
abbrev n_slices_Clone_byte_byte : Nat := 173
noncomputable abbrev f_slices_Clone_byte_byte : Func := Try.f173
abbrev n_scalar_Clamp_1 : Nat := 174
noncomputable abbrev f_scalar_Clamp_1 : Func := Try.f174
abbrev n_field_each_uint64 : Nat := 175
noncomputable abbrev f_field_each_uint64 : Func := Try.f175
abbrev n_field_Of_1 : Nat := 176
noncomputable abbrev f_field_Of_1 : Func := Try.f176
abbrev n_ref10_Step : Nat := 177
noncomputable abbrev f_ref10_Step : Func := Try.f177
abbrev n_ref05_Inverse : Nat := 178
noncomputable abbrev f_ref05_Inverse : Func := Try.f178
abbrev n_ref04_less : Nat := 179
noncomputable abbrev f_ref04_less : Func := Try.f179
abbrev n_field_prime : Nat := 180
noncomputable abbrev f_field_prime : Func := Try.f180
abbrev n_math_bits_Sub64 : Nat := 181
noncomputable abbrev f_math_bits_Sub64 : Func := Try.f181
abbrev n_root_chain : Nat := 182
noncomputable abbrev f_root_chain : Func := Try.f182
abbrev n_root_Abs : Nat := 183
noncomputable abbrev f_root_Abs : Func := Try.f183
abbrev n_root_squares : Nat := 184
noncomputable abbrev f_root_squares : Func := Try.f184
abbrev n_math_bits_Len64 : Nat := 185
noncomputable abbrev f_math_bits_Len64 : Func := Try.f185
abbrev n_field_Sub_1 : Nat := 186
noncomputable abbrev f_field_Sub_1 : Func := Try.f186
abbrev n_ref08_hex : Nat := 187
noncomputable abbrev f_ref08_hex : Func := Try.f187
abbrev n_ref08_D : Nat := 188
noncomputable abbrev f_ref08_D : Func := Try.f188
abbrev n_slices_Equal_byte_byte : Nat := 189
noncomputable abbrev f_slices_Equal_byte_byte : Func := Try.f189
abbrev n_field_Select_1 : Nat := 190
noncomputable abbrev f_field_Select_1 : Func := Try.f190
abbrev n_field_Add_1 : Nat := 191
noncomputable abbrev f_field_Add_1 : Func := Try.f191
abbrev n_field_Swap : Nat := 192
noncomputable abbrev f_field_Swap : Func := Try.f192
abbrev n_digits_check : Nat := 193
noncomputable abbrev f_digits_check : Func := Try.f193
abbrev n_digits_reader : Nat := 194
noncomputable abbrev f_digits_reader : Func := Try.f194
abbrev n_digits_several : Nat := 195
noncomputable abbrev f_digits_several : Func := Try.f195
abbrev n_digits_window : Nat := 196
noncomputable abbrev f_digits_window : Func := Try.f196
abbrev n_slices_Backward_int_int_1 : Nat := 197
noncomputable abbrev f_slices_Backward_int_int_1 : Func := Try.f197
abbrev n_point_pick_of : Nat := 198
noncomputable abbrev f_point_pick_of : Func := Try.f198
abbrev n_digits_Plain : Nat := 199
noncomputable abbrev f_digits_Plain : Func := Try.f199
abbrev n_ref05_Power : Nat := 200
noncomputable abbrev f_ref05_Power : Func := Try.f200
abbrev n_ref03_Sub : Nat := 201
noncomputable abbrev f_ref03_Sub : Func := Try.f201
abbrev n_ref04_Prime : Nat := 202
noncomputable abbrev f_ref04_Prime : Func := Try.f202
abbrev n_root_chain_1 : Nat := 203
noncomputable abbrev f_root_chain_1 : Func := Try.f203
abbrev n_root_odd : Nat := 204
noncomputable abbrev f_root_odd : Func := Try.f204
abbrev n_ref08_digit : Nat := 205
noncomputable abbrev f_ref08_digit : Func := Try.f205
abbrev n_digits_reader_1 : Nat := 206
noncomputable abbrev f_digits_reader_1 : Func := Try.f206
abbrev n_runtime_boundsError_Error : Nat := 207
noncomputable abbrev f_runtime_boundsError_Error : Func := Try.f207
abbrev n_runtime_boundsError_RuntimeError : Nat := 208
noncomputable abbrev f_runtime_boundsError_RuntimeError : Func := Try.f208
abbrev n_runtime_errorString_Error : Nat := 209
noncomputable abbrev f_runtime_errorString_Error : Func := Try.f209
abbrev n_runtime_errorString_RuntimeError : Nat := 210
noncomputable abbrev f_runtime_errorString_RuntimeError : Func := Try.f210
abbrev n_runtime_plainError_Error : Nat := 211
noncomputable abbrev f_runtime_plainError_Error : Func := Try.f211
abbrev n_runtime_plainError_RuntimeError : Nat := 212
noncomputable abbrev f_runtime_plainError_RuntimeError : Func := Try.f212
abbrev n_runtime_errorAddressString_Error : Nat := 213
noncomputable abbrev f_runtime_errorAddressString_Error : Func := Try.f213
abbrev n_runtime_errorAddressString_RuntimeError : Nat := 214
noncomputable abbrev f_runtime_errorAddressString_RuntimeError : Func := Try.f214
abbrev n_runtime_TypeAssertionError_Error : Nat := 215
noncomputable abbrev f_runtime_TypeAssertionError_Error : Func := Try.f215
abbrev n_runtime_TypeAssertionError_RuntimeError : Nat := 216
noncomputable abbrev f_runtime_TypeAssertionError_RuntimeError : Func := Try.f216
abbrev n_runtime_PanicNilError_Error : Nat := 217
noncomputable abbrev f_runtime_PanicNilError_Error : Func := Try.f217
abbrev n_runtime_PanicNilError_RuntimeError : Nat := 218
noncomputable abbrev f_runtime_PanicNilError_RuntimeError : Func := Try.f218
abbrev n_internal_abi_Type_Align : Nat := 219
noncomputable abbrev f_internal_abi_Type_Align : Func := Try.f219
abbrev n_internal_runtime_maps_unhashableTypeError_Error : Nat := 220
noncomputable abbrev f_internal_runtime_maps_unhashableTypeError_Error : Func := Try.f220
abbrev n_internal_runtime_maps_unhashableTypeError_RuntimeError : Nat := 221
noncomputable abbrev f_internal_runtime_maps_unhashableTypeError_RuntimeError : Func := Try.f221
abbrev n_api_Errno_Error : Nat := 222
noncomputable abbrev f_api_Errno_Error : Func := Try.f222
abbrev n_internal_abi_Kind_String : Nat := 223
noncomputable abbrev f_internal_abi_Kind_String : Func := Try.f223
end Go.Sx

namespace Go.Sx
open Go.Proofs
set_option maxRecDepth 100000

theorem yes {p q : Prop} (h : p = q) (k : q) : p := h ▸ k
abbrev A1 {α : Type} (p : Arg α) : Args (α × Unit) := .cons p .nil
abbrev A2 {α β : Type} (p : Arg α) (q : Arg β) : Args (α × β × Unit) := .cons p (.cons q .nil)
abbrev A3 {α β γ : Type} (p : Arg α) (q : Arg β) (r : Arg γ) : Args (α × β × γ × Unit) := .cons p (.cons q (.cons r .nil))
abbrev noAnn : Nat → Option Ann := fun _ => none
theorem notOwn {β : Type} {res : β → V} (b : Bool) (h : b = false) : b = true → ∀ y, ∃ o, res y = .rs false o := fun k => by rw [h] at k; cases k

def elV (a : El) : V := .ints .u64 a.toL
def add64 (a b : Int) : Int := wr .u64 (a + b)
def sub64 (a b : Int) : Int := wr .u64 (a - b)
def mul64 (a b : Int) : Int := wr .u64 (a * b)
def and64 (a b : Int) : Int := bits2 .and .u64 a b
def or64 (a b : Int) : Int := bits2 .or .u64 a b
def xor64 (a b : Int) : Int := bits2 .xor .u64 a b
def mask56 : Int := 72057594037927935
def cS (a c : Int) : Int := shrI .u64 (add64 a c) 56
def cM (a c : Int) : Int := and64 (add64 a c) mask56
def El.carry (a : El) : El :=
  let c0 := cS a.a0 0
  let c1 := cS a.a1 c0
  let c2 := cS a.a2 c1
  let c3 := cS a.a3 c2
  let c4 := cS a.a4 c3
  let c5 := cS a.a5 c4
  let c6 := cS a.a6 c5
  let c7 := cS a.a7 c6
  ⟨add64 (cM a.a0 0) c7, cM a.a1 c0, cM a.a2 c1, cM a.a3 c2, add64 (cM a.a4 c3) c7, cM a.a5 c4, cM a.a6 c5, cM a.a7 c6⟩

def s_carry : Spec := mk (A1 aEl) none (fun a => El.carry a.1) elV
theorem r_carry (a) : run1 E [] 20 [] 0 noAnn f_field_Element_carry ((A1 aEl).to a) (meet false elV (El.carry a.1)) = (elV (El.carry a.1) = elV (El.carry a.1)) := by kernel_rfl
theorem ok_carry : SpecOK prog n_field_Element_carry s_carry :=
  mk_ok env_ok mixed Good.nil FnsOK.nil (by kernel_rfl) (by kernel_rfl) (by kernel_rfl) (notOwn false rfl) (fun a _ => yes (r_carry a) rfl)

def primeE : El := ⟨mask56, mask56, mask56, mask56, 72057594037927934, mask56, mask56, mask56⟩
def s_prime : Spec := mk .nil none (fun _ => primeE) elV
theorem r_prime : run1 E [] 20 [] 0 noAnn f_field_prime (Args.nil.to ()) (meet false elV primeE) = (elV primeE = elV primeE) := by kernel_rfl
theorem ok_prime : SpecOK prog n_field_prime s_prime :=
  mk_ok env_ok mixed Good.nil FnsOK.nil (by kernel_rfl) (by kernel_rfl) (by kernel_rfl) (notOwn false rfl) (fun a _ => yes r_prime rfl)

def selL (m a b : Int) : Int := xor64 a (and64 m (xor64 a b))
def selM (bit : Int) : Int := wr .u64 (0 - and64 (wr .u64 bit) 1)
def El.select (bit : Int) (a b : El) : El :=
  let m := selM bit
  ⟨selL m a.a0 b.a0, selL m a.a1 b.a1, selL m a.a2 b.a2, selL m a.a3 b.a3, selL m a.a4 b.a4, selL m a.a5 b.a5, selL m a.a6 b.a6, selL m a.a7 b.a7⟩
def s_select : Spec := mk (A3 (aInt .i64) aEl aEl) none (fun a => El.select a.1 a.2.1 a.2.2.1) elV
noncomputable def fnsEach : Fns := [(n_field_each_uint64, (f_field_each_uint64, noAnn)), (n_field_Select_1, (f_field_Select_1, noAnn)), (n_field_Add_1, (f_field_Add_1, noAnn)), (n_field_Sub_1, (f_field_Sub_1, noAnn))]
theorem fnsEach_ok : FnsOK prog fnsEach := .cons (by kernel_rfl) (by kernel_rfl) (.cons (by kernel_rfl) (by kernel_rfl) (.cons (by kernel_rfl) (by kernel_rfl) (.cons (by kernel_rfl) (by kernel_rfl) .nil)))
theorem r_select (a) : run1 E [] 20 fnsEach 2 noAnn f_field_Select ((A3 (aInt .i64) aEl aEl).to a) (meet false elV (El.select a.1 a.2.1 a.2.2.1)) = (elV (El.select a.1 a.2.1 a.2.2.1) = elV (El.select a.1 a.2.1 a.2.2.1)) := by kernel_rfl
theorem ok_select : SpecOK prog n_field_Select s_select :=
  mk_ok env_ok mixed Good.nil fnsEach_ok (by kernel_rfl) (by kernel_rfl) (by kernel_rfl) (notOwn false rfl) (fun a _ => yes (r_select a) rfl)

def El.add (a b : El) : El := El.carry ⟨add64 a.a0 b.a0, add64 a.a1 b.a1, add64 a.a2 b.a2, add64 a.a3 b.a3, add64 a.a4 b.a4, add64 a.a5 b.a5, add64 a.a6 b.a6, add64 a.a7 b.a7⟩
def s_add : Spec := mk (A2 aEl aEl) none (fun a => El.add a.1 a.2.1) elV
noncomputable def sp1 : List (Nat × Spec) := [(n_field_Element_carry, s_carry), (n_field_prime, s_prime), (n_field_Select, s_select)]
theorem sp1_ok : Good prog sp1 := .cons ok_carry (.cons ok_prime (.cons ok_select .nil))
theorem r_add (a) : run1 E sp1 20 fnsEach 2 noAnn f_field_Add ((A2 aEl aEl).to a) (meet false elV (El.add a.1 a.2.1)) = (elV (El.add a.1 a.2.1) = elV (El.add a.1 a.2.1)) := by kernel_rfl
theorem ok_add : SpecOK prog n_field_Add s_add :=
  mk_ok env_ok mixed sp1_ok fnsEach_ok (by kernel_rfl) (by kernel_rfl) (by kernel_rfl) (notOwn false rfl) (fun a _ => yes (r_add a) rfl)
end Go.Sx
