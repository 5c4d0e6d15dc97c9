/- The facts of this seat's functions and types that the walks use: by program, out of the translation. -/
import Derived.Test.YtchgjgffikdcnaaDoorA3
import Derived.Test.YtchgjgffikdcnaaDoorProg
set_option linter.unusedVariables false
namespace Go.Ab
open Go.Proofs
theorem mix : Tryd.prog.follows .mixedOrders = true := by kernel_rfl
theorem tk2 : tk Tryd.prog 2 = some ⟨false, 1, 8, [.int .i64 0], .int .i64⟩ := by kernel_rfl
theorem tk3 : tk Tryd.prog 3 = some ⟨false, 1, 8, [.int .i64 0], .int .i64⟩ := by kernel_rfl
theorem tk4 : tk Tryd.prog 4 = some ⟨false, 1, 1, [.bool false], .bool⟩ := by kernel_rfl
theorem tk5 : tk Tryd.prog 5 = some ⟨false, 1, 1, [.int .u8 0], .int .u8⟩ := by kernel_rfl
theorem tk6 : tk Tryd.prog 6 = some ⟨false, 1, 1, [.int .u8 0], .int .u8⟩ := by kernel_rfl
theorem tk7 : tk Tryd.prog 7 = some ⟨true, 4, 24, [.int .i64 0, .int .i64 0, .bool false, .int .u8 0], .st [(0, 1), (1, 1), (2, 1), (3, 1)]⟩ := by kernel_rfl
theorem tk8 : tk Tryd.prog 8 = some ⟨true, 4, 24, [.int .i64 0, .int .i64 0, .bool false, .int .u8 0], .st [(0, 1), (1, 1), (2, 1), (3, 1)]⟩ := by kernel_rfl
theorem tk12 : tk Tryd.prog 12 = some ⟨false, 1, 8, [.int .u64 0], .int .u64⟩ := by kernel_rfl
theorem tk21 : tk Tryd.prog 21 = some ⟨false, 1, 4, [.int .i32 0], .int .i32⟩ := by kernel_rfl
theorem tk22 : tk Tryd.prog 22 = some ⟨false, 1, 24, [.slice none 0 0], .sl 32⟩ := by kernel_rfl
theorem tk32 : tk Tryd.prog 32 = some ⟨false, 1, 4, [.int .u32 0], .int .u32⟩ := by kernel_rfl
theorem tk43 : tk Tryd.prog 43 = some ⟨false, 1, 8, [.int .u64 0], .int .u64⟩ := by kernel_rfl
theorem tk44 : tk Tryd.prog 44 = some ⟨false, 1, 8, [.int .u64 0], .int .u64⟩ := by kernel_rfl
theorem tk50 : tk Tryd.prog 50 = some ⟨true, 32, 32, [.int .u8 0, .int .u8 0, .int .u8 0, .int .u8 0, .int .u8 0, .int .u8 0, .int .u8 0, .int .u8 0, .int .u8 0, .int .u8 0, .int .u8 0, .int .u8 0, .int .u8 0, .int .u8 0, .int .u8 0, .int .u8 0, .int .u8 0, .int .u8 0, .int .u8 0, .int .u8 0, .int .u8 0, .int .u8 0, .int .u8 0, .int .u8 0, .int .u8 0, .int .u8 0, .int .u8 0, .int .u8 0, .int .u8 0, .int .u8 0, .int .u8 0, .int .u8 0], .arr 32 5⟩ := by kernel_rfl
theorem tk54 : tk Tryd.prog 54 = some ⟨true, 0, 0, [], .arr 0 16⟩ := by kernel_rfl
theorem tk55 : tk Tryd.prog 55 = some ⟨true, 0, 0, [], .st [(0, 0)]⟩ := by kernel_rfl
theorem tk56 : tk Tryd.prog 56 = some ⟨true, 0, 0, [], .st [(0, 0)]⟩ := by kernel_rfl
theorem tk58 : tk Tryd.prog 58 = some ⟨false, 1, 1, [.int .u8 0], .int .u8⟩ := by kernel_rfl
theorem tk59 : tk Tryd.prog 59 = some ⟨false, 1, 1, [.int .u8 0], .int .u8⟩ := by kernel_rfl
theorem tk62 : tk Tryd.prog 62 = some ⟨false, 1, 4, [.int .i32 0], .int .i32⟩ := by kernel_rfl
theorem tk63 : tk Tryd.prog 63 = some ⟨false, 1, 4, [.int .i32 0], .int .i32⟩ := by kernel_rfl
theorem annuluslaw1_NatShifts.ok : FnOK Tryd.prog 3 55 (bodyOf Tryd.f3) [.tmp 4] := ⟨mix, Tryd.f3, Tryd.func3, rfl, rfl, rfl⟩
theorem annuluslaw1_NatShifts.dr : drP (bodyOf Tryd.f3) := drP_of (by kernel_rfl)
theorem annuluslaw1_NatShifts.call : callable Tryd.prog 3 = true := by kernel_rfl
theorem annuluslaw1_NatOrder.ok : FnOK Tryd.prog 4 111 (bodyOf Tryd.f4) [.tmp 8] := ⟨mix, Tryd.f4, Tryd.func4, rfl, rfl, rfl⟩
theorem annuluslaw1_NatOrder.dr : drP (bodyOf Tryd.f4) := drP_of (by kernel_rfl)
theorem annuluslaw1_NatOrder.call : callable Tryd.prog 4 = true := by kernel_rfl
theorem annuluslaw1_NatLong.ok : FnOK Tryd.prog 5 99 (bodyOf Tryd.f5) [.tmp 4] := ⟨mix, Tryd.f5, Tryd.func5, rfl, rfl, rfl⟩
theorem annuluslaw1_NatLong.dr : drP (bodyOf Tryd.f5) := drP_of (by kernel_rfl)
theorem annuluslaw1_NatLong.call : callable Tryd.prog 5 = true := by kernel_rfl
theorem annuluslaw1_NatTells.ok : FnOK Tryd.prog 6 119 (bodyOf Tryd.f6) [.tmp 4] := ⟨mix, Tryd.f6, Tryd.func6, rfl, rfl, rfl⟩
theorem annuluslaw1_NatTells.dr : drP (bodyOf Tryd.f6) := drP_of (by kernel_rfl)
theorem annuluslaw1_NatTells.call : callable Tryd.prog 6 = true := by kernel_rfl
theorem annuluslaw1_NatBack.ok : FnOK Tryd.prog 7 121 (bodyOf Tryd.f7) [.tmp 6] := ⟨mix, Tryd.f7, Tryd.func7, rfl, rfl, rfl⟩
theorem annuluslaw1_NatBack.dr : drP (bodyOf Tryd.f7) := drP_of (by kernel_rfl)
theorem annuluslaw1_NatBack.call : callable Tryd.prog 7 = true := by kernel_rfl
theorem annuluslaw1_NatRoots.ok : FnOK Tryd.prog 8 78 (bodyOf Tryd.f8) [.tmp 4] := ⟨mix, Tryd.f8, Tryd.func8, rfl, rfl, rfl⟩
theorem annuluslaw1_NatRoots.dr : drP (bodyOf Tryd.f8) := drP_of (by kernel_rfl)
theorem annuluslaw1_NatRoots.call : callable Tryd.prog 8 = true := by kernel_rfl
theorem annuluslaw1_NatSquares.ok : FnOK Tryd.prog 9 91 (bodyOf Tryd.f9) [.tmp 4] := ⟨mix, Tryd.f9, Tryd.func9, rfl, rfl, rfl⟩
theorem annuluslaw1_NatSquares.dr : drP (bodyOf Tryd.f9) := drP_of (by kernel_rfl)
theorem annuluslaw1_NatSquares.call : callable Tryd.prog 9 = true := by kernel_rfl
theorem annuluslaw1_known.ok : FnOK Tryd.prog 10 116 (bodyOf Tryd.f10) [.tmp 0] := ⟨mix, Tryd.f10, Tryd.func10, rfl, rfl, rfl⟩
theorem annuluslaw1_known.dr : drP (bodyOf Tryd.f10) := drP_of (by kernel_rfl)
theorem annuluslaw1_known.call : callable Tryd.prog 10 = true := by kernel_rfl
theorem annuluslaw1_few.ok : FnOK Tryd.prog 11 6 (bodyOf Tryd.f11) [.tmp 2] := ⟨mix, Tryd.f11, Tryd.func11, rfl, rfl, rfl⟩
theorem annuluslaw1_few.dr : drP (bodyOf Tryd.f11) := drP_of (by kernel_rfl)
theorem annuluslaw1_few.call : callable Tryd.prog 11 = true := by kernel_rfl
theorem annulusref1_Same.ok : FnOK Tryd.prog 12 26 (bodyOf Tryd.f12) [.tmp 4] := ⟨mix, Tryd.f12, Tryd.func12, rfl, rfl, rfl⟩
theorem annulusref1_Same.dr : drP (bodyOf Tryd.f12) := drP_of (by kernel_rfl)
theorem annulusref1_Same.call : callable Tryd.prog 12 = true := by kernel_rfl
theorem nat_Shl.ok : FnOK Tryd.prog 13 9 (bodyOf Tryd.f13) [.tmp 4] := ⟨mix, Tryd.f13, Tryd.func13, rfl, rfl, rfl⟩
theorem nat_Shl.dr : drP (bodyOf Tryd.f13) := drP_of (by kernel_rfl)
theorem nat_Shl.call : callable Tryd.prog 13 = true := by kernel_rfl
theorem annulusref1_Shl.ok : FnOK Tryd.prog 14 62 (bodyOf Tryd.f14) [.tmp 4] := ⟨mix, Tryd.f14, Tryd.func14, rfl, rfl, rfl⟩
theorem annulusref1_Shl.dr : drP (bodyOf Tryd.f14) := drP_of (by kernel_rfl)
theorem annulusref1_Shl.call : callable Tryd.prog 14 = true := by kernel_rfl
theorem nat_Shr.ok : FnOK Tryd.prog 15 9 (bodyOf Tryd.f15) [.tmp 4] := ⟨mix, Tryd.f15, Tryd.func15, rfl, rfl, rfl⟩
theorem nat_Shr.dr : drP (bodyOf Tryd.f15) := drP_of (by kernel_rfl)
theorem nat_Shr.call : callable Tryd.prog 15 = true := by kernel_rfl
theorem annulusref1_Shr.ok : FnOK Tryd.prog 16 49 (bodyOf Tryd.f16) [.tmp 4] := ⟨mix, Tryd.f16, Tryd.func16, rfl, rfl, rfl⟩
theorem annulusref1_Shr.dr : drP (bodyOf Tryd.f16) := drP_of (by kernel_rfl)
theorem annulusref1_Shr.call : callable Tryd.prog 16 = true := by kernel_rfl
theorem nat_Bits.ok : FnOK Tryd.prog 17 20 (bodyOf Tryd.f17) [.tmp 2] := ⟨mix, Tryd.f17, Tryd.func17, rfl, rfl, rfl⟩
theorem nat_Bits.dr : drP (bodyOf Tryd.f17) := drP_of (by kernel_rfl)
theorem nat_Bits.call : callable Tryd.prog 17 = true := by kernel_rfl
theorem annulusref1_Bits.ok : FnOK Tryd.prog 18 28 (bodyOf Tryd.f18) [.tmp 2] := ⟨mix, Tryd.f18, Tryd.func18, rfl, rfl, rfl⟩
theorem annulusref1_Bits.dr : drP (bodyOf Tryd.f18) := drP_of (by kernel_rfl)
theorem annulusref1_Bits.call : callable Tryd.prog 18 = true := by kernel_rfl
theorem nat_Low.ok : FnOK Tryd.prog 19 20 (bodyOf Tryd.f19) [.tmp 2] := ⟨mix, Tryd.f19, Tryd.func19, rfl, rfl, rfl⟩
theorem nat_Low.dr : drP (bodyOf Tryd.f19) := drP_of (by kernel_rfl)
theorem nat_Low.call : callable Tryd.prog 19 = true := by kernel_rfl
theorem annulusref1_Low.ok : FnOK Tryd.prog 20 17 (bodyOf Tryd.f20) [.tmp 2] := ⟨mix, Tryd.f20, Tryd.func20, rfl, rfl, rfl⟩
theorem annulusref1_Low.dr : drP (bodyOf Tryd.f20) := drP_of (by kernel_rfl)
theorem annulusref1_Low.call : callable Tryd.prog 20 = true := by kernel_rfl
theorem nat_Root.ok : FnOK Tryd.prog 21 36 (bodyOf Tryd.f21) [.tmp 2] := ⟨mix, Tryd.f21, Tryd.func21, rfl, rfl, rfl⟩
theorem nat_Root.dr : drP (bodyOf Tryd.f21) := drP_of (by kernel_rfl)
theorem nat_Root.call : callable Tryd.prog 21 = true := by kernel_rfl
theorem annulusref1_Root.ok : FnOK Tryd.prog 22 58 (bodyOf Tryd.f22) [.tmp 2] := ⟨mix, Tryd.f22, Tryd.func22, rfl, rfl, rfl⟩
theorem annulusref1_Root.dr : drP (bodyOf Tryd.f22) := drP_of (by kernel_rfl)
theorem annulusref1_Root.call : callable Tryd.prog 22 = true := by kernel_rfl
theorem nat_Cmp.ok : FnOK Tryd.prog 23 47 (bodyOf Tryd.f23) [.tmp 4] := ⟨mix, Tryd.f23, Tryd.func23, rfl, rfl, rfl⟩
theorem nat_Cmp.dr : drP (bodyOf Tryd.f23) := drP_of (by kernel_rfl)
theorem nat_Cmp.call : callable Tryd.prog 23 = true := by kernel_rfl
theorem nat_Add.ok : FnOK Tryd.prog 24 39 (bodyOf Tryd.f24) [.tmp 4] := ⟨mix, Tryd.f24, Tryd.func24, rfl, rfl, rfl⟩
theorem nat_Add.dr : drP (bodyOf Tryd.f24) := drP_of (by kernel_rfl)
theorem nat_Add.call : callable Tryd.prog 24 = true := by kernel_rfl
theorem nat_Mul.ok : FnOK Tryd.prog 25 71 (bodyOf Tryd.f25) [.tmp 4] := ⟨mix, Tryd.f25, Tryd.func25, rfl, rfl, rfl⟩
theorem nat_Mul.dr : drP (bodyOf Tryd.f25) := drP_of (by kernel_rfl)
theorem nat_Mul.call : callable Tryd.prog 25 = true := by kernel_rfl
theorem nat_Sub.ok : FnOK Tryd.prog 26 42 (bodyOf Tryd.f26) [.tmp 4, .tmp 5] := ⟨mix, Tryd.f26, Tryd.func26, rfl, rfl, rfl⟩
theorem nat_Sub.dr : drP (bodyOf Tryd.f26) := drP_of (by kernel_rfl)
theorem nat_Sub.call : callable Tryd.prog 26 = true := by kernel_rfl
theorem nat_Div.ok : FnOK Tryd.prog 27 94 (bodyOf Tryd.f27) [.tmp 4, .tmp 5, .tmp 6] := ⟨mix, Tryd.f27, Tryd.func27, rfl, rfl, rfl⟩
theorem nat_Div.dr : drP (bodyOf Tryd.f27) := drP_of (by kernel_rfl)
theorem nat_Div.call : callable Tryd.prog 27 = true := by kernel_rfl
theorem annuluslaw1_low.ok : FnOK Tryd.prog 28 15 (bodyOf Tryd.f28) [.tmp 2] := ⟨mix, Tryd.f28, Tryd.func28, rfl, rfl, rfl⟩
theorem annuluslaw1_low.dr : drP (bodyOf Tryd.f28) := drP_of (by kernel_rfl)
theorem annuluslaw1_low.call : callable Tryd.prog 28 = true := by kernel_rfl
theorem annulusref1_Sub.ok : FnOK Tryd.prog 29 41 (bodyOf Tryd.f29) [.tmp 4, .tmp 5] := ⟨mix, Tryd.f29, Tryd.func29, rfl, rfl, rfl⟩
theorem annulusref1_Sub.dr : drP (bodyOf Tryd.f29) := drP_of (by kernel_rfl)
theorem annulusref1_Sub.call : callable Tryd.prog 29 = true := by kernel_rfl
theorem annulusref1_Div.ok : FnOK Tryd.prog 30 64 (bodyOf Tryd.f30) [.tmp 4, .tmp 5, .tmp 6] := ⟨mix, Tryd.f30, Tryd.func30, rfl, rfl, rfl⟩
theorem annulusref1_Div.dr : drP (bodyOf Tryd.f30) := drP_of (by kernel_rfl)
theorem annulusref1_Div.call : callable Tryd.prog 30 = true := by kernel_rfl
theorem nat_Is.ok : FnOK Tryd.prog 31 15 (bodyOf Tryd.f31) [.tmp 2] := ⟨mix, Tryd.f31, Tryd.func31, rfl, rfl, rfl⟩
theorem nat_Is.dr : drP (bodyOf Tryd.f31) := drP_of (by kernel_rfl)
theorem nat_Is.call : callable Tryd.prog 31 = true := by kernel_rfl
theorem annulusref1_Trim.ok : FnOK Tryd.prog 32 21 (bodyOf Tryd.f32) [.tmp 2] := ⟨mix, Tryd.f32, Tryd.func32, rfl, rfl, rfl⟩
theorem annulusref1_Trim.dr : drP (bodyOf Tryd.f32) := drP_of (by kernel_rfl)
theorem annulusref1_Trim.call : callable Tryd.prog 32 = true := by kernel_rfl
theorem nat_Trim.ok : FnOK Tryd.prog 33 6 (bodyOf Tryd.f33) [.tmp 2] := ⟨mix, Tryd.f33, Tryd.func33, rfl, rfl, rfl⟩
theorem nat_Trim.dr : drP (bodyOf Tryd.f33) := drP_of (by kernel_rfl)
theorem nat_Trim.call : callable Tryd.prog 33 = true := by kernel_rfl
theorem annulusref1_Cmp.ok : FnOK Tryd.prog 34 47 (bodyOf Tryd.f34) [.tmp 4] := ⟨mix, Tryd.f34, Tryd.func34, rfl, rfl, rfl⟩
theorem annulusref1_Cmp.dr : drP (bodyOf Tryd.f34) := drP_of (by kernel_rfl)
theorem annulusref1_Cmp.call : callable Tryd.prog 34 = true := by kernel_rfl
theorem annulusref1_Add.ok : FnOK Tryd.prog 35 40 (bodyOf Tryd.f35) [.tmp 4] := ⟨mix, Tryd.f35, Tryd.func35, rfl, rfl, rfl⟩
theorem annulusref1_Add.dr : drP (bodyOf Tryd.f35) := drP_of (by kernel_rfl)
theorem annulusref1_Add.call : callable Tryd.prog 35 = true := by kernel_rfl
theorem annulusref1_Mul.ok : FnOK Tryd.prog 36 68 (bodyOf Tryd.f36) [.tmp 4] := ⟨mix, Tryd.f36, Tryd.func36, rfl, rfl, rfl⟩
theorem annulusref1_Mul.dr : drP (bodyOf Tryd.f36) := drP_of (by kernel_rfl)
theorem annulusref1_Mul.call : callable Tryd.prog 36 = true := by kernel_rfl
theorem nat_Up.ok : FnOK Tryd.prog 37 55 (bodyOf Tryd.f37) [.tmp 4] := ⟨mix, Tryd.f37, Tryd.func37, rfl, rfl, rfl⟩
theorem nat_Up.dr : drP (bodyOf Tryd.f37) := drP_of (by kernel_rfl)
theorem nat_Up.call : callable Tryd.prog 37 = true := by kernel_rfl
theorem nat_held.ok : FnOK Tryd.prog 38 6 (bodyOf Tryd.f38) [.tmp 2] := ⟨mix, Tryd.f38, Tryd.func38, rfl, rfl, rfl⟩
theorem nat_held.dr : drP (bodyOf Tryd.f38) := drP_of (by kernel_rfl)
theorem nat_held.call : callable Tryd.prog 38 = true := by kernel_rfl
theorem nat_Downwards.ok : FnOK Tryd.prog 39 53 (bodyOf Tryd.f39) [.tmp 4] := ⟨mix, Tryd.f39, Tryd.func39, rfl, rfl, rfl⟩
theorem nat_Downwards.dr : drP (bodyOf Tryd.f39) := drP_of (by kernel_rfl)
theorem nat_Downwards.call : callable Tryd.prog 39 = true := by kernel_rfl
theorem annulusref1_at.ok : FnOK Tryd.prog 40 14 (bodyOf Tryd.f40) [.tmp 4] := ⟨mix, Tryd.f40, Tryd.func40, rfl, rfl, rfl⟩
theorem annulusref1_at.dr : drP (bodyOf Tryd.f40) := drP_of (by kernel_rfl)
theorem annulusref1_at.call : callable Tryd.prog 40 = true := by kernel_rfl
theorem nat_cut.ok : FnOK Tryd.prog 41 21 (bodyOf Tryd.f41) [.tmp 2] := ⟨mix, Tryd.f41, Tryd.func41, rfl, rfl, rfl⟩
theorem nat_cut.dr : drP (bodyOf Tryd.f41) := drP_of (by kernel_rfl)
theorem nat_cut.call : callable Tryd.prog 41 = true := by kernel_rfl
theorem math_bits_Len32.ok : FnOK Tryd.prog 42 19 (bodyOf Tryd.f42) [.tmp 2] := ⟨mix, Tryd.f42, Tryd.func42, rfl, rfl, rfl⟩
theorem math_bits_Len32.dr : drP (bodyOf Tryd.f42) := drP_of (by kernel_rfl)
theorem math_bits_Len32.call : callable Tryd.prog 42 = true := by kernel_rfl
theorem math_bits_TrailingZeros32.ok : FnOK Tryd.prog 43 14 (bodyOf Tryd.f43) [.tmp 2] := ⟨mix, Tryd.f43, Tryd.func43, rfl, rfl, rfl⟩
theorem math_bits_TrailingZeros32.dr : drP (bodyOf Tryd.f43) := drP_of (by kernel_rfl)
theorem math_bits_TrailingZeros32.call : callable Tryd.prog 43 = true := by kernel_rfl
theorem annulusref1_Bit.ok : FnOK Tryd.prog 44 27 (bodyOf Tryd.f44) [.tmp 4] := ⟨mix, Tryd.f44, Tryd.func44, rfl, rfl, rfl⟩
theorem annulusref1_Bit.dr : drP (bodyOf Tryd.f44) := drP_of (by kernel_rfl)
theorem annulusref1_Bit.call : callable Tryd.prog 44 = true := by kernel_rfl
theorem nat_at.ok : FnOK Tryd.prog 45 18 (bodyOf Tryd.f45) [.tmp 4] := ⟨mix, Tryd.f45, Tryd.func45, rfl, rfl, rfl⟩
theorem nat_at.dr : drP (bodyOf Tryd.f45) := drP_of (by kernel_rfl)
theorem nat_at.call : callable Tryd.prog 45 = true := by kernel_rfl
theorem slices_Clone_uint32_uint32.ok : FnOK Tryd.prog 46 8 (bodyOf Tryd.f46) [.tmp 2] := ⟨mix, Tryd.f46, Tryd.func46, rfl, rfl, rfl⟩
theorem slices_Clone_uint32_uint32.dr : drP (bodyOf Tryd.f46) := drP_of (by kernel_rfl)
theorem slices_Clone_uint32_uint32.call : callable Tryd.prog 46 = true := by kernel_rfl
theorem nat_short.ok : FnOK Tryd.prog 47 45 (bodyOf Tryd.f47) [.tmp 4, .tmp 5] := ⟨mix, Tryd.f47, Tryd.func47, rfl, rfl, rfl⟩
theorem nat_short.dr : drP (bodyOf Tryd.f47) := drP_of (by kernel_rfl)
theorem nat_short.call : callable Tryd.prog 47 = true := by kernel_rfl
theorem math_bits_LeadingZeros32.ok : FnOK Tryd.prog 48 6 (bodyOf Tryd.f48) [.tmp 2] := ⟨mix, Tryd.f48, Tryd.func48, rfl, rfl, rfl⟩
theorem math_bits_LeadingZeros32.dr : drP (bodyOf Tryd.f48) := drP_of (by kernel_rfl)
theorem math_bits_LeadingZeros32.call : callable Tryd.prog 48 = true := by kernel_rfl
theorem nat_step.ok : FnOK Tryd.prog 49 164 (bodyOf Tryd.f49) [.tmp 4] := ⟨mix, Tryd.f49, Tryd.func49, rfl, rfl, rfl⟩
theorem nat_step.dr : drP (bodyOf Tryd.f49) := drP_of (by kernel_rfl)
theorem nat_step.call : callable Tryd.prog 49 = true := by kernel_rfl
noncomputable def CT : Ctx := ⟨Tryd.prog, fun g => if g = 0 then some tab32 else none⟩
theorem CT_P : CT.P = Tryd.prog := rfl
theorem x_glob0 {l : List (Nat × AV)} : evalA CT.G l (.global 0) = .dp (tab32.map .v) 0 := rfl
attribute [go_sem] bodyOf aW1 x_skip x_label x_seq x_block x_exit x_goto x_ret x_then1 x_then2 x_then3 x_then4 x_blk1 x_blk2 x_blk3 x_blk4 x_region x_cond x_cond_dec x_cond_true x_cond_false x_CX x_RK x_GX x_GY x_nil x_plain x_guard x_guard_tt x_guard_ff x_guard_tf x_guard_ft x_guard_dt x_guard_un x_guard_df x_dst x_dst0 x_put x_put0 x_tmp x_const x_fnc x_look x_out1 x_out x_move x_assign x_pick x_pick_tt x_pick_ff x_pick_d x_alloc allocO x_box boxO cellsA x_build buildO fillA x_buildSlice buildSliceO x_load loadO x_loadF1 x_loadF0 x_store storeO x_nilCheck nilO x_binOp x_binOpI x_binOpB x_eqNil eqNilK x_add x_sub x_mul x_quo x_rem x_and x_or x_xor x_andNot x_shl x_shr x_eql x_neq x_lss x_leq x_gtr x_geq x_eqb x_neb x_unOp x_not x_notb x_neg x_convert convO x_make makeO x_slice sliceO x_bound0 x_bound1 boundV x_fieldAddr faddrO x_indexAddr iaddrO x_extract extractO x_len lenO x_max x_min x_maxO x_minO x_append x_call gslot initSlots Ret retF resF CT_P List.getElem?_toArray List.getElem?_cons_zero List.getElem?_cons_succ Option.bind_some List.map_cons List.map_nil List.length_cons List.length_nil true_and and_true forall_const hd List.getD_cons_zero List.getD_cons_succ List.set_cons_zero List.set_cons_succ List.nil_append List.cons_append U32 decide_true decide_false gt_iff_lt ge_iff_le Nat.zero_add Nat.add_zero Nat.mul_one Nat.sub_zero List.drop_zero Int.toNat_natCast Int.toNat_zero Nat.zero_mul appF newsF zeros_u32s dead Int.le_refl Nat.le_refl List.replicate_zero snap_sl snap_own snap_int snap_bool snap_nil snap_agg snap_tup snap1_sl snap1_own snap1_int snap1_bool snap1_nil ownOK own1 List.mem_cons List.not_mem_nil or_false forall_eq_or_imp forall_eq snap0_u32s List.length_map length_u32s not_true_eq_false not_false_eq_true false_implies implies_true ne_eq Int.natCast_zero fzH fzArgs fzCells fz leaf_u32s take_u32s drop_u32s append_u32s List.take_zero List.take_length isD_u32 IntKind.bits x_m32 x_draw isD_v isD_nil isD_tup x_m63 x_m1 x_m1' x_rep1 x_rep2 x_fill1 x_fill2 x_fill2' List.length_replicate Nat.lt_irrefl or_self false_or
attribute [go_sem] tk2 tk3 tk4 tk5 tk6 tk7 tk8 tk12 tk21 tk22 tk32 tk43 tk44 tk50 tk54 tk55 tk56 tk58 tk59 tk62 tk63
end Go.Ab
