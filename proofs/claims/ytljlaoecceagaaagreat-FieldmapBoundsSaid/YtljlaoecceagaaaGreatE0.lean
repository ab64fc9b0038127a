/- The residuals are those of the code. -/
import Derived.Test.YtljlaoecceagaaaGreatD0
import Derived.Test.YtljlaoecceagaaaGreatProg
import Derived.KernelRfl
set_option linter.all false
set_option linter.unusedVariables false
set_option maxRecDepth 1000000
set_option maxHeartbeats 0
namespace Go.Proofs.YtljlaoecceagaaaGreat
open Ev
noncomputable section
def A151 : Cu := [none, none, none, none, some [0, 1, 4, 12, 13], none, none, none, some [0, 1, 4, 12, 13], none, none, none, none, none, none, none, none, none, none, some [0, 1, 4, 12, 13], none, some [0, 1, 4, 12, 13], none, none, none, some [0, 1, 4, 12, 13], none, none, none, none, none, none, none, none]
theorem E151 : (fun φ => denF φ (T151 φ) (TD151 φ) 5 (cutF Tryz.prog im 2 A151 Tryz.f355)) = R_slices_partitionCmpFunc_api_ZPower := by kernel_rfl
def A221 : Cu := [none, none, none, none, some [0, 1, 2, 3, 9, 10], none, none, some [0, 1, 2, 3, 9, 10], none, some [0, 1, 2, 3, 9, 10], none, none, none, none, none, none, none, none, none, some [0, 1, 2, 3, 9, 10], none, none, some [0, 1, 2, 3, 9, 10, 11], none, none, none, none, none, none, none, some [0, 1, 2, 3, 9, 10, 12], none, none, none, none, none, none]
theorem E221 : (fun φ => denF φ (T221 φ) (TD221 φ) 4 (cutF Tryz.prog im 2 A221 Tryz.f157)) = R_slices_partialInsertionSortCmpFunc_api_Poly := by kernel_rfl
def A224 : Cu := [none, none, some [0, 1, 2, 3, 4, 10, 11], none, none, none, none, none, none, none, some [0, 1, 2, 3, 4, 10, 11, 12], none, none, none, some [0, 1, 2, 3, 4, 10, 11, 12, 13, 14], none, none, none, some [0, 1, 2, 3, 4, 10, 11, 12, 13], none, none, none, none, none, none, none, none, none, none, none, none, none, none, none]
theorem E224 : (fun φ ih => denF φ (setT (T224 φ) 224 (.mem ih)) (cnd false (setT (TD224 φ) 224 (.mem ih)) (TD224 φ)) 5 (cutF Tryz.prog im 2 A224 Tryz.f83)) = Q_slices_pdqsortCmpFunc_api_Poly := by kernel_rfl
def A203 : Cu := [none, none, none, none, some [0, 1, 4, 11, 12], none, some [0, 1, 4, 11, 12], none, none, none, some [0, 1, 4, 11, 12], none, none, none, none, none, none, none]
theorem E203 : (fun φ => denF φ (T203 φ) (TD203 φ) 5 (cutF Tryz.prog im 2 A203 Tryz.f232)) = R_slices_partitionEqualCmpFunc_api_FPower := by kernel_rfl
def A235 : Cu := [none, none, none, none, some [1, 2, 8, 18, 19], none, none, none, none, none, none, none, some [1, 2, 8, 9, 10, 18, 19, 22, 23, 24], none, none, none, none, none, none, none, none, some [1, 8, 13, 14, 56, 57], none, none, none, none, none, none, some [1, 13, 14, 65, 66, 67], none, none, some [1, 13, 14, 65, 66, 67], none, none, none, none, none]
theorem E235 : (fun φ => denI φ (T235 φ) (TD235 φ) 3 (cutF Tryz.prog im 0 A235 Tryz.f165)) = R_span_Express := by kernel_rfl
def A139 : Cu := [none, some [0, 2, 3, 4, 10], none, none, none, some [0, 2, 3, 4, 10, 11], none, none, none, none]
theorem E139 : (fun φ => denF φ (T139 φ) (TD139 φ) 5 (cutF Tryz.prog im 2 A139 Tryz.f413)) = R_slices_siftDownCmpFunc_api_ZPower := by kernel_rfl
def A68 : Cu := [none, none, none, none, none, none, none, none, none]
theorem E68 : (fun φ => denI φ (T68 φ) (TD68 φ) 2 (cutF Tryz.prog im 0 A68 Tryz.f180)) = R_exact_Add := by kernel_rfl
def A185 : Cu := [none, none, none, none, none, none, none, some [1, 2, 6, 7, 8, 21, 22], none, none, none, none, none, none, none, none, none]
theorem E185 : (fun φ => denI φ (T185 φ) (TD185 φ) 2 (cutF Tryz.prog im 0 A185 Tryz.f224)) = R_ff_field_polyNorm := by kernel_rfl
def A212 : Cu := [none, some [0, 1, 2, 3, 8], none, none, none, none, some [0, 1, 2, 3, 8, 9], none, none, none]
theorem E212 : (fun φ => denF φ (T212 φ) (TD212 φ) 4 (cutF Tryz.prog im 2 A212 Tryz.f152)) = R_slices_insertionSortCmpFunc_api_Poly := by kernel_rfl
def A16 : Cu := [none, none, none, none, none, none]
theorem E16 : (fun φ => denI φ (T16 φ) (TD16 φ) 2 (cutF Tryz.prog im 0 A16 Tryz.f27)) = R_galoisref03_Add := by kernel_rfl
def A215 : Cu := [none, none, none, none, none, some [0, 1, 8, 9, 10, 11], none, none, none, none, some [0, 1, 8, 9, 10, 11, 12], none]
theorem E215 : (fun φ => denF φ (T215 φ) (TD215 φ) 4 (cutF Tryz.prog im 2 A215 Tryz.f154)) = R_slices_breakPatternsCmpFunc_api_Poly := by kernel_rfl
def A172 : Cu := [none, none, none, none, none, none, some [2, 5, 6, 7, 9], none, none, none, none, none, some [2, 5, 6, 9, 10], none, none, none]
theorem E172 : (fun φ => denI φ (T172 φ) (TD172 φ) 2 (cutF Tryz.prog im 0 A172 Tryz.f143)) = R_ff_field_parts := by kernel_rfl
def A65 : Cu := [none, none, some [5, 6], none, none, none, none, none, some [5, 6, 7, 8, 27, 28], none, none, none, none, none, some [5, 6, 7, 8, 9, 10, 27, 28], none, none, none]
theorem E65 : (fun φ => denI φ (T65 φ) (TD65 φ) 2 (cutF Tryz.prog im 0 A65 Tryz.f245)) = R_exact_NatAdd := by kernel_rfl
def A83 : Cu := [none, none, some [2, 3, 4, 5, 6, 7], none, none]
theorem E83 : (fun φ => denI φ (T83 φ) (TD83 φ) 2 (cutF Tryz.prog im 0 A83 Tryz.f270)) = R_exact_IntDivMod := by kernel_rfl
def A130 : Cu := [none, none, none, none, none, none, some [1, 2, 3, 4, 8], none, none, none, none, none, none]
theorem E130 : (fun φ ih => denF φ (setT (T130 φ) 130 (.mem ih)) (cnd true (setT (TD130 φ) 130 (.mem ih)) (TD130 φ)) 5 (cutF Tryz.prog im 2 A130 Tryz.f345)) = Q_zf_search_size_1 := by kernel_rfl
def A107 : Cu := [none, none, none, none, some [0, 2, 3, 6, 7, 8], none, none, none, none, none]
theorem E107 : (fun φ => denI φ (T107 φ) (TD107 φ) 1 (cutF Tryz.prog im 0 A107 Tryz.f296)) = R_zf_Bound := by kernel_rfl
def A177 : Cu := [none, none, none, none, none, some [1, 3, 7, 8, 9], none, none, none, none]
theorem E177 : (fun φ => denI φ (T177 φ) (TD177 φ) 3 (cutF Tryz.prog im 0 A177 Tryz.f223)) = R_ff_field_shift := by kernel_rfl
def A6 : Cu := [none, none, none, none, none, none, none]
theorem E6 : (fun φ => denI φ (T6 φ) (TD6 φ) 2 (cutF Tryz.prog im 0 A6 Tryz.f132)) = R_galoisref01_Compare := by kernel_rfl
def A191 : Cu := [none, none, none, none, none, none, some [0, 1, 20, 21], none, none, none, none, none, none, none, none]
theorem E191 : (fun φ => denI φ (T191 φ) (TD191 φ) 2 (cutF Tryz.prog im 0 A191 Tryz.f73)) = R_fieldpoly_Compare := by kernel_rfl
def A3 : Cu := [none, none, some [0], none, none, none]
theorem E3 : (fun φ => denF φ (T3 φ) (TD3 φ) 1 (cutF Tryz.prog im 2 A3 Tryz.f280)) = R_galoisref01_trim := by kernel_rfl
def A136 : Cu := [none, none, none, none, none, none, some [0, 1, 18, 19], none, none, none, none, none, none, none, none]
theorem E136 : (fun φ => denI φ (T136 φ) (TD136 φ) 2 (cutF Tryz.prog im 0 A136 Tryz.f259)) = R_zf_compare := by kernel_rfl
def A55 : Cu := [none, none, none, some [0, 3], none, none, none]
theorem E55 : (fun φ => denI φ (T55 φ) (TD55 φ) 1 (cutF Tryz.prog im 0 A55 Tryz.f39)) = R_exact_PTrim := by kernel_rfl
def A229 : Cu := [none, none, none, none, none, none, some [0, 1, 12, 13], none, none, none, none, none, none, none]
theorem E229 : (fun φ => denI φ (T229 φ) (TD229 φ) 2 (cutF Tryz.prog im 0 A229 Tryz.f26)) = R_galoisref32_SameList := by kernel_rfl
def A232 : Cu := [none, none, none, none, none, some [0, 2, 7, 8, 11, 12], none, none, none, none, none]
theorem E232 : (fun φ => denI φ (T232 φ) (TD232 φ) 3 (cutF Tryz.prog im 0 A232 Tryz.f164)) = R_span_Powers := by kernel_rfl
def A165 : Cu := [none, none, none, none, some [3, 9, 10, 11], none, none, none, none, none]
theorem E165 : (fun φ => denI φ (T165 φ) (TD165 φ) 1 (cutF Tryz.prog im 0 A165 Tryz.f109)) = R_exact_POf := by kernel_rfl
def A47 : Cu := [none, none, none, none, none]
theorem E47 : (fun φ => denI φ (T47 φ) (TD47 φ) 1 (cutF Tryz.prog im 0 A47 Tryz.f81)) = R_exact_IntOf := by kernel_rfl
def A72 : Cu := [none, none]
theorem E72 : (fun φ => denI φ (T72 φ) (TD72 φ) 2 (cutF Tryz.prog im 0 A72 Tryz.f150)) = R_exact_IntMul := by kernel_rfl
def A145 : Cu := [none, none, none, none, none]
theorem E145 : (fun φ => denF φ (T145 φ) (TD145 φ) 6 (cutF Tryz.prog im 2 A145 Tryz.f415)) = R_slices_medianCmpFunc_api_ZPower := by kernel_rfl
def A216 : Cu := [none, none, none, none, none, none]
theorem E216 : (fun φ => denF φ (T216 φ) (TD216 φ) 5 (cutF Tryz.prog im 2 A216 Tryz.f293)) = R_slices_order2CmpFunc_api_Poly := by kernel_rfl
def A127 : Cu := [none, none, none, none, none, none, none, none, none]
theorem E127 : (fun φ => denF φ (T127 φ) (TD127 φ) 3 (cutF Tryz.prog im 2 A127 Tryz.f412)) = R_slices_Delete_api_ZPoly_api_ZPoly := by kernel_rfl
def A1 : Cu := [none, none]
theorem E1 : (fun φ => denI φ (T1 φ) (TD1 φ) 2 (cutF Tryz.prog im 0 A1 Tryz.f130)) = R_galoisref02_Make := by kernel_rfl
def A94 : Cu := [none, none, some [0, 1, 2], none, none, none]
theorem E94 : (fun φ => denI φ (T94 φ) (TD94 φ) 3 (cutF Tryz.prog im 0 A94 Tryz.f335)) = R_fp_Gcd := by kernel_rfl
def A69 : Cu := [none, none]
theorem E69 : (fun φ => denI φ (T69 φ) (TD69 φ) 2 (cutF Tryz.prog im 0 A69 Tryz.f199)) = R_exact_Sub := by kernel_rfl
def A209 : Cu := [none, none]
theorem E209 : (fun φ => denI φ (T209 φ) (TD209 φ) 1 (cutF Tryz.prog im 0 A209 Tryz.f35)) = R_exact_PLarge := by kernel_rfl
def A45 : Cu := [none, none]
theorem E45 : (fun φ => denI φ (T45 φ) (TD45 φ) 1 (cutF Tryz.prog im 0 A45 Tryz.f80)) = R_exact_Whole := by kernel_rfl
def A48 : Cu := [none, none]
theorem E48 : (fun φ => denI φ (T48 φ) (TD48 φ) 1 (cutF Tryz.prog im 0 A48 Tryz.f42)) = R_exact_Int := by kernel_rfl
def A207 : Cu := [none, none, none, none]
theorem E207 : (fun φ => denI φ (T207 φ) (TD207 φ) 2 (cutF Tryz.prog im 0 A207 Tryz.f33)) = R_fieldfactor_factor := by kernel_rfl
def A206 : Cu := [none]
theorem E206 : (fun φ => denF φ (T206 φ) (TD206 φ) 2 (cutF Tryz.prog im 2 A206 Tryz.f71)) = R_slices_SortFunc_api_FPower_api_FPower := by kernel_rfl
def A135 : Cu := [none, none, none, none]
theorem E135 : (fun φ => denI φ (T135 φ) (TD135 φ) 1 (cutF Tryz.prog im 0 A135 Tryz.f84)) = R_math_bits_Len := by kernel_rfl
def A43 : Cu := [none, none]
theorem E43 : (fun φ => denI φ (T43 φ) (TD43 φ) 1 (cutF Tryz.prog im 0 A43 Tryz.f78)) = R_exact_IsZero := by kernel_rfl
def A50 : Cu := [none, none]
theorem E50 : (fun φ => denI φ (T50 φ) (TD50 φ) 1 (cutF Tryz.prog im 0 A50 Tryz.f140)) = R_exact_IsWhole := by kernel_rfl
end
end Go.Proofs.YtljlaoecceagaaaGreat
set_option linter.unusedVariables false
set_option maxRecDepth 1000000
set_option maxHeartbeats 0
namespace Go.Proofs.YtljlaoecceagaaaGreat
open Ev
noncomputable section
def A204 : Cu := [none, none, none, none, some [0, 1, 4, 12, 13], none, none, none, some [0, 1, 4, 12, 13], none, none, none, none, none, none, none, none, none, none, some [0, 1, 4, 12, 13], none, some [0, 1, 4, 12, 13], none, none, none, some [0, 1, 4, 12, 13], none, none, none, none, none, none, none, none]
theorem E204 : (fun φ => denF φ (T204 φ) (TD204 φ) 5 (cutF Tryz.prog im 2 A204 Tryz.f233)) = R_slices_partitionCmpFunc_api_FPower := by kernel_rfl
def A101 : Cu := [none, none, none, none, none, none, none, some [0, 1, 5, 6, 7, 8, 31, 32], none, none, none, none, none, none, none, none, none, none, some [0, 5, 7, 10, 71, 72], none, none, none, none, none, none, some [0, 5, 7, 10, 11, 71, 72, 80, 81], none, none, none, none, none, none, none, none, some [0, 5, 10, 13, 14, 102, 103], none, none, some [0, 5, 10, 13, 14, 102, 103], none, none, none, none, none, none, none, some [0, 5, 10, 13, 14, 15, 16, 102, 103, 116, 117], none, none, some [0, 5, 10, 13, 14, 15, 16, 102, 103, 116, 117], none, none, none]
theorem E101 : (fun φ => denI φ (T101 φ) (TD101 φ) 2 (cutF Tryz.prog im 0 A101 Tryz.f337)) = R_zf_kernel := by kernel_rfl
def A205 : Cu := [none, none, some [0, 1, 2, 3, 4, 10, 11], none, none, none, none, none, none, none, some [0, 1, 2, 3, 4, 10, 11, 12], none, none, none, some [0, 1, 2, 3, 4, 10, 11, 12, 13, 14], none, none, none, some [0, 1, 2, 3, 4, 10, 11, 12, 13], none, none, none, none, none, none, none, none, none, none, none, none, none, none, none]
theorem E205 : (fun φ ih => denF φ (setT (T205 φ) 205 (.mem ih)) (cnd false (setT (TD205 φ) 205 (.mem ih)) (TD205 φ)) 5 (cutF Tryz.prog im 2 A205 Tryz.f146)) = Q_slices_pdqsortCmpFunc_api_FPower := by kernel_rfl
def A246 : Cu := [none, none, none, none, none, none, none, none, none]
theorem E246 : (fun φ => denI φ (T246 φ) (TD246 φ) 2 (cutF Tryz.prog im 0 A246 Tryz.f4)) = R_galoislaw35_FieldmapBounds := by kernel_rfl
def A126 : Cu := [none, none, none, none, none, none, none, none, some [1, 6, 7, 8], none, none, some [1, 6, 7, 8], none, none, none, none, none, none, none, none, some [1, 6, 7, 8, 9, 61, 62, 63], none, none, none, none, none]
theorem E126 : (fun φ => denI φ (T126 φ) (TD126 φ) 2 (cutF Tryz.prog im 0 A126 Tryz.f411)) = R_zf_divide := by kernel_rfl
def A119 : Cu := [none, none, none, none, none, none, none, none, some [2, 3, 8, 9, 10], none, none, none, none, none, none, some [2, 3, 8, 9, 10, 12, 55, 56, 57], none, none, none, none, none]
theorem E119 : (fun φ => denI φ (T119 φ) (TD119 φ) 3 (cutF Tryz.prog im 0 A119 Tryz.f408)) = R_zf_ring_divide := by kernel_rfl
def A163 : Cu := [none, none, none, none, none, none, none, some [2, 3, 7, 29, 30, 31], none, none, none, none, none, some [2, 3, 7, 8, 9, 29, 30, 31, 36, 37, 38], none, none, none, none, none, none, some [3, 7, 60, 61, 62], none, none, none, none, none]
theorem E163 : (fun φ => denI φ (T163 φ) (TD163 φ) 3 (cutF Tryz.prog im 0 A163 Tryz.f283)) = R_ff_field_product := by kernel_rfl
def A138 : Cu := [none, some [0, 1, 2, 3, 8], none, none, none, none, some [0, 1, 2, 3, 8, 9], none, none, none]
theorem E138 : (fun φ => denF φ (T138 φ) (TD138 φ) 4 (cutF Tryz.prog im 2 A138 Tryz.f348)) = R_slices_insertionSortCmpFunc_api_ZPower := by kernel_rfl
def A193 : Cu := [none, some [0, 1, 2, 3, 8], none, none, none, none, some [0, 1, 2, 3, 8, 9], none, none, none]
theorem E193 : (fun φ => denF φ (T193 φ) (TD193 φ) 4 (cutF Tryz.prog im 2 A193 Tryz.f226)) = R_slices_insertionSortCmpFunc_api_FPower := by kernel_rfl
def A5 : Cu := [none, none, none, none, none, none, some [5, 6, 7, 8, 9], none, none, none, none, some [5, 6, 7, 9, 10], none, some [5, 6, 7, 9, 10], none, none, none]
theorem E5 : (fun φ => denI φ (T5 φ) (TD5 φ) 2 (cutF Tryz.prog im 0 A5 Tryz.f131)) = R_galoisref01_Add := by kernel_rfl
def A8 : Cu := [none, none, none, none, none, none, none, none]
theorem E8 : (fun φ => denI φ (T8 φ) (TD8 φ) 2 (cutF Tryz.prog im 0 A8 Tryz.f62)) = R_galoisref02_Add := by kernel_rfl
def A7 : Cu := [none, none, none, none, none, none, none, none, some [5, 6, 7, 8], none, none, none, none, some [5, 6, 8, 9], none, none, some [5, 6, 7, 8, 9], none, none, none]
theorem E7 : (fun φ => denI φ (T7 φ) (TD7 φ) 2 (cutF Tryz.prog im 0 A7 Tryz.f133)) = R_galoisref01_Sub := by kernel_rfl
def A44 : Cu := [none, none, none, none, none, none, some [0, 9, 10, 11], none, none, none, none, none, none, none, none, none, none, none]
theorem E44 : (fun φ => denI φ (T44 φ) (TD44 φ) 1 (cutF Tryz.prog im 0 A44 Tryz.f38)) = R_qpoly_Check := by kernel_rfl
def A219 : Cu := [none, none, none, none, none, none, some [11, 13], none, some [0, 3, 11, 12, 13, 14], none, none, none, none, none, none, none, none, none]
theorem E219 : (fun φ => denF φ (T219 φ) (TD219 φ) 4 (cutF Tryz.prog im 2 A219 Tryz.f155)) = R_slices_choosePivotCmpFunc_api_Poly := by kernel_rfl
def A125 : Cu := [none, none, none, none, some [2, 5, 11, 12, 13], none, none, some [2, 5, 11, 12, 13], none, none, none]
theorem E125 : (fun φ => denI φ (T125 φ) (TD125 φ) 2 (cutF Tryz.prog im 0 A125 Tryz.f410)) = R_zf_ring_symmetric := by kernel_rfl
def A227 : Cu := [none, none, none, none, none, none, none, none, none, none, none, none, none]
theorem E227 : (fun φ => denI φ (T227 φ) (TD227 φ) 2 (cutF Tryz.prog im 0 A227 Tryz.f17)) = R_fieldmap_Homs := by kernel_rfl
def A37 : Cu := [none, none, none, none, some [0, 3, 12, 13], none, none, none, none, none, none]
theorem E37 : (fun φ => denI φ (T37 φ) (TD37 φ) 1 (cutF Tryz.prog im 1 A37 Tryz.f172)) = R_exact_words := by kernel_rfl
def A208 : Cu := [none, none, none, some [5], none, some [0, 1, 5, 8, 9], none, none, some [0, 1, 5, 8, 9], none, none, none, none]
theorem E208 : (fun φ => denI φ (T208 φ) (TD208 φ) 2 (cutF Tryz.prog im 0 A208 Tryz.f40)) = R_fieldfactor_linear := by kernel_rfl
def A110 : Cu := [none, none, none, none, some [2, 5, 11, 12, 13], none, none, none, none, none]
theorem E110 : (fun φ => denI φ (T110 φ) (TD110 φ) 2 (cutF Tryz.prog im 1 A110 Tryz.f340)) = R_zf_ring_reduce := by kernel_rfl
def A122 : Cu := [none, none, none, none, none, none, none]
theorem E122 : (fun φ ih => denI φ (setT (T122 φ) 122 (.iso ih)) (cnd false (setT (TD122 φ) 122 (.iso ih)) (TD122 φ)) 4 (cutF Tryz.prog im 1 A122 Tryz.f300)) = Q_zf_all := by kernel_rfl
def A86 : Cu := [none, none, none, some [0, 3], none, none, none]
theorem E86 : (fun φ => denI φ (T86 φ) (TD86 φ) 1 (cutF Tryz.prog im 0 A86 Tryz.f394)) = R_fp_Trim := by kernel_rfl
def A27 : Cu := [none, none, none, some [0, 3], none, none, none]
theorem E27 : (fun φ => denF φ (T27 φ) (TD27 φ) 1 (cutF Tryz.prog im 2 A27 Tryz.f243)) = R_exact_trim := by kernel_rfl
def A170 : Cu := [none, none, none, some [1, 2, 3], none, none, none, none]
theorem E170 : (fun φ => denI φ (T170 φ) (TD170 φ) 3 (cutF Tryz.prog im 0 A170 Tryz.f216)) = R_ff_field_gcd := by kernel_rfl
def A18 : Cu := [none, none, none, none, none]
theorem E18 : (fun φ => denI φ (T18 φ) (TD18 φ) 1 (cutF Tryz.prog im 0 A18 Tryz.f30)) = R_galoisref02_FromInt := by kernel_rfl
def A95 : Cu := [none, none, none, none, some [0, 1, 5, 6], none, none, none, none]
theorem E95 : (fun φ => denI φ (T95 φ) (TD95 φ) 2 (cutF Tryz.prog im 0 A95 Tryz.f336)) = R_fp_Derivative := by kernel_rfl
def A171 : Cu := [none, none, none, none, some [0, 3, 4], none, none, none, none]
theorem E171 : (fun φ => denI φ (T171 φ) (TD171 φ) 1 (cutF Tryz.prog im 0 A171 Tryz.f217)) = R_ff_derivative := by kernel_rfl
def A10 : Cu := [none, none]
theorem E10 : (fun φ => denI φ (T10 φ) (TD10 φ) 2 (cutF Tryz.prog im 0 A10 Tryz.f63)) = R_galoisref02_Mul := by kernel_rfl
def A197 : Cu := [none, none, none, none, none, none]
theorem E197 : (fun φ => denF φ (T197 φ) (TD197 φ) 5 (cutF Tryz.prog im 2 A197 Tryz.f332)) = R_slices_order2CmpFunc_api_FPower := by kernel_rfl
def A167 : Cu := [none, none, none, none, none]
theorem E167 : (fun φ => denI φ (T167 φ) (TD167 φ) 2 (cutF Tryz.prog im 0 A167 Tryz.f144)) = R_ff_field_monic := by kernel_rfl
def A158 : Cu := [none, none]
theorem E158 : (fun φ => denI φ (T158 φ) (TD158 φ) 1 (cutF Tryz.prog im 0 A158 Tryz.f142)) = R_ff_fieldOf := by kernel_rfl
def A82 : Cu := [none, none, none, some [0, 3], none, none, none, none, none, none]
theorem E82 : (fun φ => denI φ (T82 φ) (TD82 φ) 1 (cutF Tryz.prog im 0 A82 Tryz.f333)) = R_zf_prime := by kernel_rfl
def A106 : Cu := [none, none, none, none]
theorem E106 : (fun φ => denI φ (T106 φ) (TD106 φ) 1 (cutF Tryz.prog im 0 A106 Tryz.f246)) = R_exact_NatTwo := by kernel_rfl
def A58 : Cu := [none, none]
theorem E58 : (fun φ => denI φ (T58 φ) (TD58 φ) 1 (cutF Tryz.prog im 0 A58 Tryz.f197)) = R_exact_IntNeg := by kernel_rfl
def A243 : Cu := [none, none]
theorem E243 : (fun φ => denI φ (T243 φ) (TD243 φ) 2 (cutF Tryz.prog im 0 A243 Tryz.f47)) = R_galoisref03_Of := by kernel_rfl
def A192 : Cu := [none, none]
theorem E192 : (fun φ => denI φ (T192 φ) (TD192 φ) 2 (cutF Tryz.prog im 0 A192 Tryz.f72)) = R_fieldfactor_factor_1 := by kernel_rfl
def A131 : Cu := [none, none, none, none]
theorem E131 : (fun φ => denF φ (T131 φ) (TD131 φ) 2 (cutF Tryz.prog im 2 A131 Tryz.f301)) = R_zf_search_size := by kernel_rfl
def A168 : Cu := [none, none]
theorem E168 : (fun φ => denI φ (T168 φ) (TD168 φ) 3 (cutF Tryz.prog im 0 A168 Tryz.f282)) = R_ff_field_mul := by kernel_rfl
def A89 : Cu := [none, none, some [1], none, none]
theorem E89 : (fun φ => denI φ (T89 φ) (TD89 φ) 2 (cutF Tryz.prog im 0 A89 Tryz.f397)) = R_fp_Mod := by kernel_rfl
def A61 : Cu := [none, none]
theorem E61 : (fun φ => denI φ (T61 φ) (TD61 φ) 2 (cutF Tryz.prog im 0 A61 Tryz.f92)) = R_exact_NatMul := by kernel_rfl
def A118 : Cu := [none, none, none, none, none]
theorem E118 : (fun φ => denI φ (T118 φ) (TD118 φ) 1 (cutF Tryz.prog im 1 A118 Tryz.f457)) = R_slices_Clone_api_ZPoly_api_Int := by kernel_rfl
def A31 : Cu := [none, none]
theorem E31 : (fun φ => denI φ (T31 φ) (TD31 φ) 1 (cutF Tryz.prog im 0 A31 Tryz.f249)) = R_math_bits_LeadingZeros64 := by kernel_rfl
end
end Go.Proofs.YtljlaoecceagaaaGreat
set_option linter.unusedVariables false
set_option maxRecDepth 1000000
set_option maxHeartbeats 0
namespace Go.Proofs.YtljlaoecceagaaaGreat
open Ev
noncomputable section
def A223 : Cu := [none, none, none, none, some [0, 1, 4, 12, 13], none, none, none, some [0, 1, 4, 12, 13], none, none, none, none, none, none, none, none, none, none, some [0, 1, 4, 12, 13], none, some [0, 1, 4, 12, 13], none, none, none, some [0, 1, 4, 12, 13], none, none, none, none, none, none, none, none]
theorem E223 : (fun φ => denF φ (T223 φ) (TD223 φ) 5 (cutF Tryz.prog im 2 A223 Tryz.f159)) = R_slices_partitionCmpFunc_api_Poly := by kernel_rfl
def A202 : Cu := [none, none, none, none, some [0, 1, 2, 3, 9, 10], none, none, some [0, 1, 2, 3, 9, 10], none, some [0, 1, 2, 3, 9, 10], none, none, none, none, none, none, none, none, none, some [0, 1, 2, 3, 9, 10], none, none, some [0, 1, 2, 3, 9, 10, 11], none, none, none, none, none, none, none, some [0, 1, 2, 3, 9, 10, 12], none, none, none, none, none, none]
theorem E202 : (fun φ => denF φ (T202 φ) (TD202 φ) 4 (cutF Tryz.prog im 2 A202 Tryz.f231)) = R_slices_partialInsertionSortCmpFunc_api_FPower := by kernel_rfl
def A120 : Cu := [none, none, none, none, none, none, some [0, 15, 16, 17, 18, 19, 43, 44], none, none, none, none, none, none, none, none, none, none, none, none, none]
theorem E120 : (fun φ => denI φ (T120 φ) (TD120 φ) 5 (cutF Tryz.prog im 0 A120 Tryz.f343)) = R_zf_pair := by kernel_rfl
def A150 : Cu := [none, none, none, none, some [0, 1, 4, 11, 12], none, some [0, 1, 4, 11, 12], none, none, none, some [0, 1, 4, 11, 12], none, none, none, none, none, none, none]
theorem E150 : (fun φ => denF φ (T150 φ) (TD150 φ) 5 (cutF Tryz.prog im 2 A150 Tryz.f354)) = R_slices_partitionEqualCmpFunc_api_ZPower := by kernel_rfl
def A222 : Cu := [none, none, none, none, some [0, 1, 4, 11, 12], none, some [0, 1, 4, 11, 12], none, none, none, some [0, 1, 4, 11, 12], none, none, none, none, none, none, none]
theorem E222 : (fun φ => denF φ (T222 φ) (TD222 φ) 5 (cutF Tryz.prog im 2 A222 Tryz.f158)) = R_slices_partitionEqualCmpFunc_api_Poly := by kernel_rfl
def A213 : Cu := [none, some [0, 2, 3, 4, 10], none, none, none, some [0, 2, 3, 4, 10, 11], none, none, none, none]
theorem E213 : (fun φ => denF φ (T213 φ) (TD213 φ) 5 (cutF Tryz.prog im 2 A213 Tryz.f235)) = R_slices_siftDownCmpFunc_api_Poly := by kernel_rfl
def A92 : Cu := [none, none, none, none, none, none, none, none, none, none, some [0, 2, 8, 9, 10, 11, 12], none, none, none, none, none, none, some [0, 2, 8, 9, 10, 11, 12, 13, 62, 63, 64], none, none, none, none, none]
theorem E92 : (fun φ => denI φ (T92 φ) (TD92 φ) 3 (cutF Tryz.prog im 0 A92 Tryz.f403)) = R_fp_DivMod := by kernel_rfl
def A115 : Cu := [none, none, none, none, none, none, none, none, none, some [0, 1, 2, 9, 10, 11, 12], none, none, none, none, none, none, none, none, none]
theorem E115 : (fun φ => denI φ (T115 φ) (TD115 φ) 3 (cutF Tryz.prog im 0 A115 Tryz.f405)) = R_fp_Xgcd := by kernel_rfl
def A169 : Cu := [none, none, none, none, none, none, some [2, 3, 8, 9, 10, 11], none, none, none, none, none, none, some [2, 3, 8, 9, 10, 11, 12, 44, 45, 46], none, none, none, none, none]
theorem E169 : (fun φ => denI φ (T169 φ) (TD169 φ) 3 (cutF Tryz.prog im 0 A169 Tryz.f218)) = R_ff_field_divMod := by kernel_rfl
def A28 : Cu := [none, none, none, none, none, none, none, none, some [3, 17, 18, 19], none, none, none, none, none, some [3, 4, 5, 17, 18, 19, 24], none, none, none, none, none, none, some [3, 7], none, none, none]
theorem E28 : (fun φ => denI φ (T28 φ) (TD28 φ) 1 (cutF Tryz.prog im 0 A28 Tryz.f166)) = R_exact_pack := by kernel_rfl
def A9 : Cu := [none, none, none, none, none, some [5, 6, 7, 8], none, none, none, none, none, none, some [5, 6, 7, 8, 9, 10], none, none, none, none, none, none]
theorem E9 : (fun φ => denI φ (T9 φ) (TD9 φ) 2 (cutF Tryz.prog im 0 A9 Tryz.f134)) = R_galoisref01_Mul := by kernel_rfl
def A67 : Cu := [none, none, none, none, none, none, none]
theorem E67 : (fun φ => denI φ (T67 φ) (TD67 φ) 2 (cutF Tryz.prog im 0 A67 Tryz.f260)) = R_exact_IntAdd := by kernel_rfl
def A147 : Cu := [none, none, none, none, none, none, some [11, 13], none, some [0, 3, 11, 12, 13, 14], none, none, none, none, none, none, none, none, none]
theorem E147 : (fun φ => denF φ (T147 φ) (TD147 φ) 4 (cutF Tryz.prog im 2 A147 Tryz.f351)) = R_slices_choosePivotCmpFunc_api_ZPower := by kernel_rfl
def A195 : Cu := [none, none, none, none, none, some [0, 3, 8, 9, 10, 11], none, none, none, none, some [0, 3, 8, 9, 12], none, none, none, none]
theorem E195 : (fun φ => denF φ (T195 φ) (TD195 φ) 4 (cutF Tryz.prog im 2 A195 Tryz.f227)) = R_slices_heapSortCmpFunc_api_FPower := by kernel_rfl
def A15 : Cu := [none, none, none, none, none, none, none, none]
theorem E15 : (fun φ => denI φ (T15 φ) (TD15 φ) 2 (cutF Tryz.prog im 0 A15 Tryz.f65)) = R_galoisref03_Make := by kernel_rfl
def A87 : Cu := [none, none, none, none, some [1, 5, 13, 14, 15], none, none, none, none, none, none]
theorem E87 : (fun φ => denI φ (T87 φ) (TD87 φ) 2 (cutF Tryz.prog im 0 A87 Tryz.f334)) = R_zf_modulo := by kernel_rfl
def A155 : Cu := [none, none, none, none, none, none, none]
theorem E155 : (fun φ => denI φ (T155 φ) (TD155 φ) 1 (cutF Tryz.prog im 0 A155 Tryz.f93)) = R_zfactor_IsIrreducible := by kernel_rfl
def A66 : Cu := [none, none, none, none, none, some [5, 6, 7, 15, 16], none, none, none, none, none, some [5, 6, 7, 8, 9, 15, 16], none, none]
theorem E66 : (fun φ => denI φ (T66 φ) (TD66 φ) 2 (cutF Tryz.prog im 0 A66 Tryz.f304)) = R_exact_NatSub := by kernel_rfl
def A238 : Cu := [none, none]
theorem E238 : (fun φ => denI φ (T238 φ) (TD238 φ) 1 (cutF Tryz.prog im 0 A238 Tryz.f244)) = R_math_bits_Len8 := by kernel_rfl
def A245 : Cu := [none, none, none, none, none, none]
theorem E245 : (fun φ => denI φ (T245 φ) (TD245 φ) 2 (cutF Tryz.prog im 0 A245 Tryz.f18)) = R_fieldmap_IsIsomorphic := by kernel_rfl
def A70 : Cu := [none, none, none, none, some [0, 1, 5, 14, 15], none, none, none, none, none]
theorem E70 : (fun φ => denI φ (T70 φ) (TD70 φ) 2 (cutF Tryz.prog im 0 A70 Tryz.f118)) = R_exact_PSub := by kernel_rfl
def A157 : Cu := [none, none, none, none, none, none, none, none, none, none, none, none, none]
theorem E157 : (fun φ => denI φ (T157 φ) (TD157 φ) 3 (cutF Tryz.prog im 0 A157 Tryz.f31)) = R_fieldfactor_check := by kernel_rfl
def A56 : Cu := [none, none, none, none, none]
theorem E56 : (fun φ => denI φ (T56 φ) (TD56 φ) 2 (cutF Tryz.prog im 0 A56 Tryz.f181)) = R_exact_PCoef := by kernel_rfl
def A88 : Cu := [none, none, none, none, some [0, 2, 7, 13, 14, 15], none, none, none, none, none]
theorem E88 : (fun φ => denI φ (T88 φ) (TD88 φ) 3 (cutF Tryz.prog im 0 A88 Tryz.f400)) = R_fp_Scale := by kernel_rfl
def A220 : Cu := [none, none, some [0, 8, 9], none, none, none, none]
theorem E220 : (fun φ => denF φ (T220 φ) (TD220 φ) 4 (cutF Tryz.prog im 2 A220 Tryz.f156)) = R_slices_reverseRangeCmpFunc_api_Poly := by kernel_rfl
def A39 : Cu := [none, none, none, none, none, none, none, none]
theorem E39 : (fun φ => denI φ (T39 φ) (TD39 φ) 1 (cutF Tryz.prog im 0 A39 Tryz.f149)) = R_natural_Check := by kernel_rfl
def A116 : Cu := [none, none, none, none, some [3, 9, 10, 11], none, none, none, none, none]
theorem E116 : (fun φ => denI φ (T116 φ) (TD116 φ) 1 (cutF Tryz.prog im 0 A116 Tryz.f406)) = R_zf_lifted := by kernel_rfl
def A121 : Cu := [none, none, none, none, some [0, 5, 9, 10, 11], none, none, none, none, none]
theorem E121 : (fun φ => denI φ (T121 φ) (TD121 φ) 2 (cutF Tryz.prog im 0 A121 Tryz.f344)) = R_zf_product := by kernel_rfl
def A90 : Cu := [none, none, none, some [0, 5, 6, 7, 8], none, none, none, none]
theorem E90 : (fun φ => denI φ (T90 φ) (TD90 φ) 2 (cutF Tryz.prog im 0 A90 Tryz.f401)) = R_fp_Inv := by kernel_rfl
def A210 : Cu := [none, none, none, some [0, 1, 7, 8], none, none, none, none, none, none, none]
theorem E210 : (fun φ => denF φ (T210 φ) (TD210 φ) 2 (cutF Tryz.prog im 2 A210 Tryz.f82)) = R_slices_IndexFunc_api_Poly_api_Poly := by kernel_rfl
def A59 : Cu := [none, none]
theorem E59 : (fun φ => denI φ (T59 φ) (TD59 φ) 1 (cutF Tryz.prog im 0 A59 Tryz.f114)) = R_exact_Neg := by kernel_rfl
def A91 : Cu := [none, none, none, none, none]
theorem E91 : (fun φ => denI φ (T91 φ) (TD91 φ) 2 (cutF Tryz.prog im 0 A91 Tryz.f338)) = R_fp_Monic := by kernel_rfl
def A237 : Cu := []
theorem E237 : (fun φ => denF φ (T237 φ) (TD237 φ) 4 (cutF Tryz.prog im 2 A237 Tryz.f167)) = R_fieldmap_power_1 := by kernel_rfl
def A173 : Cu := [none, none]
theorem E173 : (fun φ => denI φ (T173 φ) (TD173 φ) 1 (cutF Tryz.prog im 0 A173 Tryz.f222)) = R_ff_field_generator := by kernel_rfl
def A19 : Cu := [none, none]
theorem E19 : (fun φ => denI φ (T19 φ) (TD19 φ) 1 (cutF Tryz.prog im 0 A19 Tryz.f10)) = R_galoisref03_FromInt := by kernel_rfl
def A108 : Cu := [none, none]
theorem E108 : (fun φ => denI φ (T108 φ) (TD108 φ) 1 (cutF Tryz.prog im 0 A108 Tryz.f297)) = R_zf_Lead := by kernel_rfl
def A218 : Cu := [none, none]
theorem E218 : (fun φ => denF φ (T218 φ) (TD218 φ) 4 (cutF Tryz.prog im 2 A218 Tryz.f238)) = R_slices_medianAdjacentCmpFunc_api_Poly := by kernel_rfl
def A102 : Cu := [none, none, none, none, none]
theorem E102 : (fun φ => denI φ (T102 φ) (TD102 φ) 2 (cutF Tryz.prog im 0 A102 Tryz.f456)) = R_fp_at := by kernel_rfl
def A175 : Cu := [none, none, none, none, none]
theorem E175 : (fun φ => denI φ (T175 φ) (TD175 φ) 2 (cutF Tryz.prog im 0 A175 Tryz.f330)) = R_ff_at := by kernel_rfl
def A93 : Cu := [none, none, none]
theorem E93 : (fun φ => denI φ (T93 φ) (TD93 φ) 3 (cutF Tryz.prog im 0 A93 Tryz.f395)) = R_fp_Rem := by kernel_rfl
def A53 : Cu := [none, none]
theorem E53 : (fun φ => denF φ (T53 φ) (TD53 φ) 2 (cutF Tryz.prog im 2 A53 Tryz.f75)) = R_slices_ContainsFunc_api_Poly_api_Rat := by kernel_rfl
end
end Go.Proofs.YtljlaoecceagaaaGreat
set_option linter.unusedVariables false
set_option maxRecDepth 1000000
set_option maxHeartbeats 0
namespace Go.Proofs.YtljlaoecceagaaaGreat
open Ev
noncomputable section
def A234 : Cu := [none, none, none, none, some [1, 6, 18, 19, 20], none, none, none, none, none, none, none, some [1, 6, 9, 10], none, none, some [1, 6, 9, 10], none, none, none, some [1, 6, 9, 10, 11, 12], none, none, none, none, none, none, none, none, some [1, 6, 9, 10, 11, 13, 91, 92], none, none, none, none, none, none, some [1, 6, 9, 10, 11, 112, 113], none, none, some [1, 6, 9, 10, 11, 112, 113], none, none, none, none, none, some [1, 6, 9, 10, 11, 15, 16, 112, 113, 140, 141], none, none, none, none, none]
theorem E234 : (fun φ => denI φ (T234 φ) (TD234 φ) 2 (cutF Tryz.prog im 0 A234 Tryz.f242)) = R_span_Reduce := by kernel_rfl
def A149 : Cu := [none, none, none, none, some [0, 1, 2, 3, 9, 10], none, none, some [0, 1, 2, 3, 9, 10], none, some [0, 1, 2, 3, 9, 10], none, none, none, none, none, none, none, none, none, some [0, 1, 2, 3, 9, 10], none, none, some [0, 1, 2, 3, 9, 10, 11], none, none, none, none, none, none, none, some [0, 1, 2, 3, 9, 10, 12], none, none, none, none, none, none]
theorem E149 : (fun φ => denF φ (T149 φ) (TD149 φ) 4 (cutF Tryz.prog im 2 A149 Tryz.f353)) = R_slices_partialInsertionSortCmpFunc_api_ZPower := by kernel_rfl
def A152 : Cu := [none, none, some [0, 1, 2, 3, 4, 10, 11], none, none, none, none, none, none, none, some [0, 1, 2, 3, 4, 10, 11, 12], none, none, none, some [0, 1, 2, 3, 4, 10, 11, 12, 13, 14], none, none, none, some [0, 1, 2, 3, 4, 10, 11, 12, 13], none, none, none, none, none, none, none, none, none, none, none, none, none, none, none]
theorem E152 : (fun φ ih => denF φ (setT (T152 φ) 152 (.mem ih)) (cnd false (setT (TD152 φ) 152 (.mem ih)) (TD152 φ)) 5 (cutF Tryz.prog im 2 A152 Tryz.f303)) = Q_slices_pdqsortCmpFunc_api_ZPower := by kernel_rfl
def A104 : Cu := [none, none, none, none, none, some [0, 5, 6, 20, 21, 22], none, none, some [0, 5, 6, 20, 21, 22], none, none, none, none, some [0, 5, 6, 8, 9, 20, 21, 22], none, none, none, none, none, some [0, 5, 6, 8, 9, 10, 20, 21, 22, 48, 49], none, none, some [0, 5, 6, 8, 9, 10, 20, 21, 22, 48, 49], none, none, none, none, none, none]
theorem E104 : (fun φ => denI φ (T104 φ) (TD104 φ) 2 (cutF Tryz.prog im 0 A104 Tryz.f339)) = R_zf_berlekamp := by kernel_rfl
def A160 : Cu := [none, none, none, none, none, none, none, some [0, 1, 5, 27, 28], none, none, none, none, none, none, some [1, 5, 36, 37, 38], none, none, some [1, 5, 36, 37, 38], none, none, none, none, some [1, 5, 7, 8, 36, 37, 38, 45, 46, 47], none, none, none, none, none]
theorem E160 : (fun φ => denI φ (T160 φ) (TD160 φ) 2 (cutF Tryz.prog im 0 A160 Tryz.f182)) = R_exact_PMul := by kernel_rfl
def A133 : Cu := [none, none, none, none, some [0, 3, 15, 16, 17], none, none, none, none, none, none, none, none, none, some [3, 9, 39, 40, 41], none, none, none, none, none, none]
theorem E133 : (fun φ => denI φ (T133 φ) (TD133 φ) 1 (cutF Tryz.prog im 0 A133 Tryz.f256)) = R_zf_Whole := by kernel_rfl
def A226 : Cu := [none, none, none, none, none, none, none, none, some [1, 2, 7, 23, 24, 25], none, none, none, none, none, none, none, none, some [11, 43, 44, 45], none, none, none, none, none, none, none, none, none]
theorem E226 : (fun φ => denI φ (T226 φ) (TD226 φ) 2 (cutF Tryz.prog im 0 A226 Tryz.f15)) = R_fieldfactor_Roots := by kernel_rfl
def A111 : Cu := [none, none, none, none, none, none, none, some [1, 5, 25, 26, 27], none, none, some [1, 5, 25, 26, 27], none, none, none, none, some [1, 5, 6, 7, 25, 26, 27, 35, 36, 37], none, none, none, none, none]
theorem E111 : (fun φ => denI φ (T111 φ) (TD111 φ) 2 (cutF Tryz.prog im 0 A111 Tryz.f341)) = R_zf_Mul := by kernel_rfl
def A60 : Cu := [none, none, none, none, some [1, 5, 20, 21, 22], none, none, none, none, none, none, none, some [1, 5, 6, 7, 8, 20, 21, 22, 27, 28, 29], none, none, none, none, none, none, none, none, none, none]
theorem E60 : (fun φ => denI φ (T60 φ) (TD60 φ) 2 (cutF Tryz.prog im 0 A60 Tryz.f173)) = R_exact_mulWords := by kernel_rfl
def A42 : Cu := [none, none, none, none, none, none, none, none, none, none, none, none]
theorem E42 : (fun φ => denI φ (T42 φ) (TD42 φ) 1 (cutF Tryz.prog im 0 A42 Tryz.f77)) = R_rational_Check := by kernel_rfl
def A143 : Cu := [none, none, none, none, none, some [0, 1, 8, 9, 10, 11], none, none, none, none, some [0, 1, 8, 9, 10, 11, 12], none]
theorem E143 : (fun φ => denF φ (T143 φ) (TD143 φ) 4 (cutF Tryz.prog im 2 A143 Tryz.f350)) = R_slices_breakPatternsCmpFunc_api_ZPower := by kernel_rfl
def A80 : Cu := [none, none, none, none, none, none, none, none, none, some [3, 6, 10, 11], none, none, none, none, some [3, 6, 10, 11, 12], none, none, none, none]
theorem E80 : (fun φ => denI φ (T80 φ) (TD80 φ) 1 (cutF Tryz.prog im 0 A80 Tryz.f254)) = R_zf_squarefree := by kernel_rfl
def A200 : Cu := [none, none, none, none, none, none, some [11, 13], none, some [0, 3, 11, 12, 13, 14], none, none, none, none, none, none, none, none, none]
theorem E200 : (fun φ => denF φ (T200 φ) (TD200 φ) 4 (cutF Tryz.prog im 2 A200 Tryz.f229)) = R_slices_choosePivotCmpFunc_api_FPower := by kernel_rfl
def A214 : Cu := [none, none, none, none, none, some [0, 3, 8, 9, 10, 11], none, none, none, none, some [0, 3, 8, 9, 12], none, none, none, none]
theorem E214 : (fun φ => denF φ (T214 φ) (TD214 φ) 4 (cutF Tryz.prog im 2 A214 Tryz.f153)) = R_slices_heapSortCmpFunc_api_Poly := by kernel_rfl
def A73 : Cu := [none, none, none, none, none]
theorem E73 : (fun φ => denI φ (T73 φ) (TD73 φ) 2 (cutF Tryz.prog im 0 A73 Tryz.f79)) = R_exact_Mul := by kernel_rfl
def A189 : Cu := [none, none, none, none, none]
theorem E189 : (fun φ => denI φ (T189 φ) (TD189 φ) 2 (cutF Tryz.prog im 0 A189 Tryz.f85)) = R_exact_Cmp := by kernel_rfl
def A166 : Cu := [none, none, none, none, some [2, 5, 6, 7, 8], none, none, none, none, none]
theorem E166 : (fun φ => denI φ (T166 φ) (TD166 φ) 2 (cutF Tryz.prog im 0 A166 Tryz.f220)) = R_ff_field_inverse := by kernel_rfl
def A23 : Cu := [none, none, none, some [0, 3], none, none, none]
theorem E23 : (fun φ => denI φ (T23 φ) (TD23 φ) 1 (cutF Tryz.prog im 0 A23 Tryz.f29)) = R_galoisref06_Trim := by kernel_rfl
def A190 : Cu := [none, none, none, none, none, none, some [0, 1, 20, 21], none, none, none, none, none, none, none, none]
theorem E190 : (fun φ => denI φ (T190 φ) (TD190 φ) 2 (cutF Tryz.prog im 0 A190 Tryz.f45)) = R_qpoly_Compare := by kernel_rfl
def A81 : Cu := [none, none, none, none, none, none, none, none, none, none, none]
theorem E81 : (fun φ => denI φ (T81 φ) (TD81 φ) 2 (cutF Tryz.prog im 0 A81 Tryz.f162)) = R_exact_IntCmp := by kernel_rfl
def A240 : Cu := [none, none, none, none, some [0, 1, 5, 6], none, none, some [0, 1, 5, 6], none, none, none]
theorem E240 : (fun φ => denI φ (T240 φ) (TD240 φ) 2 (cutF Tryz.prog im 0 A240 Tryz.f170)) = R_exact_NatRoot := by kernel_rfl
def A186 : Cu := [none, none, none, none, some [3, 6, 7, 8], none, none, none, none, none]
theorem E186 : (fun φ => denI φ (T186 φ) (TD186 φ) 1 (cutF Tryz.prog im 0 A186 Tryz.f225)) = R_ff_rational := by kernel_rfl
def A178 : Cu := [none, none, none, some [1, 5, 6], none, none, none, some [1, 5, 6], none, none]
theorem E178 : (fun φ => denI φ (T178 φ) (TD178 φ) 2 (cutF Tryz.prog im 0 A178 Tryz.f168)) = R_exact_NatPow := by kernel_rfl
def A179 : Cu := [none, none]
theorem E179 : (fun φ => denI φ (T179 φ) (TD179 φ) 2 (cutF Tryz.prog im 0 A179 Tryz.f392)) = R_exact_IntPow := by kernel_rfl
def A201 : Cu := [none, none, some [0, 8, 9], none, none, none, none]
theorem E201 : (fun φ => denF φ (T201 φ) (TD201 φ) 4 (cutF Tryz.prog im 2 A201 Tryz.f230)) = R_slices_reverseRangeCmpFunc_api_FPower := by kernel_rfl
def A182 : Cu := [none, none, none, none, some [0, 3, 5, 6], none, none, none, none]
theorem E182 : (fun φ => denI φ (T182 φ) (TD182 φ) 2 (cutF Tryz.prog im 0 A182 Tryz.f287)) = R_ff_eval := by kernel_rfl
def A74 : Cu := [none, none]
theorem E74 : (fun φ => denI φ (T74 φ) (TD74 φ) 1 (cutF Tryz.prog im 0 A74 Tryz.f117)) = R_exact_Inverse := by kernel_rfl
def A49 : Cu := [none, none]
theorem E49 : (fun φ => denI φ (T49 φ) (TD49 φ) 1 (cutF Tryz.prog im 0 A49 Tryz.f76)) = R_exact_Large := by kernel_rfl
def A180 : Cu := [none, none]
theorem E180 : (fun φ => denI φ (T180 φ) (TD180 φ) 2 (cutF Tryz.prog im 0 A180 Tryz.f331)) = R_exact_Pow := by kernel_rfl
def A84 : Cu := [none, none, none, none, none, none, none, none, none]
theorem E84 : (fun φ => denI φ (T84 φ) (TD84 φ) 1 (cutF Tryz.prog im 0 A84 Tryz.f454)) = R_exact_NatUint := by kernel_rfl
def A123 : Cu := [none, none]
theorem E123 : (fun φ => denI φ (T123 φ) (TD123 φ) 2 (cutF Tryz.prog im 0 A123 Tryz.f271)) = R_exact_IntGcd := by kernel_rfl
def A77 : Cu := [none, none, none, none, none]
theorem E77 : (fun φ => denI φ (T77 φ) (TD77 φ) 1 (cutF Tryz.prog im 0 A77 Tryz.f208)) = R_exact_PMonic := by kernel_rfl
def A99 : Cu := [none, none]
theorem E99 : (fun φ => denI φ (T99 φ) (TD99 φ) 3 (cutF Tryz.prog im 0 A99 Tryz.f396)) = R_fp_Power := by kernel_rfl
def A14 : Cu := [none, none, some [0, 1], none, none, none, none]
theorem E14 : (fun φ => denI φ (T14 φ) (TD14 φ) 2 (cutF Tryz.prog im 0 A14 Tryz.f135)) = R_galoisref01_Gcd := by kernel_rfl
def A11 : Cu := [none, none]
theorem E11 : (fun φ => denI φ (T11 φ) (TD11 φ) 1 (cutF Tryz.prog im 0 A11 Tryz.f64)) = R_galoisref03_denominator := by kernel_rfl
def A164 : Cu := [none, none]
theorem E164 : (fun φ => denI φ (T164 φ) (TD164 φ) 3 (cutF Tryz.prog im 0 A164 Tryz.f219)) = R_ff_field_scale := by kernel_rfl
def A146 : Cu := [none, none]
theorem E146 : (fun φ => denF φ (T146 φ) (TD146 φ) 4 (cutF Tryz.prog im 2 A146 Tryz.f414)) = R_slices_medianAdjacentCmpFunc_api_ZPower := by kernel_rfl
def A174 : Cu := [none, none]
theorem E174 : (fun φ => denI φ (T174 φ) (TD174 φ) 2 (cutF Tryz.prog im 0 A174 Tryz.f221)) = R_ff_field_split_1 := by kernel_rfl
def A71 : Cu := [none, none, none, none, none]
theorem E71 : (fun φ => denI φ (T71 φ) (TD71 φ) 1 (cutF Tryz.prog im 1 A71 Tryz.f36)) = R_slices_Clone_api_Poly_api_Rat := by kernel_rfl
def A40 : Cu := [none, none]
theorem E40 : (fun φ => denI φ (T40 φ) (TD40 φ) 0 (cutF Tryz.prog im 0 A40 Tryz.f234)) = R_integer_zero := by kernel_rfl
def A51 : Cu := [none, none]
theorem E51 : (fun φ => denI φ (T51 φ) (TD51 φ) 1 (cutF Tryz.prog im 0 A51 Tryz.f139)) = R_numberfield_Form_1 := by kernel_rfl
end
end Go.Proofs.YtljlaoecceagaaaGreat
set_option linter.unusedVariables false
set_option maxRecDepth 1000000
set_option maxHeartbeats 0
namespace Go.Proofs.YtljlaoecceagaaaGreat
open Ev
noncomputable section
def A244 : Cu := [none, none, none, none, none, none, none, none, none, none, none, none]
theorem E244 : (fun φ => denI φ (T244 φ) (TD244 φ) 0 (cutF Tryz.prog im 0 A244 Tryz.f16)) = R_galoislaw35_awake := by kernel_rfl
def A35 : Cu := [none, none, none, none, some [0, 1, 5, 6, 7, 8], none, none, some [0, 1, 5, 6], some [0, 1, 5, 6, 7, 8], none, none, none, none, none, none, none, none, none, some [0, 1, 5, 6, 11, 12, 104, 105], none, none, none, none, none, none, none, none, none, none, none, none, none, none, none, some [0, 1, 5, 6, 17, 156, 157], none, none, none, none, none, none]
theorem E35 : (fun φ => denF φ (T35 φ) (TD35 φ) 2 (cutF Tryz.prog im 2 A35 Tryz.f251)) = R_exact_step := by kernel_rfl
def A36 : Cu := [none, none, none, none, none, none, none, none, none, none, some [0, 1, 6, 7, 8], none, none, none, none, none, none, none, none, none, none, none, some [9, 10, 11, 12, 13, 14], none, none, none, none, none, some [9, 11, 12, 13, 96, 97], none, none, some [9, 11, 12, 13, 96, 97], none, none, none, none]
theorem E36 : (fun φ => denI φ (T36 φ) (TD36 φ) 2 (cutF Tryz.prog im 0 A36 Tryz.f171)) = R_exact_divide := by kernel_rfl
def A242 : Cu := [none, none, none, none, none, none, none, none, none, none, none, none, none, none, some [1, 4, 8, 9, 10, 40, 41], none, none, none, none, none, none, none, none, none, none, some [1, 4, 8, 15, 16, 17], none, none, none, none, none, none, none, none, none]
theorem E242 : (fun φ => denI φ (T242 φ) (TD242 φ) 2 (cutF Tryz.prog im 0 A242 Tryz.f46)) = R_fieldmap_Subfield := by kernel_rfl
def A132 : Cu := [none, none, none, none, none, none, none, none, none, none, none, some [0, 3, 4, 5, 6, 7], none, none, none, none, none, none, none, none, none, some [10, 11], none, none, none, none, none]
theorem E132 : (fun φ => denI φ (T132 φ) (TD132 φ) 1 (cutF Tryz.prog im 0 A132 Tryz.f255)) = R_zf_split := by kernel_rfl
def A241 : Cu := [none, none, none, none, none, some [0, 5, 6, 7], none, none, some [0, 5, 6, 7], none, none, some [0, 5, 6, 7, 8], none, none, none, none, none, none, none, none, none, none, some [0, 5, 6, 11], none, none, none, none, none, none, none, none, none]
theorem E241 : (fun φ => denI φ (T241 φ) (TD241 φ) 2 (cutF Tryz.prog im 0 A241 Tryz.f89)) = R_fieldmap_power := by kernel_rfl
def A105 : Cu := [none, none, none, none, some [0, 4, 5, 6, 7], none, none, some [0, 4, 5, 6, 7], none, none, none, none, none, none, none, none, none, none, none, none]
theorem E105 : (fun φ => denI φ (T105 φ) (TD105 φ) 1 (cutF Tryz.prog im 0 A105 Tryz.f295)) = R_zf_modular := by kernel_rfl
def A114 : Cu := [none, none, none, none, some [2, 4, 5, 6, 7, 8], none, none, none, none, none, none]
theorem E114 : (fun φ => denI φ (T114 φ) (TD114 φ) 2 (cutF Tryz.prog im 0 A114 Tryz.f299)) = R_zf_ring_inverse := by kernel_rfl
def A96 : Cu := [none, none, none, none, none, none, none, some [0, 2, 7, 27, 28, 29], none, none, none, none, none, some [0, 2, 7, 8, 9, 27, 28, 29, 34, 35, 36], none, none, none, none, none]
theorem E96 : (fun φ => denI φ (T96 φ) (TD96 φ) 3 (cutF Tryz.prog im 0 A96 Tryz.f409)) = R_fp_Mul := by kernel_rfl
def A124 : Cu := [none, none, none, none, some [0, 3, 9, 10, 11], none, none, none, none, some [0, 3], none, none, none, none, some [3, 6, 27, 28, 29], none, none, none, none, none]
theorem E124 : (fun φ => denI φ (T124 φ) (TD124 φ) 1 (cutF Tryz.prog im 0 A124 Tryz.f302)) = R_zf_primitive := by kernel_rfl
def A154 : Cu := [none, none, none, none, none, none, none, some [3, 12, 13, 14], none, none, none, none, none, some [3, 5, 12, 13, 14, 21, 22, 23], none, none, none, none, none, none]
theorem E154 : (fun φ => denI φ (T154 φ) (TD154 φ) 1 (cutF Tryz.prog im 0 A154 Tryz.f174)) = R_zf_Factors := by kernel_rfl
def A98 : Cu := [none, none, none, none, some [0, 2, 3, 9, 10, 22, 23], none, none, none, none, none, some [0, 2, 3, 9, 10, 11, 12, 22, 23], none, none, some [0, 2, 3, 9, 10, 11, 12, 22, 23], none, none, none]
theorem E98 : (fun φ => denI φ (T98 φ) (TD98 φ) 4 (cutF Tryz.prog im 0 A98 Tryz.f455)) = R_fp_PowMod := by kernel_rfl
def A134 : Cu := [none, some [0, 2], none, none, some [0, 2], none, none, none]
theorem E134 : (fun φ => denI φ (T134 φ) (TD134 φ) 1 (cutF Tryz.prog im 0 A134 Tryz.f160)) = R_math_bits_Len32 := by kernel_rfl
def A63 : Cu := [none, none, some [2, 3, 4], none, none, none]
theorem E63 : (fun φ => denI φ (T63 φ) (TD63 φ) 2 (cutF Tryz.prog im 0 A63 Tryz.f151)) = R_exact_Make := by kernel_rfl
def A2 : Cu := [none, none, none, none, some [0, 3, 4], none, none, none, none, some [0, 3, 4, 5], none, none, some [0, 3, 4, 5], none, none, none]
theorem E2 : (fun φ => denI φ (T2 φ) (TD2 φ) 1 (cutF Tryz.prog im 0 A2 Tryz.f138)) = R_galoisref01_pack := by kernel_rfl
def A33 : Cu := [none, none, none, none, some [1, 5, 12, 13, 14], none, none, some [1, 5, 12, 13, 14], none, none, none, none]
theorem E33 : (fun φ => denI φ (T33 φ) (TD33 φ) 2 (cutF Tryz.prog im 1 A33 Tryz.f250)) = R_exact_shiftUp := by kernel_rfl
def A29 : Cu := [none, none, none, none, none, none, none, none, none, some [0, 1, 5], none, none, none, none, none, none, none, none, none]
theorem E29 : (fun φ => denI φ (T29 φ) (TD29 φ) 2 (cutF Tryz.prog im 0 A29 Tryz.f247)) = R_exact_compareWords := by kernel_rfl
def A183 : Cu := [none, none, none, none, some [0, 3, 4, 5, 6], none, none, none, none]
theorem E183 : (fun φ => denI φ (T183 φ) (TD183 φ) 2 (cutF Tryz.prog im 0 A183 Tryz.f288)) = R_exact_PEval := by kernel_rfl
def A12 : Cu := [none, none, none, none, none, none, none, some [0, 1, 5], none, none, none, none, none, none]
theorem E12 : (fun φ => denI φ (T12 φ) (TD12 φ) 2 (cutF Tryz.prog im 0 A12 Tryz.f215)) = R_galoisref01_below := by kernel_rfl
def A103 : Cu := [none, none, none, none, some [0, 1, 2, 7, 16, 17], none, none, none, none, none]
theorem E103 : (fun φ => denI φ (T103 φ) (TD103 φ) 3 (cutF Tryz.prog im 0 A103 Tryz.f402)) = R_fp_Sub := by kernel_rfl
def A109 : Cu := [none, none, none, some [0, 3], none, none, none]
theorem E109 : (fun φ => denF φ (T109 φ) (TD109 φ) 1 (cutF Tryz.prog im 2 A109 Tryz.f404)) = R_zf_trim := by kernel_rfl
def A176 : Cu := [none, none, none, none, some [0, 1, 2, 7, 13, 14], none, none, none, none, none]
theorem E176 : (fun φ => denI φ (T176 φ) (TD176 φ) 3 (cutF Tryz.prog im 0 A176 Tryz.f285)) = R_ff_combine := by kernel_rfl
def A24 : Cu := [none, none, none, none, some [0, 1, 5, 6], none, none, none, none]
theorem E24 : (fun φ => denI φ (T24 φ) (TD24 φ) 2 (cutF Tryz.prog im 0 A24 Tryz.f8)) = R_galoisref06_Add := by kernel_rfl
def A34 : Cu := [none, none, none, none, none, none, none, none, none, none, none, none]
theorem E34 : (fun φ => denI φ (T34 φ) (TD34 φ) 2 (cutF Tryz.prog im 0 A34 Tryz.f252)) = R_math_bits_Mul64 := by kernel_rfl
def A41 : Cu := [none, none, none, none, none, none, none]
theorem E41 : (fun φ => denI φ (T41 φ) (TD41 φ) 1 (cutF Tryz.prog im 0 A41 Tryz.f148)) = R_integer_Check := by kernel_rfl
def A26 : Cu := [none, none, none, none, some [3, 6, 7, 8], none, none, none, none, none]
theorem E26 : (fun φ => denI φ (T26 φ) (TD26 φ) 1 (cutF Tryz.prog im 0 A26 Tryz.f11)) = R_galoisref06_Of := by kernel_rfl
def A230 : Cu := [none, none, none, none, none, none, none, none, none, none, none, none, none]
theorem E230 : (fun φ => denI φ (T230 φ) (TD230 φ) 2 (cutF Tryz.prog im 0 A230 Tryz.f86)) = R_numberfield_Element := by kernel_rfl
def A144 : Cu := [none, none, none, none, none, none]
theorem E144 : (fun φ => denF φ (T144 φ) (TD144 φ) 5 (cutF Tryz.prog im 2 A144 Tryz.f458)) = R_slices_order2CmpFunc_api_ZPower := by kernel_rfl
def A217 : Cu := [none, none, none, none, none]
theorem E217 : (fun φ => denF φ (T217 φ) (TD217 φ) 6 (cutF Tryz.prog im 2 A217 Tryz.f239)) = R_slices_medianCmpFunc_api_Poly := by kernel_rfl
def A52 : Cu := [none, none, none, some [0, 1, 7, 8], none, none, none, none, none, none, none]
theorem E52 : (fun φ => denF φ (T52 φ) (TD52 φ) 2 (cutF Tryz.prog im 2 A52 Tryz.f147)) = R_slices_IndexFunc_api_Poly_api_Rat := by kernel_rfl
def A20 : Cu := [none, none, none, none, none]
theorem E20 : (fun φ => denI φ (T20 φ) (TD20 φ) 2 (cutF Tryz.prog im 0 A20 Tryz.f28)) = R_galoisref06_at := by kernel_rfl
def A239 : Cu := [none, none, none, none, none]
theorem E239 : (fun φ => denI φ (T239 φ) (TD239 φ) 1 (cutF Tryz.prog im 0 A239 Tryz.f169)) = R_exact_NatBits := by kernel_rfl
def A113 : Cu := [none, none]
theorem E113 : (fun φ => denI φ (T113 φ) (TD113 φ) 2 (cutF Tryz.prog im 0 A113 Tryz.f342)) = R_exact_IntSub := by kernel_rfl
def A21 : Cu := [none, none, none, none, none, none, none]
theorem E21 : (fun φ => denI φ (T21 φ) (TD21 φ) 1 (cutF Tryz.prog im 0 A21 Tryz.f137)) = R_galoisref02_Sign := by kernel_rfl
def A231 : Cu := [none, none, none, none, none, none]
theorem E231 : (fun φ => denI φ (T231 φ) (TD231 φ) 2 (cutF Tryz.prog im 0 A231 Tryz.f241)) = R_span_Rest := by kernel_rfl
def A17 : Cu := [none, none]
theorem E17 : (fun φ => denI φ (T17 φ) (TD17 φ) 1 (cutF Tryz.prog im 0 A17 Tryz.f67)) = R_galoisref01_Of := by kernel_rfl
def A199 : Cu := [none, none]
theorem E199 : (fun φ => denF φ (T199 φ) (TD199 φ) 4 (cutF Tryz.prog im 2 A199 Tryz.f291)) = R_slices_medianAdjacentCmpFunc_api_FPower := by kernel_rfl
def A225 : Cu := [none]
theorem E225 : (fun φ => denF φ (T225 φ) (TD225 φ) 2 (cutF Tryz.prog im 2 A225 Tryz.f44)) = R_slices_SortFunc_api_Poly_api_Poly := by kernel_rfl
def A233 : Cu := [none, none, none, none, none]
theorem E233 : (fun φ => denI φ (T233 φ) (TD233 φ) 1 (cutF Tryz.prog im 1 A233 Tryz.f177)) = R_slices_Clone_api_Rat_api_Rat := by kernel_rfl
def A22 : Cu := [none, none]
theorem E22 : (fun φ => denI φ (T22 φ) (TD22 φ) 1 (cutF Tryz.prog im 0 A22 Tryz.f66)) = R_galoisref03_Sign := by kernel_rfl
def A211 : Cu := [none, none]
theorem E211 : (fun φ => denF φ (T211 φ) (TD211 φ) 2 (cutF Tryz.prog im 2 A211 Tryz.f43)) = R_slices_ContainsFunc_api_Poly_api_Poly := by kernel_rfl
def A141 : Cu := [none, none]
theorem E141 : (fun φ => denF φ (T141 φ) (TD141 φ) 1 (cutF Tryz.prog im 2 A141 Tryz.f236)) = R_slices_nextPowerOfTwo := by kernel_rfl
end
end Go.Proofs.YtljlaoecceagaaaGreat
set_option linter.unusedVariables false
set_option maxRecDepth 1000000
set_option maxHeartbeats 0
namespace Go.Proofs.YtljlaoecceagaaaGreat
open Ev
noncomputable section
def A128 : Cu := [none, none, none, none, none, some [0, 1, 5, 6, 30, 31, 32], none, none, none, none, none, none, none, none, none, some [0, 1, 5], none, none, none, none, none, none, some [0, 1, 5, 92, 93, 94], none, none, none, none, none, none, none, none, none, none, none, none, none, some [0, 1, 17], none, none, none, none]
theorem E128 : (fun φ => denF φ (T128 φ) (TD128 φ) 2 (cutF Tryz.prog im 2 A128 Tryz.f346)) = R_zf_search_try := by kernel_rfl
def A100 : Cu := [none, none, none, none, none, none, some [0, 1, 5, 6, 7, 20, 21], none, none, some [0, 1, 5, 6, 7, 20, 21], none, none, none, none, none, some [0, 1, 5, 6, 7, 8, 9, 10, 20, 21], none, none, some [0, 1, 5, 6, 7, 8, 9, 10, 20, 21], none, none, none, none, none, none, none, some [0, 1, 5, 6, 7, 8, 11, 20, 21, 71, 72], none, none, none, none, none, none, some [0, 1, 5, 6, 7, 8, 20, 21, 94, 95], none, none, some [0, 1, 5, 6, 7, 8, 20, 21, 94, 95], none, none, none, none, none, some [0, 1, 5, 6, 7, 8, 13, 14, 20, 21, 94, 95, 112, 113], none, none, none, none, none, none]
theorem E100 : (fun φ => denF φ (T100 φ) (TD100 φ) 2 (cutF Tryz.prog im 2 A100 Tryz.f399)) = R_zf_reduce := by kernel_rfl
def A32 : Cu := [none, some [0, 1, 2], none, some [0, 1, 2], none, none, none, none, none, none, none, none, none, none, none, none, none, none, some [2, 8, 9, 10, 11, 13, 14, 15], some [2, 8, 9, 10, 11, 13, 14, 15, 16], none, none, none, none, none, none, none, none, some [2, 8, 14, 15, 17, 18], some [2, 8, 9, 10, 14, 15, 16, 17, 18], none, none, none, none, none, none]
theorem E32 : (fun φ => denI φ (T32 φ) (TD32 φ) 3 (cutF Tryz.prog im 0 A32 Tryz.f248)) = R_math_bits_Div64 := by kernel_rfl
def A13 : Cu := [none, none, none, none, none, none, none, none, none, none, some [7, 8, 9, 10, 11], none, none, none, some [7, 8, 9, 10, 11], none, none, none, none, none, none, none, some [7, 8, 9, 10, 11, 12, 13, 14], none, none, none, none, none, some [7, 8, 9, 10, 11, 12, 13, 14, 15], none, none, none]
theorem E13 : (fun φ => denI φ (T13 φ) (TD13 φ) 2 (cutF Tryz.prog im 0 A13 Tryz.f136)) = R_galoisref01_DivMod := by kernel_rfl
def A75 : Cu := [none, none, none, none, none, none, none, none, none, some [0, 1, 6, 7, 8, 30, 31], none, none, none, none, none, none, none, some [1, 6, 7, 8, 10, 11], none, none, some [1, 6, 7, 8, 10, 11], none, none, none, none, none, some [1, 6, 7, 8, 10, 11, 12, 69, 70], none, none, none, none, none]
theorem E75 : (fun φ => denI φ (T75 φ) (TD75 φ) 2 (cutF Tryz.prog im 0 A75 Tryz.f191)) = R_exact_PDivMod := by kernel_rfl
def A194 : Cu := [none, some [0, 2, 3, 4, 10], none, none, none, some [0, 2, 3, 4, 10, 11], none, none, none, none]
theorem E194 : (fun φ => denF φ (T194 φ) (TD194 φ) 5 (cutF Tryz.prog im 2 A194 Tryz.f290)) = R_slices_siftDownCmpFunc_api_FPower := by kernel_rfl
def A181 : Cu := [none, none, none, some [4, 5, 6, 7], none, none, none, none, none, none, none, none, none, none, some [4, 6, 7, 8, 9, 11], none, none]
theorem E181 : (fun φ => denI φ (T181 φ) (TD181 φ) 2 (cutF Tryz.prog im 0 A181 Tryz.f286)) = R_ff_field_norm := by kernel_rfl
def A187 : Cu := [none, none, none, none, none, none, none, none, none, none, some [1, 2, 5, 8], none, none, none, none, none, none, none, none, some [2, 5, 7, 8, 9, 41, 42, 43], none, none, none, none, none, none]
theorem E187 : (fun φ => denI φ (T187 φ) (TD187 φ) 2 (cutF Tryz.prog im 0 A187 Tryz.f145)) = R_ff_field_split := by kernel_rfl
def A188 : Cu := [none, none, none, none, none, some [5, 6, 17, 18, 19], none, none, none, none, none, some [5, 6, 8, 17, 18, 19, 26, 27, 28], none, none, none, none, none]
theorem E188 : (fun φ => denI φ (T188 φ) (TD188 φ) 2 (cutF Tryz.prog im 1 A188 Tryz.f70)) = R_ff_Factor := by kernel_rfl
def A30 : Cu := [none, some [0, 2], none, none, some [0, 2], none, none, some [0, 2], none, none, none]
theorem E30 : (fun φ => denI φ (T30 φ) (TD30 φ) 1 (cutF Tryz.prog im 0 A30 Tryz.f161)) = R_math_bits_Len64 := by kernel_rfl
def A196 : Cu := [none, none, none, none, none, some [0, 1, 8, 9, 10, 11], none, none, none, none, some [0, 1, 8, 9, 10, 11, 12], none]
theorem E196 : (fun φ => denF φ (T196 φ) (TD196 φ) 4 (cutF Tryz.prog im 2 A196 Tryz.f228)) = R_slices_breakPatternsCmpFunc_api_FPower := by kernel_rfl
def A236 : Cu := [none, none, none, none, none, some [5, 6, 7], none, none, none, none, none, none, none, none, some [10, 39, 40, 41], none, none, none, none, none, none]
theorem E236 : (fun φ => denI φ (T236 φ) (TD236 φ) 2 (cutF Tryz.prog im 1 A236 Tryz.f87)) = R_span_MinPoly := by kernel_rfl
def A54 : Cu := [none, none, none, none, none, none, none, none, none, none, none, none, none]
theorem E54 : (fun φ => denI φ (T54 φ) (TD54 φ) 1 (cutF Tryz.prog im 0 A54 Tryz.f68)) = R_numberfield_Form := by kernel_rfl
def A140 : Cu := [none, none, none, none, none, some [0, 3, 8, 9, 10, 11], none, none, none, none, some [0, 3, 8, 9, 12], none, none, none, none]
theorem E140 : (fun φ => denF φ (T140 φ) (TD140 φ) 4 (cutF Tryz.prog im 2 A140 Tryz.f349)) = R_slices_heapSortCmpFunc_api_ZPower := by kernel_rfl
def A85 : Cu := [none, none, none, none, none, none, none, none]
theorem E85 : (fun φ => denI φ (T85 φ) (TD85 φ) 1 (cutF Tryz.prog im 0 A85 Tryz.f393)) = R_exact_IntTo := by kernel_rfl
def A117 : Cu := [none, none, none, none, none, some [3, 4, 9, 21, 22, 23], none, none, none, none, none]
theorem E117 : (fun φ => denI φ (T117 φ) (TD117 φ) 4 (cutF Tryz.prog im 0 A117 Tryz.f407)) = R_zf_ring_combine := by kernel_rfl
def A4 : Cu := [none, none, none, none, some [0, 3, 4], none, none, none, none, none, none, some [0, 3, 4, 5, 6], none, none, none, none]
theorem E4 : (fun φ => denI φ (T4 φ) (TD4 φ) 1 (cutF Tryz.prog im 1 A4 Tryz.f214)) = R_galoisref01_limbs := by kernel_rfl
def A64 : Cu := [none, none, none, none, none, none, none]
theorem E64 : (fun φ => denI φ (T64 φ) (TD64 φ) 2 (cutF Tryz.prog im 0 A64 Tryz.f240)) = R_exact_NatCmp := by kernel_rfl
def A161 : Cu := [none, none, some [0], none, none, none]
theorem E161 : (fun φ => denI φ (T161 φ) (TD161 φ) 1 (cutF Tryz.prog im 0 A161 Tryz.f281)) = R_ff_trim := by kernel_rfl
def A76 : Cu := [none, none, none, none, some [3, 5, 11, 12, 13], none, none, none, none, none]
theorem E76 : (fun φ => denI φ (T76 φ) (TD76 φ) 2 (cutF Tryz.prog im 0 A76 Tryz.f41)) = R_exact_PScale := by kernel_rfl
def A142 : Cu := [none, none, none, none, none]
theorem E142 : (fun φ => denI φ (T142 φ) (TD142 φ) 1 (cutF Tryz.prog im 0 A142 Tryz.f237)) = R_slices_xorshift_Next := by kernel_rfl
def A159 : Cu := [none, none, none, none, some [0, 1, 5, 14, 15], none, none, none, none, none]
theorem E159 : (fun φ => denI φ (T159 φ) (TD159 φ) 2 (cutF Tryz.prog im 0 A159 Tryz.f99)) = R_exact_PAdd := by kernel_rfl
def A25 : Cu := [none, none, none, none, some [1, 2, 5, 6], none, none, none, none]
theorem E25 : (fun φ => denI φ (T25 φ) (TD25 φ) 2 (cutF Tryz.prog im 0 A25 Tryz.f9)) = R_galoisref06_Monomial := by kernel_rfl
def A228 : Cu := [none, none, none, none, none, none, some [0, 1, 12, 13], none, none, none, none, none, none, none]
theorem E228 : (fun φ => denI φ (T228 φ) (TD228 φ) 2 (cutF Tryz.prog im 0 A228 Tryz.f24)) = R_galoisref06_Same := by kernel_rfl
def A148 : Cu := [none, none, some [0, 8, 9], none, none, none, none]
theorem E148 : (fun φ => denF φ (T148 φ) (TD148 φ) 4 (cutF Tryz.prog im 2 A148 Tryz.f352)) = R_slices_reverseRangeCmpFunc_api_ZPower := by kernel_rfl
def A79 : Cu := [none, none, none, none, some [0, 3, 4], none, none, none, none]
theorem E79 : (fun φ => denI φ (T79 φ) (TD79 φ) 1 (cutF Tryz.prog im 0 A79 Tryz.f201)) = R_exact_PDerivative := by kernel_rfl
def A156 : Cu := [none, none, none, none, none, none, none, none, none, none, none, none, none]
theorem E156 : (fun φ => denI φ (T156 φ) (TD156 φ) 1 (cutF Tryz.prog im 0 A156 Tryz.f48)) = R_numberfield_Check := by kernel_rfl
def A198 : Cu := [none, none, none, none, none]
theorem E198 : (fun φ => denF φ (T198 φ) (TD198 φ) 6 (cutF Tryz.prog im 2 A198 Tryz.f292)) = R_slices_medianCmpFunc_api_FPower := by kernel_rfl
def A78 : Cu := [none, none, some [0, 1], none, none, none, none]
theorem E78 : (fun φ => denI φ (T78 φ) (TD78 φ) 2 (cutF Tryz.prog im 0 A78 Tryz.f200)) = R_exact_PGcd := by kernel_rfl
def A38 : Cu := [none, none, none, some [5, 6], none, none, none, none]
theorem E38 : (fun φ => denI φ (T38 φ) (TD38 φ) 2 (cutF Tryz.prog im 0 A38 Tryz.f91)) = R_exact_NatGcd := by kernel_rfl
def A57 : Cu := [none, none]
theorem E57 : (fun φ => denI φ (T57 φ) (TD57 φ) 2 (cutF Tryz.prog im 0 A57 Tryz.f163)) = R_exact_IntMake := by kernel_rfl
def A162 : Cu := [none, none, none, none, none, none]
theorem E162 : (fun φ => denI φ (T162 φ) (TD162 φ) 2 (cutF Tryz.prog im 0 A162 Tryz.f284)) = R_ff_field_reduce := by kernel_rfl
def A184 : Cu := [none, none]
theorem E184 : (fun φ => denI φ (T184 φ) (TD184 φ) 2 (cutF Tryz.prog im 0 A184 Tryz.f289)) = R_exact_Div := by kernel_rfl
def A62 : Cu := [none, none, none]
theorem E62 : (fun φ => denI φ (T62 φ) (TD62 φ) 2 (cutF Tryz.prog im 0 A62 Tryz.f90)) = R_exact_NatDivMod := by kernel_rfl
def A0 : Cu := [none, none]
theorem E0 : (fun φ => denI φ (T0 φ) (TD0 φ) 1 (cutF Tryz.prog im 0 A0 Tryz.f61)) = R_galoisref03_Whole := by kernel_rfl
def A137 : Cu := [none, none]
theorem E137 : (fun φ => denI φ (T137 φ) (TD137 φ) 2 (cutF Tryz.prog im 0 A137 Tryz.f258)) = R_zf_Factors_1 := by kernel_rfl
def A153 : Cu := [none]
theorem E153 : (fun φ => denF φ (T153 φ) (TD153 φ) 2 (cutF Tryz.prog im 2 A153 Tryz.f257)) = R_slices_SortFunc_api_ZPower_api_ZPower := by kernel_rfl
def A112 : Cu := [none, none]
theorem E112 : (fun φ => denI φ (T112 φ) (TD112 φ) 3 (cutF Tryz.prog im 0 A112 Tryz.f298)) = R_zf_ring_mul := by kernel_rfl
def A129 : Cu := [none, none, none, none, none]
theorem E129 : (fun φ => denI φ (T129 φ) (TD129 φ) 1 (cutF Tryz.prog im 1 A129 Tryz.f347)) = R_slices_Clone_int_int := by kernel_rfl
def A97 : Cu := [none, none]
theorem E97 : (fun φ => denI φ (T97 φ) (TD97 φ) 4 (cutF Tryz.prog im 0 A97 Tryz.f398)) = R_fp_MulMod := by kernel_rfl
def A46 : Cu := [none, none]
theorem E46 : (fun φ => denI φ (T46 φ) (TD46 φ) 1 (cutF Tryz.prog im 0 A46 Tryz.f88)) = R_exact_NatOf := by kernel_rfl
end
end Go.Proofs.YtljlaoecceagaaaGreat
