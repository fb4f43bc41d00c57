/-
  Proved: the statement WorldNilCardSaid, as the row gives it, under no condition of its own.
-/
import Derived.Test.YtcggkokeggfdkaaGreatDoorWnT1
import Derived.Test.YtcggkokeggfdkaaGreatDoorWnT3
import Derived.Test.YtcggkokeggfdkaaGreatDoorWnA
set_option linter.all false
set_option linter.unusedSimpArgs false
set_option linter.unusedVariables false
set_option maxHeartbeats 16000000
namespace Go.Proofs.YtcggkokeggfdkaaGreatDoor
open Go Go.Sl Go.ChangeShapes Go.WideShapes Go.ChangeAt Go.RowKit
set_option maxRecDepth 100000
theorem contract_WorldNil (H : Type) (enc : TypeId × Value → H) (W : World) (base : Nat) (args : Array Value) (ds gs : List (DataW H)) (before : List MemPlace)
  (hval : ∀ (j : Nat) t v, Tryz.f5.params[j]? = some t → args[j]? = some v → Value.okWide Tryz.prog W .any base t v)
  (hW : DataW.Whole enc Tryz.prog Tryz.f5.params.toList Rows.worldNilSpec.vars false W args.toList ds gs before) (hL : laidMetH Tryz.prog Rows.worldNilRow.laid W) :
  Calls Tryz.prog 5 args W fun e W' => ∃ v, e = .returned v ∧ Rows.worldNilSpec.post enc Tryz.prog Tryz.f5 false true false false W args v W' := by
 have hT : TabS W := tab_laid2 hL
 have hW' := hW
 obtain ⟨p, q, hA0, hV, hbef, hfz, hnd⟩ := hW
 have hA : DataW.TrodAll enc Tryz.prog W 0 (fun _ => true) true Tryz.f5.params.toList args.toList ds p := hA0
 have hAk := hA
 rw [Tryz.params5] at hA hval
 obtain ⟨rfl, rfl⟩ := trodVars_none hV
 obtain ⟨v0, vs0, d0, ds0, p0, q0, hargs, rfl, hp, h0, r0⟩ := trodAll_cons hA
 obtain ⟨v1, vs1, d1, ds1, p1, q1, rfl, rfl, rfl, h1, r1⟩ := trodAll_cons r0
 obtain ⟨v2, vs2, d2, ds2, p2, q2, rfl, rfl, rfl, h2, r2⟩ := trodAll_cons r1
 obtain ⟨v3, vs3, d3, ds3, p3, q3, rfl, rfl, rfl, h3, r3⟩ := trodAll_cons r2
 obtain ⟨rfl, rfl, rfl⟩ := trodAll_nil r3
 obtain rfl : args = #[v0, v1, v2, v3] := by cases args; simp_all
 obtain ⟨fuel0, hf0⟩ := h0
 obtain ⟨z0, rfl, hz0⟩ : ∃ z, v0 = .int .i64 z ∧ -9223372036854775808 ≤ z ∧ z ≤ 9223372036854775807 := by
  obtain ⟨z, hzv⟩ := okWide_int u3 (hval 0 3 v0 rfl rfl)
  subst hzv
  obtain ⟨m, e, _, hw⟩ := DataW.trod_int u3 hf0
  cases e
  exact ⟨_, rfl, wf_bd hw⟩
 obtain ⟨fuel1, hf1⟩ := h1
 obtain ⟨z1, rfl, hz1⟩ : ∃ z, v1 = .int .i64 z ∧ -9223372036854775808 ≤ z ∧ z ≤ 9223372036854775807 := by
  obtain ⟨z, hzv⟩ := okWide_int u3 (hval 1 3 v1 rfl rfl)
  subst hzv
  obtain ⟨m, e, _, hw⟩ := DataW.trod_int u3 hf1
  cases e
  exact ⟨_, rfl, wf_bd hw⟩
 obtain ⟨ad2, len2, cap2, rfl⟩ := okWide_slice u28 (hval 2 28 v2 rfl rfl)
 obtain ⟨s0, s1, s2, s3, s4, s5, ad, n, cap, rfl, hcap⟩ := open_stv0 (hval 3 47 v3 rfl rfl) h3
 have walk := (worldNil_pure (c := z0) (p := z1) (adb := ad2) (nb := len2) (capb := cap2) (s0 := s0) (s1 := s1) (s2 := s2) (s3 := s3) (s4 := s4) (s5 := s5) (ad := ad) hcap).calls hT
 refine walk.mono fun e W' ⟨he, hb⟩ => ?_
 subst he
 exact ⟨_, rfl, law_post kids full (by rw [Tryz.params5]; decide) hW' hAk rfl hbef rfl rfl rfl rfl u4 hb⟩
theorem lifted_WorldNil (os : Os) (started : os.Started) (H : Type) (enc : TypeId × Value → H) (F : Stop.Interp) :
  ReturnsInHanded {} Tryz.checked os 5 .any ((OpenSpec.ofChange Rows.worldNilSpec).preRow enc Tryz.prog Tryz.f5 Rows.worldNilRow.domain false Rows.worldNilRow.laid) (((OpenSpec.ofChange Rows.worldNilSpec).at F).post enc Tryz.prog Tryz.f5 false true false false) := by
 have hx : DataW.whole enc Tryz.prog ((laidWorld2 os).forCall (fun _ _ => 0) ⟨#[], #[.int .i64 0, .int .i64 0, .slice none 0 0, .agg #[.int .i64 0, .int .i64 0, .int .i64 0, .int .i64 0, .int .u64 0, .int .u64 0, .slice none 0 0]], []⟩).memory Tryz.f5.params.toList Rows.worldNilSpec.vars false (#[.int .i64 0, .int .i64 0, .slice none 0 0, .agg #[.int .i64 0, .int .i64 0, .int .i64 0, .int .i64 0, .int .u64 0, .int .u64 0, .slice none 0 0]] : Array Value).toList 8 = some ([.lit (.int .i64 0), .lit (.int .i64 0), .nil, .agg [.lit (.int .i64 0), .lit (.int .i64 0), .lit (.int .i64 0), .lit (.int .i64 0), .lit (.int .u64 0), .lit (.int .u64 0), .nil]], [], []) := by kernel_rfl
 refine returnsInHanded_of_row (C := Tryz.checked) (s := OpenSpec.ofChange Rows.worldNilSpec) own started zk Tryz.func5
  (witness_row_atRef (enc := enc) (C := Tryz.checked) false (laidWorld2 os) #[.int .i64 0, .int .i64 0, .slice none 0 0, .agg #[.int .i64 0, .int .i64 0, .int .i64 0, .int .i64 0, .int .u64 0, .int .u64 0, .slice none 0 0]] rfl zk zk zk
   (OpenSpec.preRow_of_cond 8 hx zk (fun k hk => by cases hk) zk (laid_met2 os _))) ?_
 intro W base args ds gs before hval hW _ _ _ hL _ _
 exact contract_WorldNil H enc W base args ds gs before hval hW hL
theorem ip_WorldNil : (Rows.worldNilRow.inPlace == Tryz.prog.inPlace 5) = true := by kernel_rfl
theorem uf_WorldNil : (Rows.worldNilRow.unfollowed == Tryz.prog.unfollowed 5) = true := by kernel_rfl
theorem rc_WorldNil : (Rows.worldNilRow.recurses == Tryz.prog.recurses 5) = true := by kernel_rfl
def zzG (P : Program) (g : FuncId) : List Nat := ((P.funcs[g]?).bind (·.body)).elim [] Code.globalsNamed
def zzE (P : Program) (g : FuncId) : Option String := (P.funcs[g]?).bind fun fn => if fn.body.isNone then entryReads.lookup fn.name else none
theorem zz_is (P : Program) (f : FuncId) : P.varsNamed f = ((((P.closure f).flatMap (zzG P)).eraseDups).filterMap (fun g => (P.globals[g]?).map (·.name)) ++ (P.closure f).filterMap (zzE P)).eraseDups := rfl
theorem zz_cl : Tryz.prog.closure 5 = [5, 25, 15, 24, 60, 68, 126, 189, 188, 127, 190, 191, 192, 253, 254, 128, 194, 193, 255, 322, 182, 323, 407, 470, 362, 251, 69, 16, 53, 70, 26, 14, 49, 111, 178, 248, 179, 249, 112, 113, 180, 250, 114, 50, 51, 52, 27, 28, 71, 18, 57, 58, 55, 115, 181, 59, 61, 116, 117, 183] ++ ([184, 252, 62, 63, 118, 119, 17, 56, 54, 88, 85, 147, 72, 130, 196, 129, 73, 131, 195, 257, 333, 334, 256, 324, 330, 413, 325, 408, 326, 409, 410, 327, 411, 412, 471, 328, 329, 331, 332, 29, 30, 34, 77, 141, 142, 143, 90, 89, 203, 92, 123, 45, 91, 31, 11, 46, 93, 94, 149, 207] ++ ([150, 208, 268, 343, 358, 430, 415, 459, 510, 509, 197, 258, 259, 416, 43, 472, 522, 232, 233, 344, 417, 473, 474, 422, 475, 269, 171, 234, 303, 388, 458, 508, 476, 345, 419, 418, 347, 346, 420, 421, 209, 270, 210, 271, 272, 218, 273, 348, 349, 423, 308, 391, 461, 460, 511, 552, 285, 364, 393, 350] ++ ([424, 274, 275, 301, 351, 425, 276, 352, 426, 355, 277, 353, 354, 427, 477, 361, 435, 483, 482, 534, 357, 428, 429, 363, 278, 356, 211, 279, 47, 110, 136, 152, 153, 151, 212, 95, 154, 213, 280, 281, 359, 431, 478, 479, 523, 524, 480, 525, 360, 433, 434, 432, 481, 526, 527, 565, 528, 529, 566, 567] ++ ([580, 530, 531, 532, 533, 214, 282, 155, 165, 229, 215, 283, 284, 216, 217, 219, 286, 220, 167, 166, 10, 39, 37, 78, 79, 80, 82, 144, 81, 40, 41, 83, 145, 204, 205, 267, 341, 342, 84, 146, 42, 44, 86, 87, 148, 206, 230, 48, 221, 104, 168, 169, 231, 287, 156, 222, 288, 125, 157, 223] ++ ([289, 365, 366, 436, 437, 484, 488, 535, 489, 368, 367, 369, 370, 438, 485, 536, 486, 537, 568, 371, 372, 439, 487, 539, 538, 540, 440, 441, 442, 490, 224, 291, 245, 320, 319, 403, 374, 443, 310, 290, 373, 292, 375, 244, 317, 318, 309, 392, 238, 174, 239, 240, 311, 312, 395, 394, 313, 397, 463, 462] ++ ([512, 553, 554, 576, 555, 556, 577, 578, 584, 557, 558, 559, 560, 464, 465, 396, 314, 398, 466, 399, 307, 389, 390, 241, 315, 401, 400, 467, 316, 402, 175, 242, 243, 376, 444, 491, 445, 492, 541, 569, 122, 542, 571, 100, 65, 570, 543, 572, 493, 447, 446, 494, 544, 377, 448, 495, 449, 379, 380, 450] ++ ([496, 187, 66, 124, 186, 386, 135, 451, 497, 452, 381, 12, 453, 498, 454, 499, 500, 545, 573, 581, 585, 582, 501, 546, 455, 502, 503, 547, 456, 504, 457, 505, 548, 384, 506, 507, 549, 550, 574, 551, 575, 583, 586, 587, 378, 293, 382, 225, 226, 294, 295, 296, 105, 170, 297, 383, 298, 299, 385, 133] ++ ([387, 300, 158, 97, 160, 96, 159, 98, 99, 101, 161, 227, 162, 102, 163, 164, 228, 302, 103, 107, 106, 108, 172, 109, 173, 235, 304, 305, 306, 236, 237, 176, 177, 246, 247, 321, 404, 405, 468, 406, 469, 513, 519, 564, 514, 561, 515, 516, 562, 563, 579, 517, 518, 520, 521, 13, 32, 74, 132, 19] ++ ([75, 134, 33, 20, 64, 121, 120, 185, 76, 137, 198, 260, 261, 335, 336, 262, 263, 337, 338, 414, 138, 139, 199, 264, 140, 200, 265, 339, 266, 340, 201, 202]))))))))) := by kernel_rfl
theorem zz_g0 : ([5, 25, 15, 24, 60, 68, 126, 189, 188, 127, 190, 191, 192, 253, 254, 128, 194, 193, 255, 322, 182, 323, 407, 470, 362, 251, 69, 16, 53, 70, 26, 14, 49, 111, 178, 248, 179, 249, 112, 113, 180, 250, 114, 50, 51, 52, 27, 28, 71, 18, 57, 58, 55, 115, 181, 59, 61, 116, 117, 183] : List FuncId).flatMap (zzG Tryz.prog) = [] := by kernel_rfl
theorem zz_e0 : ([5, 25, 15, 24, 60, 68, 126, 189, 188, 127, 190, 191, 192, 253, 254, 128, 194, 193, 255, 322, 182, 323, 407, 470, 362, 251, 69, 16, 53, 70, 26, 14, 49, 111, 178, 248, 179, 249, 112, 113, 180, 250, 114, 50, 51, 52, 27, 28, 71, 18, 57, 58, 55, 115, 181, 59, 61, 116, 117, 183] : List FuncId).filterMap (zzE Tryz.prog) = [] := by kernel_rfl
theorem zz_g1 : ([184, 252, 62, 63, 118, 119, 17, 56, 54, 88, 85, 147, 72, 130, 196, 129, 73, 131, 195, 257, 333, 334, 256, 324, 330, 413, 325, 408, 326, 409, 410, 327, 411, 412, 471, 328, 329, 331, 332, 29, 30, 34, 77, 141, 142, 143, 90, 89, 203, 92, 123, 45, 91, 31, 11, 46, 93, 94, 149, 207] : List FuncId).flatMap (zzG Tryz.prog) = [] := by kernel_rfl
theorem zz_e1 : ([184, 252, 62, 63, 118, 119, 17, 56, 54, 88, 85, 147, 72, 130, 196, 129, 73, 131, 195, 257, 333, 334, 256, 324, 330, 413, 325, 408, 326, 409, 410, 327, 411, 412, 471, 328, 329, 331, 332, 29, 30, 34, 77, 141, 142, 143, 90, 89, 203, 92, 123, 45, 91, 31, 11, 46, 93, 94, 149, 207] : List FuncId).filterMap (zzE Tryz.prog) = [] := by kernel_rfl
theorem zz_g2 : ([150, 208, 268, 343, 358, 430, 415, 459, 510, 509, 197, 258, 259, 416, 43, 472, 522, 232, 233, 344, 417, 473, 474, 422, 475, 269, 171, 234, 303, 388, 458, 508, 476, 345, 419, 418, 347, 346, 420, 421, 209, 270, 210, 271, 272, 218, 273, 348, 349, 423, 308, 391, 461, 460, 511, 552, 285, 364, 393, 350] : List FuncId).flatMap (zzG Tryz.prog) = [2] := by kernel_rfl
theorem zz_e2 : ([150, 208, 268, 343, 358, 430, 415, 459, 510, 509, 197, 258, 259, 416, 43, 472, 522, 232, 233, 344, 417, 473, 474, 422, 475, 269, 171, 234, 303, 388, 458, 508, 476, 345, 419, 418, 347, 346, 420, 421, 209, 270, 210, 271, 272, 218, 273, 348, 349, 423, 308, 391, 461, 460, 511, 552, 285, 364, 393, 350] : List FuncId).filterMap (zzE Tryz.prog) = [] := by kernel_rfl
theorem zz_g3 : ([424, 274, 275, 301, 351, 425, 276, 352, 426, 355, 277, 353, 354, 427, 477, 361, 435, 483, 482, 534, 357, 428, 429, 363, 278, 356, 211, 279, 47, 110, 136, 152, 153, 151, 212, 95, 154, 213, 280, 281, 359, 431, 478, 479, 523, 524, 480, 525, 360, 433, 434, 432, 481, 526, 527, 565, 528, 529, 566, 567] : List FuncId).flatMap (zzG Tryz.prog) = [] := by kernel_rfl
theorem zz_e3 : ([424, 274, 275, 301, 351, 425, 276, 352, 426, 355, 277, 353, 354, 427, 477, 361, 435, 483, 482, 534, 357, 428, 429, 363, 278, 356, 211, 279, 47, 110, 136, 152, 153, 151, 212, 95, 154, 213, 280, 281, 359, 431, 478, 479, 523, 524, 480, 525, 360, 433, 434, 432, 481, 526, 527, 565, 528, 529, 566, 567] : List FuncId).filterMap (zzE Tryz.prog) = [] := by kernel_rfl
theorem zz_g4 : ([580, 530, 531, 532, 533, 214, 282, 155, 165, 229, 215, 283, 284, 216, 217, 219, 286, 220, 167, 166, 10, 39, 37, 78, 79, 80, 82, 144, 81, 40, 41, 83, 145, 204, 205, 267, 341, 342, 84, 146, 42, 44, 86, 87, 148, 206, 230, 48, 221, 104, 168, 169, 231, 287, 156, 222, 288, 125, 157, 223] : List FuncId).flatMap (zzG Tryz.prog) = [0, 0, 0, 0, 1] := by kernel_rfl
theorem zz_e4 : ([580, 530, 531, 532, 533, 214, 282, 155, 165, 229, 215, 283, 284, 216, 217, 219, 286, 220, 167, 166, 10, 39, 37, 78, 79, 80, 82, 144, 81, 40, 41, 83, 145, 204, 205, 267, 341, 342, 84, 146, 42, 44, 86, 87, 148, 206, 230, 48, 221, 104, 168, 169, 231, 287, 156, 222, 288, 125, 157, 223] : List FuncId).filterMap (zzE Tryz.prog) = [] := by kernel_rfl
theorem zz_g5 : ([289, 365, 366, 436, 437, 484, 488, 535, 489, 368, 367, 369, 370, 438, 485, 536, 486, 537, 568, 371, 372, 439, 487, 539, 538, 540, 440, 441, 442, 490, 224, 291, 245, 320, 319, 403, 374, 443, 310, 290, 373, 292, 375, 244, 317, 318, 309, 392, 238, 174, 239, 240, 311, 312, 395, 394, 313, 397, 463, 462] : List FuncId).flatMap (zzG Tryz.prog) = [] := by kernel_rfl
theorem zz_e5 : ([289, 365, 366, 436, 437, 484, 488, 535, 489, 368, 367, 369, 370, 438, 485, 536, 486, 537, 568, 371, 372, 439, 487, 539, 538, 540, 440, 441, 442, 490, 224, 291, 245, 320, 319, 403, 374, 443, 310, 290, 373, 292, 375, 244, 317, 318, 309, 392, 238, 174, 239, 240, 311, 312, 395, 394, 313, 397, 463, 462] : List FuncId).filterMap (zzE Tryz.prog) = [] := by kernel_rfl
theorem zz_g6 : ([512, 553, 554, 576, 555, 556, 577, 578, 584, 557, 558, 559, 560, 464, 465, 396, 314, 398, 466, 399, 307, 389, 390, 241, 315, 401, 400, 467, 316, 402, 175, 242, 243, 376, 444, 491, 445, 492, 541, 569, 122, 542, 571, 100, 65, 570, 543, 572, 493, 447, 446, 494, 544, 377, 448, 495, 449, 379, 380, 450] : List FuncId).flatMap (zzG Tryz.prog) = [] := by kernel_rfl
theorem zz_e6 : ([512, 553, 554, 576, 555, 556, 577, 578, 584, 557, 558, 559, 560, 464, 465, 396, 314, 398, 466, 399, 307, 389, 390, 241, 315, 401, 400, 467, 316, 402, 175, 242, 243, 376, 444, 491, 445, 492, 541, 569, 122, 542, 571, 100, 65, 570, 543, 572, 493, 447, 446, 494, 544, 377, 448, 495, 449, 379, 380, 450] : List FuncId).filterMap (zzE Tryz.prog) = [] := by kernel_rfl
theorem zz_g7 : ([496, 187, 66, 124, 186, 386, 135, 451, 497, 452, 381, 12, 453, 498, 454, 499, 500, 545, 573, 581, 585, 582, 501, 546, 455, 502, 503, 547, 456, 504, 457, 505, 548, 384, 506, 507, 549, 550, 574, 551, 575, 583, 586, 587, 378, 293, 382, 225, 226, 294, 295, 296, 105, 170, 297, 383, 298, 299, 385, 133] : List FuncId).flatMap (zzG Tryz.prog) = [] := by kernel_rfl
theorem zz_e7 : ([496, 187, 66, 124, 186, 386, 135, 451, 497, 452, 381, 12, 453, 498, 454, 499, 500, 545, 573, 581, 585, 582, 501, 546, 455, 502, 503, 547, 456, 504, 457, 505, 548, 384, 506, 507, 549, 550, 574, 551, 575, 583, 586, 587, 378, 293, 382, 225, 226, 294, 295, 296, 105, 170, 297, 383, 298, 299, 385, 133] : List FuncId).filterMap (zzE Tryz.prog) = [] := by kernel_rfl
theorem zz_g8 : ([387, 300, 158, 97, 160, 96, 159, 98, 99, 101, 161, 227, 162, 102, 163, 164, 228, 302, 103, 107, 106, 108, 172, 109, 173, 235, 304, 305, 306, 236, 237, 176, 177, 246, 247, 321, 404, 405, 468, 406, 469, 513, 519, 564, 514, 561, 515, 516, 562, 563, 579, 517, 518, 520, 521, 13, 32, 74, 132, 19] : List FuncId).flatMap (zzG Tryz.prog) = [] := by kernel_rfl
theorem zz_e8 : ([387, 300, 158, 97, 160, 96, 159, 98, 99, 101, 161, 227, 162, 102, 163, 164, 228, 302, 103, 107, 106, 108, 172, 109, 173, 235, 304, 305, 306, 236, 237, 176, 177, 246, 247, 321, 404, 405, 468, 406, 469, 513, 519, 564, 514, 561, 515, 516, 562, 563, 579, 517, 518, 520, 521, 13, 32, 74, 132, 19] : List FuncId).filterMap (zzE Tryz.prog) = [] := by kernel_rfl
theorem zz_g9 : ([75, 134, 33, 20, 64, 121, 120, 185, 76, 137, 198, 260, 261, 335, 336, 262, 263, 337, 338, 414, 138, 139, 199, 264, 140, 200, 265, 339, 266, 340, 201, 202] : List FuncId).flatMap (zzG Tryz.prog) = [3, 5] := by kernel_rfl
theorem zz_e9 : ([75, 134, 33, 20, 64, 121, 120, 185, 76, 137, 198, 260, 261, 335, 336, 262, 263, 337, 338, 414, 138, 139, 199, 264, 140, 200, 265, 339, 266, 340, 201, 202] : List FuncId).filterMap (zzE Tryz.prog) = [] := by kernel_rfl
theorem vn_WorldNil : (Rows.worldNilRow.named == Tryz.prog.varsNamed 5) = true := by
 rw [zz_is, zz_cl, List.flatMap_append, zz_g0, List.flatMap_append, zz_g1, List.flatMap_append, zz_g2, List.flatMap_append, zz_g3, List.flatMap_append, zz_g4, List.flatMap_append, zz_g5, List.flatMap_append, zz_g6, List.flatMap_append, zz_g7, List.flatMap_append, zz_g8, zz_g9, List.filterMap_append, zz_e0, List.filterMap_append, zz_e1, List.filterMap_append, zz_e2, List.filterMap_append, zz_e3, List.filterMap_append, zz_e4, List.filterMap_append, zz_e5, List.filterMap_append, zz_e6, List.filterMap_append, zz_e7, List.filterMap_append, zz_e8, zz_e9]
 kernel_rfl
theorem pk_WorldNil : (Rows.worldNilRow.plainKeys == Tryz.prog.plainKeys) = true := by kernel_rfl
theorem lf_WorldNil : (Rows.worldNilRow.lifted == Tryz.prog.liftsFinal) = true := by kernel_rfl
theorem mk_WorldNil : (Tryz.prog.make == some Rows.worldNilRow.make) = true := by kernel_rfl
theorem wr_WorldNil : Tryz.f5.isWrapper Tryz.prog Rows.worldNilRow.wrapper Rows.worldNilRow.mainSum := by unfold Func.isWrapper; first | (rw [if_pos (by decide +kernel)]; kernel_rfl) | (rw [if_neg (by decide +kernel)]; exact ⟨rfl, rfl⟩)
theorem nmd_WorldNil : Tryz.prog.funcNamed Rows.worldNilRow.func = some 5 := by kernel_rfl
theorem jf_WorldNil : joinedFacts Tryz.prog 5 Tryz.f5 Rows.worldNilSpec Rows.worldNilRow = true := joined_parts zk p_laid p_rowed zk zk zk p_stops zk p_knobs ip_WorldNil uf_WorldNil rc_WorldNil vn_WorldNil zk zk zk zk zk zk zk zk zk pk_WorldNil zk p_heard p_enter lf_WorldNil mk_WorldNil zk zk zk zk
theorem said_WorldNil : Rows.WorldNilSaid :=
 OpenClaim.holds_of_cond 5 Tryz.f5 rfl rfl rfl rfl rfl rfl rfl ⟨rfl, rfl, rfl, rfl, rfl⟩ rfl rfl rfl rfl rfl nmd_WorldNil Tryz.func5 jf_WorldNil
  (of_decide_eq_true zk) wr_WorldNil
  (fun os started H enc _ F => by rw [OpenClaim.pre_eq_preRow]; exact lifted_WorldNil os started H enc F)
def lookZz (P : Program) (g : FuncId) : Bool := !([] : List FuncId).contains g && (P.funcs[g]?).any fun fn => match fn.body with | some c => c.looks P | none => false
theorem looks_is (P : Program) : P.looks [] = (List.range P.funcs.size).any (lookZz P) := rfl
theorem q_size : (List.range Tryz.prog.funcs.size).length ≤ 60 * 11 := by rw [List.length_range]; decide +kernel
theorem q_k0 : (((List.range Tryz.prog.funcs.size).drop (60 * 0)).take 60).any (lookZz Tryz.prog) = false := by kernel_rfl
theorem q_k1 : (((List.range Tryz.prog.funcs.size).drop (60 * 1)).take 60).any (lookZz Tryz.prog) = false := by kernel_rfl
theorem q_k2 : (((List.range Tryz.prog.funcs.size).drop (60 * 2)).take 60).any (lookZz Tryz.prog) = false := by kernel_rfl
theorem q_k3 : (((List.range Tryz.prog.funcs.size).drop (60 * 3)).take 60).any (lookZz Tryz.prog) = false := by kernel_rfl
theorem q_k4 : (((List.range Tryz.prog.funcs.size).drop (60 * 4)).take 60).any (lookZz Tryz.prog) = false := by kernel_rfl
theorem q_k5 : (((List.range Tryz.prog.funcs.size).drop (60 * 5)).take 60).any (lookZz Tryz.prog) = false := by kernel_rfl
theorem q_k6 : (((List.range Tryz.prog.funcs.size).drop (60 * 6)).take 60).any (lookZz Tryz.prog) = false := by kernel_rfl
theorem q_k7 : (((List.range Tryz.prog.funcs.size).drop (60 * 7)).take 60).any (lookZz Tryz.prog) = false := by kernel_rfl
theorem q_k8 : (((List.range Tryz.prog.funcs.size).drop (60 * 8)).take 60).any (lookZz Tryz.prog) = false := by kernel_rfl
theorem q_k9 : (((List.range Tryz.prog.funcs.size).drop (60 * 9)).take 60).any (lookZz Tryz.prog) = false := by kernel_rfl
theorem q_k10 : (((List.range Tryz.prog.funcs.size).drop (60 * 10)).take 60).any (lookZz Tryz.prog) = false := by kernel_rfl
theorem q_looks : false = Tryz.prog.looks [] := by
 rw [looks_is]
 refine (any_chunks zd q_size fun j hj => ?_).symm
 match j, hj with
 | 0, _ => exact q_k0
 | 1, _ => exact q_k1
 | 2, _ => exact q_k2
 | 3, _ => exact q_k3
 | 4, _ => exact q_k4
 | 5, _ => exact q_k5
 | 6, _ => exact q_k6
 | 7, _ => exact q_k7
 | 8, _ => exact q_k8
 | 9, _ => exact q_k9
 | 10, _ => exact q_k10
 | n + 11, h => exact absurd h zO
theorem q_w3 : Tryz.prog.wantsStandIn 3 = false := by kernel_rfl
theorem q_w28 : Tryz.prog.wantsStandIn 28 = false := by kernel_rfl
theorem q_w47 : Tryz.prog.wantsStandIn 47 = false := by kernel_rfl
theorem plain_WorldNil (f : FuncId) (fn : Func) (hf : Tryz.pinned.checked.prog.funcNamed "detent/detentlaw32.WorldNil" = some f) (hfn : Tryz.pinned.checked.prog.funcs[f]? = some fn) :
  false = Tryz.pinned.checked.prog.looks [] ∧ ∀ (j : Nat) t, fn.params[j]? = some t → Tryz.pinned.checked.prog.wantsStandIn t = false := by
 obtain rfl : f = 5 := Option.some.inj ((show Tryz.prog.funcNamed "detent/detentlaw32.WorldNil" = some 5 from nmd_WorldNil).symm.trans hf) |>.symm
 obtain rfl : fn = Tryz.f5 := (Option.some.inj (Tryz.func5.symm.trans hfn)).symm
 refine ⟨q_looks, fun j t ht => ?_⟩
 rw [Tryz.params5] at ht
 have hm := Array.mem_of_getElem? ht
 have hall : ∀ t ∈ (#[3, 3, 28, 47] : Array TypeId), Tryz.prog.wantsStandIn t = false := by
  intro t ht
  simp only [List.mem_toArray, List.mem_cons, List.not_mem_nil, or_false] at ht
  rcases ht with rfl | rfl | rfl | rfl
  ·exact q_w3
  ·exact q_w3
  ·exact q_w28
  ·exact q_w47
 exact hall t hm
theorem worldNil_card : Rows.WorldNilCardSaid :=
 Claim7.holds_tied_plain_at .later [] _ _ _ _ said_WorldNil (fun _ h => by cases h) zk (fun _ h => by cases h) worldNil_row_tie rfl ⟨rfl, rfl⟩ zk rfl plain_WorldNil (goes_none p_goes rfl)
end Go.Proofs.YtcggkokeggfdkaaGreatDoor
