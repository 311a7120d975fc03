/- Part 10 of the texts of this claim: Ya Yb Yc Yd Ye. -/
import Derived.Test.YtohmgkcdjapinaaM09
set_option linter.unusedVariables false
set_option linter.unusedSimpArgs false
namespace Go.Proofs.Ytohmgkcdjapinaa.Lw
theorem kYa0 {p : Prop} (h : p := by ((simp (disch := omega) only [ev_tmp, ev_const, ev_func, ev_global, upd_app, val_move, val_pick, pickV_true, pickV_false, pickV_bool, val_nilck, nilckV_ptr, val_bin, bin_add, bin_sub, bin_mul, bin_eql, bin_neq, bin_lss, bin_leq, bin_gtr, bin_geq, bin_seql, bin_sneq, bin_slss, bin_sleq, bin_sgtr, bin_sgeq, val_beq, beqV_f, beqV_t, val_seq, val_not, notV_bool, val_toInt, toIntV_int, val_off, offV_ptr, val_len, lenV_slice, val_slen, slenV_S, val_ext, extV_tup, val_ifc, val_fn, List.getElem?_cons_zero, List.getElem?_cons_succ, List.map_cons, List.map_nil, eq_self, Bool.false_eq_true, Bool.not_true, Bool.not_false, Option.map_some, Nat.zero_add, isB_bool, isB_undef, Bool.true_beq, Bool.false_beq, beq_self_eq_true, Bool.true_and, Bool.and_true, Bool.false_and, Bool.and_false, Bool.true_or, Bool.or_true, Bool.false_or, Bool.or_false, not_dec, and_dec, or_dec, seqV_f, seqV_t, ceq_i, ceq_s, ceq_nil, val_bld, bldV, cells_int, cells_bool, cells_S, cells_b8, cells_slice, cells_ptr, cells_agg, List.size_toArray, List.length_cons, List.length_nil, place, List.take_succ_cons, List.take_zero, List.drop_succ_cons, List.drop_zero, List.cons_append, List.nil_append, and_self, and_true, true_and, Nat.reduceLeDiff, List.toList_toArray, wr64, wru64, wru8, Nat.reduceEqDiff, ↓reduceIte, Nat.reduceAdd, Has, and_true, Int.natCast_add, Int.cast_ofNat_Int]) <;> fail)) : p := h
theorem kYa1 {p : Prop} (h : p := by ((simp (disch := omega) only [ev_tmp, ev_const, ev_func, ev_global, upd_app, val_move, val_pick, pickV_true, pickV_false, pickV_bool, val_nilck, nilckV_ptr, val_bin, bin_add, bin_sub, bin_mul, bin_eql, bin_neq, bin_lss, bin_leq, bin_gtr, bin_geq, bin_seql, bin_sneq, bin_slss, bin_sleq, bin_sgtr, bin_sgeq, val_beq, beqV_f, beqV_t, val_seq, val_not, notV_bool, val_toInt, toIntV_int, val_off, offV_ptr, val_len, lenV_slice, val_slen, slenV_S, val_ext, extV_tup, val_ifc, val_fn, List.getElem?_cons_zero, List.getElem?_cons_succ, List.map_cons, List.map_nil, eq_self, Bool.false_eq_true, Bool.not_true, Bool.not_false, Option.map_some, Nat.zero_add, isB_bool, isB_undef, Bool.true_beq, Bool.false_beq, beq_self_eq_true, Bool.true_and, Bool.and_true, Bool.false_and, Bool.and_false, Bool.true_or, Bool.or_true, Bool.false_or, Bool.or_false, not_dec, and_dec, or_dec, seqV_f, seqV_t, ceq_i, ceq_s, ceq_nil, val_bld, bldV, cells_int, cells_bool, cells_S, cells_b8, cells_slice, cells_ptr, cells_agg, List.size_toArray, List.length_cons, List.length_nil, place, List.take_succ_cons, List.take_zero, List.drop_succ_cons, List.drop_zero, List.cons_append, List.nil_append, and_self, and_true, true_and, Nat.reduceLeDiff, List.toList_toArray, wr64, wru64, wru8, Nat.reduceEqDiff, ↓reduceIte, Nat.reduceAdd, dT]) <;> rfl)) : p := h
theorem kYa2 {p : Prop} (h : p := by ((simp (disch := omega) only [ev_tmp, ev_const, ev_func, ev_global, upd_app, val_move, val_pick, pickV_true, pickV_false, pickV_bool, val_nilck, nilckV_ptr, val_bin, bin_add, bin_sub, bin_mul, bin_eql, bin_neq, bin_lss, bin_leq, bin_gtr, bin_geq, bin_seql, bin_sneq, bin_slss, bin_sleq, bin_sgtr, bin_sgeq, val_beq, beqV_f, beqV_t, val_seq, val_not, notV_bool, val_toInt, toIntV_int, val_off, offV_ptr, val_len, lenV_slice, val_slen, slenV_S, val_ext, extV_tup, val_ifc, val_fn, List.getElem?_cons_zero, List.getElem?_cons_succ, List.map_cons, List.map_nil, eq_self, Bool.false_eq_true, Bool.not_true, Bool.not_false, Option.map_some, Nat.zero_add, isB_bool, isB_undef, Bool.true_beq, Bool.false_beq, beq_self_eq_true, Bool.true_and, Bool.and_true, Bool.false_and, Bool.and_false, Bool.true_or, Bool.or_true, Bool.false_or, Bool.or_false, not_dec, and_dec, or_dec, seqV_f, seqV_t, ceq_i, ceq_s, ceq_nil, val_bld, bldV, cells_int, cells_bool, cells_S, cells_b8, cells_slice, cells_ptr, cells_agg, List.size_toArray, List.length_cons, List.length_nil, place, List.take_succ_cons, List.take_zero, List.drop_succ_cons, List.drop_zero, List.cons_append, List.nil_append, and_self, and_true, true_and, Nat.reduceLeDiff, List.toList_toArray, wr64, wru64, wru8, Nat.reduceEqDiff, ↓reduceIte, Nat.reduceAdd, dne, dNT]) <;> rfl)) : p := h
theorem kYa3 {p : Prop} (h : p := by ((simp (disch := omega) only [ev_tmp, ev_const, ev_func, ev_global, upd_app, val_move, val_pick, pickV_true, pickV_false, pickV_bool, val_nilck, nilckV_ptr, val_bin, bin_add, bin_sub, bin_mul, bin_eql, bin_neq, bin_lss, bin_leq, bin_gtr, bin_geq, bin_seql, bin_sneq, bin_slss, bin_sleq, bin_sgtr, bin_sgeq, val_beq, beqV_f, beqV_t, val_seq, val_not, notV_bool, val_toInt, toIntV_int, val_off, offV_ptr, val_len, lenV_slice, val_slen, slenV_S, val_ext, extV_tup, val_ifc, val_fn, List.getElem?_cons_zero, List.getElem?_cons_succ, List.map_cons, List.map_nil, eq_self, Bool.false_eq_true, Bool.not_true, Bool.not_false, Option.map_some, Nat.zero_add, isB_bool, isB_undef, Bool.true_beq, Bool.false_beq, beq_self_eq_true, Bool.true_and, Bool.and_true, Bool.false_and, Bool.and_false, Bool.true_or, Bool.or_true, Bool.false_or, Bool.or_false, not_dec, and_dec, or_dec, seqV_f, seqV_t, ceq_i, ceq_s, ceq_nil, val_bld, bldV, cells_int, cells_bool, cells_S, cells_b8, cells_slice, cells_ptr, cells_agg, List.size_toArray, List.length_cons, List.length_nil, place, List.take_succ_cons, List.take_zero, List.drop_succ_cons, List.drop_zero, List.cons_append, List.nil_append, and_self, and_true, true_and, Nat.reduceLeDiff, List.toList_toArray, wr64, wru64, wru8, Nat.reduceEqDiff, ↓reduceIte, Nat.reduceAdd, dne, deq, dT, dNT]) <;> rfl)) : p := h
abbrev R21_0 : List LOper := [⟨some 4, none, .pv (.move (.const (.bool false)))⟩]
abbrev R21_1 : List LOper := [⟨some 5, none, .pv (.move (.tmp 0))⟩, ⟨some 6, none, .raw 9 (.convert 36 9 (.tmp 5))⟩, ⟨some 7, none, .pv (.move (.tmp 1))⟩, ⟨some 8, none, .raw 9 (.convert 36 9 (.tmp 7))⟩, ⟨some 9, none, .pv (.bin .eql (.tmp 6) (.tmp 8))⟩, ⟨some 4, none, .pv (.move (.tmp 9))⟩]
abbrev L21 : LFun := ⟨10, [(.tmp 4)], (.seq (.reg R21_0) (.seq (.reg R21_1) .ret))⟩
theorem low21 : lowFn Try.prog Try.f21 = some L21 := by kernel_rfl
abbrev R25_0 : List LOper := [⟨some 4, none, .pv (.move (.const (.bool false)))⟩]
abbrev R25_1 : List LOper := [⟨some 6, none, .pv (.move (.tmp 0))⟩, ⟨some 7, none, .pv (.len (.tmp 6))⟩, ⟨some 8, none, .pv (.move (.tmp 1))⟩, ⟨some 9, none, .pv (.len (.tmp 8))⟩, ⟨some 10, none, .pv (.bin .neq (.tmp 7) (.tmp 9))⟩]
abbrev R25_2 : List LOper := [⟨some 4, none, .pv (.move (.const (.bool false)))⟩]
abbrev R25_3 : List LOper := [⟨some 5, none, .pv (.move (.const (.int .i64 0)))⟩]
abbrev R25_4 : List LOper := [⟨some 11, none, .pv (.move (.tmp 5))⟩, ⟨some 12, none, .pv (.move (.tmp 0))⟩, ⟨some 13, none, .pv (.len (.tmp 12))⟩, ⟨some 14, none, .pv (.bin .lss (.tmp 11) (.tmp 13))⟩]
abbrev R25_5 : List LOper := [⟨some 4, none, .pv (.move (.const (.bool false)))⟩]
abbrev R25_6 : List LOper := [⟨some 15, none, .pv (.move (.tmp 5))⟩, ⟨some 16, none, .pv (.bin .add (.tmp 15) (.const (.int .i64 1)))⟩, ⟨some 5, none, .pv (.move (.tmp 16))⟩]
abbrev R25_7 : List LOper := [⟨some 4, none, .pv (.move (.const (.bool true)))⟩]
abbrev L25 : LFun := ⟨26, [(.tmp 4)], (.seq (.reg R25_0) (.seq (.seq (.reg R25_1) (.cond (.tmp 10) (.seq (.reg R25_2) .ret) .skip)) (.seq (.seq (.reg R25_3) (.block 0 (.loop (.seq (.seq (.reg R25_4) (.cond (.tmp 14) .skip (.exit 0))) (.seq (.block 1 (.seq (.dreg (.still ⟨some 17, none, .pv (.move (.tmp 0))⟩ (.still ⟨some 18, none, .pv (.move (.tmp 5))⟩ (.still ⟨some 19, none, .pv (.idx 7 (.tmp 17) (.tmp 18))⟩ (.still ⟨some 20, none, .loadN 7 (.tmp 19)⟩ (.still ⟨some 21, none, .pv (.move (.tmp 1))⟩ (.still ⟨some 22, none, .pv (.move (.tmp 5))⟩ (.still ⟨some 23, none, .pv (.idx 7 (.tmp 21) (.tmp 22))⟩ (.still ⟨some 24, none, .loadN 7 (.tmp 23)⟩ (.still ⟨some 25, none, .pv (.seq true [.s, .i, .i, .i, .i, .i, .i] (.tmp 20) (.tmp 24))⟩ .nil)))))))))) (.cond (.tmp 25) (.seq (.reg R25_5) .ret) .skip))) (.reg R25_6)))))) (.seq (.reg R25_7) .ret))))⟩
theorem low25 : lowFn Try.prog Try.f25 = some L25 := by kernel_rfl
abbrev R29_0 : List LOper := [⟨some 2, none, .newv 33 (.tmp 0)⟩, ⟨some 3, none, .newv 33 (.tmp 1)⟩, ⟨some 4, none, .pv (.move (.const (.bool false)))⟩]
abbrev R29_1 : List LOper := [⟨some 5, none, .pv (.off (.tmp 2) 0)⟩, ⟨some 6, none, .load (.tmp 5)⟩, ⟨some 7, none, .pv (.off (.tmp 3) 0)⟩, ⟨some 8, none, .load (.tmp 7)⟩, ⟨some 9, none, .pv (.bin .neq (.tmp 6) (.tmp 8))⟩, ⟨some 10, none, .pv (.move (.tmp 9))⟩, ⟨some 11, (some (10, false)), .pv (.off (.tmp 2) 1)⟩, ⟨some 12, (some (10, false)), .load (.tmp 11)⟩, ⟨some 13, (some (10, false)), .pv (.off (.tmp 3) 1)⟩, ⟨some 14, (some (10, false)), .load (.tmp 13)⟩, ⟨some 15, (some (10, false)), .pv (.bin .neq (.tmp 12) (.tmp 14))⟩, ⟨some 16, none, .pv (.pick (.tmp 10) (.const (.bool true)) (.tmp 15))⟩, ⟨some 17, none, .pv (.move (.tmp 16))⟩, ⟨some 18, (some (17, false)), .pv (.off (.tmp 2) 2)⟩, ⟨some 19, (some (17, false)), .load (.tmp 18)⟩, ⟨some 20, (some (17, false)), .pv (.off (.tmp 3) 2)⟩, ⟨some 21, (some (17, false)), .load (.tmp 20)⟩, ⟨some 22, (some (17, false)), .pv (.bin .neq (.tmp 19) (.tmp 21))⟩, ⟨some 23, none, .pv (.pick (.tmp 17) (.const (.bool true)) (.tmp 22))⟩, ⟨some 24, none, .pv (.move (.tmp 23))⟩, ⟨some 25, (some (24, false)), .pv (.off (.tmp 2) 3)⟩, ⟨some 26, (some (24, false)), .load (.tmp 25)⟩, ⟨some 27, (some (24, false)), .pv (.off (.tmp 3) 3)⟩, ⟨some 28, (some (24, false)), .load (.tmp 27)⟩, ⟨some 29, (some (24, false)), .pv (.bin .neq (.tmp 26) (.tmp 28))⟩, ⟨some 30, none, .pv (.pick (.tmp 24) (.const (.bool true)) (.tmp 29))⟩, ⟨some 31, none, .pv (.move (.tmp 30))⟩, ⟨some 32, (some (31, false)), .pv (.off (.tmp 2) 4)⟩, ⟨some 33, (some (31, false)), .loadN 2 (.tmp 32)⟩, ⟨some 34, (some (31, false)), .pv (.off (.tmp 3) 4)⟩, ⟨some 35, (some (31, false)), .loadN 2 (.tmp 34)⟩, ⟨some 36, (some (31, false)), .pv (.seq true [.i, .i] (.tmp 33) (.tmp 35))⟩, ⟨some 37, none, .pv (.pick (.tmp 31) (.const (.bool true)) (.tmp 36))⟩, ⟨some 38, none, .pv (.move (.tmp 37))⟩, ⟨some 39, (some (38, false)), .pv (.off (.tmp 2) 6)⟩, ⟨some 40, (some (38, false)), .loadN 2 (.tmp 39)⟩, ⟨some 41, (some (38, false)), .pv (.off (.tmp 3) 6)⟩, ⟨some 42, (some (38, false)), .loadN 2 (.tmp 41)⟩, ⟨some 43, (some (38, false)), .pv (.seq true [.i, .i] (.tmp 40) (.tmp 42))⟩, ⟨some 44, none, .pv (.pick (.tmp 38) (.const (.bool true)) (.tmp 43))⟩, ⟨some 45, none, .pv (.move (.tmp 44))⟩, ⟨some 46, (some (45, false)), .pv (.off (.tmp 2) 19)⟩, ⟨some 47, (some (45, false)), .load (.tmp 46)⟩, ⟨some 48, (some (45, false)), .pv (.off (.tmp 3) 19)⟩, ⟨some 49, (some (45, false)), .load (.tmp 48)⟩, ⟨some 50, (some (45, false)), .call 25 [(.tmp 47), (.tmp 49)]⟩, ⟨some 51, (some (45, false)), .pv (.not (.tmp 50))⟩, ⟨some 52, none, .pv (.pick (.tmp 45) (.const (.bool true)) (.tmp 51))⟩]
abbrev R29_2 : List LOper := [⟨some 4, none, .pv (.move (.const (.bool false)))⟩]
abbrev R29_3 : List LOper := [⟨some 53, none, .pv (.off (.tmp 2) 8)⟩, ⟨some 54, none, .loadN 2 (.tmp 53)⟩, ⟨some 55, none, .pv (.off (.tmp 3) 8)⟩, ⟨some 56, none, .loadN 2 (.tmp 55)⟩, ⟨some 57, none, .pv (.seq false [.i, .i] (.tmp 54) (.tmp 56))⟩, ⟨some 58, none, .pv (.move (.tmp 57))⟩, ⟨some 59, (some (58, true)), .pv (.off (.tmp 2) 10)⟩, ⟨some 60, (some (58, true)), .load (.tmp 59)⟩, ⟨some 61, (some (58, true)), .pv (.off (.tmp 3) 10)⟩, ⟨some 62, (some (58, true)), .load (.tmp 61)⟩, ⟨some 63, (some (58, true)), .pv (.bin .eql (.tmp 60) (.tmp 62))⟩, ⟨some 64, none, .pv (.pick (.tmp 58) (.tmp 63) (.const (.bool false)))⟩, ⟨some 65, none, .pv (.move (.tmp 64))⟩, ⟨some 66, (some (65, true)), .pv (.off (.tmp 2) 11)⟩, ⟨some 67, (some (65, true)), .loadN 2 (.tmp 66)⟩, ⟨some 68, (some (65, true)), .pv (.off (.tmp 3) 11)⟩, ⟨some 69, (some (65, true)), .loadN 2 (.tmp 68)⟩, ⟨some 70, (some (65, true)), .pv (.seq false [.i, .i] (.tmp 67) (.tmp 69))⟩, ⟨some 71, none, .pv (.pick (.tmp 65) (.tmp 70) (.const (.bool false)))⟩, ⟨some 72, none, .pv (.move (.tmp 71))⟩, ⟨some 73, (some (72, true)), .pv (.off (.tmp 2) 13)⟩, ⟨some 74, (some (72, true)), .loadN 4 (.tmp 73)⟩, ⟨some 75, (some (72, true)), .pv (.off (.tmp 3) 13)⟩, ⟨some 76, (some (72, true)), .loadN 4 (.tmp 75)⟩, ⟨some 77, (some (72, true)), .pv (.seq false [.i, .s, .i, .i] (.tmp 74) (.tmp 76))⟩, ⟨some 78, none, .pv (.pick (.tmp 72) (.tmp 77) (.const (.bool false)))⟩, ⟨some 79, none, .pv (.move (.tmp 78))⟩, ⟨some 80, (some (79, true)), .pv (.off (.tmp 2) 17)⟩, ⟨some 81, (some (79, true)), .load (.tmp 80)⟩, ⟨some 82, (some (79, true)), .pv (.off (.tmp 3) 17)⟩, ⟨some 83, (some (79, true)), .load (.tmp 82)⟩, ⟨some 84, (some (79, true)), .pv (.bin .eql (.tmp 81) (.tmp 83))⟩, ⟨some 85, none, .pv (.pick (.tmp 79) (.tmp 84) (.const (.bool false)))⟩, ⟨some 86, none, .pv (.move (.tmp 85))⟩, ⟨some 87, (some (86, true)), .pv (.off (.tmp 2) 18)⟩, ⟨some 88, (some (86, true)), .load (.tmp 87)⟩, ⟨some 89, (some (86, true)), .pv (.off (.tmp 3) 18)⟩, ⟨some 90, (some (86, true)), .load (.tmp 89)⟩, ⟨some 91, (some (86, true)), .pv (.bin .eql (.tmp 88) (.tmp 90))⟩, ⟨some 92, none, .pv (.pick (.tmp 86) (.tmp 91) (.const (.bool false)))⟩, ⟨some 4, none, .pv (.move (.tmp 92))⟩]
abbrev L29 : LFun := ⟨93, [(.tmp 4)], (.seq (.reg R29_0) (.seq (.seq (.reg R29_1) (.cond (.tmp 52) (.seq (.reg R29_2) .ret) .skip)) (.seq (.reg R29_3) .ret)))⟩
theorem low29 : lowFn Try.prog Try.f29 = some L29 := by kernel_rfl
abbrev R33_0 : List LOper := [⟨some 2, none, .newv 39 (.tmp 0)⟩, ⟨some 3, none, .newv 39 (.tmp 1)⟩, ⟨some 4, none, .pv (.move (.const (.bool false)))⟩]
abbrev R33_1 : List LOper := [⟨some 5, none, .pv (.off (.tmp 2) 0)⟩, ⟨some 6, none, .load (.tmp 5)⟩, ⟨some 7, none, .pv (.off (.tmp 3) 0)⟩, ⟨some 8, none, .load (.tmp 7)⟩, ⟨some 9, none, .pv (.bin .eql (.tmp 6) (.tmp 8))⟩, ⟨some 10, none, .pv (.move (.tmp 9))⟩, ⟨some 11, (some (10, true)), .pv (.off (.tmp 2) 1)⟩, ⟨some 12, (some (10, true)), .load (.tmp 11)⟩, ⟨some 13, (some (10, true)), .pv (.off (.tmp 3) 1)⟩, ⟨some 14, (some (10, true)), .load (.tmp 13)⟩, ⟨some 15, (some (10, true)), .pv (.bin .eql (.tmp 12) (.tmp 14))⟩, ⟨some 16, none, .pv (.pick (.tmp 10) (.tmp 15) (.const (.bool false)))⟩, ⟨some 17, none, .pv (.move (.tmp 16))⟩, ⟨some 18, (some (17, true)), .pv (.off (.tmp 2) 2)⟩, ⟨some 19, (some (17, true)), .load (.tmp 18)⟩, ⟨some 20, (some (17, true)), .pv (.off (.tmp 3) 2)⟩, ⟨some 21, (some (17, true)), .load (.tmp 20)⟩, ⟨some 22, (some (17, true)), .pv (.bin .eql (.tmp 19) (.tmp 21))⟩, ⟨some 23, none, .pv (.pick (.tmp 17) (.tmp 22) (.const (.bool false)))⟩, ⟨some 24, none, .pv (.move (.tmp 23))⟩, ⟨some 25, (some (24, true)), .pv (.off (.tmp 2) 3)⟩, ⟨some 26, (some (24, true)), .load (.tmp 25)⟩, ⟨some 27, (some (24, true)), .pv (.off (.tmp 3) 3)⟩, ⟨some 28, (some (24, true)), .load (.tmp 27)⟩, ⟨some 29, (some (24, true)), .pv (.bin .eql (.tmp 26) (.tmp 28))⟩, ⟨some 30, none, .pv (.pick (.tmp 24) (.tmp 29) (.const (.bool false)))⟩, ⟨some 31, none, .pv (.move (.tmp 30))⟩, ⟨some 32, (some (31, true)), .pv (.off (.tmp 2) 4)⟩, ⟨some 33, (some (31, true)), .load (.tmp 32)⟩, ⟨some 34, (some (31, true)), .pv (.off (.tmp 3) 4)⟩, ⟨some 35, (some (31, true)), .load (.tmp 34)⟩, ⟨some 36, (some (31, true)), .call 21 [(.tmp 33), (.tmp 35)]⟩, ⟨some 37, none, .pv (.pick (.tmp 31) (.tmp 36) (.const (.bool false)))⟩, ⟨some 4, none, .pv (.move (.tmp 37))⟩]
abbrev L33 : LFun := ⟨38, [(.tmp 4)], (.seq (.reg R33_0) (.seq (.reg R33_1) .ret))⟩
theorem low33 : lowFn Try.prog Try.f33 = some L33 := by kernel_rfl

theorem dne {α : Type} (x : α) [Decidable (x ≠ x)] : decide (x ≠ x) = false := decide_eq_false (fun h => h rfl)
theorem dT [Decidable True] : decide True = true := decide_eq_true trivial
theorem dNT [Decidable (¬ True)] : decide (¬ True) = false := decide_eq_false (fun h => h trivial)
theorem deq {α : Type} (x : α) [Decidable (x = x)] : decide (x = x) = true := decide_eq_true rfl
set_option maxRecDepth 4000 in
theorem c21 (l : List UInt8) (a b : Value) (w : World) (ha : Reads w [] 1 a l.length (l.map b8)) (hb : Reads w [] 1 b l.length (l.map b8)) : Quiet Try.prog 21 #[a, b] w (.bool true) := by
  refine enterF (args := [a, b]) Try.func21 low21 rfl ?_; have hS := St.start w; dsimp only [L21, envL, Nat.reduceAdd]
  repeat' (first | ((with_reducible apply WL_p); (· exact evk)) | (with_reducible first | refine WL_nil ?_ | refine then_normal ?_ | refine blk_normal ?_ | refine WC_seq ?_ | refine WC_reg ?_ | refine WC_block ?_ | refine WC_skip ?_ | refine WC_exit ?_ | refine then_exit ?_ | refine blk_hit ?_ | refine blk_miss (by decide) ?_ | refine WC_ret ?_ | refine then_ret ?_ | refine blk_ret ?_))
  refine WL_str (hS.reads0 ha) Try.underlying36 Try.underlying5 Try.underlying9 (by exact evk) ?_
  repeat' (first | ((with_reducible apply WL_p); (· exact evk)) | (with_reducible first | refine WL_nil ?_ | refine then_normal ?_ | refine blk_normal ?_ | refine WC_seq ?_ | refine WC_reg ?_ | refine WC_block ?_ | refine WC_skip ?_ | refine WC_exit ?_ | refine then_exit ?_ | refine blk_hit ?_ | refine blk_miss (by decide) ?_ | refine WC_ret ?_ | refine then_ret ?_ | refine blk_ret ?_))
  refine WL_str (hS.reads0 hb) Try.underlying36 Try.underlying5 Try.underlying9 (by exact evk) ?_
  repeat' (first | ((with_reducible apply WL_p); (· exact kYa1)) | (with_reducible first | refine WL_nil ?_ | refine then_normal ?_ | refine blk_normal ?_ | refine WC_seq ?_ | refine WC_reg ?_ | refine WC_block ?_ | refine WC_skip ?_ | refine WC_exit ?_ | refine then_exit ?_ | refine blk_hit ?_ | refine blk_miss (by decide) ?_ | refine WC_ret ?_ | refine then_ret ?_ | refine blk_ret ?_))
  exact retq (v' := .bool true) hS rfl rfl
set_option maxRecDepth 4000 in
theorem seq_view {e : Env} {x y : Operand} {v : Vw} (hx : ev e x = .agg v.cells.toArray) (hy : ev e y = .agg v.cells.toArray) : PV.val e (.seq true [.s, .i, .i, .i, .i, .i, .i] x y) = some (.bool false) := by
  rw [val_seq, hx, hy, seqV_t]
  simp only [Vw.cells, ceq_s, ceq_i, ceq_nil, Option.map_some, deq, dT, Bool.and_true, Bool.true_and, eq_self, Bool.not_true]
theorem c25 (vs : List Vw) (a b : Value) (w : World) (ha : RdL w [] 7 a vs Vw.cells) (hb : RdL w [] 7 b vs Vw.cells) : Quiet Try.prog 25 #[a, b] w (.bool true) := by
  have hfit := ha.1.fits
  obtain ⟨A, c, rfl, _⟩ := ha.1.slc
  obtain ⟨B, c', rfl, _⟩ := hb.1.slc
  refine enterF (args := [.slice A vs.length c, .slice B vs.length c']) Try.func25 low25 rfl ?_; have hS := St.start w; dsimp only [L25, envL, Nat.reduceAdd]
  repeat' (first | ((with_reducible apply WL_p); (· exact kYa2)) | ((with_reducible apply WL_do); (· exact evd)) | ((with_reducible apply WL_no); (· exact evd)) | ((with_reducible apply WC_true); (· exact evk)) | ((with_reducible apply WC_false); (· exact evk)) | (with_reducible first | refine WL_nil ?_ | refine then_normal ?_ | refine blk_normal ?_ | refine WC_seq ?_ | refine WC_reg ?_ | refine WC_block ?_ | refine WC_skip ?_ | refine WC_exit ?_ | refine then_exit ?_ | refine blk_hit ?_ | refine blk_miss (by decide) ?_ | refine WC_ret ?_ | refine then_ret ?_ | refine blk_ret ?_))
  refine WC_loopH (α := Nat) (fun k => [(0, .slice A vs.length c), (1, .slice B vs.length c'), (5, .int .i64 k)]) (fun k w' => k ≤ vs.length ∧ St w [] w' []) (fun k => vs.length - k) 0 (by exact kYa0) ⟨by omega, hS⟩ ?_
  clear hS
  intro k e w1 ⟨hk, hS⟩
  dsimp only [patch]
  by_cases hlt : k < vs.length
  · obtain ⟨x, hx⟩ : ∃ x, vs[k]? = some x := ⟨_, List.getElem?_eq_getElem hlt⟩
    repeat' (first | ((with_reducible apply WL_p); (· exact evk)) | (with_reducible first | refine WL_nil ?_ | refine then_normal ?_ | refine blk_normal ?_ | refine WC_seq ?_ | refine WC_reg ?_ | refine WC_block ?_ | refine WC_skip ?_ | refine WC_exit ?_ | refine then_exit ?_ | refine blk_hit ?_ | refine blk_miss (by decide) ?_ | refine WC_ret ?_ | refine then_ret ?_ | refine blk_ret ?_) | (first | ((with_reducible apply WL_split); (· exact evk)) | ((with_reducible apply WC_dec); (· exact evk)) | ((with_reducible apply WL_splitB); (· exact evk)) | ((with_reducible apply WC_bool); (· exact evk)) | ((with_reducible intro hh) <;> (try (exfalso; omega)))))
    refine WC_drO hS fun w hS hD => ?_
    repeat' (first | ((with_reducible apply WD_p hD); (· exact evk)) | ((with_reducible apply WD_do hD); (· exact evd)) | ((with_reducible apply WD_no hD); (· exact evd)) | ((with_reducible apply WDe_do); (· exact evd)) | ((with_reducible apply WDe_no hD); (· exact evd)) | ((with_reducible apply WD_load hD); (· exact evk); (· exact inn); (· rfl)) | ((with_reducible apply WD_loadN hD); (· exact evk); (· exact inn); (· ((simp only [List.drop_succ_cons, List.drop_zero, List.take_succ_cons, List.take_zero]) <;> rfl)); (· rfl)) | ((with_reducible apply WD_go); (· exact hS.sh (by repeat (first | exact AllIn.nil | (apply AllIn.cons; (· exact inn))))); (clear hD; intro hD)) | (with_reducible apply WD_nil) | (with_reducible apply WD_eff))
    refine WD_pv hD (WL_idxS (k := k) ha (by exact evk) (by exact evk) (by omega) hx fun b o hbn hcell => WL_nil ?_)
    refine WD_loadNR hD (by exact evk) hbn hcell rfl ?_
    repeat' (first | ((with_reducible apply WD_p hD); (· exact evk)) | ((with_reducible apply WD_do hD); (· exact evd)) | ((with_reducible apply WD_no hD); (· exact evd)) | ((with_reducible apply WDe_do); (· exact evd)) | ((with_reducible apply WDe_no hD); (· exact evd)) | ((with_reducible apply WD_load hD); (· exact evk); (· exact inn); (· rfl)) | ((with_reducible apply WD_loadN hD); (· exact evk); (· exact inn); (· ((simp only [List.drop_succ_cons, List.drop_zero, List.take_succ_cons, List.take_zero]) <;> rfl)); (· rfl)) | ((with_reducible apply WD_go); (· exact hS.sh (by repeat (first | exact AllIn.nil | (apply AllIn.cons; (· exact inn))))); (clear hD; intro hD)) | (with_reducible apply WD_nil) | (with_reducible apply WD_eff))
    refine WD_pv hD (WL_idxS (k := k) hb (by exact evk) (by exact evk) (by omega) hx fun b o hbn hcell => WL_nil ?_)
    refine WD_loadNR hD (by exact evk) hbn hcell rfl ?_
    refine WD_p hD (seq_view (v := x) rfl rfl) ?_
    repeat' (first | ((with_reducible apply WD_p hD); (· exact evk)) | ((with_reducible apply WD_do hD); (· exact evd)) | ((with_reducible apply WD_no hD); (· exact evd)) | ((with_reducible apply WDe_do); (· exact evd)) | ((with_reducible apply WDe_no hD); (· exact evd)) | ((with_reducible apply WD_load hD); (· exact evk); (· exact inn); (· rfl)) | ((with_reducible apply WD_loadN hD); (· exact evk); (· exact inn); (· ((simp only [List.drop_succ_cons, List.drop_zero, List.take_succ_cons, List.take_zero]) <;> rfl)); (· rfl)) | ((with_reducible apply WD_go); (· exact hS.sh (by repeat (first | exact AllIn.nil | (apply AllIn.cons; (· exact inn))))); (clear hD; intro hD)) | (with_reducible apply WD_nil) | (with_reducible apply WD_eff))
    repeat' (first | ((with_reducible apply WL_p); (· exact evk)) | ((with_reducible apply WC_true); (· exact evk)) | ((with_reducible apply WC_false); (· exact evk)) | (with_reducible first | refine WL_nil ?_ | refine then_normal ?_ | refine blk_normal ?_ | refine WC_seq ?_ | refine WC_reg ?_ | refine WC_block ?_ | refine WC_skip ?_ | refine WC_exit ?_ | refine then_exit ?_ | refine blk_hit ?_ | refine blk_miss (by decide) ?_ | refine WC_ret ?_ | refine then_ret ?_ | refine blk_ret ?_))
    refine ⟨k + 1, by omega, ?_, by omega, hS⟩
    (simp (disch := omega) only [ev_tmp, ev_const, ev_func, ev_global, upd_app, val_move, val_pick, pickV_true, pickV_false, pickV_bool, val_nilck, nilckV_ptr, val_bin, bin_add, bin_sub, bin_mul, bin_eql, bin_neq, bin_lss, bin_leq, bin_gtr, bin_geq, bin_seql, bin_sneq, bin_slss, bin_sleq, bin_sgtr, bin_sgeq, val_beq, beqV_f, beqV_t, val_seq, val_not, notV_bool, val_toInt, toIntV_int, val_off, offV_ptr, val_len, lenV_slice, val_slen, slenV_S, val_ext, extV_tup, val_ifc, val_fn, List.getElem?_cons_zero, List.getElem?_cons_succ, List.map_cons, List.map_nil, eq_self, Bool.false_eq_true, Bool.not_true, Bool.not_false, Option.map_some, Nat.zero_add, isB_bool, isB_undef, Bool.true_beq, Bool.false_beq, beq_self_eq_true, Bool.true_and, Bool.and_true, Bool.false_and, Bool.and_false, Bool.true_or, Bool.or_true, Bool.false_or, Bool.or_false, not_dec, and_dec, or_dec, seqV_f, seqV_t, ceq_i, ceq_s, ceq_nil, val_bld, bldV, cells_int, cells_bool, cells_S, cells_b8, cells_slice, cells_ptr, cells_agg, List.size_toArray, List.length_cons, List.length_nil, place, List.take_succ_cons, List.take_zero, List.drop_succ_cons, List.drop_zero, List.cons_append, List.nil_append, and_self, and_true, true_and, Nat.reduceLeDiff, List.toList_toArray, wr64, wru64, wru8, Nat.reduceEqDiff, ↓reduceIte, Nat.reduceAdd, Has, and_true, Int.natCast_add, Int.cast_ofNat_Int])
  · repeat' (first | ((with_reducible apply WL_p); (· exact evk)) | (with_reducible first | refine WL_nil ?_ | refine then_normal ?_ | refine blk_normal ?_ | refine WC_seq ?_ | refine WC_reg ?_ | refine WC_block ?_ | refine WC_skip ?_ | refine WC_exit ?_ | refine then_exit ?_ | refine blk_hit ?_ | refine blk_miss (by decide) ?_ | refine WC_ret ?_ | refine then_ret ?_ | refine blk_ret ?_) | (first | ((with_reducible apply WL_split); (· exact evk)) | ((with_reducible apply WC_dec); (· exact evk)) | ((with_reducible apply WL_splitB); (· exact evk)) | ((with_reducible apply WC_bool); (· exact evk)) | ((with_reducible intro hh) <;> (try (exfalso; omega)))))
    exact retq hS rfl rfl
set_option maxRecDepth 8000 in
set_option maxHeartbeats 1000000 in
theorem c29 (m : Ms) (vs : List Vw) (a b : Value) (w : World) (ha : RdL w [] 7 a vs Vw.cells) (hb : RdL w [] 7 b vs Vw.cells) : Quiet Try.prog 29 #[.agg (m.cells a).toArray, .agg (m.cells b).toArray] w (.bool true) := by
  obtain ⟨kind, name, cap, recaps, er, ek, or_, ok, down, up, held, cs, ci, opk, opn, opa, opb, err, val⟩ := m
  obtain ⟨A, c, rfl, _⟩ := ha.1.slc
  obtain ⟨B, c', rfl, _⟩ := hb.1.slc
  refine enterF (args := [.agg (Ms.cells ⟨kind, name, cap, recaps, er, ek, or_, ok, down, up, held, cs, ci, opk, opn, opa, opb, err, val⟩ (.slice A vs.length c)).toArray, .agg (Ms.cells ⟨kind, name, cap, recaps, er, ek, or_, ok, down, up, held, cs, ci, opk, opn, opa, opb, err, val⟩ (.slice B vs.length c')).toArray]) Try.func29 low29 rfl ?_; have hS := St.start w; dsimp only [L29, envL, Nat.reduceAdd]
  simp only [Ms.cells]
  repeat' (first | ((with_reducible apply WL_p); (· exact kYa3)) | ((with_reducible apply WL_do); (· exact evd)) | ((with_reducible apply WL_no); (· exact evd)) | ((with_reducible apply WC_true); (· exact evk)) | ((with_reducible apply WC_false); (· exact evk)) | (with_reducible first | refine WL_nil ?_ | refine then_normal ?_ | refine blk_normal ?_ | refine WC_seq ?_ | refine WC_reg ?_ | refine WC_block ?_ | refine WC_skip ?_ | refine WC_exit ?_ | refine then_exit ?_ | refine blk_hit ?_ | refine blk_miss (by decide) ?_ | refine WC_ret ?_ | refine then_ret ?_ | refine blk_ret ?_) | ((first | (with_reducible apply WL_newz hS) | ((with_reducible apply WL_newv hS); (· exact evk); (· rfl)) | ((with_reducible apply WL_row hS); (· exact evk))); clear hS; intro bq w hS hbq; (try simp only [List.nil_append, List.cons_append, List.append_assoc] at hS)) | ((with_reducible apply WL_load hS); (· exact evk); (· exact inn); (· rfl)) | ((with_reducible apply WL_loadN hS); (· exact evk); (· exact inn); (· ((simp only [List.drop_succ_cons, List.drop_zero, List.take_succ_cons, List.take_zero]) <;> rfl)); (· rfl)) | ((with_reducible apply WL_callq hS); (· exact evk); (· first | exact c25 vs _ _ _ (hS.rdL0 ha) (hS.rdL0 hb)); (clear hS; intro w hS)))
  exact retq hS rfl rfl
theorem c33 (f t s a : Int) (l : List UInt8) (u v : Value) (w : World) (ha : Reads w [] 1 u l.length (l.map b8)) (hb : Reads w [] 1 v l.length (l.map b8)) : Quiet Try.prog 33 #[.agg #[.int .i64 f, .int .i64 t, .int .i64 s, .int .i64 a, u], .agg #[.int .i64 f, .int .i64 t, .int .i64 s, .int .i64 a, v]] w (.bool true) := by
  obtain ⟨A, c, rfl, _⟩ := ha.slc
  obtain ⟨B, c', rfl, _⟩ := hb.slc
  refine enterF (args := [.agg #[.int .i64 f, .int .i64 t, .int .i64 s, .int .i64 a, .slice A l.length c], .agg #[.int .i64 f, .int .i64 t, .int .i64 s, .int .i64 a, .slice B l.length c']]) Try.func33 low33 rfl ?_; have hS := St.start w; dsimp only [L33, envL, Nat.reduceAdd]
  repeat' (first | ((with_reducible apply WL_p); (· exact kYa3)) | ((with_reducible apply WL_do); (· exact evd)) | ((with_reducible apply WL_no); (· exact evd)) | ((with_reducible apply WC_true); (· exact evk)) | ((with_reducible apply WC_false); (· exact evk)) | (with_reducible first | refine WL_nil ?_ | refine then_normal ?_ | refine blk_normal ?_ | refine WC_seq ?_ | refine WC_reg ?_ | refine WC_block ?_ | refine WC_skip ?_ | refine WC_exit ?_ | refine then_exit ?_ | refine blk_hit ?_ | refine blk_miss (by decide) ?_ | refine WC_ret ?_ | refine then_ret ?_ | refine blk_ret ?_) | ((first | (with_reducible apply WL_newz hS) | ((with_reducible apply WL_newv hS); (· exact evk); (· rfl)) | ((with_reducible apply WL_row hS); (· exact evk))); clear hS; intro bq w hS hbq; (try simp only [List.nil_append, List.cons_append, List.append_assoc] at hS)) | ((with_reducible apply WL_load hS); (· exact evk); (· exact inn); (· rfl)) | ((with_reducible apply WL_loadN hS); (· exact evk); (· exact inn); (· ((simp only [List.drop_succ_cons, List.drop_zero, List.take_succ_cons, List.take_zero]) <;> rfl)); (· rfl)) | ((with_reducible apply WL_callq hS); (· exact evk); (· first | exact c21 l _ _ _ (hS.reads0 ha) (hS.reads0 hb)); (clear hS; intro w hS)))
  exact retq hS rfl rfl
end Go.Proofs.Ytohmgkcdjapinaa.Lw
namespace Go.Proofs.Ytohmgkcdjapinaa.Lw
theorem kYb0 {p : Prop} (h : p := by ((simp (disch := omega) only [ev_tmp, ev_const, ev_func, ev_global, upd_app, val_move, val_pick, pickV_true, pickV_false, pickV_bool, val_nilck, nilckV_ptr, val_bin, bin_add, bin_sub, bin_mul, bin_eql, bin_neq, bin_lss, bin_leq, bin_gtr, bin_geq, bin_seql, bin_sneq, bin_slss, bin_sleq, bin_sgtr, bin_sgeq, val_beq, beqV_f, beqV_t, val_seq, val_not, notV_bool, val_toInt, toIntV_int, val_off, offV_ptr, val_len, lenV_slice, val_slen, slenV_S, val_ext, extV_tup, val_ifc, val_fn, List.getElem?_cons_zero, List.getElem?_cons_succ, List.map_cons, List.map_nil, eq_self, Bool.false_eq_true, Bool.not_true, Bool.not_false, Option.map_some, Nat.zero_add, isB_bool, isB_undef, Bool.true_beq, Bool.false_beq, beq_self_eq_true, Bool.true_and, Bool.and_true, Bool.false_and, Bool.and_false, Bool.true_or, Bool.or_true, Bool.false_or, Bool.or_false, not_dec, and_dec, or_dec, seqV_f, seqV_t, ceq_i, ceq_s, ceq_nil, val_bld, bldV, cells_int, cells_bool, cells_S, cells_b8, cells_slice, cells_ptr, cells_agg, List.size_toArray, List.length_cons, List.length_nil, place, List.take_succ_cons, List.take_zero, List.drop_succ_cons, List.drop_zero, List.cons_append, List.nil_append, and_self, and_true, true_and, Nat.reduceLeDiff, List.toList_toArray, wr64, wru64, wru8, Nat.reduceEqDiff, ↓reduceIte, Nat.reduceAdd, Has, and_true, Int.natCast_add, Int.cast_ofNat_Int]) <;> fail)) : p := h
theorem kYb1 {p : Prop} (h : p := by ((simp (disch := omega) only [ev_tmp, ev_const, ev_func, ev_global, upd_app, val_move, val_pick, pickV_true, pickV_false, pickV_bool, val_nilck, nilckV_ptr, val_bin, bin_add, bin_sub, bin_mul, bin_eql, bin_neq, bin_lss, bin_leq, bin_gtr, bin_geq, bin_seql, bin_sneq, bin_slss, bin_sleq, bin_sgtr, bin_sgeq, val_beq, beqV_f, beqV_t, val_seq, val_not, notV_bool, val_toInt, toIntV_int, val_off, offV_ptr, val_len, lenV_slice, val_slen, slenV_S, val_ext, extV_tup, val_ifc, val_fn, List.getElem?_cons_zero, List.getElem?_cons_succ, List.map_cons, List.map_nil, eq_self, Bool.false_eq_true, Bool.not_true, Bool.not_false, Option.map_some, Nat.zero_add, isB_bool, isB_undef, Bool.true_beq, Bool.false_beq, beq_self_eq_true, Bool.true_and, Bool.and_true, Bool.false_and, Bool.and_false, Bool.true_or, Bool.or_true, Bool.false_or, Bool.or_false, not_dec, and_dec, or_dec, seqV_f, seqV_t, ceq_i, ceq_s, ceq_nil, val_bld, bldV, cells_int, cells_bool, cells_S, cells_b8, cells_slice, cells_ptr, cells_agg, List.size_toArray, List.length_cons, List.length_nil, place, List.take_succ_cons, List.take_zero, List.drop_succ_cons, List.drop_zero, List.cons_append, List.nil_append, and_self, and_true, true_and, Nat.reduceLeDiff, List.toList_toArray, wr64, wru64, wru8, Nat.reduceEqDiff, ↓reduceIte, Nat.reduceAdd, e0]) <;> rfl)) : p := h
theorem kYb2 {p : Prop} (h : p := by ((simp (disch := omega) only [ev_tmp, ev_const, ev_func, ev_global, upd_app, val_move, val_pick, pickV_true, pickV_false, pickV_bool, val_nilck, nilckV_ptr, val_bin, bin_add, bin_sub, bin_mul, bin_eql, bin_neq, bin_lss, bin_leq, bin_gtr, bin_geq, bin_seql, bin_sneq, bin_slss, bin_sleq, bin_sgtr, bin_sgeq, val_beq, beqV_f, beqV_t, val_seq, val_not, notV_bool, val_toInt, toIntV_int, val_off, offV_ptr, val_len, lenV_slice, val_slen, slenV_S, val_ext, extV_tup, val_ifc, val_fn, List.getElem?_cons_zero, List.getElem?_cons_succ, List.map_cons, List.map_nil, eq_self, Bool.false_eq_true, Bool.not_true, Bool.not_false, Option.map_some, Nat.zero_add, isB_bool, isB_undef, Bool.true_beq, Bool.false_beq, beq_self_eq_true, Bool.true_and, Bool.and_true, Bool.false_and, Bool.and_false, Bool.true_or, Bool.or_true, Bool.false_or, Bool.or_false, not_dec, and_dec, or_dec, seqV_f, seqV_t, ceq_i, ceq_s, ceq_nil, val_bld, bldV, cells_int, cells_bool, cells_S, cells_b8, cells_slice, cells_ptr, cells_agg, List.size_toArray, List.length_cons, List.length_nil, place, List.take_succ_cons, List.take_zero, List.drop_succ_cons, List.drop_zero, List.cons_append, List.nil_append, and_self, and_true, true_and, Nat.reduceLeDiff, List.toList_toArray, wr64, wru64, wru8, Nat.reduceEqDiff, ↓reduceIte, Nat.reduceAdd, e0, dT]) <;> rfl)) : p := h
theorem kYb3 {p : Prop} (h : p := by ((simp (disch := omega) only [ev_tmp, ev_const, ev_func, ev_global, upd_app, val_move, val_pick, pickV_true, pickV_false, pickV_bool, val_nilck, nilckV_ptr, val_bin, bin_add, bin_sub, bin_mul, bin_eql, bin_neq, bin_lss, bin_leq, bin_gtr, bin_geq, bin_seql, bin_sneq, bin_slss, bin_sleq, bin_sgtr, bin_sgeq, val_beq, beqV_f, beqV_t, val_seq, val_not, notV_bool, val_toInt, toIntV_int, val_off, offV_ptr, val_len, lenV_slice, val_slen, slenV_S, val_ext, extV_tup, val_ifc, val_fn, List.getElem?_cons_zero, List.getElem?_cons_succ, List.map_cons, List.map_nil, eq_self, Bool.false_eq_true, Bool.not_true, Bool.not_false, Option.map_some, Nat.zero_add, isB_bool, isB_undef, Bool.true_beq, Bool.false_beq, beq_self_eq_true, Bool.true_and, Bool.and_true, Bool.false_and, Bool.and_false, Bool.true_or, Bool.or_true, Bool.false_or, Bool.or_false, not_dec, and_dec, or_dec, seqV_f, seqV_t, ceq_i, ceq_s, ceq_nil, val_bld, bldV, cells_int, cells_bool, cells_S, cells_b8, cells_slice, cells_ptr, cells_agg, List.size_toArray, List.length_cons, List.length_nil, place, List.take_succ_cons, List.take_zero, List.drop_succ_cons, List.drop_zero, List.cons_append, List.nil_append, and_self, and_true, true_and, Nat.reduceLeDiff, List.toList_toArray, wr64, wru64, wru8, Nat.reduceEqDiff, ↓reduceIte, Nat.reduceAdd, e1]) <;> rfl)) : p := h
abbrev R26_0 : List LOper := [⟨some 2, none, .pv (.move (.const (.slice none 0 0)))⟩]
abbrev R26_1 : List LOper := [⟨some 4, none, .pv (.move (.tmp 0))⟩, ⟨some 5, none, .raw 36 (.call (.mk (.builtin .append) #[(.const (.slice none 0 0)), (.tmp 4)] #[36, 36]))⟩, ⟨some 3, none, .pv (.move (.tmp 5))⟩]
abbrev R26_2 : List LOper := [⟨some 6, none, .pv (.move (.tmp 3))⟩, ⟨some 7, none, .row 5 2 [(.int .u8 0), (.int .u8 0)] [(0, (1, (.const (.int .u8 165)))), (1, (1, (.const (.int .u8 90))))]⟩, ⟨some 8, none, .raw 36 (.call (.mk (.builtin .append) #[(.tmp 6), (.tmp 7)] #[36, 36]))⟩, ⟨some 2, none, .pv (.move (.tmp 8))⟩]
abbrev L26 : LFun := ⟨9, [(.tmp 2)], (.seq (.reg R26_0) (.seq (.reg R26_1) (.seq (.reg R26_2) .ret)))⟩
theorem low26 : lowFn Try.prog Try.f26 = some L26 := by kernel_rfl
abbrev R28_0 : List LOper := [⟨some 4, none, .pv (.move (.const (.bool false)))⟩]
abbrev R28_1 : List LOper := [⟨some 8, none, .pv (.move (.tmp 1))⟩, ⟨some 9, none, .pv (.len (.tmp 8))⟩, ⟨some 5, none, .pv (.move (.tmp 9))⟩]
abbrev R28_2 : List LOper := [⟨some 10, none, .pv (.move (.tmp 0))⟩, ⟨some 11, none, .pv (.len (.tmp 10))⟩, ⟨some 12, none, .pv (.move (.tmp 5))⟩, ⟨some 13, none, .pv (.bin .add (.tmp 12) (.const (.int .i64 2)))⟩, ⟨some 14, none, .pv (.bin .eql (.tmp 11) (.tmp 13))⟩, ⟨some 15, none, .pv (.move (.tmp 14))⟩, ⟨some 16, (some (15, true)), .pv (.move (.tmp 0))⟩, ⟨some 17, (some (15, true)), .pv (.move (.tmp 5))⟩, ⟨some 18, (some (15, true)), .pv (.slc 1 (.tmp 16) none (some (.tmp 17)))⟩, ⟨some 19, (some (15, true)), .pv (.move (.tmp 1))⟩, ⟨some 20, (some (15, true)), .call 21 [(.tmp 18), (.tmp 19)]⟩, ⟨some 21, none, .pv (.pick (.tmp 15) (.tmp 20) (.const (.bool false)))⟩, ⟨some 22, none, .pv (.move (.tmp 21))⟩, ⟨some 23, (some (22, true)), .pv (.move (.tmp 0))⟩, ⟨some 24, (some (22, true)), .pv (.move (.tmp 5))⟩, ⟨some 25, (some (22, true)), .pv (.idx 1 (.tmp 23) (.tmp 24))⟩, ⟨some 26, (some (22, true)), .load (.tmp 25)⟩, ⟨some 27, (some (22, true)), .pv (.bin .eql (.tmp 26) (.const (.int .u8 165)))⟩, ⟨some 28, none, .pv (.pick (.tmp 22) (.tmp 27) (.const (.bool false)))⟩, ⟨some 29, none, .pv (.move (.tmp 28))⟩, ⟨some 30, (some (29, true)), .pv (.move (.tmp 0))⟩, ⟨some 31, (some (29, true)), .pv (.move (.tmp 5))⟩, ⟨some 32, (some (29, true)), .pv (.bin .add (.tmp 31) (.const (.int .i64 1)))⟩, ⟨some 33, (some (29, true)), .pv (.idx 1 (.tmp 30) (.tmp 32))⟩, ⟨some 34, (some (29, true)), .load (.tmp 33)⟩, ⟨some 35, (some (29, true)), .pv (.bin .eql (.tmp 34) (.const (.int .u8 90)))⟩, ⟨some 36, none, .pv (.pick (.tmp 29) (.tmp 35) (.const (.bool false)))⟩, ⟨some 6, none, .pv (.move (.tmp 36))⟩]
abbrev R28_3 : List LOper := [⟨some 7, none, .pv (.move (.const (.int .i64 0)))⟩]
abbrev R28_4 : List LOper := [⟨some 37, none, .pv (.move (.tmp 7))⟩, ⟨some 38, none, .pv (.move (.tmp 0))⟩, ⟨some 39, none, .pv (.len (.tmp 38))⟩, ⟨some 40, none, .pv (.bin .lss (.tmp 37) (.tmp 39))⟩]
abbrev R28_5 : List LOper := [⟨some 43, none, .pv (.move (.tmp 0))⟩, ⟨some 44, none, .pv (.move (.tmp 7))⟩, ⟨some 45, none, .pv (.idx 1 (.tmp 43) (.tmp 44))⟩, ⟨none, none, .store 1 (.tmp 45) (.const (.int .u8 85))⟩]
abbrev R28_6 : List LOper := [⟨some 41, none, .pv (.move (.tmp 7))⟩, ⟨some 42, none, .pv (.bin .add (.tmp 41) (.const (.int .i64 1)))⟩, ⟨some 7, none, .pv (.move (.tmp 42))⟩]
abbrev R28_7 : List LOper := [⟨some 46, none, .pv (.move (.tmp 6))⟩, ⟨some 4, none, .pv (.move (.tmp 46))⟩]
abbrev L28 : LFun := ⟨47, [(.tmp 4)], (.seq (.reg R28_0) (.seq (.reg R28_1) (.seq (.reg R28_2) (.seq (.seq (.reg R28_3) (.block 0 (.loop (.seq (.seq (.reg R28_4) (.cond (.tmp 40) .skip (.exit 0))) (.seq (.block 1 (.reg R28_5)) (.reg R28_6)))))) (.seq (.reg R28_7) .ret)))))⟩
theorem low28 : lowFn Try.prog Try.f28 = some L28 := by kernel_rfl
abbrev R23_0 : List LOper := [⟨some 2, none, .pv (.move (.const (.slice none 0 0)))⟩]
abbrev R23_1 : List LOper := [⟨some 4, none, .pv (.move (.tmp 0))⟩, ⟨some 5, none, .raw 31 (.call (.mk (.builtin .append) #[(.const (.slice none 0 0)), (.tmp 4)] #[31, 31]))⟩, ⟨some 3, none, .pv (.move (.tmp 5))⟩]
abbrev R23_2 : List LOper := [⟨some 6, none, .pv (.move (.tmp 3))⟩, ⟨some 7, none, .pv (.bld [(S []), (.int .i64 0), (.int .i64 0), (.int .i64 0), (.int .i64 0), (.int .i64 0), (.int .i64 0)] [(0, (1, (.const (S [109, 97, 114, 107]))))])⟩, ⟨some 8, none, .row 71 1 [(S []), (.int .i64 0), (.int .i64 0), (.int .i64 0), (.int .i64 0), (.int .i64 0), (.int .i64 0)] [(0, (7, (.tmp 7)))]⟩, ⟨some 9, none, .raw 31 (.call (.mk (.builtin .append) #[(.tmp 6), (.tmp 8)] #[31, 31]))⟩, ⟨some 2, none, .pv (.move (.tmp 9))⟩]
abbrev L23 : LFun := ⟨10, [(.tmp 2)], (.seq (.reg R23_0) (.seq (.reg R23_1) (.seq (.reg R23_2) .ret)))⟩
theorem low23 : lowFn Try.prog Try.f23 = some L23 := by kernel_rfl

theorem c26 (l : List UInt8) (b : Value) (w : World) (hb : Reads w [] 1 b l.length (l.map b8)) (hl : l.length ≤ 140737488351232) :
    Calls Try.prog 26 #[b] w (Ret w [] fun u O' => RowIs 5 1 u (l.length + 2) (l.map b8 ++ [b8 165, b8 90]) O') := by
  refine enterF (args := [b]) Try.func26 low26 rfl ?_; have hS := St.start w; dsimp only [L26, envL, Nat.reduceAdd]
  repeat' (first | ((with_reducible apply WL_p); (· exact evk)) | (with_reducible first | refine WL_nil ?_ | refine then_normal ?_ | refine blk_normal ?_ | refine WC_seq ?_ | refine WC_reg ?_ | refine WC_block ?_ | refine WC_skip ?_ | refine WC_exit ?_ | refine then_exit ?_ | refine blk_hit ?_ | refine blk_miss (by decide) ?_ | refine WC_ret ?_ | refine then_ret ?_ | refine blk_ret ?_))
  refine WL_append (M := []) (L := []) (F := []) hS el36 (by exact evk) (by exact evk) (RowIs.nil 5 1) (Src.of_reads (hS.reads0 hb) (b8_one l) Try.underlying36) (by omega) (by omega) ?_
  clear hS
  intro v w L hrow hS
  simp only [List.nil_append, List.append_nil, Nat.zero_add] at hS hrow
  repeat' (first | ((with_reducible apply WL_p); (· exact evk)) | (with_reducible first | refine WL_nil ?_ | refine then_normal ?_ | refine blk_normal ?_ | refine WC_seq ?_ | refine WC_reg ?_ | refine WC_block ?_ | refine WC_skip ?_ | refine WC_exit ?_ | refine then_exit ?_ | refine blk_hit ?_ | refine blk_miss (by decide) ?_ | refine WC_ret ?_ | refine then_ret ?_ | refine blk_ret ?_) | ((first | (with_reducible apply WL_newz hS) | ((with_reducible apply WL_newv hS); (· exact evk); (· rfl)) | ((with_reducible apply WL_row hS); (· exact evk))); clear hS; intro bq w hS hbq; (try simp only [List.nil_append, List.cons_append, List.append_assoc] at hS)))
  refine WL_append (M := []) (L := L) (F := _) hS el36 (by exact evk) (by exact evk) hrow (Src.blk (n := 2) hS inn rfl (by simp [Value.oneCell']) Try.underlying36) (by omega) (by omega) ?_
  clear hS
  intro v2 w2 L2 hrow2 hS
  simp only [List.nil_append] at hS
  repeat' (first | ((with_reducible apply WL_p); (· exact evk)) | (with_reducible first | refine WL_nil ?_ | refine then_normal ?_ | refine blk_normal ?_ | refine WC_seq ?_ | refine WC_reg ?_ | refine WC_block ?_ | refine WC_skip ?_ | refine WC_exit ?_ | refine then_exit ?_ | refine blk_hit ?_ | refine blk_miss (by decide) ?_ | refine WC_ret ?_ | refine then_ret ?_ | refine blk_ret ?_))
  exact ret1 (v := v2) (hS.sub (List.sublist_append_left _ _)) rfl hrow2
theorem c23 (vs : List Vw) (b : Value) (w : World) (hb : RdL w [] 7 b vs Vw.cells) (hl : vs.length * 64 ≤ 140737488351232) :
    Calls Try.prog 23 #[b] w (Ret w [] fun u O' => RowIs 71 7 u (vs.length + 1) (vs.flatMap Vw.cells ++ Vw.cells ⟨[109, 97, 114, 107], 0, 0, 0, 0, 0, 0⟩) O') := by
  have h1 : ∀ u ∈ vs.flatMap Vw.cells, u.oneCell' = true := by
    intro u hu
    obtain ⟨v, _, hv⟩ := List.mem_flatMap.1 hu
    exact Vw.ones v u hv
  refine enterF (args := [b]) Try.func23 low23 rfl ?_; have hS := St.start w; dsimp only [L23, envL, Nat.reduceAdd]
  repeat' (first | ((with_reducible apply WL_p); (· exact evk)) | (with_reducible first | refine WL_nil ?_ | refine then_normal ?_ | refine blk_normal ?_ | refine WC_seq ?_ | refine WC_reg ?_ | refine WC_block ?_ | refine WC_skip ?_ | refine WC_exit ?_ | refine then_exit ?_ | refine blk_hit ?_ | refine blk_miss (by decide) ?_ | refine WC_ret ?_ | refine then_ret ?_ | refine blk_ret ?_))
  refine WL_append (M := []) (L := []) (F := []) hS el31 (by exact evk) (by exact evk) (RowIs.nil 71 7) (Src.of_reads (hS.rdL0 hb).1 h1 Try.underlying31) (by omega) (by omega) ?_
  clear hS
  intro v w L hrow hS
  simp only [List.nil_append, List.append_nil, Nat.zero_add] at hS hrow
  repeat' (first | ((with_reducible apply WL_p); (· exact evk)) | (with_reducible first | refine WL_nil ?_ | refine then_normal ?_ | refine blk_normal ?_ | refine WC_seq ?_ | refine WC_reg ?_ | refine WC_block ?_ | refine WC_skip ?_ | refine WC_exit ?_ | refine then_exit ?_ | refine blk_hit ?_ | refine blk_miss (by decide) ?_ | refine WC_ret ?_ | refine then_ret ?_ | refine blk_ret ?_) | ((first | (with_reducible apply WL_newz hS) | ((with_reducible apply WL_newv hS); (· exact evk); (· rfl)) | ((with_reducible apply WL_row hS); (· exact evk))); clear hS; intro bq w hS hbq; (try simp only [List.nil_append, List.cons_append, List.append_assoc] at hS)))
  refine WL_append (M := []) (L := L) (F := _) hS el31 (by exact evk) (by exact evk) hrow (Src.blk (n := 1) hS inn rfl (by simp [Value.oneCell', Lw.S]) Try.underlying31) (by omega) (by omega) ?_
  clear hS
  intro v2 w2 L2 hrow2 hS
  simp only [List.nil_append] at hS
  repeat' (first | ((with_reducible apply WL_p); (· exact evk)) | (with_reducible first | refine WL_nil ?_ | refine then_normal ?_ | refine blk_normal ?_ | refine WC_seq ?_ | refine WC_reg ?_ | refine WC_block ?_ | refine WC_skip ?_ | refine WC_exit ?_ | refine then_exit ?_ | refine blk_hit ?_ | refine blk_miss (by decide) ?_ | refine WC_ret ?_ | refine then_ret ?_ | refine blk_ret ?_))
  exact ret1 (v := v2) (hS.sub (List.sublist_append_left _ _)) rfl hrow2
theorem bndV_none (e : Env) (d lim : Nat) : bndV e none d lim = some d := rfl
theorem slcB {e : Env} {x z : Operand} {sz b n c h : Nat} (hx : ev e x = .slice (some ⟨b, 0, none⟩) n c) (hz : ev e z = .int .i64 (h : Int)) (hc : h ≤ c) : PV.val e (.slc sz x none (some z)) = some (.slice (some ⟨b, 0, none⟩) h c) := by
  have h1 : bndV e (some z) n c = some h := by
    simp only [bndV, hz]
    rw [if_pos (by omega)]; congr 1
  simp only [PV.val, hx, h1, bndV_none, Option.bind_some, Option.map_some, Nat.zero_mul, add_none, Nat.add_zero, Nat.sub_zero]
  simp
theorem set_rep {n k : Nat} {xs sp : List Value} {v : Value} (hl : xs.length = n) (hk : k < n) (y : List Value) (hy : xs = List.replicate k v ++ y) : (xs ++ sp).set k v = (List.replicate (k + 1) v ++ y.drop 1) ++ sp := by
  subst hy
  have hlen : (List.replicate k v).length = k := List.length_replicate
  have : y ≠ [] := by
    rintro rfl
    simp at hl; omega
  obtain ⟨z, zs, rfl⟩ := List.exists_cons_of_ne_nil this
  rw [List.append_assoc, List.set_append, if_neg (by omega), hlen, Nat.sub_self]
  simp only [List.cons_append, List.set_cons_zero, List.drop_succ_cons, List.drop_zero, List.replicate_succ', List.append_assoc, List.nil_append]
set_option maxRecDepth 4000 in
set_option maxHeartbeats 1000000 in
theorem c28 (l : List UInt8) (b : Value) (bk cap : Nat) (sp : List Value) (w0 : World) (hl : l.length ≤ 140737488351232) (hA : At w0 [(bk, Blk 5 ((l.map b8 ++ [b8 165, b8 90]) ++ sp))]) (hb : Reads w0 [bk] 1 b l.length (l.map b8)) (hcap : l.length + 2 ≤ cap) :
    Calls Try.prog 28 #[.slice (some ⟨bk, 0, none⟩) (l.length + 2) cap, b] w0 (Ret w0 [bk] fun u O' => u = .bool true ∧ O' = [(bk, Blk 5 (List.replicate (l.length + 2) (b8 85) ++ sp))]) := by
  obtain ⟨A, c, rfl, _⟩ := hb.slc
  refine enterF (args := [.slice (some ⟨bk, 0, none⟩) (l.length + 2) cap, .slice A l.length c]) Try.func28 low28 rfl ?_; have hS := St.init hA; dsimp only [L28, envL, Nat.reduceAdd]
  have e0 : decide (((l.length + 2 : Nat) : Int) = (l.length : Int) + 2) = true := by simp
  have e1 : (l.length : Int) + 1 = ((l.length + 1 : Nat) : Int) := by omega
  have g0 : ((l.map b8 ++ [b8 165, b8 90]) ++ sp)[l.length]? = some (.int .u8 165) := by
    rw [List.append_assoc, List.getElem?_append_right (by simp)]; simp [b8]
  have g1 : ((l.map b8 ++ [b8 165, b8 90]) ++ sp)[l.length + 1]? = some (.int .u8 90) := by
    rw [List.append_assoc, List.getElem?_append_right (by simp)]; simp [b8]
  repeat' (first | ((with_reducible apply WL_p); (· exact kYb1)) | ((with_reducible apply WL_do); (· exact evd)) | ((with_reducible apply WL_no); (· exact evd)) | (with_reducible first | refine WL_nil ?_ | refine then_normal ?_ | refine blk_normal ?_ | refine WC_seq ?_ | refine WC_reg ?_ | refine WC_block ?_ | refine WC_skip ?_ | refine WC_exit ?_ | refine then_exit ?_ | refine blk_hit ?_ | refine blk_miss (by decide) ?_ | refine WC_ret ?_ | refine then_ret ?_ | refine blk_ret ?_))
  refine WL_p (slcB (by exact evk) (by exact evk) (by omega)) ?_
  repeat' (first | ((with_reducible apply WL_p); (· exact kYb1)) | ((with_reducible apply WL_do); (· exact evd)) | ((with_reducible apply WL_no); (· exact evd)) | (with_reducible first | refine WL_nil ?_ | refine then_normal ?_ | refine blk_normal ?_ | refine WC_seq ?_ | refine WC_reg ?_ | refine WC_block ?_ | refine WC_skip ?_ | refine WC_exit ?_ | refine then_exit ?_ | refine blk_hit ?_ | refine blk_miss (by decide) ?_ | refine WC_ret ?_ | refine then_ret ?_ | refine blk_ret ?_))
  have hlend : Reads _ (keysOf []) 1 (.slice (some ⟨bk, 0, none⟩) l.length cap) l.length (l.map b8) := St.lend (Oc := []) (F := [(bk, Blk 5 (l.map b8 ++ ([b8 165, b8 90] ++ sp)))]) (by simpa [List.append_assoc] using hS) (T := 5) (sp := [b8 165, b8 90] ++ sp) List.mem_cons_self (by simp) hl
  ((with_reducible apply WL_callq hS); (· exact evk); (· first | exact c21 l _ _ _ hlend (hS.reads0 hb)); (clear hS; intro w hS))
  repeat' (first | ((with_reducible apply WL_p); (· exact kYb1)) | ((with_reducible apply WL_do); (· exact evd)) | ((with_reducible apply WL_no); (· exact evd)) | (with_reducible first | refine WL_nil ?_ | refine then_normal ?_ | refine blk_normal ?_ | refine WC_seq ?_ | refine WC_reg ?_ | refine WC_block ?_ | refine WC_skip ?_ | refine WC_exit ?_ | refine then_exit ?_ | refine blk_hit ?_ | refine blk_miss (by decide) ?_ | refine WC_ret ?_ | refine then_ret ?_ | refine blk_ret ?_))
  refine WL_idxO (k := l.length) (by exact evk) (by exact evk) (by omega) ?_
  rw [Nat.mul_one]
  repeat' (first | ((with_reducible apply WL_p); (· exact kYb1)) | ((with_reducible apply WL_do); (· exact evd)) | ((with_reducible apply WL_no); (· exact evd)) | (with_reducible first | refine WL_nil ?_ | refine then_normal ?_ | refine blk_normal ?_ | refine WC_seq ?_ | refine WC_reg ?_ | refine WC_block ?_ | refine WC_skip ?_ | refine WC_exit ?_ | refine then_exit ?_ | refine blk_hit ?_ | refine blk_miss (by decide) ?_ | refine WC_ret ?_ | refine then_ret ?_ | refine blk_ret ?_))
  refine WL_load hS (by exact evk) inn g0 ?_
  repeat' (first | ((with_reducible apply WL_p); (· exact kYb2)) | ((with_reducible apply WL_do); (· exact evd)) | ((with_reducible apply WL_no); (· exact evd)) | (with_reducible first | refine WL_nil ?_ | refine then_normal ?_ | refine blk_normal ?_ | refine WC_seq ?_ | refine WC_reg ?_ | refine WC_block ?_ | refine WC_skip ?_ | refine WC_exit ?_ | refine then_exit ?_ | refine blk_hit ?_ | refine blk_miss (by decide) ?_ | refine WC_ret ?_ | refine then_ret ?_ | refine blk_ret ?_))
  refine WL_idxO (k := l.length + 1) (by exact evk) (by exact kYb3) (by omega) ?_
  rw [Nat.mul_one]
  repeat' (first | ((with_reducible apply WL_p); (· exact kYb1)) | ((with_reducible apply WL_do); (· exact evd)) | ((with_reducible apply WL_no); (· exact evd)) | (with_reducible first | refine WL_nil ?_ | refine then_normal ?_ | refine blk_normal ?_ | refine WC_seq ?_ | refine WC_reg ?_ | refine WC_block ?_ | refine WC_skip ?_ | refine WC_exit ?_ | refine then_exit ?_ | refine blk_hit ?_ | refine blk_miss (by decide) ?_ | refine WC_ret ?_ | refine then_ret ?_ | refine blk_ret ?_))
  refine WL_load hS (by exact evk) inn g1 ?_
  repeat' (first | ((with_reducible apply WL_p); (· exact kYb2)) | ((with_reducible apply WL_do); (· exact evd)) | ((with_reducible apply WL_no); (· exact evd)) | (with_reducible first | refine WL_nil ?_ | refine then_normal ?_ | refine blk_normal ?_ | refine WC_seq ?_ | refine WC_reg ?_ | refine WC_block ?_ | refine WC_skip ?_ | refine WC_exit ?_ | refine then_exit ?_ | refine blk_hit ?_ | refine blk_miss (by decide) ?_ | refine WC_ret ?_ | refine then_ret ?_ | refine blk_ret ?_))
  generalize hxs : l.map b8 ++ [b8 165, b8 90] = xs at hS
  have hxl : xs.length = l.length + 2 := by rw [← hxs]; simp
  refine WC_loopH (α := Nat) (fun k => [(0, .slice (some ⟨bk, 0, none⟩) (l.length + 2) cap), (6, .bool true), (7, .int .i64 (k : Int))])
    (fun k w' => k ≤ l.length + 2 ∧ St w0 [bk] w' [(bk, Blk 5 ((List.replicate k (b8 85) ++ xs.drop k) ++ sp))]) (fun k => l.length + 2 - k) 0 (by exact kYb0) ⟨by omega, by simpa using hS⟩ ?_
  clear hS
  intro k e w ⟨hk, hS⟩
  dsimp only [patch]
  by_cases hlt : k < l.length + 2
  · repeat' (first | ((with_reducible apply WL_p); (· exact evk)) | (with_reducible first | refine WL_nil ?_ | refine then_normal ?_ | refine blk_normal ?_ | refine WC_seq ?_ | refine WC_reg ?_ | refine WC_block ?_ | refine WC_skip ?_ | refine WC_exit ?_ | refine then_exit ?_ | refine blk_hit ?_ | refine blk_miss (by decide) ?_ | refine WC_ret ?_ | refine then_ret ?_ | refine blk_ret ?_) | (first | ((with_reducible apply WL_split); (· exact evk)) | ((with_reducible apply WC_dec); (· exact evk)) | ((with_reducible apply WL_splitB); (· exact evk)) | ((with_reducible apply WC_bool); (· exact evk)) | ((with_reducible intro hh) <;> (try (exfalso; omega)))))
    refine WL_idxO (k := k) (by exact evk) (by exact evk) hlt ?_
    rw [Nat.mul_one]
    have hyl : (List.replicate k (b8 85) ++ xs.drop k).length = l.length + 2 := by simp; omega
    refine WL_store (v := b8 85) hS (by exact evk) (by exact evk) rfl upp (by simp; omega) ?_
    clear hS
    intro w hS
    rw [set_rep hyl hlt _ rfl, List.drop_drop] at hS
    repeat' (first | ((with_reducible apply WL_p); (· exact evk)) | (with_reducible first | refine WL_nil ?_ | refine then_normal ?_ | refine blk_normal ?_ | refine WC_seq ?_ | refine WC_reg ?_ | refine WC_block ?_ | refine WC_skip ?_ | refine WC_exit ?_ | refine then_exit ?_ | refine blk_hit ?_ | refine blk_miss (by decide) ?_ | refine WC_ret ?_ | refine then_ret ?_ | refine blk_ret ?_))
    refine ⟨k + 1, by omega, ?_, by omega, hS⟩
    (simp (disch := omega) only [ev_tmp, ev_const, ev_func, ev_global, upd_app, val_move, val_pick, pickV_true, pickV_false, pickV_bool, val_nilck, nilckV_ptr, val_bin, bin_add, bin_sub, bin_mul, bin_eql, bin_neq, bin_lss, bin_leq, bin_gtr, bin_geq, bin_seql, bin_sneq, bin_slss, bin_sleq, bin_sgtr, bin_sgeq, val_beq, beqV_f, beqV_t, val_seq, val_not, notV_bool, val_toInt, toIntV_int, val_off, offV_ptr, val_len, lenV_slice, val_slen, slenV_S, val_ext, extV_tup, val_ifc, val_fn, List.getElem?_cons_zero, List.getElem?_cons_succ, List.map_cons, List.map_nil, eq_self, Bool.false_eq_true, Bool.not_true, Bool.not_false, Option.map_some, Nat.zero_add, isB_bool, isB_undef, Bool.true_beq, Bool.false_beq, beq_self_eq_true, Bool.true_and, Bool.and_true, Bool.false_and, Bool.and_false, Bool.true_or, Bool.or_true, Bool.false_or, Bool.or_false, not_dec, and_dec, or_dec, seqV_f, seqV_t, ceq_i, ceq_s, ceq_nil, val_bld, bldV, cells_int, cells_bool, cells_S, cells_b8, cells_slice, cells_ptr, cells_agg, List.size_toArray, List.length_cons, List.length_nil, place, List.take_succ_cons, List.take_zero, List.drop_succ_cons, List.drop_zero, List.cons_append, List.nil_append, and_self, and_true, true_and, Nat.reduceLeDiff, List.toList_toArray, wr64, wru64, wru8, Nat.reduceEqDiff, ↓reduceIte, Nat.reduceAdd, Has, and_true, Int.natCast_add, Int.cast_ofNat_Int])
  · obtain rfl : k = l.length + 2 := by omega
    repeat' (first | ((with_reducible apply WL_p); (· exact evk)) | (with_reducible first | refine WL_nil ?_ | refine then_normal ?_ | refine blk_normal ?_ | refine WC_seq ?_ | refine WC_reg ?_ | refine WC_block ?_ | refine WC_skip ?_ | refine WC_exit ?_ | refine then_exit ?_ | refine blk_hit ?_ | refine blk_miss (by decide) ?_ | refine WC_ret ?_ | refine then_ret ?_ | refine blk_ret ?_) | (first | ((with_reducible apply WL_split); (· exact evk)) | ((with_reducible apply WC_dec); (· exact evk)) | ((with_reducible apply WL_splitB); (· exact evk)) | ((with_reducible apply WC_bool); (· exact evk)) | ((with_reducible intro hh) <;> (try (exfalso; omega)))))
    refine ret1 (v := .bool true) hS rfl ⟨rfl, ?_⟩
    rw [List.drop_eq_nil_of_le (by omega), List.append_nil]
end Go.Proofs.Ytohmgkcdjapinaa.Lw
namespace Go.Proofs.Ytohmgkcdjapinaa.Lw
theorem kYc0 {p : Prop} (h : p := by ((simp (disch := omega) only [ev_tmp, ev_const, ev_func, ev_global, upd_app, val_move, val_pick, pickV_true, pickV_false, pickV_bool, val_nilck, nilckV_ptr, val_bin, bin_add, bin_sub, bin_mul, bin_eql, bin_neq, bin_lss, bin_leq, bin_gtr, bin_geq, bin_seql, bin_sneq, bin_slss, bin_sleq, bin_sgtr, bin_sgeq, val_beq, beqV_f, beqV_t, val_seq, val_not, notV_bool, val_toInt, toIntV_int, val_off, offV_ptr, val_len, lenV_slice, val_slen, slenV_S, val_ext, extV_tup, val_ifc, val_fn, List.getElem?_cons_zero, List.getElem?_cons_succ, List.map_cons, List.map_nil, eq_self, Bool.false_eq_true, Bool.not_true, Bool.not_false, Option.map_some, Nat.zero_add, isB_bool, isB_undef, Bool.true_beq, Bool.false_beq, beq_self_eq_true, Bool.true_and, Bool.and_true, Bool.false_and, Bool.and_false, Bool.true_or, Bool.or_true, Bool.false_or, Bool.or_false, not_dec, and_dec, or_dec, seqV_f, seqV_t, ceq_i, ceq_s, ceq_nil, val_bld, bldV, cells_int, cells_bool, cells_S, cells_b8, cells_slice, cells_ptr, cells_agg, List.size_toArray, List.length_cons, List.length_nil, place, List.take_succ_cons, List.take_zero, List.drop_succ_cons, List.drop_zero, List.cons_append, List.nil_append, and_self, and_true, true_and, Nat.reduceLeDiff, List.toList_toArray, wr64, wru64, wru8, Nat.reduceEqDiff, ↓reduceIte, Nat.reduceAdd, dne, dNT, dT]) <;> rfl)) : p := h
theorem kYc1 {p : Prop} (h : p := by ((simp (disch := omega) only [ev_tmp, ev_const, ev_func, ev_global, upd_app, val_move, val_pick, pickV_true, pickV_false, pickV_bool, val_nilck, nilckV_ptr, val_bin, bin_add, bin_sub, bin_mul, bin_eql, bin_neq, bin_lss, bin_leq, bin_gtr, bin_geq, bin_seql, bin_sneq, bin_slss, bin_sleq, bin_sgtr, bin_sgeq, val_beq, beqV_f, beqV_t, val_seq, val_not, notV_bool, val_toInt, toIntV_int, val_off, offV_ptr, val_len, lenV_slice, val_slen, slenV_S, val_ext, extV_tup, val_ifc, val_fn, List.getElem?_cons_zero, List.getElem?_cons_succ, List.map_cons, List.map_nil, eq_self, Bool.false_eq_true, Bool.not_true, Bool.not_false, Option.map_some, Nat.zero_add, isB_bool, isB_undef, Bool.true_beq, Bool.false_beq, beq_self_eq_true, Bool.true_and, Bool.and_true, Bool.false_and, Bool.and_false, Bool.true_or, Bool.or_true, Bool.false_or, Bool.or_false, not_dec, and_dec, or_dec, seqV_f, seqV_t, ceq_i, ceq_s, ceq_nil, val_bld, bldV, cells_int, cells_bool, cells_S, cells_b8, cells_slice, cells_ptr, cells_agg, List.size_toArray, List.length_cons, List.length_nil, place, List.take_succ_cons, List.take_zero, List.drop_succ_cons, List.drop_zero, List.cons_append, List.nil_append, and_self, and_true, true_and, Nat.reduceLeDiff, List.toList_toArray, wr64, wru64, wru8, Nat.reduceEqDiff, ↓reduceIte, Nat.reduceAdd, dT]) <;> rfl)) : p := h
abbrev R9_0 : List LOper := [⟨some 0, none, .pv (.move (.const (.bool false)))⟩]
abbrev R9_1 : List LOper := [⟨some 15, none, .pv (.bld [(.int .i64 0), (.int .i64 0)] [(0, (1, (.const (.int .i64 2)))), (1, (1, (.const (.int .i64 1))))])⟩, ⟨some 16, none, .pv (.bld [(.int .i64 0), (S []), (.int .i64 0), (.int .i64 0), (.int .i64 0), (.int .i64 0), (.int .i64 0), (.int .i64 0), (.int .i64 0), (.int .i64 0), (.int .i64 0), (.int .i64 0), (.int .i64 0), (.int .i64 0), (S []), (.int .i64 0), (.int .i64 0), (.int .i64 0), (.int .i64 0), (.slice none 0 0)] [(0, (1, (.const (.int .i64 3)))), (1, (1, (.const (S [107])))), (2, (1, (.const (.int .i64 10)))), (4, (2, (.tmp 15)))])⟩, ⟨some 17, none, .call 16 [(.tmp 16)]⟩, ⟨some 14, none, .pv (.move (.tmp 17))⟩, ⟨some 18, none, .pv (.ext (.tmp 14) 0)⟩, ⟨some 19, none, .pv (.ext (.tmp 14) 1)⟩, ⟨some 1, none, .pv (.move (.tmp 18))⟩, ⟨some 2, none, .pv (.move (.tmp 19))⟩]
abbrev R9_2 : List LOper := [⟨some 21, none, .row 5 7 [(.int .u8 0), (.int .u8 0), (.int .u8 0), (.int .u8 0), (.int .u8 0), (.int .u8 0), (.int .u8 0)] [(0, (1, (.const (.int .u8 3)))), (1, (1, (.const (.int .u8 1)))), (2, (1, (.const (.int .u8 107)))), (3, (1, (.const (.int .u8 10)))), (4, (1, (.const (.int .u8 0)))), (5, (1, (.const (.int .u8 2)))), (6, (1, (.const (.int .u8 1))))]⟩, ⟨some 22, none, .call 17 [(.tmp 21)]⟩, ⟨some 20, none, .pv (.move (.tmp 22))⟩, ⟨some 23, none, .pv (.ext (.tmp 20) 0)⟩, ⟨some 24, none, .pv (.ext (.tmp 20) 1)⟩, ⟨some 25, none, .pv (.ext (.tmp 20) 2)⟩, ⟨some 3, none, .newz 33 [(.int .i64 0), (S []), (.int .i64 0), (.int .i64 0), (.int .i64 0), (.int .i64 0), (.int .i64 0), (.int .i64 0), (.int .i64 0), (.int .i64 0), (.int .i64 0), (.int .i64 0), (.int .i64 0), (.int .i64 0), (S []), (.int .i64 0), (.int .i64 0), (.int .i64 0), (.int .i64 0), (.slice none 0 0)]⟩, ⟨none, none, .store 20 (.tmp 3) (.tmp 23)⟩, ⟨some 4, none, .pv (.move (.tmp 24))⟩, ⟨some 5, none, .pv (.move (.tmp 25))⟩]
abbrev R9_3 : List LOper := [⟨some 27, none, .pv (.bld [(.int .i64 0), (.int .i64 0), (.int .i64 0), (.int .i64 0), (.slice none 0 0)] [(1, (1, (.const (.int .i64 1)))), (3, (1, (.const (.int .i64 7))))])⟩, ⟨some 28, none, .call 18 [(.tmp 27)]⟩, ⟨some 26, none, .pv (.move (.tmp 28))⟩, ⟨some 29, none, .pv (.ext (.tmp 26) 0)⟩, ⟨some 30, none, .pv (.ext (.tmp 26) 1)⟩, ⟨some 6, none, .pv (.move (.tmp 29))⟩, ⟨some 7, none, .pv (.move (.tmp 30))⟩]
abbrev R9_4 : List LOper := [⟨some 32, none, .row 5 7 [(.int .u8 0), (.int .u8 0), (.int .u8 0), (.int .u8 0), (.int .u8 0), (.int .u8 0), (.int .u8 0)] [(0, (1, (.const (.int .u8 3)))), (1, (1, (.const (.int .u8 1)))), (2, (1, (.const (.int .u8 2)))), (3, (1, (.const (.int .u8 1)))), (4, (1, (.const (.int .u8 107)))), (5, (1, (.const (.int .u8 10)))), (6, (1, (.const (.int .u8 0))))]⟩, ⟨some 33, none, .call 19 [(.tmp 32)]⟩, ⟨some 31, none, .pv (.move (.tmp 33))⟩, ⟨some 34, none, .pv (.ext (.tmp 31) 0)⟩, ⟨some 35, none, .pv (.ext (.tmp 31) 1)⟩, ⟨some 36, none, .pv (.ext (.tmp 31) 2)⟩, ⟨some 37, none, .pv (.ext (.tmp 31) 3)⟩, ⟨some 8, none, .newz 27 [(.int .i64 0), (.int .i64 0)]⟩, ⟨some 9, none, .newz 29 [(.int .i64 0), (S []), (.int .i64 0), (.int .i64 0)]⟩, ⟨none, none, .store 2 (.tmp 8) (.tmp 34)⟩, ⟨none, none, .store 4 (.tmp 9) (.tmp 35)⟩, ⟨some 10, none, .pv (.move (.tmp 36))⟩, ⟨some 11, none, .pv (.move (.tmp 37))⟩]
abbrev R9_5 : List LOper := [⟨some 39, none, .pv (.bld [(.int .i64 0), (.int .i64 0)] [(1, (1, (.const (.int .i64 9))))])⟩, ⟨some 40, none, .pv (.bld [(.int .i64 0), (.int .i64 0), (.int .i64 0), (.int .i64 0)] [(0, (2, (.tmp 39))), (3, (1, (.const (.int .i64 (-3)))))])⟩, ⟨some 41, none, .call 20 [(.tmp 40)]⟩, ⟨some 38, none, .pv (.move (.tmp 41))⟩, ⟨some 42, none, .pv (.ext (.tmp 38) 0)⟩, ⟨some 43, none, .pv (.ext (.tmp 38) 1)⟩, ⟨some 12, none, .pv (.move (.tmp 42))⟩, ⟨some 13, none, .pv (.move (.tmp 43))⟩]
abbrev R9_6 : List LOper := [⟨some 44, none, .pv (.move (.tmp 2))⟩, ⟨some 45, none, .pv (.bin .neq (.tmp 44) (.const (.int .i64 0)))⟩, ⟨some 46, none, .pv (.move (.tmp 45))⟩, ⟨some 47, (some (46, false)), .pv (.move (.tmp 5))⟩, ⟨some 48, (some (46, false)), .pv (.bin .neq (.tmp 47) (.const (.int .i64 0)))⟩, ⟨some 49, none, .pv (.pick (.tmp 46) (.const (.bool true)) (.tmp 48))⟩, ⟨some 50, none, .pv (.move (.tmp 49))⟩, ⟨some 51, (some (50, false)), .pv (.move (.tmp 7))⟩, ⟨some 52, (some (50, false)), .pv (.bin .neq (.tmp 51) (.const (.int .i64 0)))⟩, ⟨some 53, none, .pv (.pick (.tmp 50) (.const (.bool true)) (.tmp 52))⟩, ⟨some 54, none, .pv (.move (.tmp 53))⟩, ⟨some 55, (some (54, false)), .pv (.move (.tmp 11))⟩, ⟨some 56, (some (54, false)), .pv (.bin .neq (.tmp 55) (.const (.int .i64 0)))⟩, ⟨some 57, none, .pv (.pick (.tmp 54) (.const (.bool true)) (.tmp 56))⟩, ⟨some 58, none, .pv (.move (.tmp 57))⟩, ⟨some 59, (some (58, false)), .pv (.move (.tmp 13))⟩, ⟨some 60, (some (58, false)), .pv (.bin .neq (.tmp 59) (.const (.int .i64 0)))⟩, ⟨some 61, none, .pv (.pick (.tmp 58) (.const (.bool true)) (.tmp 60))⟩, ⟨some 62, none, .pv (.move (.tmp 61))⟩, ⟨some 63, (some (62, false)), .pv (.move (.tmp 4))⟩, ⟨some 64, (some (62, false)), .pv (.bin .neq (.tmp 63) (.const (.int .i64 0)))⟩, ⟨some 65, none, .pv (.pick (.tmp 62) (.const (.bool true)) (.tmp 64))⟩]
abbrev R9_7 : List LOper := [⟨some 0, none, .pv (.move (.const (.bool false)))⟩]
abbrev R9_8 : List LOper := [⟨some 66, none, .pv (.move (.tmp 1))⟩, ⟨some 67, none, .row 5 7 [(.int .u8 0), (.int .u8 0), (.int .u8 0), (.int .u8 0), (.int .u8 0), (.int .u8 0), (.int .u8 0)] [(0, (1, (.const (.int .u8 3)))), (1, (1, (.const (.int .u8 1)))), (2, (1, (.const (.int .u8 107)))), (3, (1, (.const (.int .u8 10)))), (4, (1, (.const (.int .u8 0)))), (5, (1, (.const (.int .u8 2)))), (6, (1, (.const (.int .u8 1))))]⟩, ⟨some 68, none, .call 21 [(.tmp 66), (.tmp 67)]⟩, ⟨some 69, none, .pv (.move (.tmp 68))⟩, ⟨some 70, (some (69, true)), .pv (.off (.tmp 3) 0)⟩, ⟨some 71, (some (69, true)), .load (.tmp 70)⟩, ⟨some 72, (some (69, true)), .pv (.bin .eql (.tmp 71) (.const (.int .i64 3)))⟩, ⟨some 73, none, .pv (.pick (.tmp 69) (.tmp 72) (.const (.bool false)))⟩, ⟨some 74, none, .pv (.move (.tmp 73))⟩, ⟨some 75, (some (74, true)), .pv (.off (.tmp 3) 2)⟩, ⟨some 76, (some (74, true)), .load (.tmp 75)⟩, ⟨some 77, (some (74, true)), .pv (.bin .eql (.tmp 76) (.const (.int .i64 10)))⟩, ⟨some 78, none, .pv (.pick (.tmp 74) (.tmp 77) (.const (.bool false)))⟩, ⟨some 79, none, .pv (.move (.tmp 78))⟩, ⟨some 80, (some (79, true)), .pv (.off (.tmp 3) 4)⟩, ⟨some 81, (some (79, true)), .pv (.off (.tmp 80) 0)⟩, ⟨some 82, (some (79, true)), .load (.tmp 81)⟩, ⟨some 83, (some (79, true)), .pv (.bin .eql (.tmp 82) (.const (.int .i64 2)))⟩, ⟨some 84, none, .pv (.pick (.tmp 79) (.tmp 83) (.const (.bool false)))⟩, ⟨some 85, none, .pv (.move (.tmp 84))⟩, ⟨some 86, (some (85, true)), .pv (.move (.tmp 6))⟩, ⟨some 87, (some (85, true)), .row 5 5 [(.int .u8 0), (.int .u8 0), (.int .u8 0), (.int .u8 0), (.int .u8 0)] [(0, (1, (.const (.int .u8 0)))), (1, (1, (.const (.int .u8 1)))), (2, (1, (.const (.int .u8 0)))), (3, (1, (.const (.int .u8 7)))), (4, (1, (.const (.int .u8 0))))]⟩, ⟨some 88, (some (85, true)), .call 21 [(.tmp 86), (.tmp 87)]⟩, ⟨some 89, none, .pv (.pick (.tmp 85) (.tmp 88) (.const (.bool false)))⟩, ⟨some 90, none, .pv (.move (.tmp 89))⟩, ⟨some 91, (some (90, true)), .pv (.off (.tmp 8) 0)⟩, ⟨some 92, (some (90, true)), .load (.tmp 91)⟩, ⟨some 93, (some (90, true)), .pv (.bin .eql (.tmp 92) (.const (.int .i64 3)))⟩, ⟨some 94, none, .pv (.pick (.tmp 90) (.tmp 93) (.const (.bool false)))⟩, ⟨some 95, none, .pv (.move (.tmp 94))⟩, ⟨some 96, (some (95, true)), .pv (.off (.tmp 9) 2)⟩, ⟨some 97, (some (95, true)), .load (.tmp 96)⟩, ⟨some 98, (some (95, true)), .pv (.bin .eql (.tmp 97) (.const (.int .i64 5)))⟩, ⟨some 99, none, .pv (.pick (.tmp 95) (.tmp 98) (.const (.bool false)))⟩, ⟨some 100, none, .pv (.move (.tmp 99))⟩, ⟨some 101, (some (100, true)), .pv (.move (.tmp 12))⟩, ⟨some 102, (some (100, true)), .row 5 4 [(.int .u8 0), (.int .u8 0), (.int .u8 0), (.int .u8 0)] [(0, (1, (.const (.int .u8 0)))), (1, (1, (.const (.int .u8 9)))), (2, (1, (.const (.int .u8 0)))), (3, (1, (.const (.int .u8 5))))]⟩, ⟨some 103, (some (100, true)), .call 21 [(.tmp 101), (.tmp 102)]⟩, ⟨some 104, none, .pv (.pick (.tmp 100) (.tmp 103) (.const (.bool false)))⟩, ⟨some 105, none, .pv (.move (.tmp 104))⟩, ⟨some 106, (some (105, true)), .loadN 20 (.tmp 3)⟩, ⟨some 107, (some (105, true)), .call 22 [(.tmp 106)]⟩, ⟨some 108, none, .pv (.pick (.tmp 105) (.tmp 107) (.const (.bool false)))⟩, ⟨some 0, none, .pv (.move (.tmp 108))⟩]
abbrev L9 : LFun := ⟨109, [(.tmp 0)], (.seq (.reg R9_0) (.seq (.reg R9_1) (.seq (.reg R9_2) (.seq (.reg R9_3) (.seq (.reg R9_4) (.seq (.reg R9_5) (.seq (.seq (.reg R9_6) (.cond (.tmp 65) (.seq (.reg R9_7) .ret) .skip)) (.seq (.reg R9_8) .ret))))))))⟩
theorem low9 : lowFn Try.prog Try.f9 = some L9 := by kernel_rfl

theorem RowIs.rd {T sz n : Nat} {v : Value} {xs : List Value} {L O : Blks} {w0 w : World} {K : List Nat} (h : RowIs T sz v n xs L) (hS : St w0 K w O) (hm : ∀ q ∈ L, q ∈ O) (hn : n ≤ 140737488351232) : Reads w [] sz v n xs :=
  h.reads (Oc := []) (F := O) hS hm hn
theorem subAll {L O : Blks} (h : ∀ q ∈ L, q ∈ O := by (intro q hq; simp only [List.mem_append, List.mem_cons, hq, true_or, or_true])) : ∀ q ∈ L, q ∈ O := h
theorem RowIs.capOk {T sz n : Nat} {v : Value} {xs : List Value} {L : Blks} (h : RowIs T sz v n xs L) : CapOk v := by
  obtain ⟨_, ⟨rfl, rfl, _⟩ | ⟨b, cap, sp, rfl, _, _, h2, _⟩⟩ := h
  · exact ⟨none, 0, 0, rfl, Nat.le_refl _⟩
  · exact ⟨_, _, _, rfl, h2⟩
theorem St.lit {w0 w : World} {K : List Nat} {O : Blks} (hS : St w0 K w O) {b c T : Nat} (bs : List UInt8) {ys : List Value} (hm : (b, Blk T ys) ∈ O) (hy : ys = bs.map b8) (hn : bs.length ≤ 140737488351232) : Reads w [] 1 (.slice (some ⟨b, 0, none⟩) bs.length c) bs.length (bs.map b8) := by
  subst hy
  exact St.lend (Oc := []) (F := O) hS (sp := []) (by simpa using hm) (by simp) hn
section
variable {P : Program} {p : Chain → World → Prop} {Q : Exit → Env → World → Prop} {e : Env} {w0 w : World} {K : List Nat} {O : Blks} {d : Nat} {l : List LOper}
theorem WL_call0 {f : FuncId} {args : List Operand} {argv : List Value} {R : Value → Blks → Prop} (hS : St w0 K w O) (ha : args.map (ev e) = argv) (hc : Calls P f argv.toArray w (Ret w [] R))
    (h : ∀ v O' w', R v O' → St w0 K w' (O ++ O') → WL P p Q l (upd e d v) w') : WL P p Q (⟨some d, none, .call f args⟩ :: l) e w :=
  WL_call (Oc := []) (F := O) hS ha hc fun v O' w' h1 h2 => h v O' w' h1 (h2.perm List.perm_append_comm)
end
abbrev b9a : List UInt8 := [3, 1, 107, 10, 0, 2, 1]
abbrev b9b : List UInt8 := [0, 1, 0, 7, 0]
abbrev b9c : List UInt8 := [0, 9, 0, 5]
def m9 : Ms := ⟨3, [107], 10, 0, 2, 1, 0, 0, 0, 0, 0, 0, 0, 0, [], 0, 0, 0, 0⟩
theorem MsOk9 : MsOk m9 [] := ⟨by decide, by decide, by (intro v h; cases h), by decide⟩
theorem rdNil (w : World) (K : List Nat) : RdL w K 7 (.slice none 0 0) ([] : List Vw) Vw.cells := ⟨Reads.nilOf _ _ _ _, Vw.len⟩
theorem enc9 : encE m9 [] = some [3, 1, 107, 10, 0, 2, 1] := by kernel_rfl
theorem dec9 : fin 7 (rdMsg [3, 1, 107, 10, 0, 2, 1] 0) = .ok (m9, []) := by kernel_rfl
theorem seg9 : segE 0 1 0 7 [] = some [0, 1, 0, 7, 0] := by kernel_rfl
theorem req9 : fin 7 (rdReq [3, 1, 2, 1, 107, 10, 0] 0) = .ok ((3, 1), ⟨2, [107], 5, 0⟩) := by kernel_rfl
theorem rep9 : repE 0 9 0 (-3) = some [0, 9, 0, 5] := by kernel_rfl
theorem val9 : validB m9 [] = true := by kernel_rfl
theorem i64z : I64 0 := ⟨by decide, by decide⟩
set_option maxRecDepth 8000 in
set_option maxHeartbeats 2000000 in
theorem c9 (w : World) : Quiet Try.prog 9 #[] w (.bool true) := by
  refine enterF (args := []) Try.func9 low9 rfl ?_; have hS := St.start w; dsimp only [L9, envL, Nat.reduceAdd]
  repeat' (first | ((with_reducible apply WL_p); (· exact evk)) | (with_reducible first | refine WL_nil ?_ | refine then_normal ?_ | refine blk_normal ?_ | refine WC_seq ?_ | refine WC_reg ?_ | refine WC_block ?_ | refine WC_skip ?_ | refine WC_exit ?_ | refine then_exit ?_ | refine blk_hit ?_ | refine blk_miss (by decide) ?_ | refine WC_ret ?_ | refine then_ret ?_ | refine blk_ret ?_))
  refine WL_call0 (argv := [.agg (m9.cells (.slice none 0 0)).toArray]) hS rfl (c16 m9 [] _ MsOk9 i64z i64z _ (rdNil _ _)) ?_
  clear hS
  rintro u L1 w h1 hS
  rw [enc9] at h1
  obtain ⟨v1, rfl, r1⟩ := h1
  (simp only [List.append_assoc, List.cons_append, List.nil_append] at hS)
  repeat' (first | ((with_reducible apply WL_p); (· exact evk)) | (with_reducible first | refine WL_nil ?_ | refine then_normal ?_ | refine blk_normal ?_ | refine WC_seq ?_ | refine WC_reg ?_ | refine WC_block ?_ | refine WC_skip ?_ | refine WC_exit ?_ | refine then_exit ?_ | refine blk_hit ?_ | refine blk_miss (by decide) ?_ | refine WC_ret ?_ | refine then_ret ?_ | refine blk_ret ?_) | ((first | (with_reducible apply WL_newz hS) | ((with_reducible apply WL_newv hS); (· exact evk); (· rfl)) | ((with_reducible apply WL_row hS); (· exact evk))); clear hS; intro bq w hS hbq; (try simp only [List.nil_append, List.cons_append, List.append_assoc] at hS)))
  refine WL_call0 hS (by exact evk) (c17 [3, 1, 107, 10, 0, 2, 1] _ ⟨_, _, _, rfl, Nat.le_refl _⟩ _ (hS.lit [3, 1, 107, 10, 0, 2, 1] inn rfl (by decide))) ?_
  clear hS
  rintro u L2 w h2 hS
  simp only [DecM, dec9, show [3, 1, 107, 10, 0, 2, 1].length = 7 from rfl] at h2
  obtain ⟨vv, r2, rfl⟩ := h2
  (simp only [List.append_assoc, List.cons_append, List.nil_append] at hS)
  repeat' (first | ((with_reducible apply WL_p); (· exact evk)) | (with_reducible first | refine WL_nil ?_ | refine then_normal ?_ | refine blk_normal ?_ | refine WC_seq ?_ | refine WC_reg ?_ | refine WC_block ?_ | refine WC_skip ?_ | refine WC_exit ?_ | refine then_exit ?_ | refine blk_hit ?_ | refine blk_miss (by decide) ?_ | refine WC_ret ?_ | refine then_ret ?_ | refine blk_ret ?_) | ((first | (with_reducible apply WL_newz hS) | ((with_reducible apply WL_newv hS); (· exact evk); (· rfl)) | ((with_reducible apply WL_row hS); (· exact evk))); clear hS; intro bq w hS hbq; (try simp only [List.nil_append, List.cons_append, List.append_assoc] at hS)))
  refine WL_storeF (vs := m9.cells vv) hS (by exact evk) rfl rfl rfl (Ms.ones _ r2.one) upp ?_
  clear hS
  intro w hS
  repeat' (first | ((with_reducible apply WL_p); (· exact evk)) | (with_reducible first | refine WL_nil ?_ | refine then_normal ?_ | refine blk_normal ?_ | refine WC_seq ?_ | refine WC_reg ?_ | refine WC_block ?_ | refine WC_skip ?_ | refine WC_exit ?_ | refine then_exit ?_ | refine blk_hit ?_ | refine blk_miss (by decide) ?_ | refine WC_ret ?_ | refine then_ret ?_ | refine blk_ret ?_))
  refine WL_call0 (argv := [.agg #[.int .i64 0, .int .i64 1, .int .i64 0, .int .i64 7, .slice none 0 0]]) hS rfl (c18 0 1 0 7 [] _ _ (Reads.empty _ _)) ?_
  clear hS
  rintro u L3 w h3 hS
  rw [seg9] at h3
  obtain ⟨v3, rfl, r3⟩ := h3
  (simp only [List.append_assoc, List.cons_append, List.nil_append] at hS)
  repeat' (first | ((with_reducible apply WL_p); (· exact evk)) | (with_reducible first | refine WL_nil ?_ | refine then_normal ?_ | refine blk_normal ?_ | refine WC_seq ?_ | refine WC_reg ?_ | refine WC_block ?_ | refine WC_skip ?_ | refine WC_exit ?_ | refine then_exit ?_ | refine blk_hit ?_ | refine blk_miss (by decide) ?_ | refine WC_ret ?_ | refine then_ret ?_ | refine blk_ret ?_) | ((first | (with_reducible apply WL_newz hS) | ((with_reducible apply WL_newv hS); (· exact evk); (· rfl)) | ((with_reducible apply WL_row hS); (· exact evk))); clear hS; intro bq w hS hbq; (try simp only [List.nil_append, List.cons_append, List.append_assoc] at hS)))
  refine WL_call0 hS (by exact evk) (c19 [3, 1, 2, 1, 107, 10, 0] _ ⟨_, _, _, rfl, Nat.le_refl _⟩ _ (hS.lit [3, 1, 2, 1, 107, 10, 0] inn rfl (by decide))) ?_
  clear hS
  rintro u L4 w h4 hS
  simp only [DecQ, req9, show [3, 1, 2, 1, 107, 10, 0].length = 7 from rfl] at h4
  subst h4
  (simp only [List.append_assoc, List.cons_append, List.nil_append] at hS)
  repeat' (first | ((with_reducible apply WL_p); (· exact evk)) | (with_reducible first | refine WL_nil ?_ | refine then_normal ?_ | refine blk_normal ?_ | refine WC_seq ?_ | refine WC_reg ?_ | refine WC_block ?_ | refine WC_skip ?_ | refine WC_exit ?_ | refine then_exit ?_ | refine blk_hit ?_ | refine blk_miss (by decide) ?_ | refine WC_ret ?_ | refine then_ret ?_ | refine blk_ret ?_) | ((first | (with_reducible apply WL_newz hS) | ((with_reducible apply WL_newv hS); (· exact evk); (· rfl)) | ((with_reducible apply WL_row hS); (· exact evk))); clear hS; intro bq w hS hbq; (try simp only [List.nil_append, List.cons_append, List.append_assoc] at hS)))
  refine WL_storeF (vs := [.int .i64 3, .int .i64 1]) hS (by exact evk) rfl rfl rfl (pairC_ones (3, 1)) upp ?_
  clear hS
  intro w hS
  refine WL_storeF (vs := OpV.cells ⟨2, [107], 5, 0⟩) hS (by exact evk) rfl rfl rfl (OpV.ones _) upp ?_
  clear hS
  intro w hS
  unfold OpV.cells at hS
  repeat' (first | ((with_reducible apply WL_p); (· exact evk)) | (with_reducible first | refine WL_nil ?_ | refine then_normal ?_ | refine blk_normal ?_ | refine WC_seq ?_ | refine WC_reg ?_ | refine WC_block ?_ | refine WC_skip ?_ | refine WC_exit ?_ | refine then_exit ?_ | refine blk_hit ?_ | refine blk_miss (by decide) ?_ | refine WC_ret ?_ | refine then_ret ?_ | refine blk_ret ?_))
  refine WL_call0 (argv := [.agg #[.int .i64 0, .int .i64 9, .int .i64 0, .int .i64 (-3)]]) hS rfl (c20 0 9 0 (-3) ⟨by decide, by decide⟩ _) ?_
  clear hS
  rintro u L5 w h5 hS
  rw [rep9] at h5
  obtain ⟨v5, rfl, r5⟩ := h5
  (simp only [List.append_assoc, List.cons_append, List.nil_append] at hS)
  repeat' (first | ((with_reducible apply WL_p); (· exact kYc0)) | ((with_reducible apply WL_do); (· exact evd)) | ((with_reducible apply WL_no); (· exact evd)) | ((with_reducible apply WC_true); (· exact evk)) | ((with_reducible apply WC_false); (· exact evk)) | (with_reducible first | refine WL_nil ?_ | refine then_normal ?_ | refine blk_normal ?_ | refine WC_seq ?_ | refine WC_reg ?_ | refine WC_block ?_ | refine WC_skip ?_ | refine WC_exit ?_ | refine then_exit ?_ | refine blk_hit ?_ | refine blk_miss (by decide) ?_ | refine WC_ret ?_ | refine then_ret ?_ | refine blk_ret ?_) | ((first | (with_reducible apply WL_newz hS) | ((with_reducible apply WL_newv hS); (· exact evk); (· rfl)) | ((with_reducible apply WL_row hS); (· exact evk))); clear hS; intro bq w hS hbq; (try simp only [List.nil_append, List.cons_append, List.append_assoc] at hS)))
  ((with_reducible apply WL_callq hS); (· exact evk); (· first | exact c21 b9a _ _ _ (r1.rd hS subAll (by decide)) (hS.lit b9a inn rfl (by decide))); (clear hS; intro w hS))
  unfold Ms.cells m9 at hS
  repeat' (first | ((with_reducible apply WL_p); (· exact kYc0)) | ((with_reducible apply WL_do); (· exact evd)) | ((with_reducible apply WL_no); (· exact evd)) | ((with_reducible apply WC_true); (· exact evk)) | ((with_reducible apply WC_false); (· exact evk)) | (with_reducible first | refine WL_nil ?_ | refine then_normal ?_ | refine blk_normal ?_ | refine WC_seq ?_ | refine WC_reg ?_ | refine WC_block ?_ | refine WC_skip ?_ | refine WC_exit ?_ | refine then_exit ?_ | refine blk_hit ?_ | refine blk_miss (by decide) ?_ | refine WC_ret ?_ | refine then_ret ?_ | refine blk_ret ?_) | ((first | (with_reducible apply WL_newz hS) | ((with_reducible apply WL_newv hS); (· exact evk); (· rfl)) | ((with_reducible apply WL_row hS); (· exact evk))); clear hS; intro bq w hS hbq; (try simp only [List.nil_append, List.cons_append, List.append_assoc] at hS)) | ((with_reducible apply WL_load hS); (· exact evk); (· exact inn); (· rfl)))
  ((with_reducible apply WL_callq hS); (· exact evk); (· first | exact c21 b9b _ _ _ (r3.rd hS subAll (by decide)) (hS.lit b9b inn rfl (by decide))); (clear hS; intro w hS))
  repeat' (first | ((with_reducible apply WL_p); (· exact kYc0)) | ((with_reducible apply WL_do); (· exact evd)) | ((with_reducible apply WL_no); (· exact evd)) | ((with_reducible apply WC_true); (· exact evk)) | ((with_reducible apply WC_false); (· exact evk)) | (with_reducible first | refine WL_nil ?_ | refine then_normal ?_ | refine blk_normal ?_ | refine WC_seq ?_ | refine WC_reg ?_ | refine WC_block ?_ | refine WC_skip ?_ | refine WC_exit ?_ | refine then_exit ?_ | refine blk_hit ?_ | refine blk_miss (by decide) ?_ | refine WC_ret ?_ | refine then_ret ?_ | refine blk_ret ?_) | ((first | (with_reducible apply WL_newz hS) | ((with_reducible apply WL_newv hS); (· exact evk); (· rfl)) | ((with_reducible apply WL_row hS); (· exact evk))); clear hS; intro bq w hS hbq; (try simp only [List.nil_append, List.cons_append, List.append_assoc] at hS)) | ((with_reducible apply WL_load hS); (· exact evk); (· exact inn); (· rfl)))
  ((with_reducible apply WL_callq hS); (· exact evk); (· first | exact c21 b9c _ _ _ (r5.rd hS subAll (by decide)) (hS.lit b9c inn rfl (by decide))); (clear hS; intro w hS))
  repeat' (first | ((with_reducible apply WL_p); (· exact kYc0)) | ((with_reducible apply WL_do); (· exact evd)) | ((with_reducible apply WL_no); (· exact evd)) | ((with_reducible apply WC_true); (· exact evk)) | ((with_reducible apply WC_false); (· exact evk)) | (with_reducible first | refine WL_nil ?_ | refine then_normal ?_ | refine blk_normal ?_ | refine WC_seq ?_ | refine WC_reg ?_ | refine WC_block ?_ | refine WC_skip ?_ | refine WC_exit ?_ | refine then_exit ?_ | refine blk_hit ?_ | refine blk_miss (by decide) ?_ | refine WC_ret ?_ | refine then_ret ?_ | refine blk_ret ?_) | ((first | (with_reducible apply WL_newz hS) | ((with_reducible apply WL_newv hS); (· exact evk); (· rfl)) | ((with_reducible apply WL_row hS); (· exact evk))); clear hS; intro bq w hS hbq; (try simp only [List.nil_append, List.cons_append, List.append_assoc] at hS)) | ((with_reducible apply WL_load hS); (· exact evk); (· exact inn); (· rfl)))
  refine WL_loadN (off := 0) (vs := m9.cells vv) hS (by exact evk) inn rfl rfl ?_
  repeat' (first | ((with_reducible apply WL_p); (· exact kYc1)) | ((with_reducible apply WL_do); (· exact evd)) | ((with_reducible apply WL_no); (· exact evd)) | (with_reducible first | refine WL_nil ?_ | refine then_normal ?_ | refine blk_normal ?_ | refine WC_seq ?_ | refine WC_reg ?_ | refine WC_block ?_ | refine WC_skip ?_ | refine WC_exit ?_ | refine then_exit ?_ | refine blk_hit ?_ | refine blk_miss (by decide) ?_ | refine WC_ret ?_ | refine then_ret ?_ | refine blk_ret ?_))
  refine WL_callq (v := .bool true) (argv := [.agg (m9.cells vv).toArray]) hS rfl ?_ ?_
  · have := c22 m9 [] vv MsOk9 _ ⟨r2.rd hS subAll (by decide), Vw.len⟩
    rw [val9] at this
    exact this
  clear hS
  intro w hS
  repeat' (first | ((with_reducible apply WL_p); (· exact kYc1)) | ((with_reducible apply WL_do); (· exact evd)) | ((with_reducible apply WL_no); (· exact evd)) | (with_reducible first | refine WL_nil ?_ | refine then_normal ?_ | refine blk_normal ?_ | refine WC_seq ?_ | refine WC_reg ?_ | refine WC_block ?_ | refine WC_skip ?_ | refine WC_exit ?_ | refine then_exit ?_ | refine blk_hit ?_ | refine blk_miss (by decide) ?_ | refine WC_ret ?_ | refine then_ret ?_ | refine blk_ret ?_))
  exact retq (v' := .bool true) hS rfl rfl
end Go.Proofs.Ytohmgkcdjapinaa.Lw
namespace Go.Proofs.Ytohmgkcdjapinaa.Lw
theorem kYd0 {p : Prop} (h : p := by ((simp (disch := omega) only [ev_tmp, ev_const, ev_func, ev_global, upd_app, val_move, val_pick, pickV_true, pickV_false, pickV_bool, val_nilck, nilckV_ptr, val_bin, bin_add, bin_sub, bin_mul, bin_eql, bin_neq, bin_lss, bin_leq, bin_gtr, bin_geq, bin_seql, bin_sneq, bin_slss, bin_sleq, bin_sgtr, bin_sgeq, val_beq, beqV_f, beqV_t, val_seq, val_not, notV_bool, val_toInt, toIntV_int, val_off, offV_ptr, val_len, lenV_slice, val_slen, slenV_S, val_ext, extV_tup, val_ifc, val_fn, List.getElem?_cons_zero, List.getElem?_cons_succ, List.map_cons, List.map_nil, eq_self, Bool.false_eq_true, Bool.not_true, Bool.not_false, Option.map_some, Nat.zero_add, isB_bool, isB_undef, Bool.true_beq, Bool.false_beq, beq_self_eq_true, Bool.true_and, Bool.and_true, Bool.false_and, Bool.and_false, Bool.true_or, Bool.or_true, Bool.false_or, Bool.or_false, not_dec, and_dec, or_dec, seqV_f, seqV_t, ceq_i, ceq_s, ceq_nil, val_bld, bldV, cells_int, cells_bool, cells_S, cells_b8, cells_slice, cells_ptr, cells_agg, List.size_toArray, List.length_cons, List.length_nil, place, List.take_succ_cons, List.take_zero, List.drop_succ_cons, List.drop_zero, List.cons_append, List.nil_append, and_self, and_true, true_and, Nat.reduceLeDiff, List.toList_toArray, wr64, wru64, wru8, Nat.reduceEqDiff, ↓reduceIte, Nat.reduceAdd, dT, deq]) <;> rfl)) : p := h
abbrev R13_0 : List LOper := [⟨some 3, none, .newv 27 (.tmp 0)⟩, ⟨some 4, none, .newv 29 (.tmp 1)⟩, ⟨some 6, none, .pv (.move (.const (.bool false)))⟩]
abbrev R13_1 : List LOper := [⟨some 21, none, .loadN 2 (.tmp 3)⟩, ⟨some 22, none, .loadN 4 (.tmp 4)⟩, ⟨some 23, none, .call 34 [(.tmp 21), (.tmp 22)]⟩, ⟨some 20, none, .pv (.move (.tmp 23))⟩, ⟨some 24, none, .pv (.ext (.tmp 20) 0)⟩, ⟨some 25, none, .pv (.ext (.tmp 20) 1)⟩, ⟨some 7, none, .pv (.move (.tmp 24))⟩, ⟨some 8, none, .pv (.move (.tmp 25))⟩]
abbrev R13_2 : List LOper := [⟨some 27, none, .loadN 2 (.tmp 3)⟩, ⟨some 28, none, .loadN 4 (.tmp 4)⟩, ⟨some 29, none, .call 35 [(.tmp 27), (.tmp 28)]⟩, ⟨some 26, none, .pv (.move (.tmp 29))⟩, ⟨some 30, none, .pv (.ext (.tmp 26) 0)⟩, ⟨some 31, none, .pv (.ext (.tmp 26) 1)⟩, ⟨some 9, none, .pv (.move (.tmp 30))⟩, ⟨some 10, none, .pv (.move (.tmp 31))⟩]
abbrev R13_3 : List LOper := [⟨some 32, none, .pv (.move (.tmp 2))⟩, ⟨some 33, none, .call 26 [(.tmp 32)]⟩, ⟨some 11, none, .pv (.move (.tmp 33))⟩]
abbrev R13_4 : List LOper := [⟨some 35, none, .pv (.move (.tmp 11))⟩, ⟨some 36, none, .pv (.move (.tmp 2))⟩, ⟨some 37, none, .pv (.len (.tmp 36))⟩, ⟨some 38, none, .pv (.slc 1 (.tmp 35) none (some (.tmp 37)))⟩, ⟨some 39, none, .call 19 [(.tmp 38)]⟩, ⟨some 34, none, .pv (.move (.tmp 39))⟩, ⟨some 40, none, .pv (.ext (.tmp 34) 0)⟩, ⟨some 41, none, .pv (.ext (.tmp 34) 1)⟩, ⟨some 42, none, .pv (.ext (.tmp 34) 2)⟩, ⟨some 43, none, .pv (.ext (.tmp 34) 3)⟩, ⟨some 12, none, .newz 27 [(.int .i64 0), (.int .i64 0)]⟩, ⟨some 13, none, .newz 29 [(.int .i64 0), (S []), (.int .i64 0), (.int .i64 0)]⟩, ⟨none, none, .store 2 (.tmp 12) (.tmp 40)⟩, ⟨none, none, .store 4 (.tmp 13) (.tmp 41)⟩, ⟨some 14, none, .pv (.move (.tmp 42))⟩, ⟨some 15, none, .pv (.move (.tmp 43))⟩]
abbrev R13_5 : List LOper := [⟨some 45, none, .pv (.move (.tmp 2))⟩, ⟨some 46, none, .call 36 [(.tmp 45)]⟩, ⟨some 44, none, .pv (.move (.tmp 46))⟩, ⟨some 47, none, .pv (.ext (.tmp 44) 0)⟩, ⟨some 48, none, .pv (.ext (.tmp 44) 1)⟩, ⟨some 49, none, .pv (.ext (.tmp 44) 2)⟩, ⟨some 50, none, .pv (.ext (.tmp 44) 3)⟩, ⟨some 16, none, .newz 27 [(.int .i64 0), (.int .i64 0)]⟩, ⟨some 17, none, .newz 29 [(.int .i64 0), (S []), (.int .i64 0), (.int .i64 0)]⟩, ⟨none, none, .store 2 (.tmp 16) (.tmp 47)⟩, ⟨none, none, .store 4 (.tmp 17) (.tmp 48)⟩, ⟨some 18, none, .pv (.move (.tmp 49))⟩, ⟨some 19, none, .pv (.move (.tmp 50))⟩]
abbrev R13_6 : List LOper := [⟨some 51, none, .pv (.move (.tmp 11))⟩, ⟨some 52, none, .pv (.move (.tmp 2))⟩, ⟨some 53, none, .call 28 [(.tmp 51), (.tmp 52)]⟩, ⟨some 54, none, .pv (.move (.tmp 53))⟩, ⟨some 55, (some (54, true)), .pv (.move (.tmp 8))⟩, ⟨some 56, (some (54, true)), .pv (.move (.tmp 10))⟩, ⟨some 57, (some (54, true)), .pv (.bin .eql (.tmp 55) (.tmp 56))⟩, ⟨some 58, none, .pv (.pick (.tmp 54) (.tmp 57) (.const (.bool false)))⟩, ⟨some 59, none, .pv (.move (.tmp 58))⟩, ⟨some 60, (some (59, true)), .pv (.move (.tmp 7))⟩, ⟨some 61, (some (59, true)), .pv (.move (.tmp 9))⟩, ⟨some 62, (some (59, true)), .call 21 [(.tmp 60), (.tmp 61)]⟩, ⟨some 63, none, .pv (.pick (.tmp 59) (.tmp 62) (.const (.bool false)))⟩, ⟨some 64, none, .pv (.move (.tmp 63))⟩, ⟨some 65, (some (64, true)), .pv (.move (.tmp 15))⟩, ⟨some 66, (some (64, true)), .pv (.move (.tmp 19))⟩, ⟨some 67, (some (64, true)), .pv (.bin .eql (.tmp 65) (.tmp 66))⟩, ⟨some 68, none, .pv (.pick (.tmp 64) (.tmp 67) (.const (.bool false)))⟩, ⟨some 69, none, .pv (.move (.tmp 68))⟩, ⟨some 70, (some (69, true)), .pv (.move (.tmp 14))⟩, ⟨some 71, (some (69, true)), .pv (.move (.tmp 18))⟩, ⟨some 72, (some (69, true)), .pv (.bin .eql (.tmp 70) (.tmp 71))⟩, ⟨some 73, none, .pv (.pick (.tmp 69) (.tmp 72) (.const (.bool false)))⟩, ⟨some 74, none, .pv (.move (.tmp 73))⟩, ⟨some 75, (some (74, true)), .loadN 2 (.tmp 12)⟩, ⟨some 76, (some (74, true)), .loadN 2 (.tmp 16)⟩, ⟨some 77, (some (74, true)), .pv (.seq false [.i, .i] (.tmp 75) (.tmp 76))⟩, ⟨some 78, none, .pv (.pick (.tmp 74) (.tmp 77) (.const (.bool false)))⟩, ⟨some 79, none, .pv (.move (.tmp 78))⟩, ⟨some 80, (some (79, true)), .loadN 4 (.tmp 13)⟩, ⟨some 81, (some (79, true)), .loadN 4 (.tmp 17)⟩, ⟨some 82, (some (79, true)), .pv (.seq false [.i, .s, .i, .i] (.tmp 80) (.tmp 81))⟩, ⟨some 83, none, .pv (.pick (.tmp 79) (.tmp 82) (.const (.bool false)))⟩, ⟨some 6, none, .pv (.move (.tmp 83))⟩]
abbrev L13 : LFun := ⟨84, [(.tmp 6)], (.seq (.reg R13_0) (.seq (.reg R13_1) (.seq (.reg R13_2) (.seq (.reg R13_3) (.seq (.reg R13_4) (.seq (.reg R13_5) (.seq (.reg R13_6) .ret)))))))⟩
theorem low13 : lowFn Try.prog Try.f13 = some L13 := by kernel_rfl
abbrev R14_0 : List LOper := [⟨some 2, none, .newv 42 (.tmp 0)⟩, ⟨some 4, none, .pv (.move (.const (.bool false)))⟩]
abbrev R14_1 : List LOper := [⟨some 17, none, .loadN 4 (.tmp 2)⟩, ⟨some 18, none, .call 20 [(.tmp 17)]⟩, ⟨some 16, none, .pv (.move (.tmp 18))⟩, ⟨some 19, none, .pv (.ext (.tmp 16) 0)⟩, ⟨some 20, none, .pv (.ext (.tmp 16) 1)⟩, ⟨some 5, none, .pv (.move (.tmp 19))⟩, ⟨some 6, none, .pv (.move (.tmp 20))⟩]
abbrev R14_2 : List LOper := [⟨some 22, none, .loadN 4 (.tmp 2)⟩, ⟨some 23, none, .call 37 [(.tmp 22)]⟩, ⟨some 21, none, .pv (.move (.tmp 23))⟩, ⟨some 24, none, .pv (.ext (.tmp 21) 0)⟩, ⟨some 25, none, .pv (.ext (.tmp 21) 1)⟩, ⟨some 7, none, .pv (.move (.tmp 24))⟩, ⟨some 8, none, .pv (.move (.tmp 25))⟩]
abbrev R14_3 : List LOper := [⟨some 26, none, .pv (.move (.tmp 1))⟩, ⟨some 27, none, .call 26 [(.tmp 26)]⟩, ⟨some 9, none, .pv (.move (.tmp 27))⟩]
abbrev R14_4 : List LOper := [⟨some 29, none, .pv (.move (.tmp 9))⟩, ⟨some 30, none, .pv (.move (.tmp 1))⟩, ⟨some 31, none, .pv (.len (.tmp 30))⟩, ⟨some 32, none, .pv (.slc 1 (.tmp 29) none (some (.tmp 31)))⟩, ⟨some 33, none, .call 38 [(.tmp 32)]⟩, ⟨some 28, none, .pv (.move (.tmp 33))⟩, ⟨some 34, none, .pv (.ext (.tmp 28) 0)⟩, ⟨some 35, none, .pv (.ext (.tmp 28) 1)⟩, ⟨some 36, none, .pv (.ext (.tmp 28) 2)⟩, ⟨some 10, none, .newz 42 [(.int .i64 0), (.int .i64 0), (.int .i64 0), (.int .i64 0)]⟩, ⟨none, none, .store 4 (.tmp 10) (.tmp 34)⟩, ⟨some 11, none, .pv (.move (.tmp 35))⟩, ⟨some 12, none, .pv (.move (.tmp 36))⟩]
abbrev R14_5 : List LOper := [⟨some 38, none, .pv (.move (.tmp 1))⟩, ⟨some 39, none, .call 39 [(.tmp 38)]⟩, ⟨some 37, none, .pv (.move (.tmp 39))⟩, ⟨some 40, none, .pv (.ext (.tmp 37) 0)⟩, ⟨some 41, none, .pv (.ext (.tmp 37) 1)⟩, ⟨some 42, none, .pv (.ext (.tmp 37) 2)⟩, ⟨some 13, none, .newz 42 [(.int .i64 0), (.int .i64 0), (.int .i64 0), (.int .i64 0)]⟩, ⟨none, none, .store 4 (.tmp 13) (.tmp 40)⟩, ⟨some 14, none, .pv (.move (.tmp 41))⟩, ⟨some 15, none, .pv (.move (.tmp 42))⟩]
abbrev R14_6 : List LOper := [⟨some 43, none, .pv (.move (.tmp 9))⟩, ⟨some 44, none, .pv (.move (.tmp 1))⟩, ⟨some 45, none, .call 28 [(.tmp 43), (.tmp 44)]⟩, ⟨some 46, none, .pv (.move (.tmp 45))⟩, ⟨some 47, (some (46, true)), .pv (.move (.tmp 6))⟩, ⟨some 48, (some (46, true)), .pv (.move (.tmp 8))⟩, ⟨some 49, (some (46, true)), .pv (.bin .eql (.tmp 47) (.tmp 48))⟩, ⟨some 50, none, .pv (.pick (.tmp 46) (.tmp 49) (.const (.bool false)))⟩, ⟨some 51, none, .pv (.move (.tmp 50))⟩, ⟨some 52, (some (51, true)), .pv (.move (.tmp 5))⟩, ⟨some 53, (some (51, true)), .pv (.move (.tmp 7))⟩, ⟨some 54, (some (51, true)), .call 21 [(.tmp 52), (.tmp 53)]⟩, ⟨some 55, none, .pv (.pick (.tmp 51) (.tmp 54) (.const (.bool false)))⟩, ⟨some 56, none, .pv (.move (.tmp 55))⟩, ⟨some 57, (some (56, true)), .pv (.move (.tmp 12))⟩, ⟨some 58, (some (56, true)), .pv (.move (.tmp 15))⟩, ⟨some 59, (some (56, true)), .pv (.bin .eql (.tmp 57) (.tmp 58))⟩, ⟨some 60, none, .pv (.pick (.tmp 56) (.tmp 59) (.const (.bool false)))⟩, ⟨some 61, none, .pv (.move (.tmp 60))⟩, ⟨some 62, (some (61, true)), .pv (.move (.tmp 11))⟩, ⟨some 63, (some (61, true)), .pv (.move (.tmp 14))⟩, ⟨some 64, (some (61, true)), .pv (.bin .eql (.tmp 62) (.tmp 63))⟩, ⟨some 65, none, .pv (.pick (.tmp 61) (.tmp 64) (.const (.bool false)))⟩, ⟨some 66, none, .pv (.move (.tmp 65))⟩, ⟨some 67, (some (66, true)), .loadN 4 (.tmp 10)⟩, ⟨some 68, (some (66, true)), .loadN 4 (.tmp 13)⟩, ⟨some 69, (some (66, true)), .pv (.seq false [.i, .i, .i, .i] (.tmp 67) (.tmp 68))⟩, ⟨some 70, none, .pv (.pick (.tmp 66) (.tmp 69) (.const (.bool false)))⟩, ⟨some 4, none, .pv (.move (.tmp 70))⟩]
abbrev L14 : LFun := ⟨71, [(.tmp 4)], (.seq (.reg R14_0) (.seq (.reg R14_1) (.seq (.reg R14_2) (.seq (.reg R14_3) (.seq (.reg R14_4) (.seq (.reg R14_5) (.seq (.reg R14_6) .ret)))))))⟩
theorem low14 : lowFn Try.prog Try.f14 = some L14 := by kernel_rfl

def errOf (o : Option (List UInt8)) : Int := match o with | none => 21 | some _ => 0
def bytesOf (o : Option (List UInt8)) : List UInt8 := match o with | none => [] | some bs => bs
theorem encR_form {o : Option (List UInt8)} {u : Value} {O' : Blks} (h : EncR o u O') : ∃ v L, u = .tuple #[v, .int .i64 (errOf o)] ∧ L.Sublist O' ∧ RowIs 5 1 v (bytesOf o).length ((bytesOf o).map b8) L := by
  cases o with
  | none => exact ⟨_, [], h, List.nil_sublist _, RowIs.nil 5 1⟩
  | some bs =>
    obtain ⟨v, rfl, hr⟩ := h
    exact ⟨v, O', rfl, List.Sublist.refl _, hr⟩
/-- What lent bytes hold. -/
def lentC (bs : List UInt8) (sp : List Value) : List Value := (bs.map b8 ++ [b8 165, b8 90]) ++ sp
section
variable {P : Program} {p : Chain → World → Prop} {Q : Exit → Env → World → Prop} {e : Env} {w0 w : World} {K : List Nat} {O : Blks} {d : Nat} {l : List LOper}
/-- A call of an encoder. -/
theorem WL_enc {f : FuncId} {args : List Operand} {argv : List Value} {o : Option (List UInt8)} (hS : St w0 K w O) (ha : args.map (ev e) = argv) (hc : Calls P f argv.toArray w (Ret w [] (EncR o)))
    (h : ∀ v L w', RowIs 5 1 v (bytesOf o).length ((bytesOf o).map b8) L → St w0 K w' (L ++ O) → WL P p Q l (upd e d (.tuple #[v, .int .i64 (errOf o)])) w') : WL P p Q (⟨some d, none, .call f args⟩ :: l) e w := by
  refine WL_call (Oc := []) (F := O) hS ha hc ?_
  intro u O' w' h1 hS'
  obtain ⟨v, L, rfl, hs, hr⟩ := encR_form h1
  exact h v L w' hr (hS'.sub (List.Sublist.append hs (List.Sublist.refl _)))

theorem WL_lent {args : List Operand} {bv : Value} {bs : List UInt8} {p : Chain → World → Prop} (hS : St w0 K w O) (ha : args.map (ev e) = [bv]) (hb : Reads w [] 1 bv bs.length (bs.map b8)) (hl : bs.length ≤ 140737488351232)
    (h : ∀ b cap sp w', bs.length + 2 ≤ cap → St w0 K w' ((b, Blk 5 (lentC bs sp)) :: O) → WL Try.prog p Q l (upd e d (.slice (some ⟨b, 0, none⟩) (bs.length + 2) cap)) w') : WL Try.prog p Q (⟨some d, none, .call 26 args⟩ :: l) e w := by
  refine WL_call (Oc := []) (F := O) hS ha (c26 bs bv w hb hl) ?_
  rintro u O' w' ⟨h1, ⟨_, h2, _⟩ | ⟨b, cap, sp, rfl, rfl, _, h3, _⟩⟩ hS'
  · omega
  · exact h b cap sp w' h3 hS'
/-- What was lent is read. -/
theorem St.lentRd {b cap : Nat} {bs : List UInt8} {sp : List Value} (hS : St w0 K w O) (hm : (b, Blk 5 (lentC bs sp)) ∈ O) (hl : bs.length ≤ 140737488351232) : Reads w [] 1 (.slice (some ⟨b, 0, none⟩) bs.length cap) bs.length (bs.map b8) :=
  St.lend (Oc := []) (F := O) hS (T := 5) (xs := bs.map b8) (sp := [b8 165, b8 90] ++ sp) (by rw [← List.append_assoc]; exact hm) (by simp) hl
/-- A call of back. -/
theorem WL_back {x y : Operand} {bv : Value} {b cap : Nat} {bs : List UInt8} {sp : List Value} {p : Chain → World → Prop} (hS : St w0 K w ((b, Blk 5 (lentC bs sp)) :: O)) (hx : ev e x = .slice (some ⟨b, 0, none⟩) (bs.length + 2) cap) (hy : ev e y = bv)
    (hb : Reads w0 K 1 bv bs.length (bs.map b8)) (hl : bs.length ≤ 140737488351232) (hc : bs.length + 2 ≤ cap)
    (h : ∀ w', St w0 K w' ((b, Blk 5 (List.replicate (bs.length + 2) (b8 85) ++ sp)) :: O) → WL Try.prog p Q l (upd e d (.bool true)) w') : WL Try.prog p Q (⟨some d, none, .call 28 [x, y]⟩ :: l) e w := by
  refine WL_call (Oc := [(b, Blk 5 (lentC bs sp))]) (F := O) (argv := [.slice (some ⟨b, 0, none⟩) (bs.length + 2) cap, bv]) hS (by simp only [List.map_cons, List.map_nil, hx, hy])
    (c28 bs bv b cap sp w hl (hS.sub (List.Sublist.cons_cons _ (List.nil_sublist _))).at (hS.reads hb (Oc := [(b, Blk 5 (lentC bs sp))]) (fun q hq => by rw [List.mem_singleton.1 hq]; exact List.mem_cons_self)) hc) ?_
  rintro u O' w' ⟨rfl, rfl⟩ hS'
  exact h w' hS'
end
def decQ (n : Nat) (x : Except Nat (((Nat × Nat) × OpV) × Nat)) : ((Nat × Nat) × OpV) × Int × Int :=
  match fin n x with
  | .ok r => (r, 0, 0)
  | .error p => (((0, 0), ⟨0, [], 0, 0⟩), p, 20)
theorem decQ_form {n : Nat} {x : Except Nat (((Nat × Nat) × OpV) × Nat)} {u : Value} {O' : Blks} (h : DecQ n x u O') : u = .tuple #[.agg (pairC (decQ n x).1.1).toArray, .agg (decQ n x).1.2.cells.toArray, .int .i64 (decQ n x).2.1, .int .i64 (decQ n x).2.2] := by
  simp only [DecQ, decQ] at *
  generalize fin n x = y at *
  cases y with
  | ok r => exact h
  | error p => exact h
theorem reqE_len {s i k : Int} {nm : List UInt8} {a b : Int} : (bytesOf (reqE s i k nm a b)).length ≤ 100 := by
  unfold reqE
  split
  · rename_i h
    simp only [Bool.and_eq_true] at h
    have h1 := numsE_len [s, i]
    have h2 := opE_len k nm a b
    have h3 := opB_len h.2
    simp only [bytesOf, List.length_append, List.length_cons, List.length_nil] at *
    omega
  · simp [bytesOf]
set_option maxRecDepth 8000 in
set_option maxHeartbeats 2000000 in
theorem c13 (s i k : Int) (nm : List UInt8) (a b : Int) (ha : I64 a) (hb : I64 b) (hl : nm.length ≤ 140737488351232) (l : List UInt8) (bv : Value) (hcap : CapOk bv) (w : World) (hR : Reads w [] 1 bv l.length (l.map b8)) :
    Quiet Try.prog 13 #[.agg #[.int .i64 s, .int .i64 i], .agg #[.int .i64 k, Lw.S nm, .int .i64 a, .int .i64 b], bv] w (.bool true) := by
  have hfit := hR.fits
  have h100 : (bytesOf (reqE s i k nm a b)).length ≤ 140737488351232 := by have := reqE_len (s := s) (i := i) (k := k) (nm := nm) (a := a) (b := b); omega
  obtain ⟨A, c, rfl, _⟩ := hR.slc
  refine enterF (args := [.agg #[.int .i64 s, .int .i64 i], .agg #[.int .i64 k, Lw.S nm, .int .i64 a, .int .i64 b], .slice A l.length c]) Try.func13 low13 rfl ?_; have hS := St.start w; dsimp only [L13, envL, Nat.reduceAdd]
  repeat' (first | ((with_reducible apply WL_p); (· exact evk)) | (with_reducible first | refine WL_nil ?_ | refine then_normal ?_ | refine blk_normal ?_ | refine WC_seq ?_ | refine WC_reg ?_ | refine WC_block ?_ | refine WC_skip ?_ | refine WC_exit ?_ | refine then_exit ?_ | refine blk_hit ?_ | refine blk_miss (by decide) ?_ | refine WC_ret ?_ | refine then_ret ?_ | refine blk_ret ?_) | ((first | (with_reducible apply WL_newz hS) | ((with_reducible apply WL_newv hS); (· exact evk); (· rfl)) | ((with_reducible apply WL_row hS); (· exact evk))); clear hS; intro bq w hS hbq; (try simp only [List.nil_append, List.cons_append, List.append_assoc] at hS)) | ((with_reducible apply WL_loadN hS); (· exact evk); (· exact inn); (· ((simp only [List.drop_succ_cons, List.drop_zero, List.take_succ_cons, List.take_zero]) <;> rfl)); (· rfl)))
  refine WL_enc hS (by exact evk) (c34 s i k nm a b ha hb hl _) ?_
  clear hS
  intro v1 L1 w r1 hS
  repeat' (first | ((with_reducible apply WL_p); (· exact evk)) | (with_reducible first | refine WL_nil ?_ | refine then_normal ?_ | refine blk_normal ?_ | refine WC_seq ?_ | refine WC_reg ?_ | refine WC_block ?_ | refine WC_skip ?_ | refine WC_exit ?_ | refine then_exit ?_ | refine blk_hit ?_ | refine blk_miss (by decide) ?_ | refine WC_ret ?_ | refine then_ret ?_ | refine blk_ret ?_) | ((first | (with_reducible apply WL_newz hS) | ((with_reducible apply WL_newv hS); (· exact evk); (· rfl)) | ((with_reducible apply WL_row hS); (· exact evk))); clear hS; intro bq w hS hbq; (try simp only [List.nil_append, List.cons_append, List.append_assoc] at hS)) | ((with_reducible apply WL_loadN hS); (· exact evk); (· exact inn); (· ((simp only [List.drop_succ_cons, List.drop_zero, List.take_succ_cons, List.take_zero]) <;> rfl)); (· rfl)))
  refine WL_enc hS (by exact evk) (c35 s i k nm a b ha hb hl _) ?_
  clear hS
  intro v2 L2 w r2 hS
  repeat' (first | ((with_reducible apply WL_p); (· exact evk)) | (with_reducible first | refine WL_nil ?_ | refine then_normal ?_ | refine blk_normal ?_ | refine WC_seq ?_ | refine WC_reg ?_ | refine WC_block ?_ | refine WC_skip ?_ | refine WC_exit ?_ | refine then_exit ?_ | refine blk_hit ?_ | refine blk_miss (by decide) ?_ | refine WC_ret ?_ | refine then_ret ?_ | refine blk_ret ?_) | ((first | (with_reducible apply WL_newz hS) | ((with_reducible apply WL_newv hS); (· exact evk); (· rfl)) | ((with_reducible apply WL_row hS); (· exact evk))); clear hS; intro bq w hS hbq; (try simp only [List.nil_append, List.cons_append, List.append_assoc] at hS)) | ((with_reducible apply WL_loadN hS); (· exact evk); (· exact inn); (· ((simp only [List.drop_succ_cons, List.drop_zero, List.take_succ_cons, List.take_zero]) <;> rfl)); (· rfl)))
  refine WL_lent hS (by exact evk) (hS.reads0 hR) hfit ?_
  clear hS
  intro bk cap sp w hc hS
  repeat' (first | ((with_reducible apply WL_p); (· exact evk)) | (with_reducible first | refine WL_nil ?_ | refine then_normal ?_ | refine blk_normal ?_ | refine WC_seq ?_ | refine WC_reg ?_ | refine WC_block ?_ | refine WC_skip ?_ | refine WC_exit ?_ | refine then_exit ?_ | refine blk_hit ?_ | refine blk_miss (by decide) ?_ | refine WC_ret ?_ | refine then_ret ?_ | refine blk_ret ?_))
  refine WL_p (slcB (by exact evk) (by exact evk) (by omega)) ?_
  refine WL_call0 hS (by exact evk) (c19 l _ ⟨_, _, _, rfl, by omega⟩ _ (hS.lentRd inn hfit)) ?_
  clear hS
  rintro u O1 w h1 hS
  obtain rfl := decQ_form h1
  have hS := hS.sub (List.sublist_append_left _ _)
  obtain ⟨cc, oo, at1, e1, hdq⟩ : ∃ cc oo at1 e1, decQ l.length (rdReq l 0) = ((cc, oo), at1, e1) := ⟨_, _, _, _, rfl⟩
  rw [hdq]
  dsimp only
  repeat' (first | ((with_reducible apply WL_p); (· exact evk)) | (with_reducible first | refine WL_nil ?_ | refine then_normal ?_ | refine blk_normal ?_ | refine WC_seq ?_ | refine WC_reg ?_ | refine WC_block ?_ | refine WC_skip ?_ | refine WC_exit ?_ | refine then_exit ?_ | refine blk_hit ?_ | refine blk_miss (by decide) ?_ | refine WC_ret ?_ | refine then_ret ?_ | refine blk_ret ?_) | ((first | (with_reducible apply WL_newz hS) | ((with_reducible apply WL_newv hS); (· exact evk); (· rfl)) | ((with_reducible apply WL_row hS); (· exact evk))); clear hS; intro bq w hS hbq; (try simp only [List.nil_append, List.cons_append, List.append_assoc] at hS)))
  refine WL_storeF (vs := pairC cc) hS (by exact evk) (by exact evk) rfl rfl (pairC_ones _) upp ?_
  clear hS
  intro w hS
  refine WL_storeF (vs := oo.cells) hS (by exact evk) (by exact evk) rfl rfl (OpV.ones _) upp ?_
  clear hS
  intro w hS
  repeat' (first | ((with_reducible apply WL_p); (· exact evk)) | (with_reducible first | refine WL_nil ?_ | refine then_normal ?_ | refine blk_normal ?_ | refine WC_seq ?_ | refine WC_reg ?_ | refine WC_block ?_ | refine WC_skip ?_ | refine WC_exit ?_ | refine then_exit ?_ | refine blk_hit ?_ | refine blk_miss (by decide) ?_ | refine WC_ret ?_ | refine then_ret ?_ | refine blk_ret ?_))
  refine WL_call0 hS (by exact evk) (c36 l _ hcap _ (hS.reads0 hR)) ?_
  clear hS
  rintro u O2 w h2 hS
  obtain rfl := decQ_form h2
  have hS := hS.sub (List.sublist_append_left _ _)
  rw [hdq]
  dsimp only
  repeat' (first | ((with_reducible apply WL_p); (· exact evk)) | (with_reducible first | refine WL_nil ?_ | refine then_normal ?_ | refine blk_normal ?_ | refine WC_seq ?_ | refine WC_reg ?_ | refine WC_block ?_ | refine WC_skip ?_ | refine WC_exit ?_ | refine then_exit ?_ | refine blk_hit ?_ | refine blk_miss (by decide) ?_ | refine WC_ret ?_ | refine then_ret ?_ | refine blk_ret ?_) | ((first | (with_reducible apply WL_newz hS) | ((with_reducible apply WL_newv hS); (· exact evk); (· rfl)) | ((with_reducible apply WL_row hS); (· exact evk))); clear hS; intro bq w hS hbq; (try simp only [List.nil_append, List.cons_append, List.append_assoc] at hS)))
  refine WL_storeF (vs := pairC cc) hS (by exact evk) (by exact evk) rfl rfl (pairC_ones _) upp ?_
  clear hS
  intro w hS
  refine WL_storeF (vs := oo.cells) hS (by exact evk) (by exact evk) rfl rfl (OpV.ones _) upp ?_
  clear hS
  intro w hS
  repeat' (first | ((with_reducible apply WL_p); (· exact evk)) | (with_reducible first | refine WL_nil ?_ | refine then_normal ?_ | refine blk_normal ?_ | refine WC_seq ?_ | refine WC_reg ?_ | refine WC_block ?_ | refine WC_skip ?_ | refine WC_exit ?_ | refine then_exit ?_ | refine blk_hit ?_ | refine blk_miss (by decide) ?_ | refine WC_ret ?_ | refine then_ret ?_ | refine blk_ret ?_))
  refine WL_back hS (by exact evk) (by exact evk) hR hfit hc ?_
  clear hS
  intro w hS
  unfold pairC OpV.cells at hS
  repeat' (first | ((with_reducible apply WL_p); (· exact kYd0)) | ((with_reducible apply WL_do); (· exact evd)) | ((with_reducible apply WL_no); (· exact evd)) | (with_reducible first | refine WL_nil ?_ | refine then_normal ?_ | refine blk_normal ?_ | refine WC_seq ?_ | refine WC_reg ?_ | refine WC_block ?_ | refine WC_skip ?_ | refine WC_exit ?_ | refine then_exit ?_ | refine blk_hit ?_ | refine blk_miss (by decide) ?_ | refine WC_ret ?_ | refine then_ret ?_ | refine blk_ret ?_))
  ((with_reducible apply WL_callq hS); (· exact evk); (· first | exact c21 _ _ _ _ (r1.rd hS subAll h100) (r2.rd hS subAll h100)); (clear hS; intro w hS))
  repeat' (first | ((with_reducible apply WL_p); (· exact kYd0)) | ((with_reducible apply WL_do); (· exact evd)) | ((with_reducible apply WL_no); (· exact evd)) | (with_reducible first | refine WL_nil ?_ | refine then_normal ?_ | refine blk_normal ?_ | refine WC_seq ?_ | refine WC_reg ?_ | refine WC_block ?_ | refine WC_skip ?_ | refine WC_exit ?_ | refine then_exit ?_ | refine blk_hit ?_ | refine blk_miss (by decide) ?_ | refine WC_ret ?_ | refine then_ret ?_ | refine blk_ret ?_) | ((with_reducible apply WL_loadN hS); (· exact evk); (· exact inn); (· ((simp only [List.drop_succ_cons, List.drop_zero, List.take_succ_cons, List.take_zero]) <;> rfl)); (· rfl)))
  exact retq (v' := .bool true) hS rfl rfl
def decP (n : Nat) (x : Except Nat (RepV × Nat)) : RepV × Int × Int :=
  match fin n x with
  | .ok r => (r, 0, 0)
  | .error p => (⟨(0, 0), 0, 0⟩, p, 20)
theorem decP_form {n : Nat} {x : Except Nat (RepV × Nat)} {u : Value} {O' : Blks} (h : DecP n x u O') : u = .tuple #[.agg (decP n x).1.cells.toArray, .int .i64 (decP n x).2.1, .int .i64 (decP n x).2.2] := by
  simp only [DecP, decP] at *
  generalize fin n x = y at *
  cases y with
  | ok r => exact h
  | error p => exact h
theorem repE_len {s i er x : Int} : (bytesOf (repE s i er x)).length ≤ 100 := by
  unfold repE
  split
  · have h1 := numsE_len [s, i]
    have h2 := numsE_len [er]
    have h3 := leb_len (zig x)
    simp only [bytesOf, List.length_append, List.length_cons, List.length_nil] at *
    omega
  · simp [bytesOf]
set_option maxRecDepth 8000 in
set_option maxHeartbeats 2000000 in
theorem c14 (s i er x : Int) (hx : I64 x) (l : List UInt8) (bv : Value) (hcap : CapOk bv) (w : World) (hR : Reads w [] 1 bv l.length (l.map b8)) :
    Quiet Try.prog 14 #[.agg #[.int .i64 s, .int .i64 i, .int .i64 er, .int .i64 x], bv] w (.bool true) := by
  have hfit := hR.fits
  have h100 : (bytesOf (repE s i er x)).length ≤ 140737488351232 := by have := repE_len (s := s) (i := i) (er := er) (x := x); omega
  obtain ⟨A, c, rfl, _⟩ := hR.slc
  refine enterF (args := [.agg #[.int .i64 s, .int .i64 i, .int .i64 er, .int .i64 x], .slice A l.length c]) Try.func14 low14 rfl ?_; have hS := St.start w; dsimp only [L14, envL, Nat.reduceAdd]
  repeat' (first | ((with_reducible apply WL_p); (· exact evk)) | (with_reducible first | refine WL_nil ?_ | refine then_normal ?_ | refine blk_normal ?_ | refine WC_seq ?_ | refine WC_reg ?_ | refine WC_block ?_ | refine WC_skip ?_ | refine WC_exit ?_ | refine then_exit ?_ | refine blk_hit ?_ | refine blk_miss (by decide) ?_ | refine WC_ret ?_ | refine then_ret ?_ | refine blk_ret ?_) | ((first | (with_reducible apply WL_newz hS) | ((with_reducible apply WL_newv hS); (· exact evk); (· rfl)) | ((with_reducible apply WL_row hS); (· exact evk))); clear hS; intro bq w hS hbq; (try simp only [List.nil_append, List.cons_append, List.append_assoc] at hS)) | ((with_reducible apply WL_loadN hS); (· exact evk); (· exact inn); (· ((simp only [List.drop_succ_cons, List.drop_zero, List.take_succ_cons, List.take_zero]) <;> rfl)); (· rfl)))
  refine WL_enc hS (by exact evk) (c20 s i er x hx _) ?_
  clear hS
  intro v1 L1 w r1 hS
  repeat' (first | ((with_reducible apply WL_p); (· exact evk)) | (with_reducible first | refine WL_nil ?_ | refine then_normal ?_ | refine blk_normal ?_ | refine WC_seq ?_ | refine WC_reg ?_ | refine WC_block ?_ | refine WC_skip ?_ | refine WC_exit ?_ | refine then_exit ?_ | refine blk_hit ?_ | refine blk_miss (by decide) ?_ | refine WC_ret ?_ | refine then_ret ?_ | refine blk_ret ?_) | ((first | (with_reducible apply WL_newz hS) | ((with_reducible apply WL_newv hS); (· exact evk); (· rfl)) | ((with_reducible apply WL_row hS); (· exact evk))); clear hS; intro bq w hS hbq; (try simp only [List.nil_append, List.cons_append, List.append_assoc] at hS)) | ((with_reducible apply WL_loadN hS); (· exact evk); (· exact inn); (· ((simp only [List.drop_succ_cons, List.drop_zero, List.take_succ_cons, List.take_zero]) <;> rfl)); (· rfl)))
  refine WL_enc hS (by exact evk) (c37 s i er x hx _) ?_
  clear hS
  intro v2 L2 w r2 hS
  repeat' (first | ((with_reducible apply WL_p); (· exact evk)) | (with_reducible first | refine WL_nil ?_ | refine then_normal ?_ | refine blk_normal ?_ | refine WC_seq ?_ | refine WC_reg ?_ | refine WC_block ?_ | refine WC_skip ?_ | refine WC_exit ?_ | refine then_exit ?_ | refine blk_hit ?_ | refine blk_miss (by decide) ?_ | refine WC_ret ?_ | refine then_ret ?_ | refine blk_ret ?_) | ((first | (with_reducible apply WL_newz hS) | ((with_reducible apply WL_newv hS); (· exact evk); (· rfl)) | ((with_reducible apply WL_row hS); (· exact evk))); clear hS; intro bq w hS hbq; (try simp only [List.nil_append, List.cons_append, List.append_assoc] at hS)) | ((with_reducible apply WL_loadN hS); (· exact evk); (· exact inn); (· ((simp only [List.drop_succ_cons, List.drop_zero, List.take_succ_cons, List.take_zero]) <;> rfl)); (· rfl)))
  refine WL_lent hS (by exact evk) (hS.reads0 hR) hfit ?_
  clear hS
  intro bk cap sp w hc hS
  repeat' (first | ((with_reducible apply WL_p); (· exact evk)) | (with_reducible first | refine WL_nil ?_ | refine then_normal ?_ | refine blk_normal ?_ | refine WC_seq ?_ | refine WC_reg ?_ | refine WC_block ?_ | refine WC_skip ?_ | refine WC_exit ?_ | refine then_exit ?_ | refine blk_hit ?_ | refine blk_miss (by decide) ?_ | refine WC_ret ?_ | refine then_ret ?_ | refine blk_ret ?_))
  refine WL_p (slcB (by exact evk) (by exact evk) (by omega)) ?_
  refine WL_call0 hS (by exact evk) (c38 l _ ⟨_, _, _, rfl, by omega⟩ _ (hS.lentRd inn hfit)) ?_
  clear hS
  rintro u O1 w h1 hS
  obtain rfl := decP_form h1
  have hS := hS.sub (List.sublist_append_left _ _)
  obtain ⟨rr, at1, e1, hdq⟩ : ∃ rr at1 e1, decP l.length (rdRep l 0) = (rr, at1, e1) := ⟨_, _, _, rfl⟩
  rw [hdq]
  dsimp only
  repeat' (first | ((with_reducible apply WL_p); (· exact evk)) | (with_reducible first | refine WL_nil ?_ | refine then_normal ?_ | refine blk_normal ?_ | refine WC_seq ?_ | refine WC_reg ?_ | refine WC_block ?_ | refine WC_skip ?_ | refine WC_exit ?_ | refine then_exit ?_ | refine blk_hit ?_ | refine blk_miss (by decide) ?_ | refine WC_ret ?_ | refine then_ret ?_ | refine blk_ret ?_) | ((first | (with_reducible apply WL_newz hS) | ((with_reducible apply WL_newv hS); (· exact evk); (· rfl)) | ((with_reducible apply WL_row hS); (· exact evk))); clear hS; intro bq w hS hbq; (try simp only [List.nil_append, List.cons_append, List.append_assoc] at hS)))
  refine WL_storeF (vs := rr.cells) hS (by exact evk) (by exact evk) rfl rfl (RepV.ones _) upp ?_
  clear hS
  intro w hS
  repeat' (first | ((with_reducible apply WL_p); (· exact evk)) | (with_reducible first | refine WL_nil ?_ | refine then_normal ?_ | refine blk_normal ?_ | refine WC_seq ?_ | refine WC_reg ?_ | refine WC_block ?_ | refine WC_skip ?_ | refine WC_exit ?_ | refine then_exit ?_ | refine blk_hit ?_ | refine blk_miss (by decide) ?_ | refine WC_ret ?_ | refine then_ret ?_ | refine blk_ret ?_))
  refine WL_call0 hS (by exact evk) (c39 l _ hcap _ (hS.reads0 hR)) ?_
  clear hS
  rintro u O2 w h2 hS
  obtain rfl := decP_form h2
  have hS := hS.sub (List.sublist_append_left _ _)
  rw [hdq]
  dsimp only
  repeat' (first | ((with_reducible apply WL_p); (· exact evk)) | (with_reducible first | refine WL_nil ?_ | refine then_normal ?_ | refine blk_normal ?_ | refine WC_seq ?_ | refine WC_reg ?_ | refine WC_block ?_ | refine WC_skip ?_ | refine WC_exit ?_ | refine then_exit ?_ | refine blk_hit ?_ | refine blk_miss (by decide) ?_ | refine WC_ret ?_ | refine then_ret ?_ | refine blk_ret ?_) | ((first | (with_reducible apply WL_newz hS) | ((with_reducible apply WL_newv hS); (· exact evk); (· rfl)) | ((with_reducible apply WL_row hS); (· exact evk))); clear hS; intro bq w hS hbq; (try simp only [List.nil_append, List.cons_append, List.append_assoc] at hS)))
  refine WL_storeF (vs := rr.cells) hS (by exact evk) (by exact evk) rfl rfl (RepV.ones _) upp ?_
  clear hS
  intro w hS
  repeat' (first | ((with_reducible apply WL_p); (· exact evk)) | (with_reducible first | refine WL_nil ?_ | refine then_normal ?_ | refine blk_normal ?_ | refine WC_seq ?_ | refine WC_reg ?_ | refine WC_block ?_ | refine WC_skip ?_ | refine WC_exit ?_ | refine then_exit ?_ | refine blk_hit ?_ | refine blk_miss (by decide) ?_ | refine WC_ret ?_ | refine then_ret ?_ | refine blk_ret ?_))
  refine WL_back hS (by exact evk) (by exact evk) hR hfit hc ?_
  clear hS
  intro w hS
  unfold RepV.cells at hS
  repeat' (first | ((with_reducible apply WL_p); (· exact kYd0)) | ((with_reducible apply WL_do); (· exact evd)) | ((with_reducible apply WL_no); (· exact evd)) | (with_reducible first | refine WL_nil ?_ | refine then_normal ?_ | refine blk_normal ?_ | refine WC_seq ?_ | refine WC_reg ?_ | refine WC_block ?_ | refine WC_skip ?_ | refine WC_exit ?_ | refine then_exit ?_ | refine blk_hit ?_ | refine blk_miss (by decide) ?_ | refine WC_ret ?_ | refine then_ret ?_ | refine blk_ret ?_))
  ((with_reducible apply WL_callq hS); (· exact evk); (· first | exact c21 _ _ _ _ (r1.rd hS subAll h100) (r2.rd hS subAll h100)); (clear hS; intro w hS))
  repeat' (first | ((with_reducible apply WL_p); (· exact kYd0)) | ((with_reducible apply WL_do); (· exact evd)) | ((with_reducible apply WL_no); (· exact evd)) | (with_reducible first | refine WL_nil ?_ | refine then_normal ?_ | refine blk_normal ?_ | refine WC_seq ?_ | refine WC_reg ?_ | refine WC_block ?_ | refine WC_skip ?_ | refine WC_exit ?_ | refine then_exit ?_ | refine blk_hit ?_ | refine blk_miss (by decide) ?_ | refine WC_ret ?_ | refine then_ret ?_ | refine blk_ret ?_) | ((with_reducible apply WL_loadN hS); (· exact evk); (· exact inn); (· ((simp only [List.drop_succ_cons, List.drop_zero, List.take_succ_cons, List.take_zero]) <;> rfl)); (· rfl)))
  exact retq (v' := .bool true) hS rfl rfl
end Go.Proofs.Ytohmgkcdjapinaa.Lw
namespace Go.Proofs.Ytohmgkcdjapinaa.Lw
theorem kYe0 {p : Prop} (h : p := by ((simp (disch := omega) only [ev_tmp, ev_const, ev_func, ev_global, upd_app, val_move, val_pick, pickV_true, pickV_false, pickV_bool, val_nilck, nilckV_ptr, val_bin, bin_add, bin_sub, bin_mul, bin_eql, bin_neq, bin_lss, bin_leq, bin_gtr, bin_geq, bin_seql, bin_sneq, bin_slss, bin_sleq, bin_sgtr, bin_sgeq, val_beq, beqV_f, beqV_t, val_seq, val_not, notV_bool, val_toInt, toIntV_int, val_off, offV_ptr, val_len, lenV_slice, val_slen, slenV_S, val_ext, extV_tup, val_ifc, val_fn, List.getElem?_cons_zero, List.getElem?_cons_succ, List.map_cons, List.map_nil, eq_self, Bool.false_eq_true, Bool.not_true, Bool.not_false, Option.map_some, Nat.zero_add, isB_bool, isB_undef, Bool.true_beq, Bool.false_beq, beq_self_eq_true, Bool.true_and, Bool.and_true, Bool.false_and, Bool.and_false, Bool.true_or, Bool.or_true, Bool.false_or, Bool.or_false, not_dec, and_dec, or_dec, seqV_f, seqV_t, ceq_i, ceq_s, ceq_nil, val_bld, bldV, cells_int, cells_bool, cells_S, cells_b8, cells_slice, cells_ptr, cells_agg, List.size_toArray, List.length_cons, List.length_nil, place, List.take_succ_cons, List.take_zero, List.drop_succ_cons, List.drop_zero, List.cons_append, List.nil_append, and_self, and_true, true_and, Nat.reduceLeDiff, List.toList_toArray, wr64, wru64, wru8, Nat.reduceEqDiff, ↓reduceIte, Nat.reduceAdd, dT, dNT, dne]) <;> rfl)) : p := h
theorem kYe1 {p : Prop} (h : p := by ((simp (disch := omega) only [ev_tmp, ev_const, ev_func, ev_global, upd_app, val_move, val_pick, pickV_true, pickV_false, pickV_bool, val_nilck, nilckV_ptr, val_bin, bin_add, bin_sub, bin_mul, bin_eql, bin_neq, bin_lss, bin_leq, bin_gtr, bin_geq, bin_seql, bin_sneq, bin_slss, bin_sleq, bin_sgtr, bin_sgeq, val_beq, beqV_f, beqV_t, val_seq, val_not, notV_bool, val_toInt, toIntV_int, val_off, offV_ptr, val_len, lenV_slice, val_slen, slenV_S, val_ext, extV_tup, val_ifc, val_fn, List.getElem?_cons_zero, List.getElem?_cons_succ, List.map_cons, List.map_nil, eq_self, Bool.false_eq_true, Bool.not_true, Bool.not_false, Option.map_some, Nat.zero_add, isB_bool, isB_undef, Bool.true_beq, Bool.false_beq, beq_self_eq_true, Bool.true_and, Bool.and_true, Bool.false_and, Bool.and_false, Bool.true_or, Bool.or_true, Bool.false_or, Bool.or_false, not_dec, and_dec, or_dec, seqV_f, seqV_t, ceq_i, ceq_s, ceq_nil, val_bld, bldV, cells_int, cells_bool, cells_S, cells_b8, cells_slice, cells_ptr, cells_agg, List.size_toArray, List.length_cons, List.length_nil, place, List.take_succ_cons, List.take_zero, List.drop_succ_cons, List.drop_zero, List.cons_append, List.nil_append, and_self, and_true, true_and, Nat.reduceLeDiff, List.toList_toArray, wr64, wru64, wru8, Nat.reduceEqDiff, ↓reduceIte, Nat.reduceAdd, dT, deq]) <;> rfl)) : p := h
abbrev R12_0 : List LOper := [⟨some 2, none, .newv 39 (.tmp 0)⟩, ⟨some 4, none, .pv (.move (.const (.bool false)))⟩]
abbrev R12_1 : List LOper := [⟨some 18, none, .loadN 5 (.tmp 2)⟩, ⟨some 5, none, .newz 39 [(.int .i64 0), (.int .i64 0), (.int .i64 0), (.int .i64 0), (.slice none 0 0)]⟩, ⟨none, none, .store 5 (.tmp 5) (.tmp 18)⟩]
abbrev R12_2 : List LOper := [⟨some 19, none, .pv (.off (.tmp 2) 4)⟩, ⟨some 20, none, .load (.tmp 19)⟩, ⟨some 21, none, .call 26 [(.tmp 20)]⟩, ⟨some 6, none, .pv (.move (.tmp 21))⟩]
abbrev R12_3 : List LOper := [⟨some 22, none, .pv (.move (.tmp 6))⟩, ⟨some 23, none, .pv (.off (.tmp 2) 4)⟩, ⟨some 24, none, .load (.tmp 23)⟩, ⟨some 25, none, .pv (.len (.tmp 24))⟩, ⟨some 26, none, .pv (.slc 1 (.tmp 22) none (some (.tmp 25)))⟩, ⟨some 27, none, .pv (.off (.tmp 5) 4)⟩, ⟨none, none, .store 1 (.tmp 27) (.tmp 26)⟩]
abbrev R12_4 : List LOper := [⟨some 29, none, .loadN 5 (.tmp 5)⟩, ⟨some 30, none, .call 18 [(.tmp 29)]⟩, ⟨some 28, none, .pv (.move (.tmp 30))⟩, ⟨some 31, none, .pv (.ext (.tmp 28) 0)⟩, ⟨some 32, none, .pv (.ext (.tmp 28) 1)⟩, ⟨some 7, none, .pv (.move (.tmp 31))⟩, ⟨some 8, none, .pv (.move (.tmp 32))⟩]
abbrev R12_5 : List LOper := [⟨some 34, none, .loadN 5 (.tmp 2)⟩, ⟨some 35, none, .call 30 [(.tmp 34)]⟩, ⟨some 33, none, .pv (.move (.tmp 35))⟩, ⟨some 36, none, .pv (.ext (.tmp 33) 0)⟩, ⟨some 37, none, .pv (.ext (.tmp 33) 1)⟩, ⟨some 9, none, .pv (.move (.tmp 36))⟩, ⟨some 10, none, .pv (.move (.tmp 37))⟩]
abbrev R12_6 : List LOper := [⟨some 38, none, .pv (.move (.tmp 6))⟩, ⟨some 39, none, .pv (.off (.tmp 2) 4)⟩, ⟨some 40, none, .load (.tmp 39)⟩, ⟨some 41, none, .call 28 [(.tmp 38), (.tmp 40)]⟩, ⟨some 42, none, .pv (.not (.tmp 41))⟩, ⟨some 43, none, .pv (.move (.tmp 42))⟩, ⟨some 44, (some (43, false)), .pv (.move (.tmp 8))⟩, ⟨some 45, (some (43, false)), .pv (.move (.tmp 10))⟩, ⟨some 46, (some (43, false)), .pv (.bin .neq (.tmp 44) (.tmp 45))⟩, ⟨some 47, none, .pv (.pick (.tmp 43) (.const (.bool true)) (.tmp 46))⟩, ⟨some 48, none, .pv (.move (.tmp 47))⟩, ⟨some 49, (some (48, false)), .pv (.move (.tmp 7))⟩, ⟨some 50, (some (48, false)), .pv (.move (.tmp 9))⟩, ⟨some 51, (some (48, false)), .call 21 [(.tmp 49), (.tmp 50)]⟩, ⟨some 52, (some (48, false)), .pv (.not (.tmp 51))⟩, ⟨some 53, none, .pv (.pick (.tmp 48) (.const (.bool true)) (.tmp 52))⟩]
abbrev R12_7 : List LOper := [⟨some 4, none, .pv (.move (.const (.bool false)))⟩]
abbrev R12_8 : List LOper := [⟨some 54, none, .pv (.move (.tmp 1))⟩, ⟨some 55, none, .call 26 [(.tmp 54)]⟩, ⟨some 11, none, .pv (.move (.tmp 55))⟩]
abbrev R12_9 : List LOper := [⟨some 57, none, .pv (.move (.tmp 11))⟩, ⟨some 58, none, .pv (.move (.tmp 1))⟩, ⟨some 59, none, .pv (.len (.tmp 58))⟩, ⟨some 60, none, .pv (.slc 1 (.tmp 57) none (some (.tmp 59)))⟩, ⟨some 61, none, .call 31 [(.tmp 60)]⟩, ⟨some 56, none, .pv (.move (.tmp 61))⟩, ⟨some 62, none, .pv (.ext (.tmp 56) 0)⟩, ⟨some 63, none, .pv (.ext (.tmp 56) 1)⟩, ⟨some 64, none, .pv (.ext (.tmp 56) 2)⟩, ⟨some 12, none, .newz 39 [(.int .i64 0), (.int .i64 0), (.int .i64 0), (.int .i64 0), (.slice none 0 0)]⟩, ⟨none, none, .store 5 (.tmp 12) (.tmp 62)⟩, ⟨some 13, none, .pv (.move (.tmp 63))⟩, ⟨some 14, none, .pv (.move (.tmp 64))⟩]
abbrev R12_10 : List LOper := [⟨some 66, none, .pv (.move (.tmp 1))⟩, ⟨some 67, none, .call 32 [(.tmp 66)]⟩, ⟨some 65, none, .pv (.move (.tmp 67))⟩, ⟨some 68, none, .pv (.ext (.tmp 65) 0)⟩, ⟨some 69, none, .pv (.ext (.tmp 65) 1)⟩, ⟨some 70, none, .pv (.ext (.tmp 65) 2)⟩, ⟨some 15, none, .newz 39 [(.int .i64 0), (.int .i64 0), (.int .i64 0), (.int .i64 0), (.slice none 0 0)]⟩, ⟨none, none, .store 5 (.tmp 15) (.tmp 68)⟩, ⟨some 16, none, .pv (.move (.tmp 69))⟩, ⟨some 17, none, .pv (.move (.tmp 70))⟩]
abbrev R12_11 : List LOper := [⟨some 71, none, .pv (.move (.tmp 11))⟩, ⟨some 72, none, .pv (.move (.tmp 1))⟩, ⟨some 73, none, .call 28 [(.tmp 71), (.tmp 72)]⟩, ⟨some 74, none, .pv (.move (.tmp 73))⟩, ⟨some 75, (some (74, true)), .pv (.move (.tmp 14))⟩, ⟨some 76, (some (74, true)), .pv (.move (.tmp 17))⟩, ⟨some 77, (some (74, true)), .pv (.bin .eql (.tmp 75) (.tmp 76))⟩, ⟨some 78, none, .pv (.pick (.tmp 74) (.tmp 77) (.const (.bool false)))⟩, ⟨some 79, none, .pv (.move (.tmp 78))⟩, ⟨some 80, (some (79, true)), .pv (.move (.tmp 13))⟩, ⟨some 81, (some (79, true)), .pv (.move (.tmp 16))⟩, ⟨some 82, (some (79, true)), .pv (.bin .eql (.tmp 80) (.tmp 81))⟩, ⟨some 83, none, .pv (.pick (.tmp 79) (.tmp 82) (.const (.bool false)))⟩, ⟨some 84, none, .pv (.move (.tmp 83))⟩, ⟨some 85, (some (84, true)), .loadN 5 (.tmp 12)⟩, ⟨some 86, (some (84, true)), .loadN 5 (.tmp 15)⟩, ⟨some 87, (some (84, true)), .call 33 [(.tmp 85), (.tmp 86)]⟩, ⟨some 88, none, .pv (.pick (.tmp 84) (.tmp 87) (.const (.bool false)))⟩, ⟨some 4, none, .pv (.move (.tmp 88))⟩]
abbrev L12 : LFun := ⟨89, [(.tmp 4)], (.seq (.reg R12_0) (.seq (.reg R12_1) (.seq (.reg R12_2) (.seq (.reg R12_3) (.seq (.reg R12_4) (.seq (.reg R12_5) (.seq (.seq (.reg R12_6) (.cond (.tmp 53) (.seq (.reg R12_7) .ret) .skip)) (.seq (.reg R12_8) (.seq (.reg R12_9) (.seq (.reg R12_10) (.seq (.reg R12_11) .ret)))))))))))⟩
theorem low12 : lowFn Try.prog Try.f12 = some L12 := by kernel_rfl

section
variable {P : Program} {p : Chain → World → Prop} {Q : Exit → Env → World → Prop} {e : Env} {w0 w : World} {K : List Nat} {A O : Blks} {d : Nat} {l : List LOper}
theorem WL_backM {x y : Operand} {bv : Value} {b cap : Nat} {bs : List UInt8} {sp : List Value} {p : Chain → World → Prop} (hS : St w0 K w (A ++ (b, Blk 5 (lentC bs sp)) :: O)) (hx : ev e x = .slice (some ⟨b, 0, none⟩) (bs.length + 2) cap) (hy : ev e y = bv)
    (hb : Reads w0 K 1 bv bs.length (bs.map b8)) (hl : bs.length ≤ 140737488351232) (hc : bs.length + 2 ≤ cap)
    (h : ∀ w', St w0 K w' (A ++ (b, Blk 5 (List.replicate (bs.length + 2) (b8 85) ++ sp)) :: O) → WL Try.prog p Q l (upd e d (.bool true)) w') : WL Try.prog p Q (⟨some d, none, .call 28 [x, y]⟩ :: l) e w :=
  WL_back (hS.perm List.perm_middle) hx hy hb hl hc fun w' h' => h w' (h'.perm List.perm_middle.symm)
end
def decS (n : Nat) (x : Except Nat (SegV × Nat)) : SegV × Int × Int :=
  match fin n x with
  | .ok r => (r, 0, 0)
  | .error p => (⟨0, 0, 0, 0, []⟩, p, 20)
theorem decS_form {n : Nat} {x : Except Nat (SegV × Nat)} {u : Value} {O' : Blks} (h : DecS n x u O') : ∃ v L, L.Sublist O' ∧ RowIs 5 1 v (decS n x).1.ds.length ((decS n x).1.ds.map b8) L ∧ u = .tuple #[.agg ((decS n x).1.cells v).toArray, .int .i64 (decS n x).2.1, .int .i64 (decS n x).2.2] := by
  simp only [DecS, decS] at *
  generalize fin n x = y at *
  cases y with
  | ok r =>
    obtain ⟨v, hr, rfl⟩ := h
    exact ⟨v, O', List.Sublist.refl _, hr, rfl⟩
  | error p => exact ⟨_, [], List.nil_sublist _, RowIs.nil 5 1, h⟩
theorem decS_len (l : List UInt8) (n : Nat) : (decS n (rdSeg l 0)).1.ds.length ≤ l.length := by
  simp only [decS]
  have key : ∀ s, fin n (rdSeg l 0) = .ok s → s.ds.length ≤ l.length := by
    intro s hs
    unfold fin at hs
    split at hs
    · rename_i y a hx
      split at hs
      · cases hs
      · injection hs with hs
        subst hs
        obtain ⟨_, _, _, h⟩ := bindR_inv hx
        obtain ⟨_, _, _, h⟩ := bindR_inv h
        obtain ⟨_, _, _, h⟩ := bindR_inv h
        obtain ⟨_, _, _, h⟩ := bindR_inv h
        obtain ⟨k, a5, _, h⟩ := bindR_inv h
        obtain ⟨ds, a6, hb, h⟩ := bindR_inv h
        injection h with h
        injection h with h1 h2
        subst h1
        unfold rdBytes at hb
        split at hb
        · cases hb
        · injection hb with hb
          injection hb with hb1 hb2
          rw [← hb1, List.length_take, List.length_drop]
          omega
    · cases hs
  generalize fin n (rdSeg l 0) = y at key
  cases y with
  | ok s => exact key s rfl
  | error p => exact Nat.zero_le _
theorem segE_len {f t s a : Int} {ds : List UInt8} : (bytesOf (segE f t s a ds)).length ≤ 50 + ds.length := by
  unfold segE
  split
  · have h1 := numsE_len [f, t, s, a, (ds.length : Int)]
    simp only [bytesOf, List.length_append, List.length_cons, List.length_nil] at *
    omega
  · simp [bytesOf]
theorem segE_len' {f t s a : Int} {ds : List UInt8} : (bytesOf (segE f t s a ds)).length ≤ 4050 := by
  have h1 := segE_len (f := f) (t := t) (s := s) (a := a) (ds := ds)
  unfold segE at *
  split
  · rename_i hb
    rw [if_pos hb] at h1
    simp only [segB, decide_eq_true_eq] at hb
    omega
  · simp [bytesOf]
theorem segV_cells (x : SegV) (v : Value) : Value.agg (x.cells v).toArray = .agg #[.int .i64 (x.f : Int), .int .i64 (x.t : Int), .int .i64 (x.s : Int), .int .i64 (x.a : Int), v] := rfl
set_option maxRecDepth 8000 in
set_option maxHeartbeats 2000000 in
theorem c12 (f t s a : Int) (ds : List UInt8) (dv : Value) (l : List UInt8) (bv : Value) (hcap : CapOk bv) (w : World) (hD : Reads w [] 1 dv ds.length (ds.map b8)) (hR : Reads w [] 1 bv l.length (l.map b8)) :
    Quiet Try.prog 12 #[.agg #[.int .i64 f, .int .i64 t, .int .i64 s, .int .i64 a, dv], bv] w (.bool true) := by
  have hfit := hR.fits
  have hfitD := hD.fits
  have h100 : (bytesOf (segE f t s a ds)).length ≤ 140737488351232 := by have := segE_len' (f := f) (t := t) (s := s) (a := a) (ds := ds); omega
  obtain ⟨A, c, rfl, _⟩ := hR.slc
  obtain ⟨A', c', rfl, _⟩ := hD.slc
  refine enterF (args := [.agg #[.int .i64 f, .int .i64 t, .int .i64 s, .int .i64 a, .slice A' ds.length c'], .slice A l.length c]) Try.func12 low12 rfl ?_; have hS := St.start w; dsimp only [L12, envL, Nat.reduceAdd]
  repeat' (first | ((with_reducible apply WL_p); (· exact evk)) | (with_reducible first | refine WL_nil ?_ | refine then_normal ?_ | refine blk_normal ?_ | refine WC_seq ?_ | refine WC_reg ?_ | refine WC_block ?_ | refine WC_skip ?_ | refine WC_exit ?_ | refine then_exit ?_ | refine blk_hit ?_ | refine blk_miss (by decide) ?_ | refine WC_ret ?_ | refine then_ret ?_ | refine blk_ret ?_) | ((first | (with_reducible apply WL_newz hS) | ((with_reducible apply WL_newv hS); (· exact evk); (· rfl)) | ((with_reducible apply WL_row hS); (· exact evk))); clear hS; intro bq w hS hbq; (try simp only [List.nil_append, List.cons_append, List.append_assoc] at hS)) | ((with_reducible apply WL_loadN hS); (· exact evk); (· exact inn); (· ((simp only [List.drop_succ_cons, List.drop_zero, List.take_succ_cons, List.take_zero]) <;> rfl)); (· rfl)) | ((with_reducible apply WL_storeN hS); (· exact evk); (· exact evk); (· rfl); (· simp [Value.oneCell', S]); (· exact upp); (· simp); (clear hS; intro w hS; (simp only [List.set_cons_succ, List.set_cons_zero, putList, Nat.zero_add, Nat.reduceAdd] at hS))) | ((with_reducible apply WL_load hS); (· exact evk); (· exact inn); (· rfl)))
  refine WL_lent hS (by exact evk) (hS.reads0 hD) hfitD ?_
  clear hS
  intro bk cap sp w hc hS
  repeat' (first | ((with_reducible apply WL_p); (· exact evk)) | (with_reducible first | refine WL_nil ?_ | refine then_normal ?_ | refine blk_normal ?_ | refine WC_seq ?_ | refine WC_reg ?_ | refine WC_block ?_ | refine WC_skip ?_ | refine WC_exit ?_ | refine then_exit ?_ | refine blk_hit ?_ | refine blk_miss (by decide) ?_ | refine WC_ret ?_ | refine then_ret ?_ | refine blk_ret ?_) | ((with_reducible apply WL_load hS); (· exact evk); (· exact inn); (· rfl)))
  refine WL_p (slcB (by exact evk) (by exact evk) (by omega)) ?_
  repeat' (first | ((with_reducible apply WL_p); (· exact evk)) | (with_reducible first | refine WL_nil ?_ | refine then_normal ?_ | refine blk_normal ?_ | refine WC_seq ?_ | refine WC_reg ?_ | refine WC_block ?_ | refine WC_skip ?_ | refine WC_exit ?_ | refine then_exit ?_ | refine blk_hit ?_ | refine blk_miss (by decide) ?_ | refine WC_ret ?_ | refine then_ret ?_ | refine blk_ret ?_) | ((with_reducible apply WL_load hS); (· exact evk); (· exact inn); (· rfl)) | ((with_reducible apply WL_loadN hS); (· exact evk); (· exact inn); (· ((simp only [List.drop_succ_cons, List.drop_zero, List.take_succ_cons, List.take_zero]) <;> rfl)); (· rfl)) | ((with_reducible apply WL_store hS); (· exact evk); (· exact evk); (· first | rfl | assumption | exact RowIs.one (by assumption)); (· exact upp); (· simp); (clear hS; intro w hS; (simp only [List.set_cons_succ, List.set_cons_zero, putList, Nat.zero_add, Nat.reduceAdd] at hS))))
  refine WL_enc hS (by exact evk) (c18 f t s a ds _ _ (hS.lentRd inn hfitD)) ?_
  clear hS
  intro v1 L1 w r1 hS
  repeat' (first | ((with_reducible apply WL_p); (· exact evk)) | (with_reducible first | refine WL_nil ?_ | refine then_normal ?_ | refine blk_normal ?_ | refine WC_seq ?_ | refine WC_reg ?_ | refine WC_block ?_ | refine WC_skip ?_ | refine WC_exit ?_ | refine then_exit ?_ | refine blk_hit ?_ | refine blk_miss (by decide) ?_ | refine WC_ret ?_ | refine then_ret ?_ | refine blk_ret ?_) | ((first | (with_reducible apply WL_newz hS) | ((with_reducible apply WL_newv hS); (· exact evk); (· rfl)) | ((with_reducible apply WL_row hS); (· exact evk))); clear hS; intro bq w hS hbq; (try simp only [List.nil_append, List.cons_append, List.append_assoc] at hS)) | ((with_reducible apply WL_loadN hS); (· exact evk); (· exact inn); (· ((simp only [List.drop_succ_cons, List.drop_zero, List.take_succ_cons, List.take_zero]) <;> rfl)); (· rfl)))
  refine WL_enc hS (by exact evk) (c30 f t s a ds _ _ (hS.reads0 hD)) ?_
  clear hS
  intro v2 L2 w r2 hS
  repeat' (first | ((with_reducible apply WL_p); (· exact evk)) | (with_reducible first | refine WL_nil ?_ | refine then_normal ?_ | refine blk_normal ?_ | refine WC_seq ?_ | refine WC_reg ?_ | refine WC_block ?_ | refine WC_skip ?_ | refine WC_exit ?_ | refine then_exit ?_ | refine blk_hit ?_ | refine blk_miss (by decide) ?_ | refine WC_ret ?_ | refine then_ret ?_ | refine blk_ret ?_) | ((with_reducible apply WL_load hS); (· exact evk); (· exact inn); (· rfl)))
  rw [← List.append_assoc] at hS
  refine WL_backM hS (by exact evk) (by exact evk) hD hfitD hc ?_
  clear hS
  intro w hS
  repeat' (first | ((with_reducible apply WL_p); (· exact kYe0)) | ((with_reducible apply WL_do); (· exact evd)) | ((with_reducible apply WL_no); (· exact evd)) | ((with_reducible apply WC_true); (· exact evk)) | ((with_reducible apply WC_false); (· exact evk)) | (with_reducible first | refine WL_nil ?_ | refine then_normal ?_ | refine blk_normal ?_ | refine WC_seq ?_ | refine WC_reg ?_ | refine WC_block ?_ | refine WC_skip ?_ | refine WC_exit ?_ | refine then_exit ?_ | refine blk_hit ?_ | refine blk_miss (by decide) ?_ | refine WC_ret ?_ | refine then_ret ?_ | refine blk_ret ?_))
  ((with_reducible apply WL_callq hS); (· exact evk); (· first | exact c21 _ _ _ _ (r1.rd hS subAll h100) (r2.rd hS subAll h100)); (clear hS; intro w hS))
  repeat' (first | ((with_reducible apply WL_p); (· exact kYe0)) | ((with_reducible apply WL_do); (· exact evd)) | ((with_reducible apply WL_no); (· exact evd)) | ((with_reducible apply WC_true); (· exact evk)) | ((with_reducible apply WC_false); (· exact evk)) | (with_reducible first | refine WL_nil ?_ | refine then_normal ?_ | refine blk_normal ?_ | refine WC_seq ?_ | refine WC_reg ?_ | refine WC_block ?_ | refine WC_skip ?_ | refine WC_exit ?_ | refine then_exit ?_ | refine blk_hit ?_ | refine blk_miss (by decide) ?_ | refine WC_ret ?_ | refine then_ret ?_ | refine blk_ret ?_))
  refine WL_lent hS (by exact evk) (hS.reads0 hR) hfit ?_
  clear hS
  intro bk2 cap2 sp2 w hc2 hS
  repeat' (first | ((with_reducible apply WL_p); (· exact evk)) | (with_reducible first | refine WL_nil ?_ | refine then_normal ?_ | refine blk_normal ?_ | refine WC_seq ?_ | refine WC_reg ?_ | refine WC_block ?_ | refine WC_skip ?_ | refine WC_exit ?_ | refine then_exit ?_ | refine blk_hit ?_ | refine blk_miss (by decide) ?_ | refine WC_ret ?_ | refine then_ret ?_ | refine blk_ret ?_))
  refine WL_p (slcB (by exact evk) (by exact evk) (by omega)) ?_
  refine WL_call0 hS (by exact evk) (c31 l _ ⟨_, _, _, rfl, by omega⟩ _ (hS.lentRd inn hfit)) ?_
  clear hS
  rintro u O1 w h1 hS
  obtain ⟨x1, M1, hs1, q1, rfl⟩ := decS_form h1
  have hS := hS.sub (List.Sublist.append (List.Sublist.refl _) hs1)
  have hdl := decS_len l l.length
  obtain ⟨rr, at1, e1, hdq⟩ : ∃ rr at1 e1, decS l.length (rdSeg l 0) = (rr, at1, e1) := ⟨_, _, _, rfl⟩
  rw [hdq] at q1 hdl ⊢
  dsimp only at q1 hdl ⊢
  (simp only [List.cons_append, List.append_assoc, List.nil_append] at hS)
  repeat' (first | ((with_reducible apply WL_p); (· exact evk)) | (with_reducible first | refine WL_nil ?_ | refine then_normal ?_ | refine blk_normal ?_ | refine WC_seq ?_ | refine WC_reg ?_ | refine WC_block ?_ | refine WC_skip ?_ | refine WC_exit ?_ | refine then_exit ?_ | refine blk_hit ?_ | refine blk_miss (by decide) ?_ | refine WC_ret ?_ | refine then_ret ?_ | refine blk_ret ?_) | ((first | (with_reducible apply WL_newz hS) | ((with_reducible apply WL_newv hS); (· exact evk); (· rfl)) | ((with_reducible apply WL_row hS); (· exact evk))); clear hS; intro bq w hS hbq; (try simp only [List.nil_append, List.cons_append, List.append_assoc] at hS)))
  refine WL_storeF (vs := rr.cells x1) hS (by exact evk) (by exact evk) rfl rfl (SegV.ones _ q1.one) upp ?_
  clear hS
  intro w hS
  repeat' (first | ((with_reducible apply WL_p); (· exact evk)) | (with_reducible first | refine WL_nil ?_ | refine then_normal ?_ | refine blk_normal ?_ | refine WC_seq ?_ | refine WC_reg ?_ | refine WC_block ?_ | refine WC_skip ?_ | refine WC_exit ?_ | refine then_exit ?_ | refine blk_hit ?_ | refine blk_miss (by decide) ?_ | refine WC_ret ?_ | refine then_ret ?_ | refine blk_ret ?_))
  refine WL_call0 hS (by exact evk) (c32 l _ hcap _ (hS.reads0 hR)) ?_
  clear hS
  rintro u O2 w h2 hS
  obtain ⟨x2, M2, hs2, q2, rfl⟩ := decS_form h2
  have hS := hS.sub (List.Sublist.append (List.Sublist.refl _) hs2)
  rw [hdq] at q2 ⊢
  dsimp only at q2 ⊢
  (simp only [List.cons_append, List.append_assoc, List.nil_append] at hS)
  repeat' (first | ((with_reducible apply WL_p); (· exact evk)) | (with_reducible first | refine WL_nil ?_ | refine then_normal ?_ | refine blk_normal ?_ | refine WC_seq ?_ | refine WC_reg ?_ | refine WC_block ?_ | refine WC_skip ?_ | refine WC_exit ?_ | refine then_exit ?_ | refine blk_hit ?_ | refine blk_miss (by decide) ?_ | refine WC_ret ?_ | refine then_ret ?_ | refine blk_ret ?_) | ((first | (with_reducible apply WL_newz hS) | ((with_reducible apply WL_newv hS); (· exact evk); (· rfl)) | ((with_reducible apply WL_row hS); (· exact evk))); clear hS; intro bq w hS hbq; (try simp only [List.nil_append, List.cons_append, List.append_assoc] at hS)))
  refine WL_storeF (vs := rr.cells x2) hS (by exact evk) (by exact evk) rfl rfl (SegV.ones _ q2.one) upp ?_
  clear hS
  intro w hS
  repeat' (first | ((with_reducible apply WL_p); (· exact evk)) | (with_reducible first | refine WL_nil ?_ | refine then_normal ?_ | refine blk_normal ?_ | refine WC_seq ?_ | refine WC_reg ?_ | refine WC_block ?_ | refine WC_skip ?_ | refine WC_exit ?_ | refine then_exit ?_ | refine blk_hit ?_ | refine blk_miss (by decide) ?_ | refine WC_ret ?_ | refine then_ret ?_ | refine blk_ret ?_))
  refine WL_back hS (by exact evk) (by exact evk) hR hfit hc2 ?_
  clear hS
  intro w hS
  obtain ⟨y1, y2, y3, y4, y5⟩ := rr
  dsimp only at q1 q2 hdl
  unfold SegV.cells at hS
  have g1 := q1.rd hS subAll (by omega)
  have g2 := q2.rd hS subAll (by omega)
  obtain ⟨_, _, rfl, _⟩ := g1.slc
  obtain ⟨_, _, rfl, _⟩ := g2.slc
  repeat' (first | ((with_reducible apply WL_p); (· exact kYe1)) | ((with_reducible apply WL_do); (· exact evd)) | ((with_reducible apply WL_no); (· exact evd)) | (with_reducible first | refine WL_nil ?_ | refine then_normal ?_ | refine blk_normal ?_ | refine WC_seq ?_ | refine WC_reg ?_ | refine WC_block ?_ | refine WC_skip ?_ | refine WC_exit ?_ | refine then_exit ?_ | refine blk_hit ?_ | refine blk_miss (by decide) ?_ | refine WC_ret ?_ | refine then_ret ?_ | refine blk_ret ?_) | ((with_reducible apply WL_loadN hS); (· exact evk); (· exact inn); (· ((simp only [List.drop_succ_cons, List.drop_zero, List.take_succ_cons, List.take_zero]) <;> rfl)); (· rfl)) | ((with_reducible apply WL_callq hS); (· exact evk); (· first | exact c33 _ _ _ _ _ _ _ _ (q1.rd hS subAll (by omega)) (q2.rd hS subAll (by omega))); (clear hS; intro w hS)))
  exact retq (v' := .bool true) hS rfl rfl
end Go.Proofs.Ytohmgkcdjapinaa.Lw
