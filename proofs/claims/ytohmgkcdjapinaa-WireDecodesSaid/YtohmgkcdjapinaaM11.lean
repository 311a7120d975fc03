/- Part 11 of the texts of this claim: Yf Yg. -/
import Derived.Test.YtohmgkcdjapinaaM10
set_option linter.unusedVariables false
set_option linter.unusedSimpArgs false
namespace Go.Proofs.Ytohmgkcdjapinaa.Lw
theorem kYf0 {p : Prop} (h : p := by ((simp (disch := omega) only [ev_tmp, ev_const, ev_func, ev_global, upd_app, val_move, val_pick, pickV_true, pickV_false, pickV_bool, val_nilck, nilckV_ptr, val_bin, bin_add, bin_sub, bin_mul, bin_eql, bin_neq, bin_lss, bin_leq, bin_gtr, bin_geq, bin_seql, bin_sneq, bin_slss, bin_sleq, bin_sgtr, bin_sgeq, val_beq, beqV_f, beqV_t, val_seq, val_not, notV_bool, val_toInt, toIntV_int, val_off, offV_ptr, val_len, lenV_slice, val_slen, slenV_S, val_ext, extV_tup, val_ifc, val_fn, List.getElem?_cons_zero, List.getElem?_cons_succ, List.map_cons, List.map_nil, eq_self, Bool.false_eq_true, Bool.not_true, Bool.not_false, Option.map_some, Nat.zero_add, isB_bool, isB_undef, Bool.true_beq, Bool.false_beq, beq_self_eq_true, Bool.true_and, Bool.and_true, Bool.false_and, Bool.and_false, Bool.true_or, Bool.or_true, Bool.false_or, Bool.or_false, not_dec, and_dec, or_dec, seqV_f, seqV_t, ceq_i, ceq_s, ceq_nil, val_bld, bldV, cells_int, cells_bool, cells_S, cells_b8, cells_slice, cells_ptr, cells_agg, List.size_toArray, List.length_cons, List.length_nil, place, List.take_succ_cons, List.take_zero, List.drop_succ_cons, List.drop_zero, List.cons_append, List.nil_append, and_self, and_true, true_and, Nat.reduceLeDiff, List.toList_toArray, wr64, wru64, wru8, Nat.reduceEqDiff, ↓reduceIte, Nat.reduceAdd, Has, and_true, Int.natCast_add, Int.cast_ofNat_Int]) <;> fail)) : p := h
theorem kYf1 {p : Prop} (h : p := by ((simp (disch := omega) only [ev_tmp, ev_const, ev_func, ev_global, upd_app, val_move, val_pick, pickV_true, pickV_false, pickV_bool, val_nilck, nilckV_ptr, val_bin, bin_add, bin_sub, bin_mul, bin_eql, bin_neq, bin_lss, bin_leq, bin_gtr, bin_geq, bin_seql, bin_sneq, bin_slss, bin_sleq, bin_sgtr, bin_sgeq, val_beq, beqV_f, beqV_t, val_seq, val_not, notV_bool, val_toInt, toIntV_int, val_off, offV_ptr, val_len, lenV_slice, val_slen, slenV_S, val_ext, extV_tup, val_ifc, val_fn, List.getElem?_cons_zero, List.getElem?_cons_succ, List.map_cons, List.map_nil, eq_self, Bool.false_eq_true, Bool.not_true, Bool.not_false, Option.map_some, Nat.zero_add, isB_bool, isB_undef, Bool.true_beq, Bool.false_beq, beq_self_eq_true, Bool.true_and, Bool.and_true, Bool.false_and, Bool.and_false, Bool.true_or, Bool.or_true, Bool.false_or, Bool.or_false, not_dec, and_dec, or_dec, seqV_f, seqV_t, ceq_i, ceq_s, ceq_nil, val_bld, bldV, cells_int, cells_bool, cells_S, cells_b8, cells_slice, cells_ptr, cells_agg, List.size_toArray, List.length_cons, List.length_nil, place, List.take_succ_cons, List.take_zero, List.drop_succ_cons, List.drop_zero, List.cons_append, List.nil_append, and_self, and_true, true_and, Nat.reduceLeDiff, List.toList_toArray, wr64, wru64, wru8, Nat.reduceEqDiff, ↓reduceIte, Nat.reduceAdd, dT, dNT, dne]) <;> rfl)) : p := h
theorem kYf2 {p : Prop} (h : p := by ((simp (disch := omega) only [ev_tmp, ev_const, ev_func, ev_global, upd_app, val_move, val_pick, pickV_true, pickV_false, pickV_bool, val_nilck, nilckV_ptr, val_bin, bin_add, bin_sub, bin_mul, bin_eql, bin_neq, bin_lss, bin_leq, bin_gtr, bin_geq, bin_seql, bin_sneq, bin_slss, bin_sleq, bin_sgtr, bin_sgeq, val_beq, beqV_f, beqV_t, val_seq, val_not, notV_bool, val_toInt, toIntV_int, val_off, offV_ptr, val_len, lenV_slice, val_slen, slenV_S, val_ext, extV_tup, val_ifc, val_fn, List.getElem?_cons_zero, List.getElem?_cons_succ, List.map_cons, List.map_nil, eq_self, Bool.false_eq_true, Bool.not_true, Bool.not_false, Option.map_some, Nat.zero_add, isB_bool, isB_undef, Bool.true_beq, Bool.false_beq, beq_self_eq_true, Bool.true_and, Bool.and_true, Bool.false_and, Bool.and_false, Bool.true_or, Bool.or_true, Bool.false_or, Bool.or_false, not_dec, and_dec, or_dec, seqV_f, seqV_t, ceq_i, ceq_s, ceq_nil, val_bld, bldV, cells_int, cells_bool, cells_S, cells_b8, cells_slice, cells_ptr, cells_agg, List.size_toArray, List.length_cons, List.length_nil, place, List.take_succ_cons, List.take_zero, List.drop_succ_cons, List.drop_zero, List.cons_append, List.nil_append, and_self, and_true, true_and, Nat.reduceLeDiff, List.toList_toArray, wr64, wru64, wru8, Nat.reduceEqDiff, ↓reduceIte, Nat.reduceAdd, f1]) <;> rfl)) : p := h
abbrev R11_0 : List LOper := [⟨some 2, none, .pv (.move (.const (.bool false)))⟩]
abbrev R11_1 : List LOper := [⟨some 11, none, .pv (.move (.tmp 0))⟩, ⟨some 12, none, .call 26 [(.tmp 11)]⟩, ⟨some 3, none, .pv (.move (.tmp 12))⟩]
abbrev R11_2 : List LOper := [⟨some 14, none, .pv (.move (.tmp 3))⟩, ⟨some 15, none, .pv (.move (.tmp 0))⟩, ⟨some 16, none, .pv (.len (.tmp 15))⟩, ⟨some 17, none, .pv (.slc 1 (.tmp 14) none (some (.tmp 16)))⟩, ⟨some 18, none, .call 17 [(.tmp 17)]⟩, ⟨some 13, none, .pv (.move (.tmp 18))⟩, ⟨some 19, none, .pv (.ext (.tmp 13) 0)⟩, ⟨some 20, none, .pv (.ext (.tmp 13) 1)⟩, ⟨some 21, none, .pv (.ext (.tmp 13) 2)⟩, ⟨some 4, none, .newz 33 [(.int .i64 0), (S []), (.int .i64 0), (.int .i64 0), (.int .i64 0), (.int .i64 0), (.int .i64 0), (.int .i64 0), (.int .i64 0), (.int .i64 0), (.int .i64 0), (.int .i64 0), (.int .i64 0), (.int .i64 0), (S []), (.int .i64 0), (.int .i64 0), (.int .i64 0), (.int .i64 0), (.slice none 0 0)]⟩, ⟨none, none, .store 20 (.tmp 4) (.tmp 19)⟩, ⟨some 5, none, .pv (.move (.tmp 20))⟩, ⟨some 6, none, .pv (.move (.tmp 21))⟩]
abbrev R11_3 : List LOper := [⟨some 23, none, .pv (.move (.tmp 0))⟩, ⟨some 24, none, .call 27 [(.tmp 23)]⟩, ⟨some 22, none, .pv (.move (.tmp 24))⟩, ⟨some 25, none, .pv (.ext (.tmp 22) 0)⟩, ⟨some 26, none, .pv (.ext (.tmp 22) 1)⟩, ⟨some 27, none, .pv (.ext (.tmp 22) 2)⟩, ⟨some 7, none, .newz 33 [(.int .i64 0), (S []), (.int .i64 0), (.int .i64 0), (.int .i64 0), (.int .i64 0), (.int .i64 0), (.int .i64 0), (.int .i64 0), (.int .i64 0), (.int .i64 0), (.int .i64 0), (.int .i64 0), (.int .i64 0), (S []), (.int .i64 0), (.int .i64 0), (.int .i64 0), (.int .i64 0), (.slice none 0 0)]⟩, ⟨none, none, .store 20 (.tmp 7) (.tmp 25)⟩, ⟨some 8, none, .pv (.move (.tmp 26))⟩, ⟨some 9, none, .pv (.move (.tmp 27))⟩]
abbrev R11_4 : List LOper := [⟨some 28, none, .pv (.move (.tmp 3))⟩, ⟨some 29, none, .pv (.move (.tmp 0))⟩, ⟨some 30, none, .call 28 [(.tmp 28), (.tmp 29)]⟩, ⟨some 31, none, .pv (.not (.tmp 30))⟩, ⟨some 32, none, .pv (.move (.tmp 31))⟩, ⟨some 33, (some (32, false)), .pv (.move (.tmp 6))⟩, ⟨some 34, (some (32, false)), .pv (.move (.tmp 9))⟩, ⟨some 35, (some (32, false)), .pv (.bin .neq (.tmp 33) (.tmp 34))⟩, ⟨some 36, none, .pv (.pick (.tmp 32) (.const (.bool true)) (.tmp 35))⟩, ⟨some 37, none, .pv (.move (.tmp 36))⟩, ⟨some 38, (some (37, false)), .pv (.move (.tmp 5))⟩, ⟨some 39, (some (37, false)), .pv (.move (.tmp 8))⟩, ⟨some 40, (some (37, false)), .pv (.bin .neq (.tmp 38) (.tmp 39))⟩, ⟨some 41, none, .pv (.pick (.tmp 37) (.const (.bool true)) (.tmp 40))⟩, ⟨some 42, none, .pv (.move (.tmp 41))⟩, ⟨some 43, (some (42, false)), .loadN 20 (.tmp 4)⟩, ⟨some 44, (some (42, false)), .loadN 20 (.tmp 7)⟩, ⟨some 45, (some (42, false)), .call 29 [(.tmp 43), (.tmp 44)]⟩, ⟨some 46, (some (42, false)), .pv (.not (.tmp 45))⟩, ⟨some 47, none, .pv (.pick (.tmp 42) (.const (.bool true)) (.tmp 46))⟩]
abbrev R11_5 : List LOper := [⟨some 2, none, .pv (.move (.const (.bool false)))⟩]
abbrev R11_6 : List LOper := [⟨some 10, none, .pv (.move (.const (.int .i64 0)))⟩]
abbrev R11_7 : List LOper := [⟨some 48, none, .pv (.move (.tmp 10))⟩, ⟨some 49, none, .pv (.move (.tmp 0))⟩, ⟨some 50, none, .pv (.len (.tmp 49))⟩, ⟨some 51, none, .pv (.bin .lss (.tmp 48) (.tmp 50))⟩]
abbrev R11_8 : List LOper := [⟨some 54, none, .pv (.move (.tmp 3))⟩, ⟨some 55, none, .pv (.move (.tmp 10))⟩, ⟨some 56, none, .pv (.move (.tmp 0))⟩, ⟨some 57, none, .pv (.move (.tmp 0))⟩, ⟨some 58, none, .pv (.len (.tmp 57))⟩, ⟨some 59, none, .pv (.bin .sub (.tmp 58) (.const (.int .i64 1)))⟩, ⟨some 60, none, .pv (.move (.tmp 10))⟩, ⟨some 61, none, .pv (.bin .sub (.tmp 59) (.tmp 60))⟩, ⟨some 62, none, .pv (.idx 1 (.tmp 56) (.tmp 61))⟩, ⟨some 63, none, .load (.tmp 62)⟩, ⟨some 64, none, .pv (.idx 1 (.tmp 54) (.tmp 55))⟩, ⟨none, none, .store 1 (.tmp 64) (.tmp 63)⟩]
abbrev R11_9 : List LOper := [⟨some 52, none, .pv (.move (.tmp 10))⟩, ⟨some 53, none, .pv (.bin .add (.tmp 52) (.const (.int .i64 1)))⟩, ⟨some 10, none, .pv (.move (.tmp 53))⟩]
abbrev R11_10 : List LOper := [⟨some 66, none, .pv (.move (.tmp 3))⟩, ⟨some 67, none, .pv (.move (.tmp 0))⟩, ⟨some 68, none, .pv (.len (.tmp 67))⟩, ⟨some 69, none, .pv (.slc 1 (.tmp 66) none (some (.tmp 68)))⟩, ⟨some 70, none, .call 17 [(.tmp 69)]⟩, ⟨some 65, none, .pv (.move (.tmp 70))⟩, ⟨some 71, none, .pv (.ext (.tmp 65) 0)⟩, ⟨some 72, none, .pv (.ext (.tmp 65) 1)⟩, ⟨some 73, none, .pv (.ext (.tmp 65) 2)⟩, ⟨none, none, .store 20 (.tmp 4) (.tmp 71)⟩, ⟨some 5, none, .pv (.move (.tmp 72))⟩, ⟨some 6, none, .pv (.move (.tmp 73))⟩]
abbrev R11_11 : List LOper := [⟨some 75, none, .pv (.move (.tmp 3))⟩, ⟨some 76, none, .pv (.move (.tmp 0))⟩, ⟨some 77, none, .pv (.len (.tmp 76))⟩, ⟨some 78, none, .pv (.slc 1 (.tmp 75) none (some (.tmp 77)))⟩, ⟨some 79, none, .raw 36 (.call (.mk (.builtin .append) #[(.const (.slice none 0 0)), (.tmp 78)] #[36, 36]))⟩, ⟨some 80, none, .call 27 [(.tmp 79)]⟩, ⟨some 74, none, .pv (.move (.tmp 80))⟩, ⟨some 81, none, .pv (.ext (.tmp 74) 0)⟩, ⟨some 82, none, .pv (.ext (.tmp 74) 1)⟩, ⟨some 83, none, .pv (.ext (.tmp 74) 2)⟩, ⟨none, none, .store 20 (.tmp 7) (.tmp 81)⟩, ⟨some 8, none, .pv (.move (.tmp 82))⟩, ⟨some 9, none, .pv (.move (.tmp 83))⟩]
abbrev R11_12 : List LOper := [⟨some 84, none, .pv (.move (.tmp 6))⟩, ⟨some 85, none, .pv (.move (.tmp 9))⟩, ⟨some 86, none, .pv (.bin .eql (.tmp 84) (.tmp 85))⟩, ⟨some 87, none, .pv (.move (.tmp 86))⟩, ⟨some 88, (some (87, true)), .pv (.move (.tmp 5))⟩, ⟨some 89, (some (87, true)), .pv (.move (.tmp 8))⟩, ⟨some 90, (some (87, true)), .pv (.bin .eql (.tmp 88) (.tmp 89))⟩, ⟨some 91, none, .pv (.pick (.tmp 87) (.tmp 90) (.const (.bool false)))⟩, ⟨some 92, none, .pv (.move (.tmp 91))⟩, ⟨some 93, (some (92, true)), .loadN 20 (.tmp 4)⟩, ⟨some 94, (some (92, true)), .loadN 20 (.tmp 7)⟩, ⟨some 95, (some (92, true)), .call 29 [(.tmp 93), (.tmp 94)]⟩, ⟨some 96, none, .pv (.pick (.tmp 92) (.tmp 95) (.const (.bool false)))⟩, ⟨some 2, none, .pv (.move (.tmp 96))⟩]
abbrev L11 : LFun := ⟨97, [(.tmp 2)], (.seq (.reg R11_0) (.seq (.reg R11_1) (.seq (.reg R11_2) (.seq (.reg R11_3) (.seq (.seq (.reg R11_4) (.cond (.tmp 47) (.seq (.reg R11_5) .ret) .skip)) (.seq (.seq (.reg R11_6) (.block 0 (.loop (.seq (.seq (.reg R11_7) (.cond (.tmp 51) .skip (.exit 0))) (.seq (.block 1 (.reg R11_8)) (.reg R11_9)))))) (.seq (.reg R11_10) (.seq (.reg R11_11) (.seq (.reg R11_12) .ret)))))))))⟩
theorem low11 : lowFn Try.prog Try.f11 = some L11 := by kernel_rfl

theorem rdMsgK_vs {l : List UInt8} {k a a' : Nat} {m : Ms} {vs : List Vw} (ha : a ≤ l.length) (h : rdMsgK l k a = .ok ((m, vs), a')) : vs.length ≤ 64 := by
  unfold rdMsgK at h
  split at h
  · obtain ⟨_, _, _, h⟩ := bindR_inv h
    obtain ⟨_, _, _, h⟩ := bindR_inv h
    injection h with h; injection h with h1 h2; injection h1 with h3 h4
    subst h4; simp
  · split at h
    · obtain ⟨_, _, _, h⟩ := bindR_inv h
      obtain ⟨_, _, _, h⟩ := bindR_inv h
      obtain ⟨_, _, _, h⟩ := bindR_inv h
      split at h
      · obtain ⟨_, _, _, h⟩ := bindR_inv h
        injection h with h; injection h with h1 h2; injection h1 with h3 h4
        subst h4; simp
      · injection h with h; injection h with h1 h2; injection h1 with h3 h4
        subst h4; simp
    · split at h
      · obtain ⟨vs', _, hv, h⟩ := bindR_inv h
        injection h with h; injection h with h1 h2; injection h1 with h3 h4
        subst h4
        exact (rdViews_ok ha hv).2
      · obtain ⟨_, _, _, h⟩ := bindR_inv h
        obtain ⟨_, _, _, h⟩ := bindR_inv h
        obtain ⟨_, _, _, h⟩ := bindR_inv h
        injection h with h; injection h with h1 h2; injection h1 with h3 h4
        subst h4; simp
theorem rdMsg_vs {l : List UInt8} {a a' : Nat} {m : Ms} {vs : List Vw} (ha : a ≤ l.length) (h : rdMsg l a = .ok ((m, vs), a')) : vs.length ≤ 64 := by
  obtain ⟨k, a1, hk, h⟩ := bindR_inv h
  exact rdMsgK_vs (rdNum_ok ha hk).1 h
/-- What Decode tells: the message, its views, the place, the error. -/
def decM (l : List UInt8) : (Ms × List Vw) × Int × Int :=
  match fin l.length (rdMsg l 0) with
  | .ok r => (r, 0, 0)
  | .error p => ((zeroMs, []), p, 20)
theorem decM_form {l : List UInt8} {u : Value} {O' : Blks} (h : DecM l u O') : ∃ v L, L.Sublist O' ∧ RowIs 71 7 v (decM l).1.2.length ((decM l).1.2.flatMap Vw.cells) L ∧ u = .tuple #[.agg ((decM l).1.1.cells v).toArray, .int .i64 (decM l).2.1, .int .i64 (decM l).2.2] := by
  simp only [DecM, decM] at *
  generalize fin l.length (rdMsg l 0) = y at *
  cases y with
  | ok r =>
    obtain ⟨m, vs⟩ := r
    obtain ⟨v, hr, rfl⟩ := h
    exact ⟨v, O', List.Sublist.refl _, hr, rfl⟩
  | error p => exact ⟨_, [], List.nil_sublist _, RowIs.nil 71 7, h⟩
theorem decM_len (l : List UInt8) : (decM l).1.2.length ≤ 64 := by
  simp only [decM]
  have key : ∀ m vs, fin l.length (rdMsg l 0) = .ok (m, vs) → vs.length ≤ 64 := by
    intro m vs hs
    unfold fin at hs
    split at hs
    · rename_i y a hx
      split at hs
      · cases hs
      · injection hs with hs
        subst hs
        exact rdMsg_vs (Nat.zero_le _) hx
    · cases hs
  generalize fin l.length (rdMsg l 0) = y at key
  cases y with
  | ok s => exact key s.1 s.2 rfl
  | error p => exact Nat.zero_le _
theorem RowIs.rdL {v : Value} {vs : List Vw} {L O : Blks} {w0 w : World} {K : List Nat} (h : RowIs 71 7 v vs.length (vs.flatMap Vw.cells) L) (hS : St w0 K w O) (hm : ∀ q ∈ L, q ∈ O) (hn : vs.length ≤ 140737488351232) : RdL w [] 7 v vs Vw.cells := ⟨h.rd hS hm hn, Vw.len⟩
theorem set_fill {rl : List UInt8} {k m : Nat} {sp : List Value} {v x : Value} (hk : k < rl.length) (hx : x = b8 (rl[k]'hk)) : (((rl.take k).map b8 ++ List.replicate (m + 1) v) ++ sp).set k x = ((rl.take (k + 1)).map b8 ++ List.replicate m v) ++ sp := by
  subst hx
  have hl : ((rl.take k).map b8).length = k := by rw [List.length_map, List.length_take]; omega
  rw [List.append_assoc, List.set_append, if_neg (by omega), hl, Nat.sub_self, List.replicate_succ, List.cons_append, List.set_cons_zero, List.take_succ_eq_append_getElem hk, List.map_append]
  simp
section
variable {P : Program} {p : Chain → World → Prop} {Q : Exit → Env → World → Prop} {e : Env} {w0 w : World} {K : List Nat} {O : Blks} {d : Nat} {l : List LOper}
/-- A call of a decoder of messages. -/
theorem WL_decM {f : FuncId} {args : List Operand} {argv : List Value} {bs : List UInt8} (hS : St w0 K w O) (ha : args.map (ev e) = argv) (hc : Calls P f argv.toArray w (Ret w [] (DecM bs)))
    (h : ∀ v L w', RowIs 71 7 v (decM bs).1.2.length ((decM bs).1.2.flatMap Vw.cells) L → St w0 K w' (O ++ L) → WL P p Q l (upd e d (.tuple #[.agg ((decM bs).1.1.cells v).toArray, .int .i64 (decM bs).2.1, .int .i64 (decM bs).2.2])) w') : WL P p Q (⟨some d, none, .call f args⟩ :: l) e w := by
  refine WL_call0 hS ha hc ?_
  intro u O' w' h1 hS'
  obtain ⟨v, L, hs, hr, rfl⟩ := decM_form h1
  exact h v L w' hr (hS'.sub (List.Sublist.append (List.Sublist.refl _) hs))
end
set_option maxRecDepth 8000 in
set_option maxHeartbeats 2000000 in
theorem c11 (l : List UInt8) (bv : Value) (hcap : CapOk bv) (w : World) (hR : Reads w [] 1 bv l.length (l.map b8)) : Quiet Try.prog 11 #[bv] w (.bool true) := by
  have hfit := hR.fits
  obtain ⟨A, c, rfl, _⟩ := hR.slc
  refine enterF (args := [.slice A l.length c]) Try.func11 low11 rfl ?_; have hS := St.start w; dsimp only [L11, envL, Nat.reduceAdd]
  repeat' (first | ((with_reducible apply WL_p); (· exact evk)) | (with_reducible first | refine WL_nil ?_ | refine then_normal ?_ | refine blk_normal ?_ | refine WC_seq ?_ | refine WC_reg ?_ | refine WC_block ?_ | refine WC_skip ?_ | refine WC_exit ?_ | refine then_exit ?_ | refine blk_hit ?_ | refine blk_miss (by decide) ?_ | refine WC_ret ?_ | refine then_ret ?_ | refine blk_ret ?_))
  refine WL_lent hS (by exact evk) (hS.reads0 hR) hfit ?_
  clear hS
  intro bk cap sp w hc hS
  repeat' (first | ((with_reducible apply WL_p); (· exact evk)) | (with_reducible first | refine WL_nil ?_ | refine then_normal ?_ | refine blk_normal ?_ | refine WC_seq ?_ | refine WC_reg ?_ | refine WC_block ?_ | refine WC_skip ?_ | refine WC_exit ?_ | refine then_exit ?_ | refine blk_hit ?_ | refine blk_miss (by decide) ?_ | refine WC_ret ?_ | refine then_ret ?_ | refine blk_ret ?_))
  refine WL_p (slcB (by exact evk) (by exact evk) (by omega)) ?_
  refine WL_decM hS (by exact evk) (c17 l _ ⟨_, _, _, rfl, by omega⟩ _ (hS.lentRd inn hfit)) ?_
  clear hS
  intro v1 L1 w r1 hS
  have hdl := decM_len l
  obtain ⟨mm, vs, at1, e1, hdq⟩ : ∃ mm vs at1 e1, decM l = ((mm, vs), at1, e1) := ⟨_, _, _, _, rfl⟩
  rw [hdq] at r1 hdl ⊢
  dsimp only at r1 hdl ⊢
  repeat' (first | ((with_reducible apply WL_p); (· exact evk)) | (with_reducible first | refine WL_nil ?_ | refine then_normal ?_ | refine blk_normal ?_ | refine WC_seq ?_ | refine WC_reg ?_ | refine WC_block ?_ | refine WC_skip ?_ | refine WC_exit ?_ | refine then_exit ?_ | refine blk_hit ?_ | refine blk_miss (by decide) ?_ | refine WC_ret ?_ | refine then_ret ?_ | refine blk_ret ?_))
  refine WL_newz hS ?_
  clear hS
  intro b4 w hS hb4
  (simp only [List.cons_append, List.append_assoc, List.nil_append] at hS)
  refine WL_storeF (vs := mm.cells v1) hS (by exact evk) (by exact evk) rfl rfl (Ms.ones _ r1.one) upp ?_
  clear hS
  intro w hS
  repeat' (first | ((with_reducible apply WL_p); (· exact evk)) | (with_reducible first | refine WL_nil ?_ | refine then_normal ?_ | refine blk_normal ?_ | refine WC_seq ?_ | refine WC_reg ?_ | refine WC_block ?_ | refine WC_skip ?_ | refine WC_exit ?_ | refine then_exit ?_ | refine blk_hit ?_ | refine blk_miss (by decide) ?_ | refine WC_ret ?_ | refine then_ret ?_ | refine blk_ret ?_))
  refine WL_decM hS (by exact evk) (c27 l _ hcap _ (hS.reads0 hR)) ?_
  clear hS
  intro v2 L2 w r2 hS
  rw [hdq] at r2 ⊢
  dsimp only at r2 ⊢
  repeat' (first | ((with_reducible apply WL_p); (· exact evk)) | (with_reducible first | refine WL_nil ?_ | refine then_normal ?_ | refine blk_normal ?_ | refine WC_seq ?_ | refine WC_reg ?_ | refine WC_block ?_ | refine WC_skip ?_ | refine WC_exit ?_ | refine then_exit ?_ | refine blk_hit ?_ | refine blk_miss (by decide) ?_ | refine WC_ret ?_ | refine then_ret ?_ | refine blk_ret ?_))
  refine WL_newz hS ?_
  clear hS
  intro b7 w hS hb7
  (simp only [List.cons_append, List.append_assoc, List.nil_append] at hS)
  refine WL_storeF (vs := mm.cells v2) hS (by exact evk) (by exact evk) rfl rfl (Ms.ones _ r2.one) upp ?_
  clear hS
  intro w hS
  repeat' (first | ((with_reducible apply WL_p); (· exact evk)) | (with_reducible first | refine WL_nil ?_ | refine then_normal ?_ | refine blk_normal ?_ | refine WC_seq ?_ | refine WC_reg ?_ | refine WC_block ?_ | refine WC_skip ?_ | refine WC_exit ?_ | refine then_exit ?_ | refine blk_hit ?_ | refine blk_miss (by decide) ?_ | refine WC_ret ?_ | refine then_ret ?_ | refine blk_ret ?_))
  refine WL_back hS (by exact evk) (by exact evk) hR hfit hc ?_
  clear hS
  intro w hS
  repeat' (first | ((with_reducible apply WL_p); (· exact kYf1)) | ((with_reducible apply WL_do); (· exact evd)) | ((with_reducible apply WL_no); (· exact evd)) | (with_reducible first | refine WL_nil ?_ | refine then_normal ?_ | refine blk_normal ?_ | refine WC_seq ?_ | refine WC_reg ?_ | refine WC_block ?_ | refine WC_skip ?_ | refine WC_exit ?_ | refine then_exit ?_ | refine blk_hit ?_ | refine blk_miss (by decide) ?_ | refine WC_ret ?_ | refine then_ret ?_ | refine blk_ret ?_))
  refine WL_loadF hS (by exact evk) inn rfl ?_
  repeat' (first | ((with_reducible apply WL_p); (· exact kYf1)) | ((with_reducible apply WL_do); (· exact evd)) | ((with_reducible apply WL_no); (· exact evd)) | (with_reducible first | refine WL_nil ?_ | refine then_normal ?_ | refine blk_normal ?_ | refine WC_seq ?_ | refine WC_reg ?_ | refine WC_block ?_ | refine WC_skip ?_ | refine WC_exit ?_ | refine then_exit ?_ | refine blk_hit ?_ | refine blk_miss (by decide) ?_ | refine WC_ret ?_ | refine then_ret ?_ | refine blk_ret ?_))
  refine WL_loadF hS (by exact evk) inn rfl ?_
  repeat' (first | ((with_reducible apply WL_p); (· exact kYf1)) | ((with_reducible apply WL_do); (· exact evd)) | ((with_reducible apply WL_no); (· exact evd)) | ((with_reducible apply WC_true); (· exact evk)) | ((with_reducible apply WC_false); (· exact evk)) | (with_reducible first | refine WL_nil ?_ | refine then_normal ?_ | refine blk_normal ?_ | refine WC_seq ?_ | refine WC_reg ?_ | refine WC_block ?_ | refine WC_skip ?_ | refine WC_exit ?_ | refine then_exit ?_ | refine blk_hit ?_ | refine blk_miss (by decide) ?_ | refine WC_ret ?_ | refine then_ret ?_ | refine blk_ret ?_) | ((with_reducible apply WL_callq hS); (· exact evk); (· first | exact c29 mm vs _ _ _ (r1.rdL hS subAll (by omega)) (r2.rdL hS subAll (by omega))); (clear hS; intro w hS)))
  have hS : St _ _ _ [(bk, Blk 5 (List.replicate (l.length + 2) (b8 85) ++ sp)), (b4, Blk 33 (mm.cells v1)), (b7, Blk 33 (mm.cells v2))] :=
    hS.sub (List.Sublist.cons_cons _ ((List.Sublist.cons_cons _ (List.sublist_append_right _ _)).trans (List.sublist_append_right _ _)))
  obtain ⟨rl, hrl, hrg⟩ : ∃ rl : List UInt8, rl.length = l.length ∧ ∀ k (hk : k < rl.length), rl[k] = at8 l (l.length - 1 - k) := by
    refine ⟨l.reverse, by simp, fun k hk => ?_⟩
    rw [List.length_reverse] at hk
    rw [List.getElem_reverse, at8_eq (by omega)]
  have hz1 := mm.cells_len v1
  have hz2 := mm.cells_len v2
  generalize mm.cells v1 = z1 at hS hz1
  generalize mm.cells v2 = z2 at hS hz2
  refine WC_loopH (α := Nat) (fun k => [(0, .slice A l.length c), (3, .slice (some ⟨bk, 0, none⟩) (l.length + 2) cap), (4, .pointer (some ⟨b4, 0, none⟩)), (7, .pointer (some ⟨b7, 0, none⟩)), (10, .int .i64 (k : Int))])
    (fun k w' => k ≤ l.length ∧ St _ _ w' [(bk, Blk 5 (((rl.take k).map b8 ++ List.replicate (l.length + 2 - k) (b8 85)) ++ sp)), (b4, Blk 33 z1), (b7, Blk 33 z2)]) (fun k => l.length - k) 0 (by exact kYf0) ⟨by omega, by simpa using hS⟩ ?_
  clear hS r1 r2
  intro k e w ⟨hk, hS⟩
  dsimp only [patch]
  by_cases hlt : k < l.length
  · have f1 : (l.length : Int) - 1 - (k : Int) = ((l.length - 1 - k : Nat) : Int) := by omega
    have hm : l.length + 2 - k = (l.length + 1 - k) + 1 := by omega
    rw [hm] at hS
    repeat' (first | ((with_reducible apply WL_p); (· exact evk)) | (with_reducible first | refine WL_nil ?_ | refine then_normal ?_ | refine blk_normal ?_ | refine WC_seq ?_ | refine WC_reg ?_ | refine WC_block ?_ | refine WC_skip ?_ | refine WC_exit ?_ | refine then_exit ?_ | refine blk_hit ?_ | refine blk_miss (by decide) ?_ | refine WC_ret ?_ | refine then_ret ?_ | refine blk_ret ?_) | (first | ((with_reducible apply WL_split); (· exact evk)) | ((with_reducible apply WC_dec); (· exact evk)) | ((with_reducible apply WL_splitB); (· exact evk)) | ((with_reducible apply WC_bool); (· exact evk)) | ((with_reducible intro hh) <;> (try (exfalso; omega)))))
    refine WL_idxR (k := l.length - 1 - k) hR (by exact evk) (by exact kYf2) (by omega) (by omega) fun b o hb hcell => ?_
    have hcell := hcell 0 (by omega)
    rw [Nat.mul_one, Nat.add_zero, Nat.add_zero, map_b8_get (by omega)] at hcell
    refine WL_loadR hS (by exact evk) hb hcell ?_
    refine WL_idxO (k := k) (by exact evk) (by exact evk) (by omega) ?_
    rw [Nat.mul_one]
    refine WL_store (v := b8 (at8 l (l.length - 1 - k))) hS (by exact evk) (by exact evk) rfl upp (by simp; omega) ?_
    clear hS
    intro w hS
    rw [set_fill (by omega) (by rw [hrg])] at hS
    repeat' (first | ((with_reducible apply WL_p); (· exact evk)) | (with_reducible first | refine WL_nil ?_ | refine then_normal ?_ | refine blk_normal ?_ | refine WC_seq ?_ | refine WC_reg ?_ | refine WC_block ?_ | refine WC_skip ?_ | refine WC_exit ?_ | refine then_exit ?_ | refine blk_hit ?_ | refine blk_miss (by decide) ?_ | refine WC_ret ?_ | refine then_ret ?_ | refine blk_ret ?_))
    refine ⟨k + 1, by omega, ?_, by omega, ?_⟩
    · (simp (disch := omega) only [ev_tmp, ev_const, ev_func, ev_global, upd_app, val_move, val_pick, pickV_true, pickV_false, pickV_bool, val_nilck, nilckV_ptr, val_bin, bin_add, bin_sub, bin_mul, bin_eql, bin_neq, bin_lss, bin_leq, bin_gtr, bin_geq, bin_seql, bin_sneq, bin_slss, bin_sleq, bin_sgtr, bin_sgeq, val_beq, beqV_f, beqV_t, val_seq, val_not, notV_bool, val_toInt, toIntV_int, val_off, offV_ptr, val_len, lenV_slice, val_slen, slenV_S, val_ext, extV_tup, val_ifc, val_fn, List.getElem?_cons_zero, List.getElem?_cons_succ, List.map_cons, List.map_nil, eq_self, Bool.false_eq_true, Bool.not_true, Bool.not_false, Option.map_some, Nat.zero_add, isB_bool, isB_undef, Bool.true_beq, Bool.false_beq, beq_self_eq_true, Bool.true_and, Bool.and_true, Bool.false_and, Bool.and_false, Bool.true_or, Bool.or_true, Bool.false_or, Bool.or_false, not_dec, and_dec, or_dec, seqV_f, seqV_t, ceq_i, ceq_s, ceq_nil, val_bld, bldV, cells_int, cells_bool, cells_S, cells_b8, cells_slice, cells_ptr, cells_agg, List.size_toArray, List.length_cons, List.length_nil, place, List.take_succ_cons, List.take_zero, List.drop_succ_cons, List.drop_zero, List.cons_append, List.nil_append, and_self, and_true, true_and, Nat.reduceLeDiff, List.toList_toArray, wr64, wru64, wru8, Nat.reduceEqDiff, ↓reduceIte, Nat.reduceAdd, Has, and_true, Int.natCast_add, Int.cast_ofNat_Int])
    · rw [show l.length + 2 - (k + 1) = l.length + 1 - k by omega]
      exact hS
  · obtain rfl : k = l.length := by omega
    rw [List.take_of_length_le (by omega), show l.length + 2 - l.length = 2 by omega, List.append_assoc] at hS
    repeat' (first | ((with_reducible apply WL_p); (· exact evk)) | (with_reducible first | refine WL_nil ?_ | refine then_normal ?_ | refine blk_normal ?_ | refine WC_seq ?_ | refine WC_reg ?_ | refine WC_block ?_ | refine WC_skip ?_ | refine WC_exit ?_ | refine then_exit ?_ | refine blk_hit ?_ | refine blk_miss (by decide) ?_ | refine WC_ret ?_ | refine then_ret ?_ | refine blk_ret ?_) | (first | ((with_reducible apply WL_split); (· exact evk)) | ((with_reducible apply WC_dec); (· exact evk)) | ((with_reducible apply WL_splitB); (· exact evk)) | ((with_reducible apply WC_bool); (· exact evk)) | ((with_reducible intro hh) <;> (try (exfalso; omega)))))
    refine WL_p (slcB (by exact evk) (by exact evk) (by omega)) ?_
    have hlend : ∀ {a w' : World} {F : Blks}, St a [] w' ((bk, Blk 5 (rl.map b8 ++ (List.replicate 2 (b8 85) ++ sp))) :: F) → Reads w' [] 1 (.slice (some ⟨bk, 0, none⟩) l.length cap) rl.length (rl.map b8) := by
      intro a w' F h'
      rw [hrl]
      exact St.lend (Oc := []) (F := (bk, Blk 5 (rl.map b8 ++ (List.replicate 2 (b8 85) ++ sp))) :: F) h' (T := 5) (sp := List.replicate 2 (b8 85) ++ sp) List.mem_cons_self (by simp [hrl]) hfit
    refine WL_decM hS (by exact evk) (c17 rl _ ⟨_, _, _, rfl, by omega⟩ _ (hlend hS)) ?_
    clear hS
    intro v1 L1 w r1 hS
    have hdl := decM_len rl
    obtain ⟨mm', vs', at1', e1', hdq'⟩ : ∃ mm vs at1 e1, decM rl = ((mm, vs), at1, e1) := ⟨_, _, _, _, rfl⟩
    rw [hdq'] at r1 hdl ⊢
    dsimp only at r1 hdl ⊢
    (simp only [List.cons_append, List.append_assoc, List.nil_append] at hS)
    repeat' (first | ((with_reducible apply WL_p); (· exact evk)) | (with_reducible first | refine WL_nil ?_ | refine then_normal ?_ | refine blk_normal ?_ | refine WC_seq ?_ | refine WC_reg ?_ | refine WC_block ?_ | refine WC_skip ?_ | refine WC_exit ?_ | refine then_exit ?_ | refine blk_hit ?_ | refine blk_miss (by decide) ?_ | refine WC_ret ?_ | refine then_ret ?_ | refine blk_ret ?_))
    refine WL_storeF (vs := mm'.cells v1) hS (by exact evk) (by exact evk) rfl hz1 (Ms.ones _ r1.one) upp ?_
    clear hS
    intro w hS
    repeat' (first | ((with_reducible apply WL_p); (· exact evk)) | (with_reducible first | refine WL_nil ?_ | refine then_normal ?_ | refine blk_normal ?_ | refine WC_seq ?_ | refine WC_reg ?_ | refine WC_block ?_ | refine WC_skip ?_ | refine WC_exit ?_ | refine then_exit ?_ | refine blk_hit ?_ | refine blk_miss (by decide) ?_ | refine WC_ret ?_ | refine then_ret ?_ | refine blk_ret ?_))
    refine WL_p (slcB (by exact evk) (by exact evk) (by omega)) ?_
    refine WL_append (M := (bk, Blk 5 (rl.map b8 ++ (List.replicate 2 (b8 85) ++ sp))) :: (b4, Blk 33 (mm'.cells v1)) :: (b7, Blk 33 z2) :: L1) (L := []) (F := []) (by simpa using hS) el36 (by exact evk) (by exact evk) (RowIs.nil 5 1) (Src.of_reads (hlend hS) (b8_one rl) Try.underlying36) (by omega) (by omega) ?_
    clear hS
    intro va w La ra hS
    simp only [List.nil_append, List.append_nil, Nat.zero_add, List.cons_append] at ra hS
    repeat' (first | ((with_reducible apply WL_p); (· exact evk)) | (with_reducible first | refine WL_nil ?_ | refine then_normal ?_ | refine blk_normal ?_ | refine WC_seq ?_ | refine WC_reg ?_ | refine WC_block ?_ | refine WC_skip ?_ | refine WC_exit ?_ | refine then_exit ?_ | refine blk_hit ?_ | refine blk_miss (by decide) ?_ | refine WC_ret ?_ | refine then_ret ?_ | refine blk_ret ?_))
    refine WL_decM hS (by exact evk) (c27 rl _ ra.capOk _ (ra.rd hS subAll (by omega))) ?_
    clear hS
    intro v2 L2 w r2 hS
    rw [hdq'] at r2 ⊢
    dsimp only at r2 ⊢
    (simp only [List.cons_append, List.append_assoc, List.nil_append] at hS)
    repeat' (first | ((with_reducible apply WL_p); (· exact evk)) | (with_reducible first | refine WL_nil ?_ | refine then_normal ?_ | refine blk_normal ?_ | refine WC_seq ?_ | refine WC_reg ?_ | refine WC_block ?_ | refine WC_skip ?_ | refine WC_exit ?_ | refine then_exit ?_ | refine blk_hit ?_ | refine blk_miss (by decide) ?_ | refine WC_ret ?_ | refine then_ret ?_ | refine blk_ret ?_))
    refine WL_storeF (vs := mm'.cells v2) hS (by exact evk) (by exact evk) rfl hz2 (Ms.ones _ r2.one) upp ?_
    clear hS
    intro w hS
    repeat' (first | ((with_reducible apply WL_p); (· exact kYf1)) | ((with_reducible apply WL_do); (· exact evd)) | ((with_reducible apply WL_no); (· exact evd)) | (with_reducible first | refine WL_nil ?_ | refine then_normal ?_ | refine blk_normal ?_ | refine WC_seq ?_ | refine WC_reg ?_ | refine WC_block ?_ | refine WC_skip ?_ | refine WC_exit ?_ | refine then_exit ?_ | refine blk_hit ?_ | refine blk_miss (by decide) ?_ | refine WC_ret ?_ | refine then_ret ?_ | refine blk_ret ?_))
    refine WL_loadF hS (by exact evk) inn rfl ?_
    repeat' (first | ((with_reducible apply WL_p); (· exact kYf1)) | ((with_reducible apply WL_do); (· exact evd)) | ((with_reducible apply WL_no); (· exact evd)) | (with_reducible first | refine WL_nil ?_ | refine then_normal ?_ | refine blk_normal ?_ | refine WC_seq ?_ | refine WC_reg ?_ | refine WC_block ?_ | refine WC_skip ?_ | refine WC_exit ?_ | refine then_exit ?_ | refine blk_hit ?_ | refine blk_miss (by decide) ?_ | refine WC_ret ?_ | refine then_ret ?_ | refine blk_ret ?_))
    refine WL_loadF hS (by exact evk) inn rfl ?_
    repeat' (first | ((with_reducible apply WL_p); (· exact kYf1)) | ((with_reducible apply WL_do); (· exact evd)) | ((with_reducible apply WL_no); (· exact evd)) | ((with_reducible apply WC_true); (· exact evk)) | ((with_reducible apply WC_false); (· exact evk)) | (with_reducible first | refine WL_nil ?_ | refine then_normal ?_ | refine blk_normal ?_ | refine WC_seq ?_ | refine WC_reg ?_ | refine WC_block ?_ | refine WC_skip ?_ | refine WC_exit ?_ | refine then_exit ?_ | refine blk_hit ?_ | refine blk_miss (by decide) ?_ | refine WC_ret ?_ | refine then_ret ?_ | refine blk_ret ?_) | ((with_reducible apply WL_callq hS); (· exact evk); (· first | exact c29 mm' vs' _ _ _ (r1.rdL hS subAll (by omega)) (r2.rdL hS subAll (by omega))); (clear hS; intro w hS)))
    exact retq (hS.sub (List.nil_sublist _)) (v := .bool true) rfl rfl
end Go.Proofs.Ytohmgkcdjapinaa.Lw
namespace Go.Proofs.Ytohmgkcdjapinaa.Lw
abbrev R4_0 : List LOper := [⟨some 2, none, .pv (.move (.const (.bool false)))⟩]
abbrev R4_1 : List LOper := [⟨some 3, none, .call 9 []⟩, ⟨some 4, none, .pv (.move (.tmp 3))⟩, ⟨some 5, (some (4, true)), .pv (.move (.tmp 0))⟩, ⟨some 6, (some (4, true)), .call 11 [(.tmp 5)]⟩, ⟨some 7, none, .pv (.pick (.tmp 4) (.tmp 6) (.const (.bool false)))⟩, ⟨some 2, none, .pv (.move (.tmp 7))⟩]
abbrev L4 : LFun := ⟨8, [(.tmp 2)], (.seq (.reg R4_0) (.seq (.reg R4_1) .ret))⟩
theorem low4 : lowFn Try.prog Try.f4 = some L4 := by kernel_rfl

abbrev R5_0 : List LOper := [⟨some 2, none, .newv 39 (.tmp 0)⟩, ⟨some 4, none, .pv (.move (.const (.bool false)))⟩]
abbrev R5_1 : List LOper := [⟨some 5, none, .call 9 []⟩, ⟨some 6, none, .pv (.move (.tmp 5))⟩, ⟨some 7, (some (6, true)), .loadN 5 (.tmp 2)⟩, ⟨some 8, (some (6, true)), .pv (.move (.tmp 1))⟩, ⟨some 9, (some (6, true)), .call 12 [(.tmp 7), (.tmp 8)]⟩, ⟨some 10, none, .pv (.pick (.tmp 6) (.tmp 9) (.const (.bool false)))⟩, ⟨some 4, none, .pv (.move (.tmp 10))⟩]
abbrev L5 : LFun := ⟨11, [(.tmp 4)], (.seq (.reg R5_0) (.seq (.reg R5_1) .ret))⟩
theorem low5 : lowFnG false Try.prog Try.f5 = some L5 := by kernel_rfl

abbrev R6_0 : List LOper := [⟨some 4, none, .newv 27 (.tmp 0)⟩, ⟨some 5, none, .newv 29 (.tmp 1)⟩, ⟨some 6, none, .newv 42 (.tmp 2)⟩, ⟨some 8, none, .pv (.move (.const (.bool false)))⟩]
abbrev R6_1 : List LOper := [⟨some 9, none, .call 9 []⟩, ⟨some 10, none, .pv (.move (.tmp 9))⟩, ⟨some 11, (some (10, true)), .loadN 2 (.tmp 4)⟩, ⟨some 12, (some (10, true)), .loadN 4 (.tmp 5)⟩, ⟨some 13, (some (10, true)), .pv (.move (.tmp 3))⟩, ⟨some 14, (some (10, true)), .call 13 [(.tmp 11), (.tmp 12), (.tmp 13)]⟩, ⟨some 15, none, .pv (.pick (.tmp 10) (.tmp 14) (.const (.bool false)))⟩, ⟨some 16, none, .pv (.move (.tmp 15))⟩, ⟨some 17, (some (16, true)), .loadN 4 (.tmp 6)⟩, ⟨some 18, (some (16, true)), .pv (.move (.tmp 3))⟩, ⟨some 19, (some (16, true)), .call 14 [(.tmp 17), (.tmp 18)]⟩, ⟨some 20, none, .pv (.pick (.tmp 16) (.tmp 19) (.const (.bool false)))⟩, ⟨some 8, none, .pv (.move (.tmp 20))⟩]
abbrev L6 : LFun := ⟨21, [(.tmp 8)], (.seq (.reg R6_0) (.seq (.reg R6_1) .ret))⟩
theorem low6 : lowFnG false Try.prog Try.f6 = some L6 := by kernel_rfl

set_option maxRecDepth 8000 in
theorem law4 (l : List UInt8) (bv : Value) (hcap : CapOk bv) (w : World) (hR : Reads w [] 1 bv l.length (l.map b8)) : Quiet Try.prog 4 #[bv] w (.bool true) := by
  obtain ⟨A, c, rfl, _⟩ := hR.slc
  refine enterF (args := [.slice A l.length c]) Try.func4 low4 rfl ?_; have hS := St.start w; dsimp only [L4, envL, Nat.reduceAdd]
  repeat' (first | ((with_reducible apply WL_p); (· exact evk)) | ((with_reducible apply WL_do); (· exact evd)) | ((with_reducible apply WL_no); (· exact evd)) | (with_reducible first | refine WL_nil ?_ | refine then_normal ?_ | refine blk_normal ?_ | refine WC_seq ?_ | refine WC_reg ?_ | refine WC_block ?_ | refine WC_skip ?_ | refine WC_exit ?_ | refine then_exit ?_ | refine blk_hit ?_ | refine blk_miss (by decide) ?_ | refine WC_ret ?_ | refine then_ret ?_ | refine blk_ret ?_) | ((with_reducible apply WL_callq hS); (· exact evk); (· first | exact c9 _); (clear hS; intro w hS)) | ((with_reducible apply WL_callq hS); (· exact evk); (· first | exact c11 l _ hcap _ (hS.reads0 hR)); (clear hS; intro w hS)))
  exact retq hS (v := .bool true) rfl rfl
set_option maxRecDepth 8000 in
theorem law5 (f t s a : Int) (ds : List UInt8) (dv : Value) (l : List UInt8) (bv : Value) (hcap : CapOk bv) (w : World) (hD : Reads w [] 1 dv ds.length (ds.map b8)) (hR : Reads w [] 1 bv l.length (l.map b8)) :
    Quiet Try.prog 5 #[.agg #[.int .i64 f, .int .i64 t, .int .i64 s, .int .i64 a, dv], bv] w (.bool true) := by
  obtain ⟨A, c, rfl, _⟩ := hR.slc
  obtain ⟨A', c', rfl, _⟩ := hD.slc
  refine enterF (args := [.agg #[.int .i64 f, .int .i64 t, .int .i64 s, .int .i64 a, .slice A' ds.length c'], .slice A l.length c]) Try.func5 low5 rfl ?_; have hS := St.start w; dsimp only [L5, envL, Nat.reduceAdd]
  repeat' (first | ((with_reducible apply WL_p); (· exact evk)) | ((with_reducible apply WL_do); (· exact evd)) | ((with_reducible apply WL_no); (· exact evd)) | (with_reducible first | refine WL_nil ?_ | refine then_normal ?_ | refine blk_normal ?_ | refine WC_seq ?_ | refine WC_reg ?_ | refine WC_block ?_ | refine WC_skip ?_ | refine WC_exit ?_ | refine then_exit ?_ | refine blk_hit ?_ | refine blk_miss (by decide) ?_ | refine WC_ret ?_ | refine then_ret ?_ | refine blk_ret ?_) | ((first | (with_reducible apply WL_newz hS) | ((with_reducible apply WL_newv hS); (· exact evk); (· rfl)) | ((with_reducible apply WL_row hS); (· exact evk))); clear hS; intro bq w hS hbq; (try simp only [List.nil_append, List.cons_append, List.append_assoc] at hS)) | ((with_reducible apply WL_loadN hS); (· exact evk); (· exact inn); (· ((simp only [List.drop_succ_cons, List.drop_zero, List.take_succ_cons, List.take_zero]) <;> rfl)); (· rfl)) | ((with_reducible apply WL_callq hS); (· exact evk); (· first | exact c9 _); (clear hS; intro w hS)) | ((with_reducible apply WL_callq hS); (· exact evk); (· first | exact c12 f t s a ds _ l _ hcap _ (hS.reads0 hD) (hS.reads0 hR)); (clear hS; intro w hS)))
  exact retq hS (v := .bool true) rfl rfl
set_option maxRecDepth 8000 in
theorem law6 (s i k : Int) (nm : List UInt8) (a b : Int) (ha : I64 a) (hb : I64 b) (hl : nm.length ≤ 140737488351232) (s' i' er x : Int) (hx : I64 x) (l : List UInt8) (bv : Value) (hcap : CapOk bv) (w : World) (hR : Reads w [] 1 bv l.length (l.map b8)) :
    Quiet Try.prog 6 #[.agg #[.int .i64 s, .int .i64 i], .agg #[.int .i64 k, Lw.S nm, .int .i64 a, .int .i64 b], .agg #[.int .i64 s', .int .i64 i', .int .i64 er, .int .i64 x], bv] w (.bool true) := by
  obtain ⟨A, c, rfl, _⟩ := hR.slc
  refine enterF (args := [.agg #[.int .i64 s, .int .i64 i], .agg #[.int .i64 k, Lw.S nm, .int .i64 a, .int .i64 b], .agg #[.int .i64 s', .int .i64 i', .int .i64 er, .int .i64 x], .slice A l.length c]) Try.func6 low6 rfl ?_; have hS := St.start w; dsimp only [L6, envL, Nat.reduceAdd]
  repeat' (first | ((with_reducible apply WL_p); (· exact evk)) | ((with_reducible apply WL_do); (· exact evd)) | ((with_reducible apply WL_no); (· exact evd)) | (with_reducible first | refine WL_nil ?_ | refine then_normal ?_ | refine blk_normal ?_ | refine WC_seq ?_ | refine WC_reg ?_ | refine WC_block ?_ | refine WC_skip ?_ | refine WC_exit ?_ | refine then_exit ?_ | refine blk_hit ?_ | refine blk_miss (by decide) ?_ | refine WC_ret ?_ | refine then_ret ?_ | refine blk_ret ?_) | ((first | (with_reducible apply WL_newz hS) | ((with_reducible apply WL_newv hS); (· exact evk); (· rfl)) | ((with_reducible apply WL_row hS); (· exact evk))); clear hS; intro bq w hS hbq; (try simp only [List.nil_append, List.cons_append, List.append_assoc] at hS)) | ((with_reducible apply WL_loadN hS); (· exact evk); (· exact inn); (· ((simp only [List.drop_succ_cons, List.drop_zero, List.take_succ_cons, List.take_zero]) <;> rfl)); (· rfl)) | ((with_reducible apply WL_callq hS); (· exact evk); (· first | exact c9 _); (clear hS; intro w hS)) | ((with_reducible apply WL_callq hS); (· exact evk); (· first | exact c13 s i k nm a b ha hb hl l _ hcap _ (hS.reads0 hR)); (clear hS; intro w hS)) | ((with_reducible apply WL_callq hS); (· exact evk); (· first | exact c14 s' i' er x hx l _ hcap _ (hS.reads0 hR)); (clear hS; intro w hS)))
  exact retq hS (v := .bool true) rfl rfl
end Go.Proofs.Ytohmgkcdjapinaa.Lw
