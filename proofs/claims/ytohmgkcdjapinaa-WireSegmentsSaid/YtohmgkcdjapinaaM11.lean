/- Part 11 of the texts of this claim: Yf Yg Yh Yi Yj. -/
import Derived.Test.YtohmgkcdjapinaaM10
set_option linter.unusedVariables false
set_option linter.unusedSimpArgs false
namespace Go.Proofs.Ytohmgkcdjapinaa.Lw
theorem kYf0 {p : Prop} (h : p := by ((simp (disch := omega) only [ev_tmp, ev_const, ev_func, ev_global, upd_app, val_move, val_pick, pickV_true, pickV_false, pickV_bool, val_nilck, nilckV_ptr, val_bin, bin_add, bin_sub, bin_mul, bin_eql, bin_neq, bin_lss, bin_leq, bin_gtr, bin_geq, bin_seql, bin_sneq, bin_slss, bin_sleq, bin_sgtr, bin_sgeq, val_beq, beqV_f, beqV_t, val_seq, val_not, notV_bool, val_toInt, toIntV_int, val_off, offV_ptr, val_len, lenV_slice, val_slen, slenV_S, val_ext, extV_tup, val_ifc, val_fn, List.getElem?_cons_zero, List.getElem?_cons_succ, List.map_cons, List.map_nil, eq_self, Bool.false_eq_true, Bool.not_true, Bool.not_false, Option.map_some, Nat.zero_add, isB_bool, isB_undef, Bool.true_beq, Bool.false_beq, beq_self_eq_true, Bool.true_and, Bool.and_true, Bool.false_and, Bool.and_false, Bool.true_or, Bool.or_true, Bool.false_or, Bool.or_false, not_dec, and_dec, or_dec, seqV_f, seqV_t, ceq_i, ceq_s, ceq_nil, val_bld, bldV, cells_int, cells_bool, cells_S, cells_b8, cells_slice, cells_ptr, cells_agg, List.size_toArray, List.length_cons, List.length_nil, place, List.take_succ_cons, List.take_zero, List.drop_succ_cons, List.drop_zero, List.cons_append, List.nil_append, and_self, and_true, true_and, Nat.reduceLeDiff, List.toList_toArray, wr64, wru64, wru8, Nat.reduceEqDiff, ↓reduceIte, Nat.reduceAdd, Has, and_true, Int.natCast_add, Int.cast_ofNat_Int]) <;> fail)) : p := h
theorem kYf1 {p : Prop} (h : p := by ((simp (disch := omega) only [ev_tmp, ev_const, ev_func, ev_global, upd_app, val_move, val_pick, pickV_true, pickV_false, pickV_bool, val_nilck, nilckV_ptr, val_bin, bin_add, bin_sub, bin_mul, bin_eql, bin_neq, bin_lss, bin_leq, bin_gtr, bin_geq, bin_seql, bin_sneq, bin_slss, bin_sleq, bin_sgtr, bin_sgeq, val_beq, beqV_f, beqV_t, val_seq, val_not, notV_bool, val_toInt, toIntV_int, val_off, offV_ptr, val_len, lenV_slice, val_slen, slenV_S, val_ext, extV_tup, val_ifc, val_fn, List.getElem?_cons_zero, List.getElem?_cons_succ, List.map_cons, List.map_nil, eq_self, Bool.false_eq_true, Bool.not_true, Bool.not_false, Option.map_some, Nat.zero_add, isB_bool, isB_undef, Bool.true_beq, Bool.false_beq, beq_self_eq_true, Bool.true_and, Bool.and_true, Bool.false_and, Bool.and_false, Bool.true_or, Bool.or_true, Bool.false_or, Bool.or_false, not_dec, and_dec, or_dec, seqV_f, seqV_t, ceq_i, ceq_s, ceq_nil, val_bld, bldV, cells_int, cells_bool, cells_S, cells_b8, cells_slice, cells_ptr, cells_agg, List.size_toArray, List.length_cons, List.length_nil, place, List.take_succ_cons, List.take_zero, List.drop_succ_cons, List.drop_zero, List.cons_append, List.nil_append, and_self, and_true, true_and, Nat.reduceLeDiff, List.toList_toArray, wr64, wru64, wru8, Nat.reduceEqDiff, ↓reduceIte, Nat.reduceAdd, dT, dNT, dne]) <;> rfl)) : p := h
theorem kYf2 {p : Prop} (h : p := by ((simp (disch := omega) only [ev_tmp, ev_const, ev_func, ev_global, upd_app, val_move, val_pick, pickV_true, pickV_false, pickV_bool, val_nilck, nilckV_ptr, val_bin, bin_add, bin_sub, bin_mul, bin_eql, bin_neq, bin_lss, bin_leq, bin_gtr, bin_geq, bin_seql, bin_sneq, bin_slss, bin_sleq, bin_sgtr, bin_sgeq, val_beq, beqV_f, beqV_t, val_seq, val_not, notV_bool, val_toInt, toIntV_int, val_off, offV_ptr, val_len, lenV_slice, val_slen, slenV_S, val_ext, extV_tup, val_ifc, val_fn, List.getElem?_cons_zero, List.getElem?_cons_succ, List.map_cons, List.map_nil, eq_self, Bool.false_eq_true, Bool.not_true, Bool.not_false, Option.map_some, Nat.zero_add, isB_bool, isB_undef, Bool.true_beq, Bool.false_beq, beq_self_eq_true, Bool.true_and, Bool.and_true, Bool.false_and, Bool.and_false, Bool.true_or, Bool.or_true, Bool.false_or, Bool.or_false, not_dec, and_dec, or_dec, seqV_f, seqV_t, ceq_i, ceq_s, ceq_nil, val_bld, bldV, cells_int, cells_bool, cells_S, cells_b8, cells_slice, cells_ptr, cells_agg, List.size_toArray, List.length_cons, List.length_nil, place, List.take_succ_cons, List.take_zero, List.drop_succ_cons, List.drop_zero, List.cons_append, List.nil_append, and_self, and_true, true_and, Nat.reduceLeDiff, List.toList_toArray, wr64, wru64, wru8, Nat.reduceEqDiff, ↓reduceIte, Nat.reduceAdd, f1]) <;> rfl)) : p := h
abbrev R11_0 : List LOper := [⟨some 2, none, .pv (.move (.const (.bool false)))⟩]
abbrev R11_1 : List LOper := [⟨some 11, none, .pv (.move (.tmp 0))⟩, ⟨some 12, none, .call 26 [(.tmp 11)]⟩, ⟨some 3, none, .pv (.move (.tmp 12))⟩]
abbrev R11_2 : List LOper := [⟨some 14, none, .pv (.move (.tmp 3))⟩, ⟨some 15, none, .pv (.move (.tmp 0))⟩, ⟨some 16, none, .pv (.len (.tmp 15))⟩, ⟨some 17, none, .pv (.slc 1 (.tmp 14) none (some (.tmp 16)))⟩, ⟨some 18, none, .call 17 [(.tmp 17)]⟩, ⟨some 13, none, .pv (.move (.tmp 18))⟩, ⟨some 19, none, .pv (.ext (.tmp 13) 0)⟩, ⟨some 20, none, .pv (.ext (.tmp 13) 1)⟩, ⟨some 21, none, .pv (.ext (.tmp 13) 2)⟩, ⟨some 4, none, .newz 33 [(.int .i64 0), (S []), (.int .i64 0), (.int .i64 0), (.int .i64 0), (.int .i64 0), (.int .i64 0), (.int .i64 0), (.int .i64 0), (.int .i64 0), (.int .i64 0), (.int .i64 0), (.int .i64 0), (.int .i64 0), (S []), (.int .i64 0), (.int .i64 0), (.int .i64 0), (.int .i64 0), (.slice none 0 0)]⟩, ⟨none, none, .store 20 (.tmp 4) (.tmp 19)⟩, ⟨some 5, none, .pv (.move (.tmp 20))⟩, ⟨some 6, none, .pv (.move (.tmp 21))⟩]
abbrev R11_3 : List LOper := [⟨some 23, none, .pv (.move (.tmp 0))⟩, ⟨some 24, none, .call 27 [(.tmp 23)]⟩, ⟨some 22, none, .pv (.move (.tmp 24))⟩, ⟨some 25, none, .pv (.ext (.tmp 22) 0)⟩, ⟨some 26, none, .pv (.ext (.tmp 22) 1)⟩, ⟨some 27, none, .pv (.ext (.tmp 22) 2)⟩, ⟨some 7, none, .newz 33 [(.int .i64 0), (S []), (.int .i64 0), (.int .i64 0), (.int .i64 0), (.int .i64 0), (.int .i64 0), (.int .i64 0), (.int .i64 0), (.int .i64 0), (.int .i64 0), (.int .i64 0), (.int .i64 0), (.int .i64 0), (S []), (.int .i64 0), (.int .i64 0), (.int .i64 0), (.int .i64 0), (.slice none 0 0)]⟩, ⟨none, none, .store 20 (.tmp 7) (.tmp 25)⟩, ⟨some 8, none, .pv (.move (.tmp 26))⟩, ⟨some 9, none, .pv (.move (.tmp 27))⟩]
abbrev R11_4 : List LOper := [⟨some 28, none, .pv (.move (.tmp 3))⟩, ⟨some 29, none, .pv (.move (.tmp 0))⟩, ⟨some 30, none, .call 28 [(.tmp 28), (.tmp 29)]⟩, ⟨some 31, none, .pv (.not (.tmp 30))⟩, ⟨some 32, none, .pv (.move (.tmp 31))⟩, ⟨some 33, (some (32, false)), .pv (.move (.tmp 6))⟩, ⟨some 34, (some (32, false)), .pv (.move (.tmp 9))⟩, ⟨some 35, (some (32, false)), .pv (.bin .neq (.tmp 33) (.tmp 34))⟩, ⟨some 36, none, .pv (.pick (.tmp 32) (.const (.bool true)) (.tmp 35))⟩, ⟨some 37, none, .pv (.move (.tmp 36))⟩, ⟨some 38, (some (37, false)), .pv (.move (.tmp 5))⟩, ⟨some 39, (some (37, false)), .pv (.move (.tmp 8))⟩, ⟨some 40, (some (37, false)), .pv (.bin .neq (.tmp 38) (.tmp 39))⟩, ⟨some 41, none, .pv (.pick (.tmp 37) (.const (.bool true)) (.tmp 40))⟩, ⟨some 42, none, .pv (.move (.tmp 41))⟩, ⟨some 43, (some (42, false)), .loadN 20 (.tmp 4)⟩, ⟨some 44, (some (42, false)), .loadN 20 (.tmp 7)⟩, ⟨some 45, (some (42, false)), .call 29 [(.tmp 43), (.tmp 44)]⟩, ⟨some 46, (some (42, false)), .pv (.not (.tmp 45))⟩, ⟨some 47, none, .pv (.pick (.tmp 42) (.const (.bool true)) (.tmp 46))⟩]
abbrev R11_5 : List LOper := [⟨some 2, none, .pv (.move (.const (.bool false)))⟩]
abbrev R11_6 : List LOper := [⟨some 10, none, .pv (.move (.const (.int .i64 0)))⟩]
abbrev R11_7 : List LOper := [⟨some 48, none, .pv (.move (.tmp 10))⟩, ⟨some 49, none, .pv (.move (.tmp 0))⟩, ⟨some 50, none, .pv (.len (.tmp 49))⟩, ⟨some 51, none, .pv (.bin .lss (.tmp 48) (.tmp 50))⟩]
abbrev R11_8 : List LOper := [⟨some 54, none, .pv (.move (.tmp 3))⟩, ⟨some 55, none, .pv (.move (.tmp 10))⟩, ⟨some 56, none, .pv (.move (.tmp 0))⟩, ⟨some 57, none, .pv (.move (.tmp 0))⟩, ⟨some 58, none, .pv (.len (.tmp 57))⟩, ⟨some 59, none, .pv (.bin .sub (.tmp 58) (.const (.int .i64 1)))⟩, ⟨some 60, none, .pv (.move (.tmp 10))⟩, ⟨some 61, none, .pv (.bin .sub (.tmp 59) (.tmp 60))⟩, ⟨some 62, none, .pv (.idx 1 (.tmp 56) (.tmp 61))⟩, ⟨some 63, none, .load (.tmp 62)⟩, ⟨some 64, none, .pv (.idx 1 (.tmp 54) (.tmp 55))⟩, ⟨none, none, .store 1 (.tmp 64) (.tmp 63)⟩]
abbrev R11_9 : List LOper := [⟨some 52, none, .pv (.move (.tmp 10))⟩, ⟨some 53, none, .pv (.bin .add (.tmp 52) (.const (.int .i64 1)))⟩, ⟨some 10, none, .pv (.move (.tmp 53))⟩]
abbrev R11_10 : List LOper := [⟨some 66, none, .pv (.move (.tmp 3))⟩, ⟨some 67, none, .pv (.move (.tmp 0))⟩, ⟨some 68, none, .pv (.len (.tmp 67))⟩, ⟨some 69, none, .pv (.slc 1 (.tmp 66) none (some (.tmp 68)))⟩, ⟨some 70, none, .call 17 [(.tmp 69)]⟩, ⟨some 65, none, .pv (.move (.tmp 70))⟩, ⟨some 71, none, .pv (.ext (.tmp 65) 0)⟩, ⟨some 72, none, .pv (.ext (.tmp 65) 1)⟩, ⟨some 73, none, .pv (.ext (.tmp 65) 2)⟩, ⟨none, none, .store 20 (.tmp 4) (.tmp 71)⟩, ⟨some 5, none, .pv (.move (.tmp 72))⟩, ⟨some 6, none, .pv (.move (.tmp 73))⟩]
abbrev R11_11 : List LOper := [⟨some 75, none, .pv (.move (.tmp 3))⟩, ⟨some 76, none, .pv (.move (.tmp 0))⟩, ⟨some 77, none, .pv (.len (.tmp 76))⟩, ⟨some 78, none, .pv (.slc 1 (.tmp 75) none (some (.tmp 77)))⟩, ⟨some 79, none, .raw 36 (.call (.mk (.builtin .append) #[(.const (.slice none 0 0)), (.tmp 78)] #[36, 36]))⟩, ⟨some 80, none, .call 27 [(.tmp 79)]⟩, ⟨some 74, none, .pv (.move (.tmp 80))⟩, ⟨some 81, none, .pv (.ext (.tmp 74) 0)⟩, ⟨some 82, none, .pv (.ext (.tmp 74) 1)⟩, ⟨some 83, none, .pv (.ext (.tmp 74) 2)⟩, ⟨none, none, .store 20 (.tmp 7) (.tmp 81)⟩, ⟨some 8, none, .pv (.move (.tmp 82))⟩, ⟨some 9, none, .pv (.move (.tmp 83))⟩]
abbrev R11_12 : List LOper := [⟨some 84, none, .pv (.move (.tmp 6))⟩, ⟨some 85, none, .pv (.move (.tmp 9))⟩, ⟨some 86, none, .pv (.bin .eql (.tmp 84) (.tmp 85))⟩, ⟨some 87, none, .pv (.move (.tmp 86))⟩, ⟨some 88, (some (87, true)), .pv (.move (.tmp 5))⟩, ⟨some 89, (some (87, true)), .pv (.move (.tmp 8))⟩, ⟨some 90, (some (87, true)), .pv (.bin .eql (.tmp 88) (.tmp 89))⟩, ⟨some 91, none, .pv (.pick (.tmp 87) (.tmp 90) (.const (.bool false)))⟩, ⟨some 92, none, .pv (.move (.tmp 91))⟩, ⟨some 93, (some (92, true)), .loadN 20 (.tmp 4)⟩, ⟨some 94, (some (92, true)), .loadN 20 (.tmp 7)⟩, ⟨some 95, (some (92, true)), .call 29 [(.tmp 93), (.tmp 94)]⟩, ⟨some 96, none, .pv (.pick (.tmp 92) (.tmp 95) (.const (.bool false)))⟩, ⟨some 2, none, .pv (.move (.tmp 96))⟩]
abbrev L11 : LFun := ⟨97, [(.tmp 2)], (.seq (.reg R11_0) (.seq (.reg R11_1) (.seq (.reg R11_2) (.seq (.reg R11_3) (.seq (.seq (.reg R11_4) (.cond (.tmp 47) (.seq (.reg R11_5) .ret) .skip)) (.seq (.seq (.reg R11_6) (.block 0 (.loop (.seq (.seq (.reg R11_7) (.cond (.tmp 51) .skip (.exit 0))) (.seq (.block 1 (.reg R11_8)) (.reg R11_9)))))) (.seq (.reg R11_10) (.seq (.reg R11_11) (.seq (.reg R11_12) .ret)))))))))⟩
theorem low11 : lowFn Try.prog Try.f11 = some L11 := by kernel_rfl

theorem rdMsgK_vs {l : List UInt8} {k a a' : Nat} {m : Ms} {vs : List Vw} (ha : a ≤ l.length) (h : rdMsgK l k a = .ok ((m, vs), a')) : vs.length ≤ 64 := by
  unfold rdMsgK at h
  split at h
  · obtain ⟨_, _, _, h⟩ := bindR_inv h
    obtain ⟨_, _, _, h⟩ := bindR_inv h
    injection h with h; injection h with h1 h2; injection h1 with h3 h4
    subst h4; simp
  · split at h
    · obtain ⟨_, _, _, h⟩ := bindR_inv h
      obtain ⟨_, _, _, h⟩ := bindR_inv h
      obtain ⟨_, _, _, h⟩ := bindR_inv h
      split at h
      · obtain ⟨_, _, _, h⟩ := bindR_inv h
        injection h with h; injection h with h1 h2; injection h1 with h3 h4
        subst h4; simp
      · injection h with h; injection h with h1 h2; injection h1 with h3 h4
        subst h4; simp
    · split at h
      · obtain ⟨vs', _, hv, h⟩ := bindR_inv h
        injection h with h; injection h with h1 h2; injection h1 with h3 h4
        subst h4
        exact (rdViews_ok ha hv).2
      · obtain ⟨_, _, _, h⟩ := bindR_inv h
        obtain ⟨_, _, _, h⟩ := bindR_inv h
        obtain ⟨_, _, _, h⟩ := bindR_inv h
        injection h with h; injection h with h1 h2; injection h1 with h3 h4
        subst h4; simp
theorem rdMsg_vs {l : List UInt8} {a a' : Nat} {m : Ms} {vs : List Vw} (ha : a ≤ l.length) (h : rdMsg l a = .ok ((m, vs), a')) : vs.length ≤ 64 := by
  obtain ⟨k, a1, hk, h⟩ := bindR_inv h
  exact rdMsgK_vs (rdNum_ok ha hk).1 h
/-- What Decode tells: the message, its views, the place, the error. -/
def decM (l : List UInt8) : (Ms × List Vw) × Int × Int :=
  match fin l.length (rdMsg l 0) with
  | .ok r => (r, 0, 0)
  | .error p => ((zeroMs, []), p, 20)
theorem decM_form {l : List UInt8} {u : Value} {O' : Blks} (h : DecM l u O') : ∃ v L, L.Sublist O' ∧ RowIs 71 7 v (decM l).1.2.length ((decM l).1.2.flatMap Vw.cells) L ∧ u = .tuple #[.agg ((decM l).1.1.cells v).toArray, .int .i64 (decM l).2.1, .int .i64 (decM l).2.2] := by
  simp only [DecM, decM] at *
  generalize fin l.length (rdMsg l 0) = y at *
  cases y with
  | ok r =>
    obtain ⟨m, vs⟩ := r
    obtain ⟨v, hr, rfl⟩ := h
    exact ⟨v, O', List.Sublist.refl _, hr, rfl⟩
  | error p => exact ⟨_, [], List.nil_sublist _, RowIs.nil 71 7, h⟩
theorem decM_len (l : List UInt8) : (decM l).1.2.length ≤ 64 := by
  simp only [decM]
  have key : ∀ m vs, fin l.length (rdMsg l 0) = .ok (m, vs) → vs.length ≤ 64 := by
    intro m vs hs
    unfold fin at hs
    split at hs
    · rename_i y a hx
      split at hs
      · cases hs
      · injection hs with hs
        subst hs
        exact rdMsg_vs (Nat.zero_le _) hx
    · cases hs
  generalize fin l.length (rdMsg l 0) = y at key
  cases y with
  | ok s => exact key s.1 s.2 rfl
  | error p => exact Nat.zero_le _
theorem RowIs.rdL {v : Value} {vs : List Vw} {L O : Blks} {w0 w : World} {K : List Nat} (h : RowIs 71 7 v vs.length (vs.flatMap Vw.cells) L) (hS : St w0 K w O) (hm : ∀ q ∈ L, q ∈ O) (hn : vs.length ≤ 140737488351232) : RdL w [] 7 v vs Vw.cells := ⟨h.rd hS hm hn, Vw.len⟩
theorem set_fill {rl : List UInt8} {k m : Nat} {sp : List Value} {v x : Value} (hk : k < rl.length) (hx : x = b8 (rl[k]'hk)) : (((rl.take k).map b8 ++ List.replicate (m + 1) v) ++ sp).set k x = ((rl.take (k + 1)).map b8 ++ List.replicate m v) ++ sp := by
  subst hx
  have hl : ((rl.take k).map b8).length = k := by rw [List.length_map, List.length_take]; omega
  rw [List.append_assoc, List.set_append, if_neg (by omega), hl, Nat.sub_self, List.replicate_succ, List.cons_append, List.set_cons_zero, List.take_succ_eq_append_getElem hk, List.map_append]
  simp
section
variable {P : Program} {p : Chain → World → Prop} {Q : Exit → Env → World → Prop} {e : Env} {w0 w : World} {K : List Nat} {O : Blks} {d : Nat} {l : List LOper}
/-- A call of a decoder of messages. -/
theorem WL_decM {f : FuncId} {args : List Operand} {argv : List Value} {bs : List UInt8} (hS : St w0 K w O) (ha : args.map (ev e) = argv) (hc : Calls P f argv.toArray w (Ret w [] (DecM bs)))
    (h : ∀ v L w', RowIs 71 7 v (decM bs).1.2.length ((decM bs).1.2.flatMap Vw.cells) L → St w0 K w' (O ++ L) → WL P p Q l (upd e d (.tuple #[.agg ((decM bs).1.1.cells v).toArray, .int .i64 (decM bs).2.1, .int .i64 (decM bs).2.2])) w') : WL P p Q (⟨some d, none, .call f args⟩ :: l) e w := by
  refine WL_call0 hS ha hc ?_
  intro u O' w' h1 hS'
  obtain ⟨v, L, hs, hr, rfl⟩ := decM_form h1
  exact h v L w' hr (hS'.sub (List.Sublist.append (List.Sublist.refl _) hs))
end
set_option maxRecDepth 8000 in
set_option maxHeartbeats 2000000 in
theorem c11 (l : List UInt8) (bv : Value) (hcap : CapOk bv) (w : World) (hR : Reads w [] 1 bv l.length (l.map b8)) : Quiet Try.prog 11 #[bv] w (.bool true) := by
  have hfit := hR.fits
  obtain ⟨A, c, rfl, _⟩ := hR.slc
  refine enterF (args := [.slice A l.length c]) Try.func11 low11 rfl ?_; have hS := St.start w; dsimp only [L11, envL, Nat.reduceAdd]
  repeat' (first | ((with_reducible apply WL_p); (· exact evk)) | (with_reducible first | refine WL_nil ?_ | refine then_normal ?_ | refine blk_normal ?_ | refine WC_seq ?_ | refine WC_reg ?_ | refine WC_block ?_ | refine WC_skip ?_ | refine WC_exit ?_ | refine then_exit ?_ | refine blk_hit ?_ | refine blk_miss (by decide) ?_ | refine WC_ret ?_ | refine then_ret ?_ | refine blk_ret ?_))
  refine WL_lent hS (by exact evk) (hS.reads0 hR) hfit ?_
  clear hS
  intro bk cap sp w hc hS
  repeat' (first | ((with_reducible apply WL_p); (· exact evk)) | (with_reducible first | refine WL_nil ?_ | refine then_normal ?_ | refine blk_normal ?_ | refine WC_seq ?_ | refine WC_reg ?_ | refine WC_block ?_ | refine WC_skip ?_ | refine WC_exit ?_ | refine then_exit ?_ | refine blk_hit ?_ | refine blk_miss (by decide) ?_ | refine WC_ret ?_ | refine then_ret ?_ | refine blk_ret ?_))
  refine WL_p (slcB (by exact evk) (by exact evk) (by omega)) ?_
  refine WL_decM hS (by exact evk) (c17 l _ ⟨_, _, _, rfl, by omega⟩ _ (hS.lentRd inn hfit)) ?_
  clear hS
  intro v1 L1 w r1 hS
  have hdl := decM_len l
  obtain ⟨mm, vs, at1, e1, hdq⟩ : ∃ mm vs at1 e1, decM l = ((mm, vs), at1, e1) := ⟨_, _, _, _, rfl⟩
  rw [hdq] at r1 hdl ⊢
  dsimp only at r1 hdl ⊢
  repeat' (first | ((with_reducible apply WL_p); (· exact evk)) | (with_reducible first | refine WL_nil ?_ | refine then_normal ?_ | refine blk_normal ?_ | refine WC_seq ?_ | refine WC_reg ?_ | refine WC_block ?_ | refine WC_skip ?_ | refine WC_exit ?_ | refine then_exit ?_ | refine blk_hit ?_ | refine blk_miss (by decide) ?_ | refine WC_ret ?_ | refine then_ret ?_ | refine blk_ret ?_))
  refine WL_newz hS ?_
  clear hS
  intro b4 w hS hb4
  (simp only [List.cons_append, List.append_assoc, List.nil_append] at hS)
  refine WL_storeF (vs := mm.cells v1) hS (by exact evk) (by exact evk) rfl rfl (Ms.ones _ r1.one) upp ?_
  clear hS
  intro w hS
  repeat' (first | ((with_reducible apply WL_p); (· exact evk)) | (with_reducible first | refine WL_nil ?_ | refine then_normal ?_ | refine blk_normal ?_ | refine WC_seq ?_ | refine WC_reg ?_ | refine WC_block ?_ | refine WC_skip ?_ | refine WC_exit ?_ | refine then_exit ?_ | refine blk_hit ?_ | refine blk_miss (by decide) ?_ | refine WC_ret ?_ | refine then_ret ?_ | refine blk_ret ?_))
  refine WL_decM hS (by exact evk) (c27 l _ hcap _ (hS.reads0 hR)) ?_
  clear hS
  intro v2 L2 w r2 hS
  rw [hdq] at r2 ⊢
  dsimp only at r2 ⊢
  repeat' (first | ((with_reducible apply WL_p); (· exact evk)) | (with_reducible first | refine WL_nil ?_ | refine then_normal ?_ | refine blk_normal ?_ | refine WC_seq ?_ | refine WC_reg ?_ | refine WC_block ?_ | refine WC_skip ?_ | refine WC_exit ?_ | refine then_exit ?_ | refine blk_hit ?_ | refine blk_miss (by decide) ?_ | refine WC_ret ?_ | refine then_ret ?_ | refine blk_ret ?_))
  refine WL_newz hS ?_
  clear hS
  intro b7 w hS hb7
  (simp only [List.cons_append, List.append_assoc, List.nil_append] at hS)
  refine WL_storeF (vs := mm.cells v2) hS (by exact evk) (by exact evk) rfl rfl (Ms.ones _ r2.one) upp ?_
  clear hS
  intro w hS
  repeat' (first | ((with_reducible apply WL_p); (· exact evk)) | (with_reducible first | refine WL_nil ?_ | refine then_normal ?_ | refine blk_normal ?_ | refine WC_seq ?_ | refine WC_reg ?_ | refine WC_block ?_ | refine WC_skip ?_ | refine WC_exit ?_ | refine then_exit ?_ | refine blk_hit ?_ | refine blk_miss (by decide) ?_ | refine WC_ret ?_ | refine then_ret ?_ | refine blk_ret ?_))
  refine WL_back hS (by exact evk) (by exact evk) hR hfit hc ?_
  clear hS
  intro w hS
  repeat' (first | ((with_reducible apply WL_p); (· exact kYf1)) | ((with_reducible apply WL_do); (· exact evd)) | ((with_reducible apply WL_no); (· exact evd)) | (with_reducible first | refine WL_nil ?_ | refine then_normal ?_ | refine blk_normal ?_ | refine WC_seq ?_ | refine WC_reg ?_ | refine WC_block ?_ | refine WC_skip ?_ | refine WC_exit ?_ | refine then_exit ?_ | refine blk_hit ?_ | refine blk_miss (by decide) ?_ | refine WC_ret ?_ | refine then_ret ?_ | refine blk_ret ?_))
  refine WL_loadF hS (by exact evk) inn rfl ?_
  repeat' (first | ((with_reducible apply WL_p); (· exact kYf1)) | ((with_reducible apply WL_do); (· exact evd)) | ((with_reducible apply WL_no); (· exact evd)) | (with_reducible first | refine WL_nil ?_ | refine then_normal ?_ | refine blk_normal ?_ | refine WC_seq ?_ | refine WC_reg ?_ | refine WC_block ?_ | refine WC_skip ?_ | refine WC_exit ?_ | refine then_exit ?_ | refine blk_hit ?_ | refine blk_miss (by decide) ?_ | refine WC_ret ?_ | refine then_ret ?_ | refine blk_ret ?_))
  refine WL_loadF hS (by exact evk) inn rfl ?_
  repeat' (first | ((with_reducible apply WL_p); (· exact kYf1)) | ((with_reducible apply WL_do); (· exact evd)) | ((with_reducible apply WL_no); (· exact evd)) | ((with_reducible apply WC_true); (· exact evk)) | ((with_reducible apply WC_false); (· exact evk)) | (with_reducible first | refine WL_nil ?_ | refine then_normal ?_ | refine blk_normal ?_ | refine WC_seq ?_ | refine WC_reg ?_ | refine WC_block ?_ | refine WC_skip ?_ | refine WC_exit ?_ | refine then_exit ?_ | refine blk_hit ?_ | refine blk_miss (by decide) ?_ | refine WC_ret ?_ | refine then_ret ?_ | refine blk_ret ?_) | ((with_reducible apply WL_callq hS); (· exact evk); (· first | exact c29 mm vs _ _ _ (r1.rdL hS subAll (by omega)) (r2.rdL hS subAll (by omega))); (clear hS; intro w hS)))
  have hS : St _ _ _ [(bk, Blk 5 (List.replicate (l.length + 2) (b8 85) ++ sp)), (b4, Blk 33 (mm.cells v1)), (b7, Blk 33 (mm.cells v2))] :=
    hS.sub (List.Sublist.cons_cons _ ((List.Sublist.cons_cons _ (List.sublist_append_right _ _)).trans (List.sublist_append_right _ _)))
  obtain ⟨rl, hrl, hrg⟩ : ∃ rl : List UInt8, rl.length = l.length ∧ ∀ k (hk : k < rl.length), rl[k] = at8 l (l.length - 1 - k) := by
    refine ⟨l.reverse, by simp, fun k hk => ?_⟩
    rw [List.length_reverse] at hk
    rw [List.getElem_reverse, at8_eq (by omega)]
  have hz1 := mm.cells_len v1
  have hz2 := mm.cells_len v2
  generalize mm.cells v1 = z1 at hS hz1
  generalize mm.cells v2 = z2 at hS hz2
  refine WC_loopH (α := Nat) (fun k => [(0, .slice A l.length c), (3, .slice (some ⟨bk, 0, none⟩) (l.length + 2) cap), (4, .pointer (some ⟨b4, 0, none⟩)), (7, .pointer (some ⟨b7, 0, none⟩)), (10, .int .i64 (k : Int))])
    (fun k w' => k ≤ l.length ∧ St _ _ w' [(bk, Blk 5 (((rl.take k).map b8 ++ List.replicate (l.length + 2 - k) (b8 85)) ++ sp)), (b4, Blk 33 z1), (b7, Blk 33 z2)]) (fun k => l.length - k) 0 (by exact kYf0) ⟨by omega, by simpa using hS⟩ ?_
  clear hS r1 r2
  intro k e w ⟨hk, hS⟩
  dsimp only [patch]
  by_cases hlt : k < l.length
  · have f1 : (l.length : Int) - 1 - (k : Int) = ((l.length - 1 - k : Nat) : Int) := by omega
    have hm : l.length + 2 - k = (l.length + 1 - k) + 1 := by omega
    rw [hm] at hS
    repeat' (first | ((with_reducible apply WL_p); (· exact evk)) | (with_reducible first | refine WL_nil ?_ | refine then_normal ?_ | refine blk_normal ?_ | refine WC_seq ?_ | refine WC_reg ?_ | refine WC_block ?_ | refine WC_skip ?_ | refine WC_exit ?_ | refine then_exit ?_ | refine blk_hit ?_ | refine blk_miss (by decide) ?_ | refine WC_ret ?_ | refine then_ret ?_ | refine blk_ret ?_) | (first | ((with_reducible apply WL_split); (· exact evk)) | ((with_reducible apply WC_dec); (· exact evk)) | ((with_reducible apply WL_splitB); (· exact evk)) | ((with_reducible apply WC_bool); (· exact evk)) | ((with_reducible intro hh) <;> (try (exfalso; omega)))))
    refine WL_idxR (k := l.length - 1 - k) hR (by exact evk) (by exact kYf2) (by omega) (by omega) fun b o hb hcell => ?_
    have hcell := hcell 0 (by omega)
    rw [Nat.mul_one, Nat.add_zero, Nat.add_zero, map_b8_get (by omega)] at hcell
    refine WL_loadR hS (by exact evk) hb hcell ?_
    refine WL_idxO (k := k) (by exact evk) (by exact evk) (by omega) ?_
    rw [Nat.mul_one]
    refine WL_store (v := b8 (at8 l (l.length - 1 - k))) hS (by exact evk) (by exact evk) rfl upp (by simp; omega) ?_
    clear hS
    intro w hS
    rw [set_fill (by omega) (by rw [hrg])] at hS
    repeat' (first | ((with_reducible apply WL_p); (· exact evk)) | (with_reducible first | refine WL_nil ?_ | refine then_normal ?_ | refine blk_normal ?_ | refine WC_seq ?_ | refine WC_reg ?_ | refine WC_block ?_ | refine WC_skip ?_ | refine WC_exit ?_ | refine then_exit ?_ | refine blk_hit ?_ | refine blk_miss (by decide) ?_ | refine WC_ret ?_ | refine then_ret ?_ | refine blk_ret ?_))
    refine ⟨k + 1, by omega, ?_, by omega, ?_⟩
    · (simp (disch := omega) only [ev_tmp, ev_const, ev_func, ev_global, upd_app, val_move, val_pick, pickV_true, pickV_false, pickV_bool, val_nilck, nilckV_ptr, val_bin, bin_add, bin_sub, bin_mul, bin_eql, bin_neq, bin_lss, bin_leq, bin_gtr, bin_geq, bin_seql, bin_sneq, bin_slss, bin_sleq, bin_sgtr, bin_sgeq, val_beq, beqV_f, beqV_t, val_seq, val_not, notV_bool, val_toInt, toIntV_int, val_off, offV_ptr, val_len, lenV_slice, val_slen, slenV_S, val_ext, extV_tup, val_ifc, val_fn, List.getElem?_cons_zero, List.getElem?_cons_succ, List.map_cons, List.map_nil, eq_self, Bool.false_eq_true, Bool.not_true, Bool.not_false, Option.map_some, Nat.zero_add, isB_bool, isB_undef, Bool.true_beq, Bool.false_beq, beq_self_eq_true, Bool.true_and, Bool.and_true, Bool.false_and, Bool.and_false, Bool.true_or, Bool.or_true, Bool.false_or, Bool.or_false, not_dec, and_dec, or_dec, seqV_f, seqV_t, ceq_i, ceq_s, ceq_nil, val_bld, bldV, cells_int, cells_bool, cells_S, cells_b8, cells_slice, cells_ptr, cells_agg, List.size_toArray, List.length_cons, List.length_nil, place, List.take_succ_cons, List.take_zero, List.drop_succ_cons, List.drop_zero, List.cons_append, List.nil_append, and_self, and_true, true_and, Nat.reduceLeDiff, List.toList_toArray, wr64, wru64, wru8, Nat.reduceEqDiff, ↓reduceIte, Nat.reduceAdd, Has, and_true, Int.natCast_add, Int.cast_ofNat_Int])
    · rw [show l.length + 2 - (k + 1) = l.length + 1 - k by omega]
      exact hS
  · obtain rfl : k = l.length := by omega
    rw [List.take_of_length_le (by omega), show l.length + 2 - l.length = 2 by omega, List.append_assoc] at hS
    repeat' (first | ((with_reducible apply WL_p); (· exact evk)) | (with_reducible first | refine WL_nil ?_ | refine then_normal ?_ | refine blk_normal ?_ | refine WC_seq ?_ | refine WC_reg ?_ | refine WC_block ?_ | refine WC_skip ?_ | refine WC_exit ?_ | refine then_exit ?_ | refine blk_hit ?_ | refine blk_miss (by decide) ?_ | refine WC_ret ?_ | refine then_ret ?_ | refine blk_ret ?_) | (first | ((with_reducible apply WL_split); (· exact evk)) | ((with_reducible apply WC_dec); (· exact evk)) | ((with_reducible apply WL_splitB); (· exact evk)) | ((with_reducible apply WC_bool); (· exact evk)) | ((with_reducible intro hh) <;> (try (exfalso; omega)))))
    refine WL_p (slcB (by exact evk) (by exact evk) (by omega)) ?_
    have hlend : ∀ {a w' : World} {F : Blks}, St a [] w' ((bk, Blk 5 (rl.map b8 ++ (List.replicate 2 (b8 85) ++ sp))) :: F) → Reads w' [] 1 (.slice (some ⟨bk, 0, none⟩) l.length cap) rl.length (rl.map b8) := by
      intro a w' F h'
      rw [hrl]
      exact St.lend (Oc := []) (F := (bk, Blk 5 (rl.map b8 ++ (List.replicate 2 (b8 85) ++ sp))) :: F) h' (T := 5) (sp := List.replicate 2 (b8 85) ++ sp) List.mem_cons_self (by simp [hrl]) hfit
    refine WL_decM hS (by exact evk) (c17 rl _ ⟨_, _, _, rfl, by omega⟩ _ (hlend hS)) ?_
    clear hS
    intro v1 L1 w r1 hS
    have hdl := decM_len rl
    obtain ⟨mm', vs', at1', e1', hdq'⟩ : ∃ mm vs at1 e1, decM rl = ((mm, vs), at1, e1) := ⟨_, _, _, _, rfl⟩
    rw [hdq'] at r1 hdl ⊢
    dsimp only at r1 hdl ⊢
    (simp only [List.cons_append, List.append_assoc, List.nil_append] at hS)
    repeat' (first | ((with_reducible apply WL_p); (· exact evk)) | (with_reducible first | refine WL_nil ?_ | refine then_normal ?_ | refine blk_normal ?_ | refine WC_seq ?_ | refine WC_reg ?_ | refine WC_block ?_ | refine WC_skip ?_ | refine WC_exit ?_ | refine then_exit ?_ | refine blk_hit ?_ | refine blk_miss (by decide) ?_ | refine WC_ret ?_ | refine then_ret ?_ | refine blk_ret ?_))
    refine WL_storeF (vs := mm'.cells v1) hS (by exact evk) (by exact evk) rfl hz1 (Ms.ones _ r1.one) upp ?_
    clear hS
    intro w hS
    repeat' (first | ((with_reducible apply WL_p); (· exact evk)) | (with_reducible first | refine WL_nil ?_ | refine then_normal ?_ | refine blk_normal ?_ | refine WC_seq ?_ | refine WC_reg ?_ | refine WC_block ?_ | refine WC_skip ?_ | refine WC_exit ?_ | refine then_exit ?_ | refine blk_hit ?_ | refine blk_miss (by decide) ?_ | refine WC_ret ?_ | refine then_ret ?_ | refine blk_ret ?_))
    refine WL_p (slcB (by exact evk) (by exact evk) (by omega)) ?_
    refine WL_append (M := (bk, Blk 5 (rl.map b8 ++ (List.replicate 2 (b8 85) ++ sp))) :: (b4, Blk 33 (mm'.cells v1)) :: (b7, Blk 33 z2) :: L1) (L := []) (F := []) (by simpa using hS) el36 (by exact evk) (by exact evk) (RowIs.nil 5 1) (Src.of_reads (hlend hS) (b8_one rl) Try.underlying36) (by omega) (by omega) ?_
    clear hS
    intro va w La ra hS
    simp only [List.nil_append, List.append_nil, Nat.zero_add, List.cons_append] at ra hS
    repeat' (first | ((with_reducible apply WL_p); (· exact evk)) | (with_reducible first | refine WL_nil ?_ | refine then_normal ?_ | refine blk_normal ?_ | refine WC_seq ?_ | refine WC_reg ?_ | refine WC_block ?_ | refine WC_skip ?_ | refine WC_exit ?_ | refine then_exit ?_ | refine blk_hit ?_ | refine blk_miss (by decide) ?_ | refine WC_ret ?_ | refine then_ret ?_ | refine blk_ret ?_))
    refine WL_decM hS (by exact evk) (c27 rl _ ra.capOk _ (ra.rd hS subAll (by omega))) ?_
    clear hS
    intro v2 L2 w r2 hS
    rw [hdq'] at r2 ⊢
    dsimp only at r2 ⊢
    (simp only [List.cons_append, List.append_assoc, List.nil_append] at hS)
    repeat' (first | ((with_reducible apply WL_p); (· exact evk)) | (with_reducible first | refine WL_nil ?_ | refine then_normal ?_ | refine blk_normal ?_ | refine WC_seq ?_ | refine WC_reg ?_ | refine WC_block ?_ | refine WC_skip ?_ | refine WC_exit ?_ | refine then_exit ?_ | refine blk_hit ?_ | refine blk_miss (by decide) ?_ | refine WC_ret ?_ | refine then_ret ?_ | refine blk_ret ?_))
    refine WL_storeF (vs := mm'.cells v2) hS (by exact evk) (by exact evk) rfl hz2 (Ms.ones _ r2.one) upp ?_
    clear hS
    intro w hS
    repeat' (first | ((with_reducible apply WL_p); (· exact kYf1)) | ((with_reducible apply WL_do); (· exact evd)) | ((with_reducible apply WL_no); (· exact evd)) | (with_reducible first | refine WL_nil ?_ | refine then_normal ?_ | refine blk_normal ?_ | refine WC_seq ?_ | refine WC_reg ?_ | refine WC_block ?_ | refine WC_skip ?_ | refine WC_exit ?_ | refine then_exit ?_ | refine blk_hit ?_ | refine blk_miss (by decide) ?_ | refine WC_ret ?_ | refine then_ret ?_ | refine blk_ret ?_))
    refine WL_loadF hS (by exact evk) inn rfl ?_
    repeat' (first | ((with_reducible apply WL_p); (· exact kYf1)) | ((with_reducible apply WL_do); (· exact evd)) | ((with_reducible apply WL_no); (· exact evd)) | (with_reducible first | refine WL_nil ?_ | refine then_normal ?_ | refine blk_normal ?_ | refine WC_seq ?_ | refine WC_reg ?_ | refine WC_block ?_ | refine WC_skip ?_ | refine WC_exit ?_ | refine then_exit ?_ | refine blk_hit ?_ | refine blk_miss (by decide) ?_ | refine WC_ret ?_ | refine then_ret ?_ | refine blk_ret ?_))
    refine WL_loadF hS (by exact evk) inn rfl ?_
    repeat' (first | ((with_reducible apply WL_p); (· exact kYf1)) | ((with_reducible apply WL_do); (· exact evd)) | ((with_reducible apply WL_no); (· exact evd)) | ((with_reducible apply WC_true); (· exact evk)) | ((with_reducible apply WC_false); (· exact evk)) | (with_reducible first | refine WL_nil ?_ | refine then_normal ?_ | refine blk_normal ?_ | refine WC_seq ?_ | refine WC_reg ?_ | refine WC_block ?_ | refine WC_skip ?_ | refine WC_exit ?_ | refine then_exit ?_ | refine blk_hit ?_ | refine blk_miss (by decide) ?_ | refine WC_ret ?_ | refine then_ret ?_ | refine blk_ret ?_) | ((with_reducible apply WL_callq hS); (· exact evk); (· first | exact c29 mm' vs' _ _ _ (r1.rdL hS subAll (by omega)) (r2.rdL hS subAll (by omega))); (clear hS; intro w hS)))
    exact retq (hS.sub (List.nil_sublist _)) (v := .bool true) rfl rfl
end Go.Proofs.Ytohmgkcdjapinaa.Lw
namespace Go.Proofs.Ytohmgkcdjapinaa.Lw
abbrev R4_0 : List LOper := [⟨some 2, none, .pv (.move (.const (.bool false)))⟩]
abbrev R4_1 : List LOper := [⟨some 3, none, .call 9 []⟩, ⟨some 4, none, .pv (.move (.tmp 3))⟩, ⟨some 5, (some (4, true)), .pv (.move (.tmp 0))⟩, ⟨some 6, (some (4, true)), .call 11 [(.tmp 5)]⟩, ⟨some 7, none, .pv (.pick (.tmp 4) (.tmp 6) (.const (.bool false)))⟩, ⟨some 2, none, .pv (.move (.tmp 7))⟩]
abbrev L4 : LFun := ⟨8, [(.tmp 2)], (.seq (.reg R4_0) (.seq (.reg R4_1) .ret))⟩
theorem low4 : lowFn Try.prog Try.f4 = some L4 := by kernel_rfl

abbrev R5_0 : List LOper := [⟨some 2, none, .newv 39 (.tmp 0)⟩, ⟨some 4, none, .pv (.move (.const (.bool false)))⟩]
abbrev R5_1 : List LOper := [⟨some 5, none, .call 9 []⟩, ⟨some 6, none, .pv (.move (.tmp 5))⟩, ⟨some 7, (some (6, true)), .loadN 5 (.tmp 2)⟩, ⟨some 8, (some (6, true)), .pv (.move (.tmp 1))⟩, ⟨some 9, (some (6, true)), .call 12 [(.tmp 7), (.tmp 8)]⟩, ⟨some 10, none, .pv (.pick (.tmp 6) (.tmp 9) (.const (.bool false)))⟩, ⟨some 4, none, .pv (.move (.tmp 10))⟩]
abbrev L5 : LFun := ⟨11, [(.tmp 4)], (.seq (.reg R5_0) (.seq (.reg R5_1) .ret))⟩
theorem low5 : lowFnG false Try.prog Try.f5 = some L5 := by kernel_rfl

abbrev R6_0 : List LOper := [⟨some 4, none, .newv 27 (.tmp 0)⟩, ⟨some 5, none, .newv 29 (.tmp 1)⟩, ⟨some 6, none, .newv 42 (.tmp 2)⟩, ⟨some 8, none, .pv (.move (.const (.bool false)))⟩]
abbrev R6_1 : List LOper := [⟨some 9, none, .call 9 []⟩, ⟨some 10, none, .pv (.move (.tmp 9))⟩, ⟨some 11, (some (10, true)), .loadN 2 (.tmp 4)⟩, ⟨some 12, (some (10, true)), .loadN 4 (.tmp 5)⟩, ⟨some 13, (some (10, true)), .pv (.move (.tmp 3))⟩, ⟨some 14, (some (10, true)), .call 13 [(.tmp 11), (.tmp 12), (.tmp 13)]⟩, ⟨some 15, none, .pv (.pick (.tmp 10) (.tmp 14) (.const (.bool false)))⟩, ⟨some 16, none, .pv (.move (.tmp 15))⟩, ⟨some 17, (some (16, true)), .loadN 4 (.tmp 6)⟩, ⟨some 18, (some (16, true)), .pv (.move (.tmp 3))⟩, ⟨some 19, (some (16, true)), .call 14 [(.tmp 17), (.tmp 18)]⟩, ⟨some 20, none, .pv (.pick (.tmp 16) (.tmp 19) (.const (.bool false)))⟩, ⟨some 8, none, .pv (.move (.tmp 20))⟩]
abbrev L6 : LFun := ⟨21, [(.tmp 8)], (.seq (.reg R6_0) (.seq (.reg R6_1) .ret))⟩
theorem low6 : lowFnG false Try.prog Try.f6 = some L6 := by kernel_rfl

set_option maxRecDepth 8000 in
theorem law4 (l : List UInt8) (bv : Value) (hcap : CapOk bv) (w : World) (hR : Reads w [] 1 bv l.length (l.map b8)) : Quiet Try.prog 4 #[bv] w (.bool true) := by
  obtain ⟨A, c, rfl, _⟩ := hR.slc
  refine enterF (args := [.slice A l.length c]) Try.func4 low4 rfl ?_; have hS := St.start w; dsimp only [L4, envL, Nat.reduceAdd]
  repeat' (first | ((with_reducible apply WL_p); (· exact evk)) | ((with_reducible apply WL_do); (· exact evd)) | ((with_reducible apply WL_no); (· exact evd)) | (with_reducible first | refine WL_nil ?_ | refine then_normal ?_ | refine blk_normal ?_ | refine WC_seq ?_ | refine WC_reg ?_ | refine WC_block ?_ | refine WC_skip ?_ | refine WC_exit ?_ | refine then_exit ?_ | refine blk_hit ?_ | refine blk_miss (by decide) ?_ | refine WC_ret ?_ | refine then_ret ?_ | refine blk_ret ?_) | ((with_reducible apply WL_callq hS); (· exact evk); (· first | exact c9 _); (clear hS; intro w hS)) | ((with_reducible apply WL_callq hS); (· exact evk); (· first | exact c11 l _ hcap _ (hS.reads0 hR)); (clear hS; intro w hS)))
  exact retq hS (v := .bool true) rfl rfl
set_option maxRecDepth 8000 in
theorem law5 (f t s a : Int) (ds : List UInt8) (dv : Value) (l : List UInt8) (bv : Value) (hcap : CapOk bv) (w : World) (hD : Reads w [] 1 dv ds.length (ds.map b8)) (hR : Reads w [] 1 bv l.length (l.map b8)) :
    Quiet Try.prog 5 #[.agg #[.int .i64 f, .int .i64 t, .int .i64 s, .int .i64 a, dv], bv] w (.bool true) := by
  obtain ⟨A, c, rfl, _⟩ := hR.slc
  obtain ⟨A', c', rfl, _⟩ := hD.slc
  refine enterF (args := [.agg #[.int .i64 f, .int .i64 t, .int .i64 s, .int .i64 a, .slice A' ds.length c'], .slice A l.length c]) Try.func5 low5 rfl ?_; have hS := St.start w; dsimp only [L5, envL, Nat.reduceAdd]
  repeat' (first | ((with_reducible apply WL_p); (· exact evk)) | ((with_reducible apply WL_do); (· exact evd)) | ((with_reducible apply WL_no); (· exact evd)) | (with_reducible first | refine WL_nil ?_ | refine then_normal ?_ | refine blk_normal ?_ | refine WC_seq ?_ | refine WC_reg ?_ | refine WC_block ?_ | refine WC_skip ?_ | refine WC_exit ?_ | refine then_exit ?_ | refine blk_hit ?_ | refine blk_miss (by decide) ?_ | refine WC_ret ?_ | refine then_ret ?_ | refine blk_ret ?_) | ((first | (with_reducible apply WL_newz hS) | ((with_reducible apply WL_newv hS); (· exact evk); (· rfl)) | ((with_reducible apply WL_row hS); (· exact evk))); clear hS; intro bq w hS hbq; (try simp only [List.nil_append, List.cons_append, List.append_assoc] at hS)) | ((with_reducible apply WL_loadN hS); (· exact evk); (· exact inn); (· ((simp only [List.drop_succ_cons, List.drop_zero, List.take_succ_cons, List.take_zero]) <;> rfl)); (· rfl)) | ((with_reducible apply WL_callq hS); (· exact evk); (· first | exact c9 _); (clear hS; intro w hS)) | ((with_reducible apply WL_callq hS); (· exact evk); (· first | exact c12 f t s a ds _ l _ hcap _ (hS.reads0 hD) (hS.reads0 hR)); (clear hS; intro w hS)))
  exact retq hS (v := .bool true) rfl rfl
set_option maxRecDepth 8000 in
theorem law6 (s i k : Int) (nm : List UInt8) (a b : Int) (ha : I64 a) (hb : I64 b) (hl : nm.length ≤ 140737488351232) (s' i' er x : Int) (hx : I64 x) (l : List UInt8) (bv : Value) (hcap : CapOk bv) (w : World) (hR : Reads w [] 1 bv l.length (l.map b8)) :
    Quiet Try.prog 6 #[.agg #[.int .i64 s, .int .i64 i], .agg #[.int .i64 k, Lw.S nm, .int .i64 a, .int .i64 b], .agg #[.int .i64 s', .int .i64 i', .int .i64 er, .int .i64 x], bv] w (.bool true) := by
  obtain ⟨A, c, rfl, _⟩ := hR.slc
  refine enterF (args := [.agg #[.int .i64 s, .int .i64 i], .agg #[.int .i64 k, Lw.S nm, .int .i64 a, .int .i64 b], .agg #[.int .i64 s', .int .i64 i', .int .i64 er, .int .i64 x], .slice A l.length c]) Try.func6 low6 rfl ?_; have hS := St.start w; dsimp only [L6, envL, Nat.reduceAdd]
  repeat' (first | ((with_reducible apply WL_p); (· exact evk)) | ((with_reducible apply WL_do); (· exact evd)) | ((with_reducible apply WL_no); (· exact evd)) | (with_reducible first | refine WL_nil ?_ | refine then_normal ?_ | refine blk_normal ?_ | refine WC_seq ?_ | refine WC_reg ?_ | refine WC_block ?_ | refine WC_skip ?_ | refine WC_exit ?_ | refine then_exit ?_ | refine blk_hit ?_ | refine blk_miss (by decide) ?_ | refine WC_ret ?_ | refine then_ret ?_ | refine blk_ret ?_) | ((first | (with_reducible apply WL_newz hS) | ((with_reducible apply WL_newv hS); (· exact evk); (· rfl)) | ((with_reducible apply WL_row hS); (· exact evk))); clear hS; intro bq w hS hbq; (try simp only [List.nil_append, List.cons_append, List.append_assoc] at hS)) | ((with_reducible apply WL_loadN hS); (· exact evk); (· exact inn); (· ((simp only [List.drop_succ_cons, List.drop_zero, List.take_succ_cons, List.take_zero]) <;> rfl)); (· rfl)) | ((with_reducible apply WL_callq hS); (· exact evk); (· first | exact c9 _); (clear hS; intro w hS)) | ((with_reducible apply WL_callq hS); (· exact evk); (· first | exact c13 s i k nm a b ha hb hl l _ hcap _ (hS.reads0 hR)); (clear hS; intro w hS)) | ((with_reducible apply WL_callq hS); (· exact evk); (· first | exact c14 s' i' er x hx l _ hcap _ (hS.reads0 hR)); (clear hS; intro w hS)))
  exact retq hS (v := .bool true) rfl rfl
end Go.Proofs.Ytohmgkcdjapinaa.Lw
namespace Go.Proofs.Ytohmgkcdjapinaa.Lw
theorem kYh0 {p : Prop} (h : p := by ((simp (disch := omega) only [ev_tmp, ev_const, ev_func, ev_global, upd_app, val_move, val_pick, pickV_true, pickV_false, pickV_bool, val_nilck, nilckV_ptr, val_bin, bin_add, bin_sub, bin_mul, bin_eql, bin_neq, bin_lss, bin_leq, bin_gtr, bin_geq, bin_seql, bin_sneq, bin_slss, bin_sleq, bin_sgtr, bin_sgeq, val_beq, beqV_f, beqV_t, val_seq, val_not, notV_bool, val_toInt, toIntV_int, val_off, offV_ptr, val_len, lenV_slice, val_slen, slenV_S, val_ext, extV_tup, val_ifc, val_fn, List.getElem?_cons_zero, List.getElem?_cons_succ, List.map_cons, List.map_nil, eq_self, Bool.false_eq_true, Bool.not_true, Bool.not_false, Option.map_some, Nat.zero_add, isB_bool, isB_undef, Bool.true_beq, Bool.false_beq, beq_self_eq_true, Bool.true_and, Bool.and_true, Bool.false_and, Bool.and_false, Bool.true_or, Bool.or_true, Bool.false_or, Bool.or_false, not_dec, and_dec, or_dec, seqV_f, seqV_t, ceq_i, ceq_s, ceq_nil, val_bld, bldV, cells_int, cells_bool, cells_S, cells_b8, cells_slice, cells_ptr, cells_agg, List.size_toArray, List.length_cons, List.length_nil, place, List.take_succ_cons, List.take_zero, List.drop_succ_cons, List.drop_zero, List.cons_append, List.nil_append, and_self, and_true, true_and, Nat.reduceLeDiff, List.toList_toArray, wr64, wru64, wru8, Nat.reduceEqDiff, ↓reduceIte, Nat.reduceAdd, dv, bne_self_eq_false, deq, dne, dT, dNT]) <;> rfl)) : p := h
theorem kYh1 {p : Prop} (h : p := by ((simp (disch := omega) only [ev_tmp, ev_const, ev_func, ev_global, upd_app, val_move, val_pick, pickV_true, pickV_false, pickV_bool, val_nilck, nilckV_ptr, val_bin, bin_add, bin_sub, bin_mul, bin_eql, bin_neq, bin_lss, bin_leq, bin_gtr, bin_geq, bin_seql, bin_sneq, bin_slss, bin_sleq, bin_sgtr, bin_sgeq, val_beq, beqV_f, beqV_t, val_seq, val_not, notV_bool, val_toInt, toIntV_int, val_off, offV_ptr, val_len, lenV_slice, val_slen, slenV_S, val_ext, extV_tup, val_ifc, val_fn, List.getElem?_cons_zero, List.getElem?_cons_succ, List.map_cons, List.map_nil, eq_self, Bool.false_eq_true, Bool.not_true, Bool.not_false, Option.map_some, Nat.zero_add, isB_bool, isB_undef, Bool.true_beq, Bool.false_beq, beq_self_eq_true, Bool.true_and, Bool.and_true, Bool.false_and, Bool.and_false, Bool.true_or, Bool.or_true, Bool.false_or, Bool.or_false, not_dec, and_dec, or_dec, seqV_f, seqV_t, ceq_i, ceq_s, ceq_nil, val_bld, bldV, cells_int, cells_bool, cells_S, cells_b8, cells_slice, cells_ptr, cells_agg, List.size_toArray, List.length_cons, List.length_nil, place, List.take_succ_cons, List.take_zero, List.drop_succ_cons, List.drop_zero, List.cons_append, List.nil_append, and_self, and_true, true_and, Nat.reduceLeDiff, List.toList_toArray, wr64, wru64, wru8, Nat.reduceEqDiff, ↓reduceIte, Nat.reduceAdd, dv, bne_self_eq_false, deq, dne, dT, dNT]) <;> fail)) : p := h
theorem kYh2 {p : Prop} (h : p := by ((simp (disch := omega) only [ev_tmp, ev_const, ev_func, ev_global, upd_app, val_move, val_pick, pickV_true, pickV_false, pickV_bool, val_nilck, nilckV_ptr, val_bin, bin_add, bin_sub, bin_mul, bin_eql, bin_neq, bin_lss, bin_leq, bin_gtr, bin_geq, bin_seql, bin_sneq, bin_slss, bin_sleq, bin_sgtr, bin_sgeq, val_beq, beqV_f, beqV_t, val_seq, val_not, notV_bool, val_toInt, toIntV_int, val_off, offV_ptr, val_len, lenV_slice, val_slen, slenV_S, val_ext, extV_tup, val_ifc, val_fn, List.getElem?_cons_zero, List.getElem?_cons_succ, List.map_cons, List.map_nil, eq_self, Bool.false_eq_true, Bool.not_true, Bool.not_false, Option.map_some, Nat.zero_add, isB_bool, isB_undef, Bool.true_beq, Bool.false_beq, beq_self_eq_true, Bool.true_and, Bool.and_true, Bool.false_and, Bool.and_false, Bool.true_or, Bool.or_true, Bool.false_or, Bool.or_false, not_dec, and_dec, or_dec, seqV_f, seqV_t, ceq_i, ceq_s, ceq_nil, val_bld, bldV, cells_int, cells_bool, cells_S, cells_b8, cells_slice, cells_ptr, cells_agg, List.size_toArray, List.length_cons, List.length_nil, place, List.take_succ_cons, List.take_zero, List.drop_succ_cons, List.drop_zero, List.cons_append, List.nil_append, and_self, and_true, true_and, Nat.reduceLeDiff, List.toList_toArray, wr64, wru64, wru8, Nat.reduceEqDiff, ↓reduceIte, Nat.reduceAdd, Has, and_true, Int.natCast_add, Int.cast_ofNat_Int]) <;> fail)) : p := h
theorem kYh3 {p : Prop} (h : p := by ((simp (disch := omega) only [ev_tmp, ev_const, ev_func, ev_global, upd_app, val_move, val_pick, pickV_true, pickV_false, pickV_bool, val_nilck, nilckV_ptr, val_bin, bin_add, bin_sub, bin_mul, bin_eql, bin_neq, bin_lss, bin_leq, bin_gtr, bin_geq, bin_seql, bin_sneq, bin_slss, bin_sleq, bin_sgtr, bin_sgeq, val_beq, beqV_f, beqV_t, val_seq, val_not, notV_bool, val_toInt, toIntV_int, val_off, offV_ptr, val_len, lenV_slice, val_slen, slenV_S, val_ext, extV_tup, val_ifc, val_fn, List.getElem?_cons_zero, List.getElem?_cons_succ, List.map_cons, List.map_nil, eq_self, Bool.false_eq_true, Bool.not_true, Bool.not_false, Option.map_some, Nat.zero_add, isB_bool, isB_undef, Bool.true_beq, Bool.false_beq, beq_self_eq_true, Bool.true_and, Bool.and_true, Bool.false_and, Bool.and_false, Bool.true_or, Bool.or_true, Bool.false_or, Bool.or_false, not_dec, and_dec, or_dec, seqV_f, seqV_t, ceq_i, ceq_s, ceq_nil, val_bld, bldV, cells_int, cells_bool, cells_S, cells_b8, cells_slice, cells_ptr, cells_agg, List.size_toArray, List.length_cons, List.length_nil, place, List.take_succ_cons, List.take_zero, List.drop_succ_cons, List.drop_zero, List.cons_append, List.nil_append, and_self, and_true, true_and, Nat.reduceLeDiff, List.toList_toArray, wr64, wru64, wru8, Nat.reduceEqDiff, ↓reduceIte, Nat.reduceAdd, dT]) <;> rfl)) : p := h
theorem kYh4 {p : Prop} (h : p := by ((simp (disch := omega) only [ev_tmp, ev_const, ev_func, ev_global, upd_app, val_move, val_pick, pickV_true, pickV_false, pickV_bool, val_nilck, nilckV_ptr, val_bin, bin_add, bin_sub, bin_mul, bin_eql, bin_neq, bin_lss, bin_leq, bin_gtr, bin_geq, bin_seql, bin_sneq, bin_slss, bin_sleq, bin_sgtr, bin_sgeq, val_beq, beqV_f, beqV_t, val_seq, val_not, notV_bool, val_toInt, toIntV_int, val_off, offV_ptr, val_len, lenV_slice, val_slen, slenV_S, val_ext, extV_tup, val_ifc, val_fn, List.getElem?_cons_zero, List.getElem?_cons_succ, List.map_cons, List.map_nil, eq_self, Bool.false_eq_true, Bool.not_true, Bool.not_false, Option.map_some, Nat.zero_add, isB_bool, isB_undef, Bool.true_beq, Bool.false_beq, beq_self_eq_true, Bool.true_and, Bool.and_true, Bool.false_and, Bool.and_false, Bool.true_or, Bool.or_true, Bool.false_or, Bool.or_false, not_dec, and_dec, or_dec, seqV_f, seqV_t, ceq_i, ceq_s, ceq_nil, val_bld, bldV, cells_int, cells_bool, cells_S, cells_b8, cells_slice, cells_ptr, cells_agg, List.size_toArray, List.length_cons, List.length_nil, place, List.take_succ_cons, List.take_zero, List.drop_succ_cons, List.drop_zero, List.cons_append, List.nil_append, and_self, and_true, true_and, Nat.reduceLeDiff, List.toList_toArray, wr64, wru64, wru8, Nat.reduceEqDiff, ↓reduceIte, Nat.reduceAdd, bin_xor]) <;> rfl)) : p := h
theorem kYh5 {p : Prop} (h : p := by ((simp (disch := omega) only [ev_tmp, ev_const, ev_func, ev_global, upd_app, val_move, val_pick, pickV_true, pickV_false, pickV_bool, val_nilck, nilckV_ptr, val_bin, bin_add, bin_sub, bin_mul, bin_eql, bin_neq, bin_lss, bin_leq, bin_gtr, bin_geq, bin_seql, bin_sneq, bin_slss, bin_sleq, bin_sgtr, bin_sgeq, val_beq, beqV_f, beqV_t, val_seq, val_not, notV_bool, val_toInt, toIntV_int, val_off, offV_ptr, val_len, lenV_slice, val_slen, slenV_S, val_ext, extV_tup, val_ifc, val_fn, List.getElem?_cons_zero, List.getElem?_cons_succ, List.map_cons, List.map_nil, eq_self, Bool.false_eq_true, Bool.not_true, Bool.not_false, Option.map_some, Nat.zero_add, isB_bool, isB_undef, Bool.true_beq, Bool.false_beq, beq_self_eq_true, Bool.true_and, Bool.and_true, Bool.false_and, Bool.and_false, Bool.true_or, Bool.or_true, Bool.false_or, Bool.or_false, not_dec, and_dec, or_dec, seqV_f, seqV_t, ceq_i, ceq_s, ceq_nil, val_bld, bldV, cells_int, cells_bool, cells_S, cells_b8, cells_slice, cells_ptr, cells_agg, List.size_toArray, List.length_cons, List.length_nil, place, List.take_succ_cons, List.take_zero, List.drop_succ_cons, List.drop_zero, List.cons_append, List.nil_append, and_self, and_true, true_and, Nat.reduceLeDiff, List.toList_toArray, wr64, wru64, wru8, Nat.reduceEqDiff, ↓reduceIte, Nat.reduceAdd, dv, bne_self_eq_false, beq_self_eq_true, deq, dne, dT, dNT]) <;> rfl)) : p := h
abbrev R10_0 : List LOper := [⟨some 1, none, .newv 33 (.tmp 0)⟩, ⟨some 2, none, .pv (.move (.const (.bool false)))⟩]
abbrev R10_1 : List LOper := [⟨some 13, none, .loadN 20 (.tmp 1)⟩, ⟨some 3, none, .newz 33 [(.int .i64 0), (S []), (.int .i64 0), (.int .i64 0), (.int .i64 0), (.int .i64 0), (.int .i64 0), (.int .i64 0), (.int .i64 0), (.int .i64 0), (.int .i64 0), (.int .i64 0), (.int .i64 0), (.int .i64 0), (S []), (.int .i64 0), (.int .i64 0), (.int .i64 0), (.int .i64 0), (.slice none 0 0)]⟩, ⟨none, none, .store 20 (.tmp 3) (.tmp 13)⟩]
abbrev R10_2 : List LOper := [⟨some 14, none, .pv (.off (.tmp 1) 19)⟩, ⟨some 15, none, .load (.tmp 14)⟩, ⟨some 16, none, .call 23 [(.tmp 15)]⟩, ⟨some 4, none, .pv (.move (.tmp 16))⟩]
abbrev R10_3 : List LOper := [⟨some 17, none, .pv (.off (.tmp 1) 19)⟩, ⟨some 18, none, .load (.tmp 17)⟩, ⟨some 19, none, .pv (.len (.tmp 18))⟩, ⟨some 5, none, .pv (.move (.tmp 19))⟩]
abbrev R10_4 : List LOper := [⟨some 20, none, .pv (.move (.tmp 4))⟩, ⟨some 21, none, .pv (.move (.tmp 5))⟩, ⟨some 22, none, .pv (.slc 7 (.tmp 20) none (some (.tmp 21)))⟩, ⟨some 23, none, .pv (.off (.tmp 3) 19)⟩, ⟨none, none, .store 1 (.tmp 23) (.tmp 22)⟩]
abbrev R10_5 : List LOper := [⟨some 24, none, .loadN 20 (.tmp 3)⟩, ⟨some 25, none, .call 22 [(.tmp 24)]⟩, ⟨some 6, none, .pv (.move (.tmp 25))⟩]
abbrev R10_6 : List LOper := [⟨some 27, none, .loadN 20 (.tmp 3)⟩, ⟨some 28, none, .call 16 [(.tmp 27)]⟩, ⟨some 26, none, .pv (.move (.tmp 28))⟩, ⟨some 29, none, .pv (.ext (.tmp 26) 0)⟩, ⟨some 30, none, .pv (.ext (.tmp 26) 1)⟩, ⟨some 7, none, .pv (.move (.tmp 29))⟩, ⟨some 8, none, .pv (.move (.tmp 30))⟩]
abbrev R10_7 : List LOper := [⟨some 32, none, .loadN 20 (.tmp 1)⟩, ⟨some 33, none, .call 24 [(.tmp 32)]⟩, ⟨some 31, none, .pv (.move (.tmp 33))⟩, ⟨some 34, none, .pv (.ext (.tmp 31) 0)⟩, ⟨some 35, none, .pv (.ext (.tmp 31) 1)⟩, ⟨some 9, none, .pv (.move (.tmp 34))⟩, ⟨some 10, none, .pv (.move (.tmp 35))⟩]
abbrev R10_8 : List LOper := [⟨some 2, none, .pv (.move (.const (.bool false)))⟩]
abbrev R10_9 : List LOper := [⟨some 11, none, .pv (.move (.const (.int .i64 0)))⟩]
abbrev R10_10 : List LOper := [⟨some 68, none, .pv (.move (.tmp 11))⟩, ⟨some 69, none, .pv (.move (.tmp 5))⟩, ⟨some 70, none, .pv (.bin .lss (.tmp 68) (.tmp 69))⟩]
abbrev R10_11 : List LOper := [⟨some 73, none, .pv (.move (.tmp 4))⟩, ⟨some 74, none, .pv (.move (.tmp 11))⟩, ⟨some 75, none, .pv (.move (.tmp 4))⟩, ⟨some 76, none, .pv (.move (.tmp 11))⟩, ⟨some 77, none, .pv (.idx 7 (.tmp 75) (.tmp 76))⟩, ⟨some 78, none, .pv (.off (.tmp 77) 6)⟩, ⟨some 79, none, .load (.tmp 78)⟩, ⟨some 80, none, .pv (.bin .xor (.tmp 79) (.const (.int .i64 1)))⟩, ⟨some 81, none, .pv (.idx 7 (.tmp 73) (.tmp 74))⟩, ⟨some 82, none, .pv (.off (.tmp 81) 6)⟩, ⟨none, none, .store 1 (.tmp 82) (.tmp 80)⟩]
abbrev R10_12 : List LOper := [⟨some 71, none, .pv (.move (.tmp 11))⟩, ⟨some 72, none, .pv (.bin .add (.tmp 71) (.const (.int .i64 1)))⟩, ⟨some 11, none, .pv (.move (.tmp 72))⟩]
abbrev R10_13 : List LOper := [⟨some 83, none, .loadN 20 (.tmp 1)⟩, ⟨some 12, none, .newz 33 [(.int .i64 0), (S []), (.int .i64 0), (.int .i64 0), (.int .i64 0), (.int .i64 0), (.int .i64 0), (.int .i64 0), (.int .i64 0), (.int .i64 0), (.int .i64 0), (.int .i64 0), (.int .i64 0), (.int .i64 0), (S []), (.int .i64 0), (.int .i64 0), (.int .i64 0), (.int .i64 0), (.slice none 0 0)]⟩, ⟨none, none, .store 20 (.tmp 12) (.tmp 83)⟩]
abbrev R10_14 : List LOper := [⟨some 84, none, .pv (.move (.tmp 4))⟩, ⟨some 85, none, .pv (.move (.tmp 5))⟩, ⟨some 86, none, .pv (.slc 7 (.tmp 84) none (some (.tmp 85)))⟩, ⟨some 87, none, .raw 31 (.call (.mk (.builtin .append) #[(.const (.slice none 0 0)), (.tmp 86)] #[31, 31]))⟩, ⟨some 88, none, .pv (.off (.tmp 12) 19)⟩, ⟨none, none, .store 1 (.tmp 88) (.tmp 87)⟩]
abbrev R10_15 : List LOper := [⟨some 90, none, .loadN 20 (.tmp 3)⟩, ⟨some 91, none, .call 16 [(.tmp 90)]⟩, ⟨some 89, none, .pv (.move (.tmp 91))⟩, ⟨some 92, none, .pv (.ext (.tmp 89) 0)⟩, ⟨some 93, none, .pv (.ext (.tmp 89) 1)⟩, ⟨some 7, none, .pv (.move (.tmp 92))⟩, ⟨some 8, none, .pv (.move (.tmp 93))⟩]
abbrev R10_16 : List LOper := [⟨some 95, none, .loadN 20 (.tmp 12)⟩, ⟨some 96, none, .call 24 [(.tmp 95)]⟩, ⟨some 94, none, .pv (.move (.tmp 96))⟩, ⟨some 97, none, .pv (.ext (.tmp 94) 0)⟩, ⟨some 98, none, .pv (.ext (.tmp 94) 1)⟩, ⟨some 9, none, .pv (.move (.tmp 97))⟩, ⟨some 10, none, .pv (.move (.tmp 98))⟩]
abbrev R10_17 : List LOper := [⟨some 99, none, .pv (.move (.tmp 8))⟩, ⟨some 100, none, .pv (.move (.tmp 10))⟩, ⟨some 101, none, .pv (.bin .eql (.tmp 99) (.tmp 100))⟩, ⟨some 102, none, .pv (.move (.tmp 101))⟩, ⟨some 103, (some (102, true)), .pv (.move (.tmp 7))⟩, ⟨some 104, (some (102, true)), .pv (.move (.tmp 9))⟩, ⟨some 105, (some (102, true)), .call 21 [(.tmp 103), (.tmp 104)]⟩, ⟨some 106, none, .pv (.pick (.tmp 102) (.tmp 105) (.const (.bool false)))⟩, ⟨some 107, none, .pv (.move (.tmp 106))⟩, ⟨some 108, (some (107, true)), .loadN 20 (.tmp 3)⟩, ⟨some 109, (some (107, true)), .call 22 [(.tmp 108)]⟩, ⟨some 110, (some (107, true)), .pv (.move (.tmp 10))⟩, ⟨some 111, (some (107, true)), .pv (.bin .eql (.tmp 110) (.const (.int .i64 0)))⟩, ⟨some 112, (some (107, true)), .pv (.beq false (.tmp 109) (.tmp 111))⟩, ⟨some 113, none, .pv (.pick (.tmp 107) (.tmp 112) (.const (.bool false)))⟩, ⟨some 2, none, .pv (.move (.tmp 113))⟩]
abbrev L10 : LFun := ⟨114, [(.tmp 2)], (.seq (.reg R10_0) (.seq (.reg R10_1) (.seq (.reg R10_2) (.seq (.reg R10_3) (.seq (.reg R10_4) (.seq (.reg R10_5) (.seq (.reg R10_6) (.seq (.reg R10_7) (.seq (.seq (.dreg (.still ⟨some 36, none, .pv (.move (.tmp 6))⟩ (.still ⟨some 37, none, .pv (.move (.tmp 10))⟩ (.still ⟨some 38, none, .pv (.bin .eql (.tmp 37) (.const (.int .i64 0)))⟩ (.still ⟨some 39, none, .pv (.beq true (.tmp 36) (.tmp 38))⟩ (.still ⟨some 40, none, .pv (.move (.tmp 39))⟩ (.still ⟨some 41, (some (40, false)), .pv (.move (.tmp 8))⟩ (.still ⟨some 42, (some (40, false)), .pv (.move (.tmp 10))⟩ (.still ⟨some 43, (some (40, false)), .pv (.bin .neq (.tmp 41) (.tmp 42))⟩ (.still ⟨some 44, none, .pv (.pick (.tmp 40) (.const (.bool true)) (.tmp 43))⟩ (.still ⟨some 45, none, .pv (.move (.tmp 44))⟩ (.still ⟨some 46, (some (45, false)), .pv (.move (.tmp 7))⟩ (.still ⟨some 47, (some (45, false)), .pv (.move (.tmp 9))⟩ (.eff ⟨some 48, (some (45, false)), .call 21 [(.tmp 46), (.tmp 47)]⟩ (.still ⟨some 49, (some (45, false)), .pv (.not (.tmp 48))⟩ (.still ⟨some 50, none, .pv (.pick (.tmp 45) (.const (.bool true)) (.tmp 49))⟩ (.still ⟨some 51, none, .pv (.move (.tmp 50))⟩ (.still ⟨some 52, (some (51, false)), .pv (.move (.tmp 4))⟩ (.still ⟨some 53, (some (51, false)), .pv (.move (.tmp 5))⟩ (.still ⟨some 54, (some (51, false)), .pv (.slc 7 (.tmp 52) none (some (.tmp 53)))⟩ (.still ⟨some 55, (some (51, false)), .pv (.off (.tmp 1) 19)⟩ (.eff ⟨some 56, (some (51, false)), .load (.tmp 55)⟩ (.eff ⟨some 57, (some (51, false)), .call 25 [(.tmp 54), (.tmp 56)]⟩ (.still ⟨some 58, (some (51, false)), .pv (.not (.tmp 57))⟩ (.still ⟨some 59, none, .pv (.pick (.tmp 51) (.const (.bool true)) (.tmp 58))⟩ (.still ⟨some 60, none, .pv (.move (.tmp 59))⟩ (.still ⟨some 61, (some (60, false)), .pv (.move (.tmp 4))⟩ (.still ⟨some 62, (some (60, false)), .pv (.move (.tmp 5))⟩ (.still ⟨some 63, (some (60, false)), .pv (.idx 7 (.tmp 61) (.tmp 62))⟩ (.still ⟨some 64, (some (60, false)), .pv (.off (.tmp 63) 0)⟩ (.eff ⟨some 65, (some (60, false)), .load (.tmp 64)⟩ (.still ⟨some 66, (some (60, false)), .pv (.bin .neq (.tmp 65) (.const (S [109, 97, 114, 107])))⟩ (.still ⟨some 67, none, .pv (.pick (.tmp 60) (.const (.bool true)) (.tmp 66))⟩ .nil))))))))))))))))))))))))))))))))) (.cond (.tmp 67) (.seq (.reg R10_8) .ret) .skip)) (.seq (.seq (.reg R10_9) (.block 0 (.loop (.seq (.seq (.reg R10_10) (.cond (.tmp 70) .skip (.exit 0))) (.seq (.block 1 (.reg R10_11)) (.reg R10_12)))))) (.seq (.reg R10_13) (.seq (.reg R10_14) (.seq (.reg R10_15) (.seq (.reg R10_16) (.seq (.reg R10_17) .ret)))))))))))))))⟩
theorem low10 : lowFnG false Try.prog Try.f10 = some L10 := by kernel_rfl

theorem encE_err (m : Ms) (vs : List Vw) : errOf (encE m vs) = if validB m vs = true then 0 else 21 := by
  unfold encE
  split <;> rfl
theorem viewsE_len {vs : List Vw} (h : ∀ v ∈ vs, v.name.length ≤ 16) : (viewsE vs).length ≤ 10 + 86 * vs.length := by
  have key : (vs.flatMap viewE).length ≤ 86 * vs.length := by
    induction vs with
    | nil => simp
    | cons v vs ih =>
      have h1 := h v List.mem_cons_self
      have h2 := ih fun u hu => h u (List.mem_cons_of_mem _ hu)
      have h3 : (viewE v).length ≤ 86 := by
        have a1 := numsE_len [(v.name.length : Int)]
        have a2 := numsE_len [v.cap, v.recaps, v.ver, v.down, v.up, v.held]
        simp only [viewE, textE, List.length_append, List.length_cons, List.length_nil] at *
        omega
      rw [List.flatMap_cons, List.length_append, List.length_cons]
      omega
  have a1 := numsE_len [(vs.length : Int)]
  simp only [viewsE, List.length_append, List.length_cons, List.length_nil] at *
  omega
theorem encE_len (m : Ms) (vs : List Vw) : (bytesOf (encE m vs)).length ≤ 100000 := by
  unfold encE
  split
  · rename_i h
    obtain ⟨q1, q2, q3, q4⟩ := valid_in h
    have a1 := numsE_len [m.kind]
    have a2 := numsE_len [m.cs, m.ci]
    have a3 := numsE_len [m.opk]
    have a4 := numsE_len [(m.opn.length : Int)]
    have a5 := leb_len (zig m.opa)
    have a6 := leb_len (zig m.opb)
    have a7 := numsE_len [(m.name.length : Int)]
    have a8 := numsE_len [m.err]
    have a9 := numsE_len [m.cap, m.recaps]
    have b1 := numsE_len [m.er, m.ek]
    have b2 := numsE_len [m.or_, m.ok]
    have b3 := numsE_len [m.down, m.up]
    have b4 := numsE_len [m.held]
    simp only [bytesOf, msgE]
    repeat' split
    all_goals (try (have b5 := viewsE_len (q4 (by assumption)).2; have b6 := (q4 (by assumption)).1))
    all_goals (simp only [opE, textE, List.length_append, List.length_cons, List.length_nil] at *; omega)
  · simp [bytesOf]
/-- The view whose held rights are turned. -/
def flip (v : Vw) : Vw := { v with held := IntKind.i64.wrap (BitVec.ofInt IntKind.i64.bits v.held ^^^ BitVec.ofInt IntKind.i64.bits 1).toNat }
theorem set_view {A : List Vw} {t : List Value} {k : Nat} {v : Vw} {h : Int} (hk : A[k]? = some v) : (A.flatMap Vw.cells ++ t).set (k * 7 + 6) (.int .i64 h) = (A.set k { v with held := h }).flatMap Vw.cells ++ t := by
  induction A generalizing k with
  | nil => simp at hk
  | cons a A ih =>
    cases k with
    | zero =>
      simp only [List.getElem?_cons_zero, Option.some.injEq] at hk
      subst hk
      simp [Vw.cells]
    | succ k =>
      rw [List.getElem?_cons_succ] at hk
      have := ih hk
      rw [List.set_cons_succ, List.flatMap_cons, List.flatMap_cons, List.append_assoc, List.append_assoc, ← this, List.set_append, if_neg (by rw [Vw.len]; omega), Vw.len]
      congr 2
      omega
def turned (vs : List Vw) (k : Nat) : List Vw := (vs.take k).map flip ++ vs.drop k
theorem turned_len {vs : List Vw} {k : Nat} (hk : k ≤ vs.length) : (turned vs k).length = vs.length := by
  simp [turned]; omega
theorem turned_get {vs : List Vw} {k : Nat} {v : Vw} (hk : vs[k]? = some v) : (turned vs k)[k]? = some v := by
  obtain ⟨h, rfl⟩ := List.getElem?_eq_some_iff.1 hk
  have hl : ((vs.take k).map flip).length = k := by simp; omega
  rw [turned, List.getElem?_append_right (by omega), hl, Nat.sub_self, List.drop_eq_getElem_cons h]
  rfl
theorem turned_set {vs : List Vw} {k : Nat} {v : Vw} (hk : vs[k]? = some v) : (turned vs k).set k (flip v) = turned vs (k + 1) := by
  obtain ⟨h, rfl⟩ := List.getElem?_eq_some_iff.1 hk
  have hl : ((vs.take k).map flip).length = k := by simp; omega
  rw [turned, turned, List.set_append, if_neg (by omega), hl, Nat.sub_self, List.drop_eq_getElem_cons h, List.set_cons_zero, List.take_succ_eq_append_getElem h, List.map_append]
  simp
theorem turned_zero (vs : List Vw) : turned vs 0 = vs := by simp [turned]
theorem turned_ok {vs : List Vw} {k : Nat} (h : VwOk vs) : VwOk (turned vs k) := by
  intro v hv
  rcases List.mem_append.1 hv with hv | hv
  · obtain ⟨u, hu, rfl⟩ := List.mem_map.1 hv
    exact h u (List.mem_of_mem_take hu)
  · exact h v (List.mem_of_mem_drop hv)
theorem turned_okM {m : Ms} {vs : List Vw} {k : Nat} (h : MsOk m vs) (hk : k ≤ vs.length) : MsOk m (turned vs k) := ⟨h.name, h.opn, turned_ok h.views, by rw [turned_len hk]; exact h.n⟩
/-- The copied views, the mark behind them. -/
def rowC (vs : List Vw) (sp : List Value) : List Value := vs.flatMap Vw.cells ++ (Vw.cells ⟨[109, 97, 114, 107], 0, 0, 0, 0, 0, 0⟩ ++ sp)
theorem lendV {a w : World} {us : List Vw} {sp : List Value} {bk cap : Nat} {F : Blks} (h : St a [] w F) (hm : (bk, Blk 71 (rowC us sp)) ∈ F) (hn : us.length ≤ 140737488351232) {n : Nat} (hl : us.length = n) : RdL w [] 7 (.slice (some ⟨bk, 0, none⟩) n cap) us Vw.cells := by
  subst hl
  exact ⟨St.lend (Oc := []) (F := F) h (T := 71) hm (flat_len Vw.len us) hn, Vw.len⟩
theorem rowC_name (vs : List Vw) (sp : List Value) {n : Nat} (hl : vs.length = n) : (rowC vs sp)[n * 7]? = some (Lw.S [109, 97, 114, 107]) := by
  subst hl
  rw [rowC, ← flat_len Vw.len vs, List.getElem?_append_right (Nat.le_refl _), Nat.sub_self]
  rfl
theorem rowC_held {vs : List Vw} {sp : List Value} {k : Nat} {v : Vw} (hk : vs[k]? = some v) : (rowC vs sp)[k * 7 + 6]? = some (.int .i64 v.held) := by
  obtain ⟨h, _⟩ := List.getElem?_eq_some_iff.1 hk
  rw [rowC, List.getElem?_append_left (by rw [flat_len Vw.len]; omega), flat_get Vw.len vs k 6 v hk (by omega)]
  rfl
theorem rowC_set {vs : List Vw} {sp : List Value} {k : Nat} {v : Vw} (hk : vs[k]? = some v) (h : Int) : (rowC vs sp).set (k * 7 + 6) (.int .i64 h) = rowC (vs.set k { v with held := h }) sp := set_view hk
theorem St.rowC {a w : World} {sp : List Value} {vs : List Vw} {bk : Nat} {O : Blks} (h : St a [] w ([(bk, Blk 71 (vs.flatMap Vw.cells ++ Vw.cells ⟨[109, 97, 114, 107], 0, 0, 0, 0, 0, 0⟩ ++ sp))] ++ O)) : St a [] w ((bk, Blk 71 (Lw.rowC vs sp)) :: O) := by
  rw [Lw.rowC, ← List.append_assoc]; exact h
theorem idxB {e : Env} {x i : Operand} {b n c sz k : Nat} {kd : IntKind} (hx : ev e x = .slice (some ⟨b, 0, none⟩) n c) (hi : ev e i = .int kd (k : Int)) (hk : k < n) : PV.val e (.idx sz x i) = some (.pointer (some ⟨b, k * sz, none⟩)) := by
  simp only [PV.val, hx, hi]
  rw [if_pos (by omega)]
  simp [add_none]
theorem rowC_turn {vs : List Vw} {sp : List Value} {k : Nat} {v : Vw} (hk : vs[k]? = some v) : (rowC (turned vs k) sp).set (k * 7 + 6) (.int .i64 (flip v).held) = rowC (turned vs (k + 1)) sp := by
  rw [rowC_set (turned_get hk), ← turned_set hk]; rfl
theorem rowC_len (vs : List Vw) (sp : List Value) : (rowC vs sp).length = vs.length * 7 + (7 + sp.length) := by
  rw [rowC, List.length_append, flat_len Vw.len, List.length_append, Vw.len]
theorem Vw.all (vs : List Vw) : ∀ u ∈ vs.flatMap Vw.cells, u.oneCell' = true := by
  intro u hu
  obtain ⟨v, _, hv⟩ := List.mem_flatMap.1 hu
  exact Vw.ones v u hv
theorem cells_set (m : Ms) (a b : Value) : (m.cells a).set 19 b = m.cells b := rfl
set_option maxRecDepth 8000 in
set_option maxHeartbeats 4000000 in
theorem c10 (m : Ms) (vs : List Vw) (vv : Value) (hok : MsOk m vs) (ha : I64 m.opa) (hb : I64 m.opb) (hn : vs.length * 64 ≤ 140737488351232) (w : World) (hR : RdL w [] 7 vv vs Vw.cells) : Quiet Try.prog 10 #[.agg (m.cells vv).toArray] w (.bool true) := by
  have hL := encE_len m vs
  have hE := encE_err m vs
  obtain ⟨A, c, rfl, _⟩ := hR.1.slc
  refine enterF (args := [.agg (m.cells (.slice A vs.length c)).toArray]) Try.func10 low10 rfl ?_; have hS := St.start w; dsimp only [L10, envL, Nat.reduceAdd]
  repeat' (first | ((with_reducible apply WL_p); (· exact evk)) | (with_reducible first | refine WL_nil ?_ | refine then_normal ?_ | refine blk_normal ?_ | refine WC_seq ?_ | refine WC_reg ?_ | refine WC_block ?_ | refine WC_skip ?_ | refine WC_exit ?_ | refine then_exit ?_ | refine blk_hit ?_ | refine blk_miss (by decide) ?_ | refine WC_ret ?_ | refine then_ret ?_ | refine blk_ret ?_))
  refine WL_newv hS (by exact evk) rfl ?_
  clear hS
  intro b1 w hS hb1
  simp only [List.nil_append] at hS
  repeat' (first | ((with_reducible apply WL_p); (· exact evk)) | (with_reducible first | refine WL_nil ?_ | refine then_normal ?_ | refine blk_normal ?_ | refine WC_seq ?_ | refine WC_reg ?_ | refine WC_block ?_ | refine WC_skip ?_ | refine WC_exit ?_ | refine then_exit ?_ | refine blk_hit ?_ | refine blk_miss (by decide) ?_ | refine WC_ret ?_ | refine then_ret ?_ | refine blk_ret ?_))
  refine WL_loadF hS (by exact evk) inn rfl ?_
  refine WL_newz hS ?_
  clear hS
  intro b3 w hS hb3
  simp only [List.nil_append, List.cons_append] at hS
  refine WL_storeF (vs := m.cells (.slice A vs.length c)) hS (by exact evk) (by exact evk) rfl rfl (Ms.ones _ rfl) upp ?_
  clear hS
  intro w hS
  repeat' (first | ((with_reducible apply WL_p); (· exact evk)) | (with_reducible first | refine WL_nil ?_ | refine then_normal ?_ | refine blk_normal ?_ | refine WC_seq ?_ | refine WC_reg ?_ | refine WC_block ?_ | refine WC_skip ?_ | refine WC_exit ?_ | refine then_exit ?_ | refine blk_hit ?_ | refine blk_miss (by decide) ?_ | refine WC_ret ?_ | refine then_ret ?_ | refine blk_ret ?_))
  refine WL_load hS (by exact evk) inn rfl ?_
  refine WL_call (Oc := []) (F := _) hS (by exact evk) (c23 vs _ _ ⟨hS.reads0 hR.1, hR.2⟩ hn) ?_
  clear hS
  rintro u O' w ⟨_, ⟨_, h2, _⟩ | ⟨bk, cap, sp, rfl, rfl, _, h3, _⟩⟩ hS
  · omega
  replace hS := St.rowC hS
  repeat' (first | ((with_reducible apply WL_p); (· exact evk)) | (with_reducible first | refine WL_nil ?_ | refine then_normal ?_ | refine blk_normal ?_ | refine WC_seq ?_ | refine WC_reg ?_ | refine WC_block ?_ | refine WC_skip ?_ | refine WC_exit ?_ | refine then_exit ?_ | refine blk_hit ?_ | refine blk_miss (by decide) ?_ | refine WC_ret ?_ | refine then_ret ?_ | refine blk_ret ?_))
  refine WL_load hS (by exact evk) inn rfl ?_
  repeat' (first | ((with_reducible apply WL_p); (· exact evk)) | (with_reducible first | refine WL_nil ?_ | refine then_normal ?_ | refine blk_normal ?_ | refine WC_seq ?_ | refine WC_reg ?_ | refine WC_block ?_ | refine WC_skip ?_ | refine WC_exit ?_ | refine then_exit ?_ | refine blk_hit ?_ | refine blk_miss (by decide) ?_ | refine WC_ret ?_ | refine then_ret ?_ | refine blk_ret ?_))
  refine WL_p (slcB (by exact evk) (by exact evk) (by omega)) ?_
  repeat' (first | ((with_reducible apply WL_p); (· exact evk)) | (with_reducible first | refine WL_nil ?_ | refine then_normal ?_ | refine blk_normal ?_ | refine WC_seq ?_ | refine WC_reg ?_ | refine WC_block ?_ | refine WC_skip ?_ | refine WC_exit ?_ | refine then_exit ?_ | refine blk_hit ?_ | refine blk_miss (by decide) ?_ | refine WC_ret ?_ | refine then_ret ?_ | refine blk_ret ?_))
  refine WL_store hS (by exact evk) (by exact evk) rfl upp (by rw [Ms.cells_len]; omega) ?_
  clear hS
  intro w hS
  rw [cells_set] at hS
  repeat' (first | ((with_reducible apply WL_p); (· exact evk)) | (with_reducible first | refine WL_nil ?_ | refine then_normal ?_ | refine blk_normal ?_ | refine WC_seq ?_ | refine WC_reg ?_ | refine WC_block ?_ | refine WC_skip ?_ | refine WC_exit ?_ | refine then_exit ?_ | refine blk_hit ?_ | refine blk_miss (by decide) ?_ | refine WC_ret ?_ | refine then_ret ?_ | refine blk_ret ?_))
  refine WL_loadF hS (by exact evk) inn rfl ?_
  repeat' (first | ((with_reducible apply WL_p); (· exact evk)) | (with_reducible first | refine WL_nil ?_ | refine then_normal ?_ | refine blk_normal ?_ | refine WC_seq ?_ | refine WC_reg ?_ | refine WC_block ?_ | refine WC_skip ?_ | refine WC_exit ?_ | refine then_exit ?_ | refine blk_hit ?_ | refine blk_miss (by decide) ?_ | refine WC_ret ?_ | refine then_ret ?_ | refine blk_ret ?_) | ((with_reducible apply WL_callq hS); (· exact evk); (· first | exact c22 m vs _ hok _ (lendV hS inn hok.n rfl)); (clear hS; intro w hS)))
  refine WL_loadF hS (by exact evk) inn rfl ?_
  refine WL_enc hS (by exact evk) (c16 m vs _ hok ha hb _ (lendV hS inn hok.n rfl)) ?_
  clear hS
  intro v1 L1 w r1 hS
  rw [hE]
  repeat' (first | ((with_reducible apply WL_p); (· exact evk)) | (with_reducible first | refine WL_nil ?_ | refine then_normal ?_ | refine blk_normal ?_ | refine WC_seq ?_ | refine WC_reg ?_ | refine WC_block ?_ | refine WC_skip ?_ | refine WC_exit ?_ | refine then_exit ?_ | refine blk_hit ?_ | refine blk_miss (by decide) ?_ | refine WC_ret ?_ | refine then_ret ?_ | refine blk_ret ?_))
  refine WL_loadF hS (by exact evk) inn rfl ?_
  refine WL_enc hS (by exact evk) (c24 m vs _ hok ha hb _ ⟨hS.reads0 hR.1, hR.2⟩) ?_
  clear hS
  intro v2 L2 w r2 hS
  rw [hE]
  have dv : decide ((if validB m vs = true then (0 : Int) else 21) = 0) = validB m vs := by cases validB m vs <;> rfl
  repeat' (first | ((with_reducible apply WL_p); (· exact evk)) | (with_reducible first | refine WL_nil ?_ | refine then_normal ?_ | refine blk_normal ?_ | refine WC_seq ?_ | refine WC_reg ?_ | refine WC_block ?_ | refine WC_skip ?_ | refine WC_exit ?_ | refine then_exit ?_ | refine blk_hit ?_ | refine blk_miss (by decide) ?_ | refine WC_ret ?_ | refine then_ret ?_ | refine blk_ret ?_))
  (refine WC_dr [(bk, Blk 71 (rowC vs sp)), (b1, Blk 33 (m.cells (.slice A vs.length c))), (b3, Blk 33 (m.cells (.slice (some ⟨bk, 0, none⟩) vs.length cap)))] hS ?_; clear hS; intro w hS; have hD := hS.sh (H := [(bk, Blk 71 (rowC vs sp)), (b1, Blk 33 (m.cells (.slice A vs.length c))), (b3, Blk 33 (m.cells (.slice (some ⟨bk, 0, none⟩) vs.length cap)))]) (by repeat (first | exact AllIn.nil | (apply AllIn.cons; (· exact inn)))))
  repeat' (first | (first | ((with_reducible apply WD_p hD); (· exact kYh0)) | ((with_reducible apply WD_do hD); (· exact kYh1)) | ((with_reducible apply WD_no hD); (· exact kYh1)) | ((with_reducible apply WDe_do); (· exact kYh1)) | ((with_reducible apply WDe_no hD); (· exact kYh1)) | ((with_reducible apply WD_load hD); (· exact kYh0); (· exact inn); (· rfl)) | ((with_reducible apply WD_loadN hD); (· exact kYh0); (· exact inn); (· ((simp only [List.drop_succ_cons, List.drop_zero, List.take_succ_cons, List.take_zero]) <;> rfl)); (· rfl)) | ((with_reducible apply WD_go); (· exact hS.sh (by repeat (first | exact AllIn.nil | (apply AllIn.cons; (· exact inn))))); (clear hD; intro hD)) | (with_reducible apply WD_nil) | (with_reducible apply WD_eff)) | ((with_reducible apply WL_p); (· exact evk)) | (with_reducible first | refine WL_nil ?_ | refine then_normal ?_ | refine blk_normal ?_ | refine WC_seq ?_ | refine WC_reg ?_ | refine WC_block ?_ | refine WC_skip ?_ | refine WC_exit ?_ | refine then_exit ?_ | refine blk_hit ?_ | refine blk_miss (by decide) ?_ | refine WC_ret ?_ | refine then_ret ?_ | refine blk_ret ?_) | ((with_reducible apply WL_callq hS); (· exact evk); (· first | exact c21 (bytesOf (encE m vs)) _ _ _ (r1.rd hS subAll (by omega)) (r2.rd hS subAll (by omega))); (clear hS; intro w hS)))
  refine WD_p hD (slcB (by exact evk) (by exact evk) (by omega)) ?_
  repeat' (first | (first | ((with_reducible apply WD_p hD); (· exact kYh0)) | ((with_reducible apply WD_do hD); (· exact kYh1)) | ((with_reducible apply WD_no hD); (· exact kYh1)) | ((with_reducible apply WDe_do); (· exact kYh1)) | ((with_reducible apply WDe_no hD); (· exact kYh1)) | ((with_reducible apply WD_load hD); (· exact kYh0); (· exact inn); (· rfl)) | ((with_reducible apply WD_loadN hD); (· exact kYh0); (· exact inn); (· ((simp only [List.drop_succ_cons, List.drop_zero, List.take_succ_cons, List.take_zero]) <;> rfl)); (· rfl)) | ((with_reducible apply WD_go); (· exact hS.sh (by repeat (first | exact AllIn.nil | (apply AllIn.cons; (· exact inn))))); (clear hD; intro hD)) | (with_reducible apply WD_nil) | (with_reducible apply WD_eff)) | ((with_reducible apply WL_p); (· exact evk)) | (with_reducible first | refine WL_nil ?_ | refine then_normal ?_ | refine blk_normal ?_ | refine WC_seq ?_ | refine WC_reg ?_ | refine WC_block ?_ | refine WC_skip ?_ | refine WC_exit ?_ | refine then_exit ?_ | refine blk_hit ?_ | refine blk_miss (by decide) ?_ | refine WC_ret ?_ | refine then_ret ?_ | refine blk_ret ?_) | ((with_reducible apply WL_load hS); (· exact evk); (· exact inn); (· rfl)) | ((with_reducible apply WL_callq hS); (· exact evk); (· first | exact c25 vs _ _ _ (lendV hS inn hok.n rfl) ⟨hS.reads0 hR.1, hR.2⟩); (clear hS; intro w hS)))
  refine WD_p hD (idxB (by exact evk) (by exact evk) (by omega)) ?_
  repeat' (first | (first | ((with_reducible apply WD_p hD); (· exact kYh0)) | ((with_reducible apply WD_do hD); (· exact kYh1)) | ((with_reducible apply WD_no hD); (· exact kYh1)) | ((with_reducible apply WDe_do); (· exact kYh1)) | ((with_reducible apply WDe_no hD); (· exact kYh1)) | ((with_reducible apply WD_load hD); (· exact kYh0); (· exact inn); (· rfl)) | ((with_reducible apply WD_loadN hD); (· exact kYh0); (· exact inn); (· ((simp only [List.drop_succ_cons, List.drop_zero, List.take_succ_cons, List.take_zero]) <;> rfl)); (· rfl)) | ((with_reducible apply WD_go); (· exact hS.sh (by repeat (first | exact AllIn.nil | (apply AllIn.cons; (· exact inn))))); (clear hD; intro hD)) | (with_reducible apply WD_nil) | (with_reducible apply WD_eff)))
  refine WL_load hS (by exact evk) inn (rowC_name vs sp rfl) ?_
  repeat' (first | (first | ((with_reducible apply WD_p hD); (· exact kYh0)) | ((with_reducible apply WD_do hD); (· exact kYh1)) | ((with_reducible apply WD_no hD); (· exact kYh1)) | ((with_reducible apply WDe_do); (· exact kYh1)) | ((with_reducible apply WDe_no hD); (· exact kYh1)) | ((with_reducible apply WD_load hD); (· exact kYh0); (· exact inn); (· rfl)) | ((with_reducible apply WD_loadN hD); (· exact kYh0); (· exact inn); (· ((simp only [List.drop_succ_cons, List.drop_zero, List.take_succ_cons, List.take_zero]) <;> rfl)); (· rfl)) | ((with_reducible apply WD_go); (· exact hS.sh (by repeat (first | exact AllIn.nil | (apply AllIn.cons; (· exact inn))))); (clear hD; intro hD)) | (with_reducible apply WD_nil) | (with_reducible apply WD_eff)))
  repeat' (first | ((with_reducible apply WL_p); (· exact kYh3)) | ((with_reducible apply WC_false); (· exact evk)) | (with_reducible first | refine WL_nil ?_ | refine then_normal ?_ | refine blk_normal ?_ | refine WC_seq ?_ | refine WC_reg ?_ | refine WC_block ?_ | refine WC_skip ?_ | refine WC_exit ?_ | refine then_exit ?_ | refine blk_hit ?_ | refine blk_miss (by decide) ?_ | refine WC_ret ?_ | refine then_ret ?_ | refine blk_ret ?_))
  have hS : St _ _ _ [(bk, Blk 71 (rowC vs sp)), (b1, Blk 33 (m.cells (.slice A vs.length c))), (b3, Blk 33 (m.cells (.slice (some ⟨bk, 0, none⟩) vs.length cap)))] := hS.sub ((List.sublist_append_right L1 _).trans (List.sublist_append_right L2 _))
  rw [show rowC vs sp = rowC (turned vs 0) sp by rw [turned_zero]] at hS
  clear r1 r2 hD
  refine WC_loopH (α := Nat) (fun k => [(1, .pointer (some ⟨b1, 0, none⟩)), (3, .pointer (some ⟨b3, 0, none⟩)), (4, .slice (some ⟨bk, 0, none⟩) (vs.length + 1) cap), (5, .int .i64 (vs.length : Int)), (11, .int .i64 (k : Int))])
    (fun k w' => k ≤ vs.length ∧ St _ _ w' [(bk, Blk 71 (rowC (turned vs k) sp)), (b1, Blk 33 (m.cells (.slice A vs.length c))), (b3, Blk 33 (m.cells (.slice (some ⟨bk, 0, none⟩) vs.length cap)))]) (fun k => vs.length - k) 0 (by exact kYh2) ⟨by omega, hS⟩ ?_
  clear hS
  intro k e w ⟨hk, hS⟩
  dsimp only [patch]
  by_cases hlt : k < vs.length
  · obtain ⟨x, hx⟩ : ∃ x, vs[k]? = some x := ⟨_, List.getElem?_eq_getElem hlt⟩
    repeat' (first | ((with_reducible apply WL_p); (· exact evk)) | (with_reducible first | refine WL_nil ?_ | refine then_normal ?_ | refine blk_normal ?_ | refine WC_seq ?_ | refine WC_reg ?_ | refine WC_block ?_ | refine WC_skip ?_ | refine WC_exit ?_ | refine then_exit ?_ | refine blk_hit ?_ | refine blk_miss (by decide) ?_ | refine WC_ret ?_ | refine then_ret ?_ | refine blk_ret ?_) | (first | ((with_reducible apply WL_split); (· exact evk)) | ((with_reducible apply WC_dec); (· exact evk)) | ((with_reducible apply WL_splitB); (· exact evk)) | ((with_reducible apply WC_bool); (· exact evk)) | ((with_reducible intro hh) <;> (try (exfalso; omega)))))
    refine WL_p (idxB (by exact evk) (by exact evk) (by omega)) ?_
    repeat' (first | ((with_reducible apply WL_p); (· exact evk)) | (with_reducible first | refine WL_nil ?_ | refine then_normal ?_ | refine blk_normal ?_ | refine WC_seq ?_ | refine WC_reg ?_ | refine WC_block ?_ | refine WC_skip ?_ | refine WC_exit ?_ | refine then_exit ?_ | refine blk_hit ?_ | refine blk_miss (by decide) ?_ | refine WC_ret ?_ | refine then_ret ?_ | refine blk_ret ?_))
    refine WL_load hS (by exact evk) inn (rowC_held (turned_get hx)) ?_
    repeat' (first | ((with_reducible apply WL_p); (· exact kYh4)) | (with_reducible first | refine WL_nil ?_ | refine then_normal ?_ | refine blk_normal ?_ | refine WC_seq ?_ | refine WC_reg ?_ | refine WC_block ?_ | refine WC_skip ?_ | refine WC_exit ?_ | refine then_exit ?_ | refine blk_hit ?_ | refine blk_miss (by decide) ?_ | refine WC_ret ?_ | refine then_ret ?_ | refine blk_ret ?_))
    refine WL_p (idxB (by exact evk) (by exact evk) (by omega)) ?_
    repeat' (first | ((with_reducible apply WL_p); (· exact evk)) | (with_reducible first | refine WL_nil ?_ | refine then_normal ?_ | refine blk_normal ?_ | refine WC_seq ?_ | refine WC_reg ?_ | refine WC_block ?_ | refine WC_skip ?_ | refine WC_exit ?_ | refine then_exit ?_ | refine blk_hit ?_ | refine blk_miss (by decide) ?_ | refine WC_ret ?_ | refine then_ret ?_ | refine blk_ret ?_))
    refine WL_store (v := .int .i64 (flip x).held) hS (by exact evk) (by exact evk) rfl upp (by rw [rowC_len, turned_len hk]; omega) ?_
    clear hS
    intro w hS
    rw [rowC_turn hx] at hS
    repeat' (first | ((with_reducible apply WL_p); (· exact evk)) | (with_reducible first | refine WL_nil ?_ | refine then_normal ?_ | refine blk_normal ?_ | refine WC_seq ?_ | refine WC_reg ?_ | refine WC_block ?_ | refine WC_skip ?_ | refine WC_exit ?_ | refine then_exit ?_ | refine blk_hit ?_ | refine blk_miss (by decide) ?_ | refine WC_ret ?_ | refine then_ret ?_ | refine blk_ret ?_))
    exact ⟨k + 1, by omega, (by exact kYh2), by omega, hS⟩
  · obtain rfl : k = vs.length := by omega
    have hul := turned_len (Nat.le_refl vs.length)
    have hok2 := turned_okM hok (Nat.le_refl vs.length)
    generalize turned vs vs.length = us at hS hul hok2
    have hL := encE_len m us
    have hE := encE_err m us
    have dv : decide ((if validB m us = true then (0 : Int) else 21) = 0) = validB m us := by cases validB m us <;> rfl
    repeat' (first | ((with_reducible apply WL_p); (· exact evk)) | (with_reducible first | refine WL_nil ?_ | refine then_normal ?_ | refine blk_normal ?_ | refine WC_seq ?_ | refine WC_reg ?_ | refine WC_block ?_ | refine WC_skip ?_ | refine WC_exit ?_ | refine then_exit ?_ | refine blk_hit ?_ | refine blk_miss (by decide) ?_ | refine WC_ret ?_ | refine then_ret ?_ | refine blk_ret ?_) | (first | ((with_reducible apply WL_split); (· exact evk)) | ((with_reducible apply WC_dec); (· exact evk)) | ((with_reducible apply WL_splitB); (· exact evk)) | ((with_reducible apply WC_bool); (· exact evk)) | ((with_reducible intro hh) <;> (try (exfalso; omega)))))
    refine WL_loadF hS (by exact evk) inn rfl ?_
    refine WL_newz hS ?_
    clear hS
    intro b12 w hS hb12
    simp only [List.nil_append, List.cons_append] at hS
    refine WL_storeF (vs := m.cells (.slice A vs.length c)) hS (by exact evk) (by exact evk) rfl rfl (Ms.ones _ rfl) upp ?_
    clear hS
    intro w hS
    repeat' (first | ((with_reducible apply WL_p); (· exact evk)) | (with_reducible first | refine WL_nil ?_ | refine then_normal ?_ | refine blk_normal ?_ | refine WC_seq ?_ | refine WC_reg ?_ | refine WC_block ?_ | refine WC_skip ?_ | refine WC_exit ?_ | refine then_exit ?_ | refine blk_hit ?_ | refine blk_miss (by decide) ?_ | refine WC_ret ?_ | refine then_ret ?_ | refine blk_ret ?_))
    refine WL_p (slcB (by exact evk) (by exact evk) (by omega)) ?_
    have hlen : us.length ≤ 140737488351232 := hok2.n
    refine WL_append (M := [(bk, Blk 71 (rowC us sp)), (b1, Blk 33 (m.cells (.slice A vs.length c))), (b3, Blk 33 (m.cells (.slice (some ⟨bk, 0, none⟩) vs.length cap))), (b12, Blk 33 (m.cells (.slice A vs.length c)))]) (L := []) (F := []) (by simpa using hS) el31 (by exact evk) (by exact evk) (RowIs.nil 71 7)
      (Src.of_reads (lendV hS inn hlen hul).1 (Vw.all us) Try.underlying31) (by omega) (by omega) ?_
    clear hS
    intro va w La ra hS
    simp only [List.nil_append, List.append_nil, Nat.zero_add, List.cons_append] at ra hS
    repeat' (first | ((with_reducible apply WL_p); (· exact evk)) | (with_reducible first | refine WL_nil ?_ | refine then_normal ?_ | refine blk_normal ?_ | refine WC_seq ?_ | refine WC_reg ?_ | refine WC_block ?_ | refine WC_skip ?_ | refine WC_exit ?_ | refine then_exit ?_ | refine blk_hit ?_ | refine blk_miss (by decide) ?_ | refine WC_ret ?_ | refine then_ret ?_ | refine blk_ret ?_))
    refine WL_store (v := va) hS (by exact evk) (by exact evk) ra.one upp (by rw [Ms.cells_len]; omega) ?_
    clear hS
    intro w hS
    rw [cells_set] at hS
    repeat' (first | ((with_reducible apply WL_p); (· exact evk)) | (with_reducible first | refine WL_nil ?_ | refine then_normal ?_ | refine blk_normal ?_ | refine WC_seq ?_ | refine WC_reg ?_ | refine WC_block ?_ | refine WC_skip ?_ | refine WC_exit ?_ | refine then_exit ?_ | refine blk_hit ?_ | refine blk_miss (by decide) ?_ | refine WC_ret ?_ | refine then_ret ?_ | refine blk_ret ?_))
    refine WL_loadF hS (by exact evk) inn rfl ?_
    refine WL_enc hS (by exact evk) (c16 m us _ hok2 ha hb _ (lendV hS inn hlen hul)) ?_
    clear hS
    intro v1 L1 w r1 hS
    rw [hE]
    repeat' (first | ((with_reducible apply WL_p); (· exact evk)) | (with_reducible first | refine WL_nil ?_ | refine then_normal ?_ | refine blk_normal ?_ | refine WC_seq ?_ | refine WC_reg ?_ | refine WC_block ?_ | refine WC_skip ?_ | refine WC_exit ?_ | refine then_exit ?_ | refine blk_hit ?_ | refine blk_miss (by decide) ?_ | refine WC_ret ?_ | refine then_ret ?_ | refine blk_ret ?_))
    refine WL_loadF hS (by exact evk) inn rfl ?_
    refine WL_enc hS (by exact evk) (c24 m us _ hok2 ha hb _ (ra.rdL hS subAll hlen)) ?_
    clear hS
    intro v2 L2 w r2 hS
    rw [hE]
    repeat' (first | ((with_reducible apply WL_p); (· exact kYh5)) | ((with_reducible apply WL_do); (· exact evd)) | ((with_reducible apply WL_no); (· exact evd)) | (with_reducible first | refine WL_nil ?_ | refine then_normal ?_ | refine blk_normal ?_ | refine WC_seq ?_ | refine WC_reg ?_ | refine WC_block ?_ | refine WC_skip ?_ | refine WC_exit ?_ | refine then_exit ?_ | refine blk_hit ?_ | refine blk_miss (by decide) ?_ | refine WC_ret ?_ | refine then_ret ?_ | refine blk_ret ?_) | ((with_reducible apply WL_callq hS); (· exact evk); (· first | exact c21 (bytesOf (encE m us)) _ _ _ (r1.rd hS subAll (by omega)) (r2.rd hS subAll (by omega))); (clear hS; intro w hS)) | ((with_reducible apply WL_callq hS); (· exact evk); (· first | exact c22 m us _ hok2 _ (lendV hS inn hlen hul)); (clear hS; intro w hS)))
    refine WL_loadF hS (by exact evk) inn rfl ?_
    repeat' (first | ((with_reducible apply WL_p); (· exact kYh5)) | ((with_reducible apply WL_do); (· exact evd)) | ((with_reducible apply WL_no); (· exact evd)) | (with_reducible first | refine WL_nil ?_ | refine then_normal ?_ | refine blk_normal ?_ | refine WC_seq ?_ | refine WC_reg ?_ | refine WC_block ?_ | refine WC_skip ?_ | refine WC_exit ?_ | refine then_exit ?_ | refine blk_hit ?_ | refine blk_miss (by decide) ?_ | refine WC_ret ?_ | refine then_ret ?_ | refine blk_ret ?_) | ((with_reducible apply WL_callq hS); (· exact evk); (· first | exact c22 m us _ hok2 _ (lendV hS inn hlen hul)); (clear hS; intro w hS)))
    exact retq (hS.sub (List.nil_sublist _)) (v := .bool true) rfl rfl
end Go.Proofs.Ytohmgkcdjapinaa.Lw
namespace Go.Proofs.Ytohmgkcdjapinaa.Lw
abbrev R3_0 : List LOper := [⟨some 1, none, .newv 33 (.tmp 0)⟩, ⟨some 2, none, .pv (.move (.const (.bool false)))⟩]
abbrev R3_1 : List LOper := [⟨some 3, none, .call 9 []⟩, ⟨some 4, none, .pv (.move (.tmp 3))⟩, ⟨some 5, (some (4, true)), .loadN 20 (.tmp 1)⟩, ⟨some 6, (some (4, true)), .call 10 [(.tmp 5)]⟩, ⟨some 7, none, .pv (.pick (.tmp 4) (.tmp 6) (.const (.bool false)))⟩, ⟨some 2, none, .pv (.move (.tmp 7))⟩]
abbrev L3 : LFun := ⟨8, [(.tmp 2)], (.seq (.reg R3_0) (.seq (.reg R3_1) .ret))⟩
theorem low3 : lowFnG false Try.prog Try.f3 = some L3 := by kernel_rfl

abbrev R8_0 : List LOper := [⟨some 2, none, .pv (.move (.const (.bool false)))⟩]
abbrev R8_1 : List LOper := [⟨some 6, none, .call 9 []⟩, ⟨some 7, none, .pv (.not (.tmp 6))⟩]
abbrev R8_2 : List LOper := [⟨some 2, none, .pv (.move (.const (.bool false)))⟩]
abbrev R8_3 : List LOper := [⟨some 3, none, .pv (.move (.const (.int .i64 0)))⟩]
abbrev R8_4 : List LOper := [⟨some 8, none, .pv (.move (.tmp 3))⟩, ⟨some 9, none, .pv (.move (.tmp 0))⟩, ⟨some 10, none, .pv (.len (.tmp 9))⟩, ⟨some 11, none, .pv (.bin .lss (.tmp 8) (.tmp 10))⟩]
abbrev R8_5 : List LOper := [⟨some 14, none, .pv (.move (.tmp 0))⟩, ⟨some 15, none, .pv (.move (.tmp 3))⟩, ⟨some 16, none, .pv (.idx 37 (.tmp 14) (.tmp 15))⟩, ⟨some 17, none, .loadN 37 (.tmp 16)⟩, ⟨some 4, none, .newz 56 [(.int .i64 0), (.int .i64 0), (S []), (.int .i64 0), (.int .i64 0), (.int .i64 0), (.int .i64 0), (.int .i64 0), (.int .i64 0), (.int .i64 0), (.int .i64 0), (.int .i64 0), (.int .i64 0), (.int .i64 0), (.int .i64 0), (S []), (.int .i64 0), (.int .i64 0), (.int .i64 0), (.int .i64 0), (.slice none 0 0), (.int .i64 0), (.int .i64 0), (.int .i64 0), (.int .i64 0), (.slice none 0 0), (.int .i64 0), (.int .i64 0), (.int .i64 0), (S []), (.int .i64 0), (.int .i64 0), (.int .i64 0), (.int .i64 0), (.int .i64 0), (.int .i64 0), (.slice none 0 0)]⟩, ⟨none, none, .store 37 (.tmp 4) (.tmp 17)⟩]
abbrev R8_6 : List LOper := [⟨some 5, none, .pv (.move (.const (.bool true)))⟩]
abbrev R8_7 : List LOper := [⟨some 18, none, .pv (.off (.tmp 4) 0)⟩, ⟨some 19, none, .load (.tmp 18)⟩]
abbrev R8_8 : List LOper := [⟨some 21, none, .pv (.bin .eql (.tmp 19) (.const (.int .i64 1)))⟩, ⟨some 20, none, .pv (.move (.tmp 21))⟩]
abbrev R8_9 : List LOper := [⟨some 22, none, .pv (.off (.tmp 4) 1)⟩, ⟨some 23, none, .loadN 20 (.tmp 22)⟩, ⟨some 24, none, .call 10 [(.tmp 23)]⟩, ⟨some 5, none, .pv (.move (.tmp 24))⟩]
abbrev R8_10 : List LOper := [⟨some 26, none, .pv (.bin .eql (.tmp 19) (.const (.int .i64 2)))⟩, ⟨some 25, none, .pv (.move (.tmp 26))⟩]
abbrev R8_11 : List LOper := [⟨some 27, none, .pv (.off (.tmp 4) 36)⟩, ⟨some 28, none, .load (.tmp 27)⟩, ⟨some 29, none, .call 11 [(.tmp 28)]⟩, ⟨some 5, none, .pv (.move (.tmp 29))⟩]
abbrev R8_12 : List LOper := [⟨some 31, none, .pv (.bin .eql (.tmp 19) (.const (.int .i64 3)))⟩, ⟨some 30, none, .pv (.move (.tmp 31))⟩]
abbrev R8_13 : List LOper := [⟨some 32, none, .pv (.off (.tmp 4) 21)⟩, ⟨some 33, none, .loadN 5 (.tmp 32)⟩, ⟨some 34, none, .pv (.off (.tmp 4) 36)⟩, ⟨some 35, none, .load (.tmp 34)⟩, ⟨some 36, none, .call 12 [(.tmp 33), (.tmp 35)]⟩, ⟨some 5, none, .pv (.move (.tmp 36))⟩]
abbrev R8_14 : List LOper := [⟨some 38, none, .pv (.bin .eql (.tmp 19) (.const (.int .i64 4)))⟩, ⟨some 37, none, .pv (.move (.tmp 38))⟩]
abbrev R8_15 : List LOper := [⟨some 39, none, .pv (.off (.tmp 4) 26)⟩, ⟨some 40, none, .loadN 2 (.tmp 39)⟩, ⟨some 41, none, .pv (.off (.tmp 4) 28)⟩, ⟨some 42, none, .loadN 4 (.tmp 41)⟩, ⟨some 43, none, .pv (.off (.tmp 4) 36)⟩, ⟨some 44, none, .load (.tmp 43)⟩, ⟨some 45, none, .call 13 [(.tmp 40), (.tmp 42), (.tmp 44)]⟩, ⟨some 5, none, .pv (.move (.tmp 45))⟩]
abbrev R8_16 : List LOper := [⟨some 47, none, .pv (.bin .eql (.tmp 19) (.const (.int .i64 5)))⟩, ⟨some 46, none, .pv (.move (.tmp 47))⟩]
abbrev R8_17 : List LOper := [⟨some 48, none, .pv (.off (.tmp 4) 32)⟩, ⟨some 49, none, .loadN 4 (.tmp 48)⟩, ⟨some 50, none, .pv (.off (.tmp 4) 36)⟩, ⟨some 51, none, .load (.tmp 50)⟩, ⟨some 52, none, .call 14 [(.tmp 49), (.tmp 51)]⟩, ⟨some 5, none, .pv (.move (.tmp 52))⟩]
abbrev R8_18 : List LOper := [⟨some 53, none, .pv (.move (.tmp 5))⟩, ⟨some 54, none, .pv (.not (.tmp 53))⟩]
abbrev R8_19 : List LOper := [⟨some 2, none, .pv (.move (.const (.bool false)))⟩]
abbrev R8_20 : List LOper := [⟨some 12, none, .pv (.move (.tmp 3))⟩, ⟨some 13, none, .pv (.bin .add (.tmp 12) (.const (.int .i64 1)))⟩, ⟨some 3, none, .pv (.move (.tmp 13))⟩]
abbrev R8_21 : List LOper := [⟨some 2, none, .pv (.move (.const (.bool true)))⟩]
abbrev L8 : LFun := ⟨55, [(.tmp 2)], (.seq (.reg R8_0) (.seq (.seq (.reg R8_1) (.cond (.tmp 7) (.seq (.reg R8_2) .ret) .skip)) (.seq (.seq (.reg R8_3) (.block 0 (.loop (.seq (.seq (.reg R8_4) (.cond (.tmp 11) .skip (.exit 0))) (.seq (.block 1 (.seq (.reg R8_5) (.seq (.reg R8_6) (.seq (.seq (.reg R8_7) (.block 2 (.seq (.reg R8_8) (.cond (.tmp 20) (.reg R8_9) (.seq (.reg R8_10) (.cond (.tmp 25) (.reg R8_11) (.seq (.reg R8_12) (.cond (.tmp 30) (.reg R8_13) (.seq (.reg R8_14) (.cond (.tmp 37) (.reg R8_15) (.seq (.reg R8_16) (.cond (.tmp 46) (.reg R8_17) .skip)))))))))))) (.seq (.reg R8_18) (.cond (.tmp 54) (.seq (.reg R8_19) .ret) .skip)))))) (.reg R8_20)))))) (.seq (.reg R8_21) .ret))))⟩
theorem low8 : lowFnG false Try.prog Try.f8 = some L8 := by kernel_rfl

def tI : Td := .int .i64
def tEpoch : Td := .struct [.int .i64, .int .i64]
def tOp : List Td := [.int .i64, .str, .int .i64, .int .i64]
def tView : List Td := [.str, .int .i64, .int .i64, .int .i64, .struct [.int .i64, .int .i64], .int .i64]
def tMsg : List Td := [.int .i64, .str, .int .i64, .int .i64, .struct [.int .i64, .int .i64], .struct [.int .i64, .int .i64], .struct [.int .i64, .int .i64], .int .i64, .struct [.int .i64, .int .i64], .struct tOp, .int .i64, .int .i64, .slice 64 (.struct tView)]
theorem sem_pair {w : World} {Ts : List Td} {cs : List Value} (h : SemAll w (.struct [.int .i64, .int .i64] :: Ts) cs) : ∃ a b cs', cs = .int .i64 a :: .int .i64 b :: cs' ∧ SemAll w Ts cs' := by
  obtain ⟨c1, cs', rfl, h1, h2⟩ := sem_st h
  obtain ⟨a, _, rfl, _, h1⟩ := sem_i64 h1
  obtain ⟨b, _, rfl, _, h1⟩ := sem_i64 h1
  obtain rfl := sem_end h1
  exact ⟨a, b, cs', rfl, h2⟩
theorem sem_op {w : World} {Ts : List Td} {cs : List Value} (h : SemAll w (.struct tOp :: Ts) cs) : ∃ k nm a b cs', cs = .int .i64 k :: Lw.S nm :: .int .i64 a :: .int .i64 b :: cs' ∧ nm.length ≤ 140737488351232 ∧ I64 a ∧ I64 b ∧ SemAll w Ts cs' := by
  obtain ⟨c1, cs', rfl, h1, h2⟩ := sem_st h
  obtain ⟨k, _, rfl, _, h1⟩ := sem_i64 h1
  obtain ⟨nm, _, rfl, hn, h1⟩ := sem_str h1
  obtain ⟨a, _, rfl, ha, h1⟩ := sem_i64 h1
  obtain ⟨b, _, rfl, hb, h1⟩ := sem_i64 h1
  obtain rfl := sem_end h1
  exact ⟨k, nm, a, b, cs', rfl, hn, ⟨ha.1, ha.2⟩, ⟨hb.1, hb.2⟩, h2⟩
theorem sem_view {w : World} {cs : List Value} (h : Sem w (.struct tView) cs) : ∃ v : Vw, cs = v.cells ∧ v.name.length ≤ 140737488351232 := by
  have h : SemAll w tView cs := h
  obtain ⟨nm, _, rfl, hn, h⟩ := sem_str h
  obtain ⟨a, _, rfl, _, h⟩ := sem_i64 h
  obtain ⟨b, _, rfl, _, h⟩ := sem_i64 h
  obtain ⟨c, _, rfl, _, h⟩ := sem_i64 h
  obtain ⟨d, e, _, rfl, h2⟩ := sem_pair h
  obtain ⟨f, _, rfl, _, h2⟩ := sem_i64 h2
  obtain rfl := sem_end h2
  exact ⟨⟨nm, a, b, c, d, e, f⟩, rfl, hn⟩
theorem sem_views {w : World} {cs : List Value} (h : Sem w (.slice 64 (.struct tView)) cs) : ∃ (v : Value) (vs : List Vw), cs = [v] ∧ RdL w [] 7 v vs Vw.cells ∧ VwOk vs ∧ vs.length * 64 ≤ 140737488351232 := by
  obtain ⟨v, xs, h1, h2, h3, h4, h5⟩ := sem_slice (f := Vw.cells) (ok := fun v : Vw => v.name.length ≤ 140737488351232) h (by decide) (by decide) Vw.len (fun _ => sem_view)
  exact ⟨v, xs, h1, h3, h4, h5⟩
structure MsGood (w : World) (m : Ms) (vs : List Vw) (vv : Value) : Prop where
  ok : MsOk m vs
  a : I64 m.opa
  b : I64 m.opb
  n : vs.length * 64 ≤ 140737488351232
  rd : RdL w [] 7 vv vs Vw.cells
theorem sem_msg {w : World} {cs : List Value} (h : SemAll w tMsg cs) : ∃ m vs vv, cs = Ms.cells m vv ∧ MsGood w m vs vv := by
  obtain ⟨kind, _, rfl, _, h⟩ := sem_i64 h
  obtain ⟨name, _, rfl, hn, h⟩ := sem_str h
  obtain ⟨cap, _, rfl, _, h⟩ := sem_i64 h
  obtain ⟨recaps, _, rfl, _, h⟩ := sem_i64 h
  obtain ⟨er, ek, _, rfl, h3⟩ := sem_pair h
  obtain ⟨or_, ok, _, rfl, h4⟩ := sem_pair h3
  obtain ⟨down, up, _, rfl, h5⟩ := sem_pair h4
  obtain ⟨held, _, rfl, _, h6⟩ := sem_i64 h5
  obtain ⟨cs', ci, _, rfl, h7⟩ := sem_pair h6
  obtain ⟨opk, opn, opa, opb, _, rfl, hon, ha, hb, h8⟩ := sem_op h7
  obtain ⟨err, _, rfl, _, h9⟩ := sem_i64 h8
  obtain ⟨val, _, rfl, _, h10⟩ := sem_i64 h9
  obtain ⟨c1, c2, rfl, _, h1, h2⟩ := h10
  obtain rfl := sem_end h2
  obtain ⟨vv, vs, rfl, hr, hv, hl⟩ := sem_views h1
  exact ⟨⟨kind, name, cap, recaps, er, ek, or_, ok, down, up, held, cs', ci, opk, opn, opa, opb, err, val⟩, vs, vv, rfl, ⟨hn, hon, hv, by omega⟩, ha, hb, hl, hr⟩
set_option maxRecDepth 8000 in
theorem law3 (m : Ms) (vs : List Vw) (vv : Value) (w : World) (hg : MsGood w m vs vv) : Quiet Try.prog 3 #[.agg (m.cells vv).toArray] w (.bool true) := by
  refine enterF (args := [.agg (m.cells vv).toArray]) Try.func3 low3 rfl ?_; have hS := St.start w; dsimp only [L3, envL, Nat.reduceAdd]
  repeat' (first | ((with_reducible apply WL_p); (· exact evk)) | ((with_reducible apply WL_do); (· exact evd)) | ((with_reducible apply WL_no); (· exact evd)) | (with_reducible first | refine WL_nil ?_ | refine then_normal ?_ | refine blk_normal ?_ | refine WC_seq ?_ | refine WC_reg ?_ | refine WC_block ?_ | refine WC_skip ?_ | refine WC_exit ?_ | refine then_exit ?_ | refine blk_hit ?_ | refine blk_miss (by decide) ?_ | refine WC_ret ?_ | refine then_ret ?_ | refine blk_ret ?_) | ((with_reducible apply WL_callq hS); (· exact evk); (· first | exact c9 _); (clear hS; intro w hS)))
  refine WL_newv hS (by exact evk) rfl ?_
  clear hS
  intro b1 w hS hb1
  simp only [List.nil_append] at hS
  repeat' (first | ((with_reducible apply WL_p); (· exact evk)) | ((with_reducible apply WL_do); (· exact evd)) | ((with_reducible apply WL_no); (· exact evd)) | (with_reducible first | refine WL_nil ?_ | refine then_normal ?_ | refine blk_normal ?_ | refine WC_seq ?_ | refine WC_reg ?_ | refine WC_block ?_ | refine WC_skip ?_ | refine WC_exit ?_ | refine then_exit ?_ | refine blk_hit ?_ | refine blk_miss (by decide) ?_ | refine WC_ret ?_ | refine then_ret ?_ | refine blk_ret ?_) | ((with_reducible apply WL_callq hS); (· exact evk); (· first | exact c9 _); (clear hS; intro w hS)))
  refine WL_loadF hS (by exact evk) inn rfl ?_
  repeat' (first | ((with_reducible apply WL_p); (· exact evk)) | ((with_reducible apply WL_do); (· exact evd)) | ((with_reducible apply WL_no); (· exact evd)) | (with_reducible first | refine WL_nil ?_ | refine then_normal ?_ | refine blk_normal ?_ | refine WC_seq ?_ | refine WC_reg ?_ | refine WC_block ?_ | refine WC_skip ?_ | refine WC_exit ?_ | refine then_exit ?_ | refine blk_hit ?_ | refine blk_miss (by decide) ?_ | refine WC_ret ?_ | refine then_ret ?_ | refine blk_ret ?_) | ((with_reducible apply WL_callq hS); (· exact evk); (· first | exact c10 m vs vv hg.ok hg.a hg.b hg.n _ ⟨hS.reads0 hg.rd.1, hg.rd.2⟩); (clear hS; intro w hS)))
  exact retq (hS.sub (List.nil_sublist _)) (v := .bool true) rfl rfl
end Go.Proofs.Ytohmgkcdjapinaa.Lw
namespace Go.Proofs.Ytohmgkcdjapinaa.Lw
theorem kYj0 {p : Prop} (h : p := by ((simp (disch := omega) only [ev_tmp, ev_const, ev_func, ev_global, upd_app, val_move, val_pick, pickV_true, pickV_false, pickV_bool, val_nilck, nilckV_ptr, val_bin, bin_add, bin_sub, bin_mul, bin_eql, bin_neq, bin_lss, bin_leq, bin_gtr, bin_geq, bin_seql, bin_sneq, bin_slss, bin_sleq, bin_sgtr, bin_sgeq, val_beq, beqV_f, beqV_t, val_seq, val_not, notV_bool, val_toInt, toIntV_int, val_off, offV_ptr, val_len, lenV_slice, val_slen, slenV_S, val_ext, extV_tup, val_ifc, val_fn, List.getElem?_cons_zero, List.getElem?_cons_succ, List.map_cons, List.map_nil, eq_self, Bool.false_eq_true, Bool.not_true, Bool.not_false, Option.map_some, Nat.zero_add, isB_bool, isB_undef, Bool.true_beq, Bool.false_beq, beq_self_eq_true, Bool.true_and, Bool.and_true, Bool.false_and, Bool.and_false, Bool.true_or, Bool.or_true, Bool.false_or, Bool.or_false, not_dec, and_dec, or_dec, seqV_f, seqV_t, ceq_i, ceq_s, ceq_nil, val_bld, bldV, cells_int, cells_bool, cells_S, cells_b8, cells_slice, cells_ptr, cells_agg, List.size_toArray, List.length_cons, List.length_nil, place, List.take_succ_cons, List.take_zero, List.drop_succ_cons, List.drop_zero, List.cons_append, List.nil_append, and_self, and_true, true_and, Nat.reduceLeDiff, List.toList_toArray, wr64, wru64, wru8, Nat.reduceEqDiff, ↓reduceIte, Nat.reduceAdd, Has, and_true, Int.natCast_add, Int.cast_ofNat_Int]) <;> fail)) : p := h
def tSeg : List Td := [.int .i64, .int .i64, .int .i64, .int .i64, .slice 1 (.int .u8)]
def tRep : List Td := [.struct [.int .i64, .int .i64], .int .i64, .int .i64]
def tAct : List Td := [.int .i64, .struct tMsg, .struct tSeg, .struct [.int .i64, .int .i64], .struct tOp, .struct tRep, .slice 1 (.int .u8)]
/-- The cells of an act. -/
def actC (kind : Int) (m : Ms) (vv : Value) (f t s a : Int) (dv : Value) (c1 c2 ok : Int) (onm : List UInt8) (oa ob r1 r2 r3 r4 : Int) (bv : Value) : List Value :=
  .int .i64 kind :: (m.cells vv ++ [.int .i64 f, .int .i64 t, .int .i64 s, .int .i64 a, dv, .int .i64 c1, .int .i64 c2, .int .i64 ok, Lw.S onm, .int .i64 oa, .int .i64 ob, .int .i64 r1, .int .i64 r2, .int .i64 r3, .int .i64 r4, bv])
structure ActGood (w : World) (m : Ms) (vs : List Vw) (vv dv : Value) (ds onm : List UInt8) (oa ob r4 : Int) (bv : Value) (l : List UInt8) : Prop where
  m : MsGood w m vs vv
  d : Reads w [] 1 dv ds.length (ds.map b8)
  nm : onm.length ≤ 140737488351232
  a : I64 oa
  b : I64 ob
  r : I64 r4
  cap : CapOk bv
  l : Reads w [] 1 bv l.length (l.map b8)
theorem sem_act {w : World} {cs : List Value} (h : SemAll w tAct cs) : ∃ kind m vs vv f t s a dv ds c1 c2 ok onm oa ob r1 r2 r3 r4 bv l, cs = actC kind m vv f t s a dv c1 c2 ok onm oa ob r1 r2 r3 r4 bv ∧ ActGood w m vs vv dv ds onm oa ob r4 bv l := by
  obtain ⟨kind, _, rfl, _, h⟩ := sem_i64 h
  obtain ⟨_, _, rfl, hm, h2⟩ := sem_st h
  obtain ⟨m, vs, vv, rfl, hmg⟩ := sem_msg hm
  obtain ⟨_, _, rfl, hs, h3⟩ := sem_st h2
  obtain ⟨f, _, rfl, _, hs⟩ := sem_i64 hs
  obtain ⟨t, _, rfl, _, hs⟩ := sem_i64 hs
  obtain ⟨s, _, rfl, _, hs⟩ := sem_i64 hs
  obtain ⟨a, _, rfl, _, hs⟩ := sem_i64 hs
  obtain ⟨dv, ds, _, rfl, _, hD, hs⟩ := sem_byt hs
  obtain rfl := sem_end hs
  obtain ⟨c1, c2, _, rfl, h4⟩ := sem_pair h3
  obtain ⟨ok, onm, oa, ob, _, rfl, hnm, ha, hb, h5⟩ := sem_op h4
  obtain ⟨_, _, rfl, hr, h6⟩ := sem_st h5
  obtain ⟨r1, r2, _, rfl, hr2⟩ := sem_pair hr
  obtain ⟨r3, _, rfl, _, hr3⟩ := sem_i64 hr2
  obtain ⟨r4, _, rfl, hx, hr4⟩ := sem_i64 hr3
  obtain rfl := sem_end hr4
  obtain ⟨bv, l, _, rfl, hc, hl, h7⟩ := sem_byt h6
  obtain rfl := sem_end h7
  exact ⟨kind, m, vs, vv, f, t, s, a, dv, ds, c1, c2, ok, onm, oa, ob, r1, r2, r3, r4, bv, l, by simp [actC], hmg, hD, hnm, ha, hb, ⟨hx.1, hx.2⟩, hc, hl⟩
theorem one_reads {w : World} {K : List Nat} {sz n : Nat} {v : Value} {cs : List Value} (h : Reads w K sz v n cs) : v.oneCell' = true := by
  obtain ⟨A, c, rfl, _⟩ := h.slc
  rfl
theorem act_ones {w : World} {kind : Int} {m : Ms} {vs : List Vw} {vv dv : Value} {ds onm : List UInt8} {f t s a c1 c2 ok oa ob r1 r2 r3 r4 : Int} {bv : Value} {l : List UInt8} (h : ActGood w m vs vv dv ds onm oa ob r4 bv l) :
    ∀ c ∈ actC kind m vv f t s a dv c1 c2 ok onm oa ob r1 r2 r3 r4 bv, c.oneCell' = true := by
  intro c hc
  have h1 := one_reads h.d
  have h2 := one_reads h.l
  rcases List.mem_cons.1 hc with rfl | hc
  · rfl
  rcases List.mem_append.1 hc with hc | hc
  · exact Ms.ones m (one_reads h.m.rd.1) c hc
  · simp only [List.mem_cons, List.not_mem_nil, or_false] at hc
    rcases hc with rfl | rfl | rfl | rfl | rfl | rfl | rfl | rfl | rfl | rfl | rfl | rfl | rfl | rfl | rfl | rfl <;> first | rfl | assumption
set_option maxRecDepth 8000 in
set_option maxHeartbeats 2000000 in
theorem law8 (xs : List { cs : List Value // cs.length = 37 }) (lv : Value) (w : World) (hR : RdL w [] 37 lv xs Subtype.val) (hok : ∀ x ∈ xs, SemAll w tAct x.1) : Quiet Try.prog 8 #[lv] w (.bool true) := by
  have hfit := hR.1.fits
  obtain ⟨A, c, rfl, _⟩ := hR.1.slc
  refine enterF (args := [.slice A xs.length c]) Try.func8 low8 rfl ?_; have hS := St.start w; dsimp only [L8, envL, Nat.reduceAdd]
  repeat' (first | ((with_reducible apply WL_p); (· exact evk)) | ((with_reducible apply WL_do); (· exact evd)) | ((with_reducible apply WL_no); (· exact evd)) | ((with_reducible apply WC_true); (· exact evk)) | ((with_reducible apply WC_false); (· exact evk)) | (with_reducible first | refine WL_nil ?_ | refine then_normal ?_ | refine blk_normal ?_ | refine WC_seq ?_ | refine WC_reg ?_ | refine WC_block ?_ | refine WC_skip ?_ | refine WC_exit ?_ | refine then_exit ?_ | refine blk_hit ?_ | refine blk_miss (by decide) ?_ | refine WC_ret ?_ | refine then_ret ?_ | refine blk_ret ?_) | ((with_reducible apply WL_callq hS); (· exact evk); (· first | exact c9 _); (clear hS; intro w hS)))
  refine WC_loopH (α := Nat) (fun k => [(0, .slice A xs.length c), (3, .int .i64 (k : Int))]) (fun k w' => k ≤ xs.length ∧ St _ _ w' []) (fun k => xs.length - k) 0 (by exact kYj0) ⟨by omega, hS⟩ ?_
  clear hS
  intro k e w ⟨hk, hS⟩
  dsimp only [patch]
  by_cases hlt : k < xs.length
  · obtain ⟨x, hx⟩ : ∃ x, xs[k]? = some x := ⟨_, List.getElem?_eq_getElem hlt⟩
    have hq := hok x (List.mem_of_getElem? hx)
    obtain ⟨kind, m, vs, vv, f, t, s, a, dv, ds, c1, c2, ok, onm, oa, ob, r1, r2, r3, r4, bv, l, hcs, hg⟩ := sem_act hq
    obtain ⟨cs, hl37⟩ := x
    dsimp only at hcs
    clear hq
    subst hcs
    have hones := act_ones (f := f) (kind := kind) (t := t) (s := s) (a := a) (c1 := c1) (c2 := c2) (ok := ok) (r1 := r1) (r2 := r2) (r3 := r3) hg
    repeat' (first | ((with_reducible apply WL_p); (· exact evk)) | (with_reducible first | refine WL_nil ?_ | refine then_normal ?_ | refine blk_normal ?_ | refine WC_seq ?_ | refine WC_reg ?_ | refine WC_block ?_ | refine WC_skip ?_ | refine WC_exit ?_ | refine then_exit ?_ | refine blk_hit ?_ | refine blk_miss (by decide) ?_ | refine WC_ret ?_ | refine then_ret ?_ | refine blk_ret ?_) | (first | ((with_reducible apply WL_split); (· exact evk)) | ((with_reducible apply WC_dec); (· exact evk)) | ((with_reducible apply WL_splitB); (· exact evk)) | ((with_reducible apply WC_bool); (· exact evk)) | ((with_reducible intro hh) <;> (try (exfalso; omega)))))
    refine WL_idxS hR (by exact evk) (by exact evk) (by omega) hx ?_
    intro b o hbK hcell
    refine WL_loadNR (vs := actC kind m vv f t s a dv c1 c2 ok onm oa ob r1 r2 r3 r4 bv) hS (by exact evk) hbK hcell hl37 ?_
    refine WL_newz hS ?_
    clear hS
    intro b4 w hS hb4
    simp only [List.nil_append] at hS
    refine WL_storeF (vs := actC kind m vv f t s a dv c1 c2 ok onm oa ob r1 r2 r3 r4 bv) hS (by exact evk) (by exact evk) rfl rfl hones upp ?_
    clear hS
    intro w hS
    repeat' (first | ((with_reducible apply WL_p); (· exact evk)) | (with_reducible first | refine WL_nil ?_ | refine then_normal ?_ | refine blk_normal ?_ | refine WC_seq ?_ | refine WC_reg ?_ | refine WC_block ?_ | refine WC_skip ?_ | refine WC_exit ?_ | refine then_exit ?_ | refine blk_hit ?_ | refine blk_miss (by decide) ?_ | refine WC_ret ?_ | refine then_ret ?_ | refine blk_ret ?_))
    refine WL_load (v := .int .i64 kind) hS (by exact evk) inn rfl ?_
    repeat' (first | ((with_reducible apply WL_p); (· exact evk)) | ((with_reducible apply WC_true); (· exact evk)) | ((with_reducible apply WC_false); (· exact evk)) | (with_reducible first | refine WL_nil ?_ | refine then_normal ?_ | refine blk_normal ?_ | refine WC_seq ?_ | refine WC_reg ?_ | refine WC_block ?_ | refine WC_skip ?_ | refine WC_exit ?_ | refine then_exit ?_ | refine blk_hit ?_ | refine blk_miss (by decide) ?_ | refine WC_ret ?_ | refine then_ret ?_ | refine blk_ret ?_) | (first | ((with_reducible apply WL_split); (· exact evk)) | ((with_reducible apply WC_dec); (· exact evk)) | ((with_reducible apply WL_splitB); (· exact evk)) | ((with_reducible apply WC_bool); (· exact evk)) | ((with_reducible intro hh) <;> (try (exfalso; omega)))) | (refine WL_load (v := bv) hS (by exact evk) inn rfl ?_) | (refine WL_loadN (vs := m.cells vv) hS (by exact evk) inn rfl rfl ?_) | (refine WL_loadN (vs := [.int .i64 f, .int .i64 t, .int .i64 s, .int .i64 a, dv]) hS (by exact evk) inn rfl rfl ?_) | (refine WL_loadN (vs := [.int .i64 c1, .int .i64 c2]) hS (by exact evk) inn rfl rfl ?_) | (refine WL_loadN (vs := [.int .i64 ok, Lw.S onm, .int .i64 oa, .int .i64 ob]) hS (by exact evk) inn rfl rfl ?_) | (refine WL_loadN (vs := [.int .i64 r1, .int .i64 r2, .int .i64 r3, .int .i64 r4]) hS (by exact evk) inn rfl rfl ?_) | ((with_reducible apply WL_callq hS); (· exact evk); (· first | exact c10 m vs vv hg.m.ok hg.m.a hg.m.b hg.m.n _ ⟨hS.reads0 hg.m.rd.1, hg.m.rd.2⟩ | exact c11 l bv hg.cap _ (hS.reads0 hg.l) | exact c12 f t s a ds dv l bv hg.cap _ (hS.reads0 hg.d) (hS.reads0 hg.l) | exact c13 c1 c2 ok onm oa ob hg.a hg.b hg.nm l bv hg.cap _ (hS.reads0 hg.l) | exact c14 r1 r2 r3 r4 hg.r l bv hg.cap _ (hS.reads0 hg.l)); (clear hS; intro w hS)))
    all_goals (exact ⟨k + 1, by omega, (by exact kYj0), by omega, hS.sub (List.nil_sublist _)⟩)
  · repeat' (first | ((with_reducible apply WL_p); (· exact evk)) | (with_reducible first | refine WL_nil ?_ | refine then_normal ?_ | refine blk_normal ?_ | refine WC_seq ?_ | refine WC_reg ?_ | refine WC_block ?_ | refine WC_skip ?_ | refine WC_exit ?_ | refine then_exit ?_ | refine blk_hit ?_ | refine blk_miss (by decide) ?_ | refine WC_ret ?_ | refine then_ret ?_ | refine blk_ret ?_) | (first | ((with_reducible apply WL_split); (· exact evk)) | ((with_reducible apply WC_dec); (· exact evk)) | ((with_reducible apply WL_splitB); (· exact evk)) | ((with_reducible apply WC_bool); (· exact evk)) | ((with_reducible intro hh) <;> (try (exfalso; omega)))))
    exact retq hS (v := .bool true) rfl rfl
end Go.Proofs.Ytohmgkcdjapinaa.Lw
