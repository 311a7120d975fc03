/- Part 3 of the texts of this claim: We Wf Wg Wh Wi Wj Wk. -/
import Derived.Test.YtohmgkcdjapinaaM02
import Derived.Test.YtohmgkcdjapinaaProg
set_option linter.unusedVariables false
set_option linter.unusedSimpArgs false
namespace Go.Proofs.Ytohmgkcdjapinaa.Lw
theorem kWe0 {p : Prop} (h : p := by ((simp (disch := omega) only [ev_tmp, ev_const, ev_func, ev_global, upd_app, val_move, val_pick, pickV_true, pickV_false, pickV_bool, val_nilck, nilckV_ptr, val_bin, bin_add, bin_sub, bin_mul, bin_eql, bin_neq, bin_lss, bin_leq, bin_gtr, bin_geq, bin_seql, bin_sneq, bin_slss, bin_sleq, bin_sgtr, bin_sgeq, val_beq, beqV_f, beqV_t, val_seq, val_not, notV_bool, val_toInt, toIntV_int, val_off, offV_ptr, val_len, lenV_slice, val_slen, slenV_S, val_ext, extV_tup, val_ifc, val_fn, List.getElem?_cons_zero, List.getElem?_cons_succ, List.map_cons, List.map_nil, eq_self, Bool.false_eq_true, Bool.not_true, Bool.not_false, Option.map_some, Nat.zero_add, isB_bool, isB_undef, Bool.true_beq, Bool.false_beq, beq_self_eq_true, Bool.true_and, Bool.and_true, Bool.false_and, Bool.and_false, Bool.true_or, Bool.or_true, Bool.false_or, Bool.or_false, not_dec, and_dec, or_dec, seqV_f, seqV_t, ceq_i, ceq_s, ceq_nil, val_bld, bldV, cells_int, cells_bool, cells_S, cells_b8, cells_slice, cells_ptr, cells_agg, List.size_toArray, List.length_cons, List.length_nil, place, List.take_succ_cons, List.take_zero, List.drop_succ_cons, List.drop_zero, List.cons_append, List.nil_append, and_self, and_true, true_and, Nat.reduceLeDiff, List.toList_toArray, wr64, wru64, wru8, Nat.reduceEqDiff, ↓reduceIte, Nat.reduceAdd, Has, and_true, Int.natCast_add, Int.cast_ofNat_Int]))) : p := h
theorem kWe1 {p : Prop} (h : p := by ((simp (disch := omega) only [ev_tmp, ev_const, ev_func, ev_global, upd_app, val_move, val_pick, pickV_true, pickV_false, pickV_bool, val_nilck, nilckV_ptr, val_bin, bin_add, bin_sub, bin_mul, bin_eql, bin_neq, bin_lss, bin_leq, bin_gtr, bin_geq, bin_seql, bin_sneq, bin_slss, bin_sleq, bin_sgtr, bin_sgeq, val_beq, beqV_f, beqV_t, val_seq, val_not, notV_bool, val_toInt, toIntV_int, val_off, offV_ptr, val_len, lenV_slice, val_slen, slenV_S, val_ext, extV_tup, val_ifc, val_fn, List.getElem?_cons_zero, List.getElem?_cons_succ, List.map_cons, List.map_nil, eq_self, Bool.false_eq_true, Bool.not_true, Bool.not_false, Option.map_some, Nat.zero_add, isB_bool, isB_undef, Bool.true_beq, Bool.false_beq, beq_self_eq_true, Bool.true_and, Bool.and_true, Bool.false_and, Bool.and_false, Bool.true_or, Bool.or_true, Bool.false_or, Bool.or_false, not_dec, and_dec, or_dec, seqV_f, seqV_t, ceq_i, ceq_s, ceq_nil, val_bld, bldV, cells_int, cells_bool, cells_S, cells_b8, cells_slice, cells_ptr, cells_agg, List.size_toArray, List.length_cons, List.length_nil, place, List.take_succ_cons, List.take_zero, List.drop_succ_cons, List.drop_zero, List.cons_append, List.nil_append, and_self, and_true, true_and, Nat.reduceLeDiff, List.toList_toArray, wr64, wru64, wru8, Nat.reduceEqDiff, ↓reduceIte, Nat.reduceAdd, or128, shr7]) <;> rfl)) : p := h
abbrev R98_0 : List LOper := [⟨some 4, none, .pv (.move (.tmp 1))⟩, ⟨some 5, none, .pv (.bin .gtr (.tmp 4) (.const (.int .u64 127)))⟩]
abbrev R98_1 : List LOper := [⟨some 8, none, .pv (.move (.tmp 0))⟩, ⟨some 9, none, .pv (.move (.tmp 0))⟩, ⟨some 10, none, .pv (.nilck (.tmp 9))⟩, ⟨some 11, none, .pv (.off (.tmp 10) 0)⟩, ⟨some 12, none, .load (.tmp 11)⟩, ⟨some 13, none, .pv (.move (.tmp 1))⟩, ⟨some 14, none, .pv (.toInt .u8 (.tmp 13))⟩, ⟨some 15, none, .pv (.bin .or (.tmp 14) (.const (.int .u8 128)))⟩, ⟨some 16, none, .row 5 1 [(.int .u8 0)] [(0, (1, (.tmp 15)))]⟩, ⟨some 17, none, .raw 36 (.call (.mk (.builtin .append) #[(.tmp 12), (.tmp 16)] #[36, 36]))⟩, ⟨some 18, none, .pv (.nilck (.tmp 8))⟩, ⟨some 19, none, .pv (.off (.tmp 18) 0)⟩, ⟨none, none, .store 1 (.tmp 19) (.tmp 17)⟩]
abbrev R98_2 : List LOper := [⟨some 6, none, .pv (.move (.tmp 1))⟩, ⟨some 7, none, .pv (.bin .shr (.tmp 6) (.const (.int .u64 7)))⟩, ⟨some 1, none, .pv (.move (.tmp 7))⟩]
abbrev R98_3 : List LOper := [⟨some 20, none, .pv (.move (.tmp 0))⟩, ⟨some 21, none, .pv (.move (.tmp 0))⟩, ⟨some 22, none, .pv (.nilck (.tmp 21))⟩, ⟨some 23, none, .pv (.off (.tmp 22) 0)⟩, ⟨some 24, none, .load (.tmp 23)⟩, ⟨some 25, none, .pv (.move (.tmp 1))⟩, ⟨some 26, none, .pv (.toInt .u8 (.tmp 25))⟩, ⟨some 27, none, .row 5 1 [(.int .u8 0)] [(0, (1, (.tmp 26)))]⟩, ⟨some 28, none, .raw 36 (.call (.mk (.builtin .append) #[(.tmp 24), (.tmp 27)] #[36, 36]))⟩, ⟨some 29, none, .pv (.nilck (.tmp 20))⟩, ⟨some 30, none, .pv (.off (.tmp 29) 0)⟩, ⟨none, none, .store 1 (.tmp 30) (.tmp 28)⟩]
abbrev L98 : LFun := ⟨31, [], .seq (.block 0 (.loop (.seq (.seq (.reg R98_0) (.cond (.tmp 5) .skip (.exit 0))) (.seq (.block 1 (.reg R98_1)) (.reg R98_2))))) (.reg R98_3)⟩
theorem low98 : lowFn Try.prog Try.f98 = some L98 := by kernel_rfl

def lebF : Nat → Nat → List UInt8
  | 0, n => [UInt8.ofNat n]
  | f + 1, n => if n < 128 then [UInt8.ofNat n] else UInt8.ofNat (n % 128 + 128) :: lebF f (n / 128)
def leb (n : Nat) : List UInt8 := lebF 9 n
theorem el36 : ElInfo Try.prog 36 5 1 1 := ElInfo.of Try.underlying36 (z := .int .u8 0) (by kernel_rfl) rfl
theorem fin_or : ∀ x : Fin 256, (x.val ||| 128) = x.val % 128 + 128 := by decide +kernel
theorem or128 (n : Nat) : binV .or (.int .u8 (IntKind.u8.wrap (n : Int))) (.int .u8 128) = some (b8 (UInt8.ofNat (n % 128 + 128))) := by
  rw [bin_or]
  have h1 : IntKind.u8.wrap (n : Int) = ((n % 256 : Nat) : Int) := by rw [IntKind.wrap_u8]; omega
  have h2 : (BitVec.ofInt IntKind.u8.bits (IntKind.u8.wrap (n : Int)) ||| BitVec.ofInt IntKind.u8.bits 128).toNat = n % 128 + 128 := by
    rw [BitVec.toNat_or, h1]
    have e1 : (BitVec.ofInt IntKind.u8.bits ((n % 256 : Nat) : Int)).toNat = n % 256 := by
      rw [BitVec.ofInt_natCast, BitVec.toNat_ofNat]
      exact Nat.mod_mod _ _
    have e2 : (BitVec.ofInt IntKind.u8.bits 128).toNat = 128 := by decide
    rw [e1, e2]
    have := fin_or ⟨n % 256, by omega⟩
    simp only at this
    rw [this]
    omega
  rw [h2]
  unfold b8
  congr 2
theorem by8 (n : Nat) : (Value.int .u8 (IntKind.u8.wrap (n : Int))) = b8 (UInt8.ofNat n) := by
  unfold b8
  congr 1
theorem by8' (n : Nat) (h : n < 256) : (Value.int .u8 (n : Int)) = b8 (UInt8.ofNat n) := by
  unfold b8
  congr 1
  simp only [UInt8.toNat_ofNat']
  omega
theorem shr7 (n : Nat) (k : IntKind) : binV .shr (.int .u64 (n : Int)) (.int k 7) = some (.int .u64 ((n / 128 : Nat) : Int)) := by
  rw [bin_shr _ _ _ _ (by omega)]
  congr 2
  have : (min (7 : Int).toNat IntKind.u64.bits) = 7 := by decide
  rw [this]
  rw [Int.fdiv_eq_ediv_of_nonneg _ (by decide)]
  omega
/-- The writer at block g has written bs. -/
def WrS (g : Nat) (bs : List UInt8) (O : Blks) : Prop := ∃ v L, O = (g, Blk 96 [v]) :: L ∧ RowIs 5 1 v bs.length (bs.map b8) L
theorem RowIs.snoc {v : Value} {bs : List UInt8} {c : UInt8} {L : Blks} (h : RowIs 5 1 v (bs.length + 1) (bs.map b8 ++ [b8 c]) L) : RowIs 5 1 v (bs ++ [c]).length ((bs ++ [c]).map b8) L := by
  simpa using h
set_option maxHeartbeats 1000000 in
theorem c98 (g n : Nat) (bs : List UInt8) (hn : n < 18446744073709551616) (hb : bs.length ≤ 1099511627776) (O : Blks) (hW : WrS g bs O) (w : World) (hA : At w O) :
    Calls Try.prog 98 #[.pointer (some ⟨g, 0, none⟩), .int .u64 (n : Int)] w (Ret w (keysOf O) fun u O' => u = .tuple #[] ∧ WrS g (bs ++ leb n) O') := by
  obtain ⟨v, L, rfl, hrow⟩ := hW
  refine enterF (args := [.pointer (some ⟨g, 0, none⟩), .int .u64 (n : Int)]) Try.func98 low98 rfl ?_; have hS := St.start w; dsimp only [L98, envL, Nat.reduceAdd]
  replace hS := St.init hA
  generalize hK : keysOf ((g, Blk 96 [v]) :: L) = K at hS ⊢
  repeat' (first | ((with_reducible apply WL_p); (· exact evk)) | (with_reducible first | refine WL_nil ?_ | refine then_normal ?_ | refine blk_normal ?_ | refine WC_seq ?_ | refine WC_reg ?_ | refine WC_block ?_ | refine WC_skip ?_ | refine WC_exit ?_ | refine then_exit ?_ | refine blk_hit ?_ | refine blk_miss (by decide) ?_ | refine WC_ret ?_ | refine then_ret ?_ | refine blk_ret ?_))
  refine WC_loopH (α := Nat × Nat × List UInt8 × Value × Blks) (fun a => [(0, .pointer (some ⟨g, 0, none⟩)), (1, .int .u64 (a.2.1 : Int))])
    (fun a w' => a.2.1 < 128 ^ (a.1 + 1) ∧ bs ++ leb n = a.2.2.1 ++ lebF a.1 a.2.1 ∧ a.2.2.1.length + a.1 ≤ bs.length + 9 ∧ RowIs 5 1 a.2.2.2.1 a.2.2.1.length (a.2.2.1.map b8) a.2.2.2.2 ∧ St w K w' ((g, Blk 96 [a.2.2.2.1]) :: a.2.2.2.2))
    (fun a => a.1) (9, n, bs, v, L) (by exact kWe0) ⟨by dsimp only; omega, rfl, by dsimp only; omega, hrow, hS⟩ ?_
  rintro ⟨f, n', bs', v', L'⟩ e w1 ⟨hlt, hall, hlen, hrow, hS⟩
  dsimp only [patch] at hlt hall hlen hrow hS ⊢
  by_cases h128 : n' < 128
  · repeat' (first | ((with_reducible apply WL_p); (· exact evk)) | ((with_reducible apply WL_do); (· exact evd)) | ((with_reducible apply WL_no); (· exact evd)) | ((with_reducible apply WC_true); (· exact evk)) | ((with_reducible apply WC_false); (· exact evk)) | (with_reducible first | refine WL_nil ?_ | refine then_normal ?_ | refine blk_normal ?_ | refine WC_seq ?_ | refine WC_reg ?_ | refine WC_block ?_ | refine WC_skip ?_ | refine WC_exit ?_ | refine then_exit ?_ | refine blk_hit ?_ | refine blk_miss (by decide) ?_ | refine WC_ret ?_ | refine then_ret ?_ | refine blk_ret ?_) | ((first | (with_reducible apply WL_newz hS) | ((with_reducible apply WL_newv hS); (· exact evk); (· rfl)) | ((with_reducible apply WL_row hS); (· exact evk))); clear hS; intro bq w hS hbq; (try simp only [List.nil_append, List.cons_append, List.append_assoc] at hS)) | ((with_reducible apply WL_load hS); (· exact evk); (· exact inn); (· rfl)) | ((with_reducible apply WL_loadN hS); (· exact evk); (· exact inn); (· ((simp only [List.drop_succ_cons, List.drop_zero, List.take_succ_cons, List.take_zero]) <;> rfl)); (· rfl)) | (first | ((with_reducible apply WL_split); (· exact evk)) | ((with_reducible apply WC_dec); (· exact evk)) | ((with_reducible apply WL_splitB); (· exact evk)) | ((with_reducible apply WC_bool); (· exact evk)) | (with_reducible intro hh)))
    all_goals (try omega)
    refine WL_append (M := [(g, Blk 96 [v'])]) (L := L') hS el36 (by exact evk) (by exact evk) hrow (Src.blk hS inn rfl (by simp [Value.oneCell']) Try.underlying36) (by omega) (by omega) ?_
    clear hS
    intro v2 w2 L2 hrow2 hS
    rw [by8' n' (by omega)] at hrow2
    simp only [List.nil_append, List.cons_append] at hS
    repeat' (first | ((with_reducible apply WL_p); (· exact evk)) | (with_reducible first | refine WL_nil ?_ | refine then_normal ?_ | refine blk_normal ?_ | refine WC_seq ?_ | refine WC_reg ?_ | refine WC_block ?_ | refine WC_skip ?_ | refine WC_exit ?_ | refine then_exit ?_ | refine blk_hit ?_ | refine blk_miss (by decide) ?_ | refine WC_ret ?_ | refine then_ret ?_ | refine blk_ret ?_) | ((with_reducible apply WL_store hS); (· exact evk); (· exact evk); (· first | rfl | assumption | exact RowIs.one (by assumption)); (· exact upp); (· simp); (clear hS; intro w hS; (simp only [List.set_cons_succ, List.set_cons_zero, putList, Nat.zero_add, Nat.reduceAdd] at hS))))
    refine ret0n (hS.sub (List.Sublist.cons_cons _ (List.sublist_append_left _ _))) ⟨rfl, v2, L2, rfl, ?_⟩
    have : lebF f n' = [UInt8.ofNat n'] := by cases f <;> simp [lebF, h128]
    rw [hall, this]
    exact hrow2.snoc
  · cases f with
    | zero => simp at hlt; omega
    | succ f =>
      repeat' (first | ((with_reducible apply WL_p); (· exact kWe1)) | ((with_reducible apply WL_do); (· exact evd)) | ((with_reducible apply WL_no); (· exact evd)) | ((with_reducible apply WC_true); (· exact evk)) | ((with_reducible apply WC_false); (· exact evk)) | (with_reducible first | refine WL_nil ?_ | refine then_normal ?_ | refine blk_normal ?_ | refine WC_seq ?_ | refine WC_reg ?_ | refine WC_block ?_ | refine WC_skip ?_ | refine WC_exit ?_ | refine then_exit ?_ | refine blk_hit ?_ | refine blk_miss (by decide) ?_ | refine WC_ret ?_ | refine then_ret ?_ | refine blk_ret ?_) | ((first | (with_reducible apply WL_newz hS) | ((with_reducible apply WL_newv hS); (· exact evk); (· rfl)) | ((with_reducible apply WL_row hS); (· exact evk))); clear hS; intro bq w hS hbq; (try simp only [List.nil_append, List.cons_append, List.append_assoc] at hS)) | ((with_reducible apply WL_load hS); (· exact evk); (· exact inn); (· rfl)) | ((with_reducible apply WL_loadN hS); (· exact evk); (· exact inn); (· ((simp only [List.drop_succ_cons, List.drop_zero, List.take_succ_cons, List.take_zero]) <;> rfl)); (· rfl)) | (first | ((with_reducible apply WL_split); (· exact evk)) | ((with_reducible apply WC_dec); (· exact evk)) | ((with_reducible apply WL_splitB); (· exact evk)) | ((with_reducible apply WC_bool); (· exact evk)) | (with_reducible intro hh)))
      all_goals (try omega)
      refine WL_append (M := [(g, Blk 96 [v'])]) (L := L') hS el36 (by exact evk) (by exact evk) hrow (Src.blk hS inn rfl (by simp [Value.oneCell', b8]) Try.underlying36) (by omega) (by omega) ?_
      clear hS
      intro v2 w2 L2 hrow2 hS
      simp only [List.nil_append, List.cons_append] at hS
      repeat' (first | ((with_reducible apply WL_p); (· exact kWe1)) | (with_reducible first | refine WL_nil ?_ | refine then_normal ?_ | refine blk_normal ?_ | refine WC_seq ?_ | refine WC_reg ?_ | refine WC_block ?_ | refine WC_skip ?_ | refine WC_exit ?_ | refine then_exit ?_ | refine blk_hit ?_ | refine blk_miss (by decide) ?_ | refine WC_ret ?_ | refine then_ret ?_ | refine blk_ret ?_) | ((with_reducible apply WL_store hS); (· exact evk); (· exact evk); (· first | rfl | assumption | exact RowIs.one (by assumption)); (· exact upp); (· simp); (clear hS; intro w hS; (simp only [List.set_cons_succ, List.set_cons_zero, putList, Nat.zero_add, Nat.reduceAdd] at hS))))
      have : lebF (f + 1) n' = UInt8.ofNat (n' % 128 + 128) :: lebF f (n' / 128) := by simp [lebF, h128]
      refine ⟨(f, n' / 128, bs' ++ [UInt8.ofNat (n' % 128 + 128)], v2, L2), by dsimp only; omega, ?_, ?_, ?_, ?_, ?_, hS.sub (List.Sublist.cons_cons _ (List.sublist_append_left _ _))⟩
      · exact kWe0
      · dsimp only
        rw [Nat.pow_succ] at hlt
        omega
      · rw [hall, this]; simp
      · simp; omega
      · exact hrow2.snoc
end Go.Proofs.Ytohmgkcdjapinaa.Lw
namespace Go.Proofs.Ytohmgkcdjapinaa.Lw
theorem kWf0 {p : Prop} (h : p := by ((simp (disch := omega) only [ev_tmp, ev_const, ev_func, ev_global, upd_app, val_move, val_pick, pickV_true, pickV_false, pickV_bool, val_nilck, nilckV_ptr, val_bin, bin_add, bin_sub, bin_mul, bin_eql, bin_neq, bin_lss, bin_leq, bin_gtr, bin_geq, bin_seql, bin_sneq, bin_slss, bin_sleq, bin_sgtr, bin_sgeq, val_beq, beqV_f, beqV_t, val_seq, val_not, notV_bool, val_toInt, toIntV_int, val_off, offV_ptr, val_len, lenV_slice, val_slen, slenV_S, val_ext, extV_tup, val_ifc, val_fn, List.getElem?_cons_zero, List.getElem?_cons_succ, List.map_cons, List.map_nil, eq_self, Bool.false_eq_true, Bool.not_true, Bool.not_false, Option.map_some, Nat.zero_add, isB_bool, isB_undef, Bool.true_beq, Bool.false_beq, beq_self_eq_true, Bool.true_and, Bool.and_true, Bool.false_and, Bool.and_false, Bool.true_or, Bool.or_true, Bool.false_or, Bool.or_false, not_dec, and_dec, or_dec, seqV_f, seqV_t, ceq_i, ceq_s, ceq_nil, val_bld, bldV, cells_int, cells_bool, cells_S, cells_b8, cells_slice, cells_ptr, cells_agg, List.size_toArray, List.length_cons, List.length_nil, place, List.take_succ_cons, List.take_zero, List.drop_succ_cons, List.drop_zero, List.cons_append, List.nil_append, and_self, and_true, true_and, Nat.reduceLeDiff, List.toList_toArray, wr64, wru64, wru8, Nat.reduceEqDiff, ↓reduceIte, Nat.reduceAdd, Has, and_true, Int.natCast_add, Int.cast_ofNat_Int]))) : p := h
theorem kWf1 {p : Prop} (h : p := by ((simp (disch := omega) only [ev_tmp, ev_const, ev_func, ev_global, upd_app, val_move, val_pick, pickV_true, pickV_false, pickV_bool, val_nilck, nilckV_ptr, val_bin, bin_add, bin_sub, bin_mul, bin_eql, bin_neq, bin_lss, bin_leq, bin_gtr, bin_geq, bin_seql, bin_sneq, bin_slss, bin_sleq, bin_sgtr, bin_sgeq, val_beq, beqV_f, beqV_t, val_seq, val_not, notV_bool, val_toInt, toIntV_int, val_off, offV_ptr, val_len, lenV_slice, val_slen, slenV_S, val_ext, extV_tup, val_ifc, val_fn, List.getElem?_cons_zero, List.getElem?_cons_succ, List.map_cons, List.map_nil, eq_self, Bool.false_eq_true, Bool.not_true, Bool.not_false, Option.map_some, Nat.zero_add, isB_bool, isB_undef, Bool.true_beq, Bool.false_beq, beq_self_eq_true, Bool.true_and, Bool.and_true, Bool.false_and, Bool.and_false, Bool.true_or, Bool.or_true, Bool.false_or, Bool.or_false, not_dec, and_dec, or_dec, seqV_f, seqV_t, ceq_i, ceq_s, ceq_nil, val_bld, bldV, cells_int, cells_bool, cells_S, cells_b8, cells_slice, cells_ptr, cells_agg, List.size_toArray, List.length_cons, List.length_nil, place, List.take_succ_cons, List.take_zero, List.drop_succ_cons, List.drop_zero, List.cons_append, List.nil_append, and_self, and_true, true_and, Nat.reduceLeDiff, List.toList_toArray, wr64, wru64, wru8, Nat.reduceEqDiff, ↓reduceIte, Nat.reduceAdd, bin_shl, bin_shr, zigx]) <;> rfl)) : p := h
theorem kWf2 {p : Prop} (h : p := by ((simp (disch := omega) only [ev_tmp, ev_const, ev_func, ev_global, upd_app, val_move, val_pick, pickV_true, pickV_false, pickV_bool, val_nilck, nilckV_ptr, val_bin, bin_add, bin_sub, bin_mul, bin_eql, bin_neq, bin_lss, bin_leq, bin_gtr, bin_geq, bin_seql, bin_sneq, bin_slss, bin_sleq, bin_sgtr, bin_sgeq, val_beq, beqV_f, beqV_t, val_seq, val_not, notV_bool, val_toInt, toIntV_int, val_off, offV_ptr, val_len, lenV_slice, val_slen, slenV_S, val_ext, extV_tup, val_ifc, val_fn, List.getElem?_cons_zero, List.getElem?_cons_succ, List.map_cons, List.map_nil, eq_self, Bool.false_eq_true, Bool.not_true, Bool.not_false, Option.map_some, Nat.zero_add, isB_bool, isB_undef, Bool.true_beq, Bool.false_beq, beq_self_eq_true, Bool.true_and, Bool.and_true, Bool.false_and, Bool.and_false, Bool.true_or, Bool.or_true, Bool.false_or, Bool.or_false, not_dec, and_dec, or_dec, seqV_f, seqV_t, ceq_i, ceq_s, ceq_nil, val_bld, bldV, cells_int, cells_bool, cells_S, cells_b8, cells_slice, cells_ptr, cells_agg, List.size_toArray, List.length_cons, List.length_nil, place, List.take_succ_cons, List.take_zero, List.drop_succ_cons, List.drop_zero, List.cons_append, List.nil_append, and_self, and_true, true_and, Nat.reduceLeDiff, List.toList_toArray, wr64, wru64, wru8, Nat.reduceEqDiff, ↓reduceIte, Nat.reduceAdd, wrap_u64]) <;> rfl)) : p := h
abbrev R45_0 : List LOper := [⟨some 6, none, .pv (.move (.tmp 1))⟩, ⟨some 7, none, .pv (.len (.tmp 6))⟩, ⟨some 8, none, .pv (.move (.const (.int .i64 0)))⟩]
abbrev R45_1 : List LOper := [⟨some 9, none, .pv (.bin .lss (.tmp 8) (.tmp 7))⟩]
abbrev R45_2 : List LOper := [⟨some 10, none, .pv (.idx 1 (.tmp 6) (.tmp 8))⟩, ⟨some 11, none, .load (.tmp 10)⟩, ⟨some 5, none, .pv (.move (.tmp 11))⟩]
abbrev R45_3 : List LOper := [⟨some 12, none, .pv (.move (.tmp 0))⟩, ⟨some 13, none, .pv (.move (.tmp 5))⟩, ⟨some 14, none, .pv (.toInt .u64 (.tmp 13))⟩, ⟨some 15, none, .call 98 [(.tmp 12), (.tmp 14)]⟩]
abbrev R45_4 : List LOper := [⟨some 16, none, .pv (.bin .add (.tmp 8) (.const (.int .i64 1)))⟩, ⟨some 8, none, .pv (.move (.tmp 16))⟩]
abbrev L45 : LFun := ⟨17, [], (.seq (.reg R45_0) (.block 0 (.loop (.seq (.reg R45_1) (.seq (.cond (.tmp 9) .skip (.exit 0)) (.seq (.block 1 (.seq (.reg R45_2) (.reg R45_3))) (.reg R45_4)))))))⟩
theorem low45 : lowFn Try.prog Try.f45 = some L45 := by kernel_rfl
abbrev R49_0 : List LOper := [⟨some 4, none, .pv (.move (.tmp 0))⟩, ⟨some 5, none, .pv (.move (.tmp 1))⟩, ⟨some 6, none, .pv (.slen (.tmp 5))⟩, ⟨some 7, none, .row 3 1 [(.int .i64 0)] [(0, (1, (.tmp 6)))]⟩, ⟨some 8, none, .call 45 [(.tmp 4), (.tmp 7)]⟩]
abbrev R49_1 : List LOper := [⟨some 9, none, .pv (.move (.tmp 0))⟩, ⟨some 10, none, .pv (.move (.tmp 0))⟩, ⟨some 11, none, .pv (.nilck (.tmp 10))⟩, ⟨some 12, none, .pv (.off (.tmp 11) 0)⟩, ⟨some 13, none, .load (.tmp 12)⟩, ⟨some 14, none, .pv (.move (.tmp 1))⟩, ⟨some 15, none, .raw 36 (.call (.mk (.builtin .append) #[(.tmp 13), (.tmp 14)] #[36, 9]))⟩, ⟨some 16, none, .pv (.nilck (.tmp 9))⟩, ⟨some 17, none, .pv (.off (.tmp 16) 0)⟩, ⟨none, none, .store 1 (.tmp 17) (.tmp 15)⟩]
abbrev L49 : LFun := ⟨18, [], (.seq (.reg R49_0) (.reg R49_1))⟩
theorem low49 : lowFn Try.prog Try.f49 = some L49 := by kernel_rfl
abbrev R59_0 : List LOper := [⟨some 4, none, .pv (.move (.tmp 0))⟩, ⟨some 5, none, .pv (.move (.tmp 1))⟩, ⟨some 6, none, .pv (.toInt .u64 (.tmp 5))⟩, ⟨some 7, none, .pv (.bin .shl (.tmp 6) (.const (.int .u64 1)))⟩, ⟨some 8, none, .pv (.move (.tmp 1))⟩, ⟨some 9, none, .pv (.bin .shr (.tmp 8) (.const (.int .u64 63)))⟩, ⟨some 10, none, .pv (.toInt .u64 (.tmp 9))⟩, ⟨some 11, none, .pv (.bin .xor (.tmp 7) (.tmp 10))⟩, ⟨some 12, none, .call 98 [(.tmp 4), (.tmp 11)]⟩]
abbrev L59 : LFun := ⟨13, [], (.reg R59_0)⟩
theorem low59 : lowFn Try.prog Try.f59 = some L59 := by kernel_rfl
abbrev R46_0 : List LOper := [⟨some 3, none, .newv 27 (.tmp 1)⟩]
abbrev R46_1 : List LOper := [⟨some 4, none, .pv (.move (.tmp 0))⟩, ⟨some 5, none, .pv (.off (.tmp 3) 0)⟩, ⟨some 6, none, .load (.tmp 5)⟩, ⟨some 7, none, .pv (.off (.tmp 3) 1)⟩, ⟨some 8, none, .load (.tmp 7)⟩, ⟨some 9, none, .row 3 2 [(.int .i64 0), (.int .i64 0)] [(0, (1, (.tmp 6))), (1, (1, (.tmp 8)))]⟩, ⟨some 10, none, .call 45 [(.tmp 4), (.tmp 9)]⟩]
abbrev L46 : LFun := ⟨11, [], (.seq (.reg R46_0) (.reg R46_1))⟩
theorem low46 : lowFn Try.prog Try.f46 = some L46 := by kernel_rfl
abbrev R47_0 : List LOper := [⟨some 3, none, .newv 29 (.tmp 1)⟩]
abbrev R47_1 : List LOper := [⟨some 4, none, .pv (.move (.tmp 0))⟩, ⟨some 5, none, .pv (.off (.tmp 3) 0)⟩, ⟨some 6, none, .load (.tmp 5)⟩, ⟨some 7, none, .row 3 1 [(.int .i64 0)] [(0, (1, (.tmp 6)))]⟩, ⟨some 8, none, .call 45 [(.tmp 4), (.tmp 7)]⟩]
abbrev R47_2 : List LOper := [⟨some 9, none, .pv (.move (.tmp 0))⟩, ⟨some 10, none, .pv (.off (.tmp 3) 1)⟩, ⟨some 11, none, .load (.tmp 10)⟩, ⟨some 12, none, .call 49 [(.tmp 9), (.tmp 11)]⟩]
abbrev R47_3 : List LOper := [⟨some 13, none, .pv (.move (.tmp 0))⟩, ⟨some 14, none, .pv (.off (.tmp 3) 2)⟩, ⟨some 15, none, .load (.tmp 14)⟩, ⟨some 16, none, .call 59 [(.tmp 13), (.tmp 15)]⟩]
abbrev R47_4 : List LOper := [⟨some 17, none, .pv (.move (.tmp 0))⟩, ⟨some 18, none, .pv (.off (.tmp 3) 3)⟩, ⟨some 19, none, .load (.tmp 18)⟩, ⟨some 20, none, .call 59 [(.tmp 17), (.tmp 19)]⟩]
abbrev L47 : LFun := ⟨21, [], (.seq (.reg R47_0) (.seq (.reg R47_1) (.seq (.reg R47_2) (.seq (.reg R47_3) (.reg R47_4)))))⟩
theorem low47 : lowFn Try.prog Try.f47 = some L47 := by kernel_rfl

def u64 (n : Int) : Nat := (n % 18446744073709551616).toNat
theorem u64_lt (n : Int) : u64 n < 18446744073709551616 := by unfold u64; omega
theorem wrap_u64 (n : Int) : IntKind.u64.wrap n = (u64 n : Int) := by rw [IntKind.wrap_u64]; unfold u64; omega
def numsE (l : List Int) : List UInt8 := l.flatMap fun n => leb (u64 n)
theorem lebF_len : ∀ (f n : Nat), (lebF f n).length ≤ f + 1
  | 0, n => by simp [lebF]
  | f + 1, n => by
    simp only [lebF]
    split
    · simp
    · simp only [List.length_cons]; have := lebF_len f (n / 128); omega
theorem leb_len (n : Nat) : (leb n).length ≤ 10 := lebF_len 9 n
theorem numsE_len (l : List Int) : (numsE l).length ≤ 10 * l.length := by
  induction l with
  | nil => simp [numsE]
  | cons n l ih => simp only [numsE, List.flatMap_cons, List.length_append, List.length_cons] at *; have := leb_len (u64 n); omega
theorem toInt_u64 (k : IntKind) (n : Int) : toIntV .u64 (.int k n) = some (.int .u64 (u64 n : Int)) := by rw [toIntV_int, wrap_u64]
set_option maxHeartbeats 1000000 in
theorem c45 (g : Nat) (ns : List Int) (bs : List UInt8) (hb : bs.length + 10 * ns.length ≤ 1099511627776) (O : Blks) (hW : WrS g bs O) (vv : Value) (w : World) (hA : At w O) (hR : RdL w (keysOf O) 1 vv ns i64s) :
    Calls Try.prog 45 #[.pointer (some ⟨g, 0, none⟩), vv] w (Ret w (keysOf O) fun u O' => u = .tuple #[] ∧ WrS g (bs ++ numsE ns) O') := by
  obtain ⟨A, c, rfl, _⟩ := hR.1.slc
  have hlen := hR.1.fits
  refine enterF (args := [.pointer (some ⟨g, 0, none⟩), .slice A ns.length c]) Try.func45 low45 rfl ?_; have hS := St.start w; dsimp only [L45, envL, Nat.reduceAdd]
  replace hS := St.init hA
  generalize hK : keysOf O = K at hS hR ⊢
  repeat' (first | ((with_reducible apply WL_p); (· exact evk)) | (with_reducible first | refine WL_nil ?_ | refine then_normal ?_ | refine blk_normal ?_ | refine WC_seq ?_ | refine WC_reg ?_ | refine WC_block ?_ | refine WC_skip ?_ | refine WC_exit ?_ | refine then_exit ?_ | refine blk_hit ?_ | refine blk_miss (by decide) ?_ | refine WC_ret ?_ | refine then_ret ?_ | refine blk_ret ?_))
  refine WC_loopH (α := Nat × List UInt8 × Blks) (fun a => [(0, .pointer (some ⟨g, 0, none⟩)), (6, .slice A ns.length c), (7, .int .i64 ns.length), (8, .int .i64 a.1)])
    (fun a w' => a.1 ≤ ns.length ∧ bs ++ numsE ns = a.2.1 ++ numsE (ns.drop a.1) ∧ a.2.1.length + 10 * (ns.length - a.1) ≤ 1099511627776 ∧ WrS g a.2.1 a.2.2 ∧ St w K w' a.2.2)
    (fun a => ns.length - a.1) (0, bs, O) (by exact kWf0) ⟨by dsimp only; omega, rfl, by dsimp only; omega, hW, hS⟩ ?_
  rintro ⟨k, bs', Ow⟩ e w1 ⟨hk, hall, hlen2, hW, hS⟩
  dsimp only [patch] at hk hall hlen2 hW hS ⊢
  by_cases hlt : k < ns.length
  · obtain ⟨x, hx⟩ : ∃ x, ns[k]? = some x := ⟨_, List.getElem?_eq_getElem hlt⟩
    have hd : ns.drop k = x :: ns.drop (k + 1) := by
      obtain ⟨hk, rfl⟩ := List.getElem?_eq_some_iff.1 hx
      exact List.drop_eq_getElem_cons hk
    repeat' (first | ((with_reducible apply WL_p); (· exact evk)) | ((with_reducible apply WL_do); (· exact evd)) | ((with_reducible apply WL_no); (· exact evd)) | ((with_reducible apply WC_true); (· exact evk)) | ((with_reducible apply WC_false); (· exact evk)) | (with_reducible first | refine WL_nil ?_ | refine then_normal ?_ | refine blk_normal ?_ | refine WC_seq ?_ | refine WC_reg ?_ | refine WC_block ?_ | refine WC_skip ?_ | refine WC_exit ?_ | refine then_exit ?_ | refine blk_hit ?_ | refine blk_miss (by decide) ?_ | refine WC_ret ?_ | refine then_ret ?_ | refine blk_ret ?_) | (first | ((with_reducible apply WL_split); (· exact evk)) | ((with_reducible apply WC_dec); (· exact evk)) | ((with_reducible apply WL_splitB); (· exact evk)) | ((with_reducible apply WC_bool); (· exact evk)) | (with_reducible intro hh)))
    all_goals (try omega)
    ((with_reducible apply WL_idxS hR); (· exact evk); (· exact evk); (· omega); (· assumption); (intro b o hbK hcell))
    have hc0 := hcell 0 (by omega)
    simp only [i64s, List.getElem?_cons_zero, Nat.add_zero] at hc0
    refine WL_loadR hS (by exact evk) hbK hc0 ?_
    repeat' (first | ((with_reducible apply WL_p); (· exact evk)) | (with_reducible first | refine WL_nil ?_ | refine then_normal ?_ | refine blk_normal ?_ | refine WC_seq ?_ | refine WC_reg ?_ | refine WC_block ?_ | refine WC_skip ?_ | refine WC_exit ?_ | refine then_exit ?_ | refine blk_hit ?_ | refine blk_miss (by decide) ?_ | refine WC_ret ?_ | refine then_ret ?_ | refine blk_ret ?_))
    refine WL_call (Oc := Ow) (F := []) (by simpa using hS) (by exact kWf2) (c98 g (u64 x) bs' (u64_lt x) (by omega) Ow hW _ hS.at) ?_
    clear hS
    rintro u O2 w2 ⟨rfl, hW2⟩ hS
    simp only [List.append_nil] at hS
    repeat' (first | ((with_reducible apply WL_p); (· exact evk)) | (with_reducible first | refine WL_nil ?_ | refine then_normal ?_ | refine blk_normal ?_ | refine WC_seq ?_ | refine WC_reg ?_ | refine WC_block ?_ | refine WC_skip ?_ | refine WC_exit ?_ | refine then_exit ?_ | refine blk_hit ?_ | refine blk_miss (by decide) ?_ | refine WC_ret ?_ | refine then_ret ?_ | refine blk_ret ?_))
    have := leb_len (u64 x)
    refine ⟨(k + 1, bs' ++ leb (u64 x), O2), by dsimp only; omega, ?_, by dsimp only; omega, ?_, ?_, hW2, hS⟩
    · exact kWf0
    · rw [hall, hd]; simp [numsE]
    · simp; omega
  · obtain rfl : k = ns.length := by omega
    repeat' (first | ((with_reducible apply WL_p); (· exact evk)) | ((with_reducible apply WL_do); (· exact evd)) | ((with_reducible apply WL_no); (· exact evd)) | ((with_reducible apply WC_true); (· exact evk)) | ((with_reducible apply WC_false); (· exact evk)) | (with_reducible first | refine WL_nil ?_ | refine then_normal ?_ | refine blk_normal ?_ | refine WC_seq ?_ | refine WC_reg ?_ | refine WC_block ?_ | refine WC_skip ?_ | refine WC_exit ?_ | refine then_exit ?_ | refine blk_hit ?_ | refine blk_miss (by decide) ?_ | refine WC_ret ?_ | refine then_ret ?_ | refine blk_ret ?_) | (first | ((with_reducible apply WL_split); (· exact evk)) | ((with_reducible apply WC_dec); (· exact evk)) | ((with_reducible apply WL_splitB); (· exact evk)) | ((with_reducible apply WC_bool); (· exact evk)) | (with_reducible intro hh)))
    all_goals (try omega)
    refine ret0n hS ⟨rfl, ?_⟩
    rw [hall]
    simpa [numsE] using hW
theorem WrS.append {g : Nat} {bs : List UInt8} {w0 w : World} {K : List Nat} {O F : Blks} (hW : WrS g bs O) : ∃ v L, O = (g, Blk 96 [v]) :: L ∧ RowIs 5 1 v bs.length (bs.map b8) L := hW
set_option maxHeartbeats 1000000 in
theorem c49 (g : Nat) (s : List UInt8) (bs : List UInt8) (hb : bs.length + 10 + s.length ≤ 1099511627776) (O : Blks) (hW : WrS g bs O) (w : World) (hA : At w O) :
    Calls Try.prog 49 #[.pointer (some ⟨g, 0, none⟩), S s] w (Ret w (keysOf O) fun u O' => u = .tuple #[] ∧ WrS g (bs ++ (numsE [(s.length : Int)] ++ s)) O') := by
  refine enterF (args := [.pointer (some ⟨g, 0, none⟩), S s]) Try.func49 low49 rfl ?_; have hS := St.start w; dsimp only [L49, envL, Nat.reduceAdd]
  replace hS := St.init hA
  generalize hK : keysOf O = K at hS ⊢
  repeat' (first | ((with_reducible apply WL_p); (· exact evk)) | (with_reducible first | refine WL_nil ?_ | refine then_normal ?_ | refine blk_normal ?_ | refine WC_seq ?_ | refine WC_reg ?_ | refine WC_block ?_ | refine WC_skip ?_ | refine WC_exit ?_ | refine then_exit ?_ | refine blk_hit ?_ | refine blk_miss (by decide) ?_ | refine WC_ret ?_ | refine then_ret ?_ | refine blk_ret ?_) | ((first | (with_reducible apply WL_newz hS) | ((with_reducible apply WL_newv hS); (· exact evk); (· rfl)) | ((with_reducible apply WL_row hS); (· exact evk))); clear hS; intro bq w hS hbq; (try simp only [List.nil_append, List.cons_append, List.append_assoc] at hS)))
  refine WL_call (Oc := O) hS (by exact evk) (c45 g [(s.length : Int)] bs (by simp only [List.length_cons, List.length_nil]; omega) O hW _ _ hS.at_left (hS.lendL [(s.length : Int)] inn (by simp))) ?_
  clear hS
  rintro u O2 w2 ⟨rfl, v, L, rfl, hrow⟩ hS
  have hl := numsE_len [(s.length : Int)]
  simp only [List.nil_append, List.cons_append, List.append_assoc, List.length_cons, List.length_nil] at hS hl
  repeat' (first | ((with_reducible apply WL_p); (· exact evk)) | (with_reducible first | refine WL_nil ?_ | refine then_normal ?_ | refine blk_normal ?_ | refine WC_seq ?_ | refine WC_reg ?_ | refine WC_block ?_ | refine WC_skip ?_ | refine WC_exit ?_ | refine then_exit ?_ | refine blk_hit ?_ | refine blk_miss (by decide) ?_ | refine WC_ret ?_ | refine then_ret ?_ | refine blk_ret ?_) | ((with_reducible apply WL_load hS); (· exact evk); (· exact inn); (· rfl)))
  refine WL_append (M := [(g, Blk 96 [v])]) (L := L) hS el36 (by exact evk) (by exact evk) hrow (Src.str s Try.underlying9) (by rw [List.length_append]; omega) (by rw [List.length_append]; omega) ?_
  clear hS
  intro v2 w3 L2 hrow2 hS
  simp only [List.nil_append, List.cons_append] at hS
  repeat' (first | ((with_reducible apply WL_p); (· exact evk)) | (with_reducible first | refine WL_nil ?_ | refine then_normal ?_ | refine blk_normal ?_ | refine WC_seq ?_ | refine WC_reg ?_ | refine WC_block ?_ | refine WC_skip ?_ | refine WC_exit ?_ | refine then_exit ?_ | refine blk_hit ?_ | refine blk_miss (by decide) ?_ | refine WC_ret ?_ | refine then_ret ?_ | refine blk_ret ?_) | ((with_reducible apply WL_store hS); (· exact evk); (· exact evk); (· first | rfl | assumption | exact RowIs.one (by assumption)); (· exact upp); (· simp); (clear hS; intro w hS; (simp only [List.set_cons_succ, List.set_cons_zero, putList, Nat.zero_add, Nat.reduceAdd] at hS))))
  refine ret0n (hS.sub (List.Sublist.cons_cons _ (List.sublist_append_left _ _))) ⟨rfl, v2, L2, rfl, ?_⟩
  simpa [List.append_assoc, Nat.add_assoc] using hrow2
/-- A number with a sign: the sign lowest. -/
def zig (n : Int) : Nat := if 0 ≤ n then (2 * n).toNat else (-(2 * n) - 1).toNat
theorem zig_lt {n : Int} (h1 : -9223372036854775808 ≤ n) (h2 : n ≤ 9223372036854775807) : zig n < 18446744073709551616 := by unfold zig; split <;> omega
theorem xorN (a b : Int) : (BitVec.ofInt IntKind.u64.bits a ^^^ BitVec.ofInt IntKind.u64.bits b).toNat = (a % 18446744073709551616).toNat ^^^ (b % 18446744073709551616).toNat := by
  rw [BitVec.toNat_xor, BitVec.toNat_ofInt, BitVec.toNat_ofInt]
  rfl
theorem xor_ones (x : Nat) (h : x < 18446744073709551616) : x ^^^ 18446744073709551615 = 18446744073709551615 - x := by
  have h1 : (BitVec.ofNat 64 x ^^^ BitVec.allOnes 64).toNat = 2 ^ 64 - 1 - (BitVec.ofNat 64 x).toNat := by
    rw [BitVec.xor_allOnes, BitVec.toNat_not]
  rw [BitVec.toNat_xor, BitVec.toNat_allOnes, BitVec.toNat_ofNat, Nat.mod_eq_of_lt (by simpa using h)] at h1
  simpa using h1
theorem zig_xor (n : Int) (h1 : -9223372036854775808 ≤ n) (h2 : n ≤ 9223372036854775807) :
    binV .xor (.int .u64 (IntKind.u64.wrap (IntKind.u64.wrap n * 2 ^ (min (1 : Int).toNat IntKind.u64.bits)))) (.int .u64 (IntKind.u64.wrap (n.fdiv (2 ^ (min (63 : Int).toNat IntKind.i64.bits))))) = some (.int .u64 (zig n : Int)) := by
  rw [bin_xor]
  have e1 : (2 : Int) ^ (min (1 : Int).toNat IntKind.u64.bits) = 2 := by decide
  have e2 : (2 : Int) ^ (min (63 : Int).toNat IntKind.i64.bits) = 9223372036854775808 := by decide
  rw [e1, e2, Int.fdiv_eq_ediv_of_nonneg _ (by decide), xorN]
  have a1 : (IntKind.u64.wrap (IntKind.u64.wrap n * 2) % 18446744073709551616).toNat = (2 * n % 18446744073709551616).toNat := by
    rw [IntKind.wrap_u64, IntKind.wrap_u64]; omega
  have key : (IntKind.u64.wrap (IntKind.u64.wrap n * 2) % 18446744073709551616).toNat ^^^ (IntKind.u64.wrap (n / 9223372036854775808) % 18446744073709551616).toNat = zig n := by
    rw [a1]
    by_cases h : 0 ≤ n
    · have : n / 9223372036854775808 = 0 := by omega
      rw [this]
      have z : (IntKind.u64.wrap 0 % 18446744073709551616).toNat = 0 := by decide
      rw [z, Nat.xor_zero]
      unfold zig; rw [if_pos h]; omega
    · have : n / 9223372036854775808 = -1 := by omega
      rw [this]
      have z : (IntKind.u64.wrap (-1) % 18446744073709551616).toNat = 18446744073709551615 := by decide
      rw [z, xor_ones _ (by omega)]
      unfold zig; rw [if_neg h]; omega
  rw [key]
  congr 2
  rw [IntKind.wrap_u64]
  have := zig_lt h1 h2
  omega
theorem c59 (g : Nat) (n : Int) (h1 : -9223372036854775808 ≤ n) (h2 : n ≤ 9223372036854775807) (bs : List UInt8) (hb : bs.length ≤ 1099511627776) (O : Blks) (hW : WrS g bs O) (w : World) (hA : At w O) :
    Calls Try.prog 59 #[.pointer (some ⟨g, 0, none⟩), .int .i64 n] w (Ret w (keysOf O) fun u O' => u = .tuple #[] ∧ WrS g (bs ++ leb (zig n)) O') := by
  refine enterF (args := [.pointer (some ⟨g, 0, none⟩), .int .i64 n]) Try.func59 low59 rfl ?_; have hS := St.start w; dsimp only [L59, envL, Nat.reduceAdd]
  replace hS := St.init hA
  generalize hK : keysOf O = K at hS ⊢
  have zigx := zig_xor n h1 h2
  repeat' (first | ((with_reducible apply WL_p); (· exact kWf1)) | (with_reducible first | refine WL_nil ?_ | refine then_normal ?_ | refine blk_normal ?_ | refine WC_seq ?_ | refine WC_reg ?_ | refine WC_block ?_ | refine WC_skip ?_ | refine WC_exit ?_ | refine then_exit ?_ | refine blk_hit ?_ | refine blk_miss (by decide) ?_ | refine WC_ret ?_ | refine then_ret ?_ | refine blk_ret ?_))
  refine WL_call (Oc := O) (F := []) (by simpa using hS) (by exact evk) (c98 g (zig n) bs (zig_lt h1 h2) hb O hW _ hS.at) ?_
  clear hS
  rintro u O2 w2 ⟨rfl, hW2⟩ hS
  simp only [List.append_nil] at hS
  repeat' (first | ((with_reducible apply WL_p); (· exact evk)) | (with_reducible first | refine WL_nil ?_ | refine then_normal ?_ | refine blk_normal ?_ | refine WC_seq ?_ | refine WC_reg ?_ | refine WC_block ?_ | refine WC_skip ?_ | refine WC_exit ?_ | refine then_exit ?_ | refine blk_hit ?_ | refine blk_miss (by decide) ?_ | refine WC_ret ?_ | refine then_ret ?_ | refine blk_ret ?_))
  exact ret0n hS ⟨rfl, hW2⟩
theorem c46 (g : Nat) (s i : Int) (bs : List UInt8) (hb : bs.length + 20 ≤ 1099511627776) (O : Blks) (hW : WrS g bs O) (w : World) (hA : At w O) :
    Calls Try.prog 46 #[.pointer (some ⟨g, 0, none⟩), .agg #[.int .i64 s, .int .i64 i]] w (Ret w (keysOf O) fun u O' => u = .tuple #[] ∧ WrS g (bs ++ numsE [s, i]) O') := by
  refine enterF (args := [.pointer (some ⟨g, 0, none⟩), .agg #[.int .i64 s, .int .i64 i]]) Try.func46 low46 rfl ?_; have hS := St.start w; dsimp only [L46, envL, Nat.reduceAdd]
  replace hS := St.init hA
  generalize hK : keysOf O = K at hS ⊢
  repeat' (first | ((with_reducible apply WL_p); (· exact evk)) | (with_reducible first | refine WL_nil ?_ | refine then_normal ?_ | refine blk_normal ?_ | refine WC_seq ?_ | refine WC_reg ?_ | refine WC_block ?_ | refine WC_skip ?_ | refine WC_exit ?_ | refine then_exit ?_ | refine blk_hit ?_ | refine blk_miss (by decide) ?_ | refine WC_ret ?_ | refine then_ret ?_ | refine blk_ret ?_) | ((first | (with_reducible apply WL_newz hS) | ((with_reducible apply WL_newv hS); (· exact evk); (· rfl)) | ((with_reducible apply WL_row hS); (· exact evk))); clear hS; intro bq w hS hbq; (try simp only [List.nil_append, List.cons_append, List.append_assoc] at hS)) | ((with_reducible apply WL_load hS); (· exact evk); (· exact inn); (· rfl)))
  refine WL_call (Oc := O) hS (by exact evk) (c45 g [s, i] bs (by simp only [List.length_cons, List.length_nil]; omega) O hW _ _ hS.at_left (hS.lendL [s, i] inn (by simp))) ?_
  clear hS
  rintro u O2 w2 ⟨rfl, hW2⟩ hS
  repeat' (first | ((with_reducible apply WL_p); (· exact evk)) | (with_reducible first | refine WL_nil ?_ | refine then_normal ?_ | refine blk_normal ?_ | refine WC_seq ?_ | refine WC_reg ?_ | refine WC_block ?_ | refine WC_skip ?_ | refine WC_exit ?_ | refine then_exit ?_ | refine blk_hit ?_ | refine blk_miss (by decide) ?_ | refine WC_ret ?_ | refine then_ret ?_ | refine blk_ret ?_))
  exact ret0n (hS.sub (List.sublist_append_left _ _)) ⟨rfl, hW2⟩
def opE (k : Int) (nm : List UInt8) (a b : Int) : List UInt8 := numsE [k] ++ (numsE [(nm.length : Int)] ++ (nm ++ (leb (zig a) ++ leb (zig b))))
structure I64 (n : Int) : Prop where
  lo : -9223372036854775808 ≤ n
  hi : n ≤ 9223372036854775807
theorem c47 (g : Nat) (k : Int) (nm : List UInt8) (a b : Int) (ha : I64 a) (hb : I64 b) (bs : List UInt8) (hl : bs.length + 40 + nm.length ≤ 1099511627776) (O : Blks) (hW : WrS g bs O) (w : World) (hA : At w O) :
    Calls Try.prog 47 #[.pointer (some ⟨g, 0, none⟩), .agg #[.int .i64 k, S nm, .int .i64 a, .int .i64 b]] w (Ret w (keysOf O) fun u O' => u = .tuple #[] ∧ WrS g (bs ++ opE k nm a b) O') := by
  refine enterF (args := [.pointer (some ⟨g, 0, none⟩), .agg #[.int .i64 k, S nm, .int .i64 a, .int .i64 b]]) Try.func47 low47 rfl ?_; have hS := St.start w; dsimp only [L47, envL, Nat.reduceAdd]
  replace hS := St.init hA
  generalize hK : keysOf O = K at hS ⊢
  repeat' (first | ((with_reducible apply WL_p); (· exact evk)) | (with_reducible first | refine WL_nil ?_ | refine then_normal ?_ | refine blk_normal ?_ | refine WC_seq ?_ | refine WC_reg ?_ | refine WC_block ?_ | refine WC_skip ?_ | refine WC_exit ?_ | refine then_exit ?_ | refine blk_hit ?_ | refine blk_miss (by decide) ?_ | refine WC_ret ?_ | refine then_ret ?_ | refine blk_ret ?_) | ((first | (with_reducible apply WL_newz hS) | ((with_reducible apply WL_newv hS); (· exact evk); (· rfl)) | ((with_reducible apply WL_row hS); (· exact evk))); clear hS; intro bq w hS hbq; (try simp only [List.nil_append, List.cons_append, List.append_assoc] at hS)) | ((with_reducible apply WL_load hS); (· exact evk); (· exact inn); (· rfl)))
  refine WL_call (Oc := O) hS (by exact evk) (c45 g [k] bs (by simp only [List.length_cons, List.length_nil]; omega) O hW _ _ hS.at_left (hS.lendL [k] inn (by simp))) ?_
  clear hS
  rintro u O2 w2 ⟨rfl, hW2⟩ hS
  have l1 := numsE_len [k]
  have l2 := numsE_len [(nm.length : Int)]
  have l3 := leb_len (zig a)
  simp only [List.length_cons, List.length_nil] at l1 l2
  repeat' (first | ((with_reducible apply WL_p); (· exact evk)) | (with_reducible first | refine WL_nil ?_ | refine then_normal ?_ | refine blk_normal ?_ | refine WC_seq ?_ | refine WC_reg ?_ | refine WC_block ?_ | refine WC_skip ?_ | refine WC_exit ?_ | refine then_exit ?_ | refine blk_hit ?_ | refine blk_miss (by decide) ?_ | refine WC_ret ?_ | refine then_ret ?_ | refine blk_ret ?_) | ((with_reducible apply WL_load hS); (· exact evk); (· exact inn); (· rfl)))
  refine WL_call (Oc := O2) hS (by exact evk) (c49 g nm _ (by simp only [List.length_append]; omega) O2 hW2 _ hS.at_left) ?_
  clear hS
  rintro u O3 w3 ⟨rfl, hW3⟩ hS
  repeat' (first | ((with_reducible apply WL_p); (· exact evk)) | (with_reducible first | refine WL_nil ?_ | refine then_normal ?_ | refine blk_normal ?_ | refine WC_seq ?_ | refine WC_reg ?_ | refine WC_block ?_ | refine WC_skip ?_ | refine WC_exit ?_ | refine then_exit ?_ | refine blk_hit ?_ | refine blk_miss (by decide) ?_ | refine WC_ret ?_ | refine then_ret ?_ | refine blk_ret ?_) | ((with_reducible apply WL_load hS); (· exact evk); (· exact inn); (· rfl)))
  refine WL_call (Oc := O3) hS (by exact evk) (c59 g a ha.lo ha.hi _ (by simp only [List.length_append]; omega) O3 hW3 _ hS.at_left) ?_
  clear hS
  rintro u O4 w4 ⟨rfl, hW4⟩ hS
  repeat' (first | ((with_reducible apply WL_p); (· exact evk)) | (with_reducible first | refine WL_nil ?_ | refine then_normal ?_ | refine blk_normal ?_ | refine WC_seq ?_ | refine WC_reg ?_ | refine WC_block ?_ | refine WC_skip ?_ | refine WC_exit ?_ | refine then_exit ?_ | refine blk_hit ?_ | refine blk_miss (by decide) ?_ | refine WC_ret ?_ | refine then_ret ?_ | refine blk_ret ?_) | ((with_reducible apply WL_load hS); (· exact evk); (· exact inn); (· rfl)))
  refine WL_call (Oc := O4) hS (by exact evk) (c59 g b hb.lo hb.hi _ (by simp only [List.length_append]; omega) O4 hW4 _ hS.at_left) ?_
  clear hS
  rintro u O5 w5 ⟨rfl, hW5⟩ hS
  repeat' (first | ((with_reducible apply WL_p); (· exact evk)) | (with_reducible first | refine WL_nil ?_ | refine then_normal ?_ | refine blk_normal ?_ | refine WC_seq ?_ | refine WC_reg ?_ | refine WC_block ?_ | refine WC_skip ?_ | refine WC_exit ?_ | refine then_exit ?_ | refine blk_hit ?_ | refine blk_miss (by decide) ?_ | refine WC_ret ?_ | refine then_ret ?_ | refine blk_ret ?_) | ((with_reducible apply WL_load hS); (· exact evk); (· exact inn); (· rfl)))
  refine ret0n (hS.sub (List.sublist_append_left _ _)) ⟨rfl, ?_⟩
  simpa [opE, List.append_assoc] using hW5
end Go.Proofs.Ytohmgkcdjapinaa.Lw
namespace Go.Proofs.Ytohmgkcdjapinaa.Lw
theorem kWg0 {p : Prop} (h : p := by ((simp (disch := omega) only [ev_tmp, ev_const, ev_func, ev_global, upd_app, val_move, val_pick, pickV_true, pickV_false, pickV_bool, val_nilck, nilckV_ptr, val_bin, bin_add, bin_sub, bin_mul, bin_eql, bin_neq, bin_lss, bin_leq, bin_gtr, bin_geq, bin_seql, bin_sneq, bin_slss, bin_sleq, bin_sgtr, bin_sgeq, val_beq, beqV_f, beqV_t, val_seq, val_not, notV_bool, val_toInt, toIntV_int, val_off, offV_ptr, val_len, lenV_slice, val_slen, slenV_S, val_ext, extV_tup, val_ifc, val_fn, List.getElem?_cons_zero, List.getElem?_cons_succ, List.map_cons, List.map_nil, eq_self, Bool.false_eq_true, Bool.not_true, Bool.not_false, Option.map_some, Nat.zero_add, isB_bool, isB_undef, Bool.true_beq, Bool.false_beq, beq_self_eq_true, Bool.true_and, Bool.and_true, Bool.false_and, Bool.and_false, Bool.true_or, Bool.or_true, Bool.false_or, Bool.or_false, not_dec, and_dec, or_dec, seqV_f, seqV_t, ceq_i, ceq_s, ceq_nil, val_bld, bldV, cells_int, cells_bool, cells_S, cells_b8, cells_slice, cells_ptr, cells_agg, List.size_toArray, List.length_cons, List.length_nil, place, List.take_succ_cons, List.take_zero, List.drop_succ_cons, List.drop_zero, List.cons_append, List.nil_append, and_self, and_true, true_and, Nat.reduceLeDiff, List.toList_toArray, wr64, wru64, wru8, Nat.reduceEqDiff, ↓reduceIte, Nat.reduceAdd, Has, and_true, Int.natCast_add, Int.cast_ofNat_Int]))) : p := h
abbrev R48_0 : List LOper := [⟨some 6, none, .pv (.move (.tmp 0))⟩, ⟨some 7, none, .pv (.move (.tmp 1))⟩, ⟨some 8, none, .pv (.len (.tmp 7))⟩, ⟨some 9, none, .row 3 1 [(.int .i64 0)] [(0, (1, (.tmp 8)))]⟩, ⟨some 10, none, .call 45 [(.tmp 6), (.tmp 9)]⟩]
abbrev R48_1 : List LOper := [⟨some 11, none, .pv (.move (.tmp 1))⟩, ⟨some 12, none, .pv (.len (.tmp 11))⟩, ⟨some 13, none, .pv (.move (.const (.int .i64 0)))⟩]
abbrev R48_2 : List LOper := [⟨some 14, none, .pv (.bin .lss (.tmp 13) (.tmp 12))⟩]
abbrev R48_3 : List LOper := [⟨some 15, none, .pv (.idx 7 (.tmp 11) (.tmp 13))⟩, ⟨some 16, none, .loadN 7 (.tmp 15)⟩, ⟨some 5, none, .newz 71 [(S []), (.int .i64 0), (.int .i64 0), (.int .i64 0), (.int .i64 0), (.int .i64 0), (.int .i64 0)]⟩, ⟨none, none, .store 7 (.tmp 5) (.tmp 16)⟩]
abbrev R48_4 : List LOper := [⟨some 17, none, .pv (.move (.tmp 0))⟩, ⟨some 18, none, .pv (.off (.tmp 5) 0)⟩, ⟨some 19, none, .load (.tmp 18)⟩, ⟨some 20, none, .call 49 [(.tmp 17), (.tmp 19)]⟩]
abbrev R48_5 : List LOper := [⟨some 21, none, .pv (.move (.tmp 0))⟩, ⟨some 22, none, .pv (.off (.tmp 5) 1)⟩, ⟨some 23, none, .load (.tmp 22)⟩, ⟨some 24, none, .pv (.off (.tmp 5) 2)⟩, ⟨some 25, none, .load (.tmp 24)⟩, ⟨some 26, none, .pv (.off (.tmp 5) 3)⟩, ⟨some 27, none, .load (.tmp 26)⟩, ⟨some 28, none, .pv (.off (.tmp 5) 4)⟩, ⟨some 29, none, .pv (.off (.tmp 28) 0)⟩, ⟨some 30, none, .load (.tmp 29)⟩, ⟨some 31, none, .pv (.off (.tmp 5) 4)⟩, ⟨some 32, none, .pv (.off (.tmp 31) 1)⟩, ⟨some 33, none, .load (.tmp 32)⟩, ⟨some 34, none, .pv (.off (.tmp 5) 6)⟩, ⟨some 35, none, .load (.tmp 34)⟩, ⟨some 36, none, .row 3 6 [(.int .i64 0), (.int .i64 0), (.int .i64 0), (.int .i64 0), (.int .i64 0), (.int .i64 0)] [(0, (1, (.tmp 23))), (1, (1, (.tmp 25))), (2, (1, (.tmp 27))), (3, (1, (.tmp 30))), (4, (1, (.tmp 33))), (5, (1, (.tmp 35)))]⟩, ⟨some 37, none, .call 45 [(.tmp 21), (.tmp 36)]⟩]
abbrev R48_6 : List LOper := [⟨some 38, none, .pv (.bin .add (.tmp 13) (.const (.int .i64 1)))⟩, ⟨some 13, none, .pv (.move (.tmp 38))⟩]
abbrev L48 : LFun := ⟨39, [], (.seq (.reg R48_0) (.seq (.reg R48_1) (.block 0 (.loop (.seq (.reg R48_2) (.seq (.cond (.tmp 14) .skip (.exit 0)) (.seq (.block 1 (.seq (.reg R48_3) (.seq (.reg R48_4) (.reg R48_5)))) (.reg R48_6))))))))⟩
theorem low48 : lowFn Try.prog Try.f48 = some L48 := by kernel_rfl

structure WrM (g : Nat) (bs : List UInt8) (m : Nat) (O : Blks) : Prop where
  s : WrS g bs O
  le : bs.length ≤ m
section
variable {w0 w : World} {K : List Nat} {O F : Blks} {g m : Nat} {bs : List UInt8}
theorem Calls.mono' {f : FuncId} {args : Array Value} {R R' : Value → Blks → Prop} (h : Calls Try.prog f args w (Ret w K R)) (hr : ∀ u O', R u O' → R' u O') : Calls Try.prog f args w (Ret w K R') :=
  Go.Calls.mono h fun en w' hh => by
    cases en with
    | returned v => obtain ⟨O', h1, h2⟩ := hh; exact ⟨O', hr _ _ h1, h2⟩
    | panicked c => exact hh.elim
    | outgrown => exact hh.elim
theorem w45 {b c : Nat} (ns : List Int) (hS : St w0 K w (O ++ F)) (hm : (b, Blk 3 (ns.flatMap i64s)) ∈ F) (hl : m + 10 * ns.length ≤ 1099511627776) (hW : WrM g bs m O) :
    Calls Try.prog 45 #[.pointer (some ⟨g, 0, none⟩), .slice (some ⟨b, 0, none⟩) ns.length c] w (Ret w (keysOf O) fun u O' => u = .tuple #[] ∧ WrM g (bs ++ numsE ns) (m + 10 * ns.length) O') := by
  have := hW.le
  refine Calls.mono' (c45 g ns bs (by omega) O hW.s _ _ hS.at_left (hS.lendL ns hm (by omega))) fun u O' ⟨h1, h2⟩ => ⟨h1, h2, ?_⟩
  have := numsE_len ns
  rw [List.length_append]
  omega
theorem w45_1 {b : Nat} {x : Int} (hS : St w0 K w (O ++ F)) (hm : (b, Blk 3 [.int .i64 x]) ∈ F) (hl : m + 10 ≤ 1099511627776) (hW : WrM g bs m O) :
    Calls Try.prog 45 #[.pointer (some ⟨g, 0, none⟩), .slice (some ⟨b, 0, none⟩) 1 1] w (Ret w (keysOf O) fun u O' => u = .tuple #[] ∧ WrM g (bs ++ numsE [x]) (m + 10) O') := w45 [x] hS hm hl hW
theorem w45_2 {b : Nat} {x y : Int} (hS : St w0 K w (O ++ F)) (hm : (b, Blk 3 [.int .i64 x, .int .i64 y]) ∈ F) (hl : m + 20 ≤ 1099511627776) (hW : WrM g bs m O) :
    Calls Try.prog 45 #[.pointer (some ⟨g, 0, none⟩), .slice (some ⟨b, 0, none⟩) 2 2] w (Ret w (keysOf O) fun u O' => u = .tuple #[] ∧ WrM g (bs ++ numsE [x, y]) (m + 20) O') := w45 [x, y] hS hm hl hW
theorem w45_5 {b : Nat} {x1 x2 x3 x4 x5 : Int} (hS : St w0 K w (O ++ F)) (hm : (b, Blk 3 [.int .i64 x1, .int .i64 x2, .int .i64 x3, .int .i64 x4, .int .i64 x5]) ∈ F) (hl : m + 50 ≤ 1099511627776) (hW : WrM g bs m O) :
    Calls Try.prog 45 #[.pointer (some ⟨g, 0, none⟩), .slice (some ⟨b, 0, none⟩) 5 5] w (Ret w (keysOf O) fun u O' => u = .tuple #[] ∧ WrM g (bs ++ numsE [x1, x2, x3, x4, x5]) (m + 50) O') := w45 [x1, x2, x3, x4, x5] hS hm hl hW
theorem w45_6 {b : Nat} {x1 x2 x3 x4 x5 x6 : Int} (hS : St w0 K w (O ++ F)) (hm : (b, Blk 3 [.int .i64 x1, .int .i64 x2, .int .i64 x3, .int .i64 x4, .int .i64 x5, .int .i64 x6]) ∈ F) (hl : m + 60 ≤ 1099511627776) (hW : WrM g bs m O) :
    Calls Try.prog 45 #[.pointer (some ⟨g, 0, none⟩), .slice (some ⟨b, 0, none⟩) 6 6] w (Ret w (keysOf O) fun u O' => u = .tuple #[] ∧ WrM g (bs ++ numsE [x1, x2, x3, x4, x5, x6]) (m + 60) O') := w45 [x1, x2, x3, x4, x5, x6] hS hm hl hW
theorem w46 {s i : Int} (hS : St w0 K w (O ++ F)) (hl : m + 20 ≤ 1099511627776) (hW : WrM g bs m O) :
    Calls Try.prog 46 #[.pointer (some ⟨g, 0, none⟩), .agg #[.int .i64 s, .int .i64 i]] w (Ret w (keysOf O) fun u O' => u = .tuple #[] ∧ WrM g (bs ++ numsE [s, i]) (m + 20) O') := by
  have := hW.le
  refine Calls.mono' (c46 g s i bs (by omega) O hW.s _ hS.at_left) fun u O' ⟨h1, h2⟩ => ⟨h1, h2, ?_⟩
  have := numsE_len [s, i]
  simp only [List.length_cons, List.length_nil] at this
  rw [List.length_append]; omega
def textE (s : List UInt8) : List UInt8 := numsE [(s.length : Int)] ++ s
theorem w49 {s : List UInt8} (hS : St w0 K w (O ++ F)) (hs : s.length ≤ 16) (hl : m + 26 ≤ 1099511627776) (hW : WrM g bs m O) :
    Calls Try.prog 49 #[.pointer (some ⟨g, 0, none⟩), Lw.S s] w (Ret w (keysOf O) fun u O' => u = .tuple #[] ∧ WrM g (bs ++ textE s) (m + 26) O') := by
  have := hW.le
  refine Calls.mono' (c49 g s bs (by omega) O hW.s _ hS.at_left) fun u O' ⟨h1, h2⟩ => ⟨h1, h2, ?_⟩
  have := numsE_len [(s.length : Int)]
  simp only [List.length_cons, List.length_nil] at this
  simp only [textE, List.length_append]; omega
theorem w59 {n : Int} (hS : St w0 K w (O ++ F)) (hn : I64 n) (hl : m + 10 ≤ 1099511627776) (hW : WrM g bs m O) :
    Calls Try.prog 59 #[.pointer (some ⟨g, 0, none⟩), .int .i64 n] w (Ret w (keysOf O) fun u O' => u = .tuple #[] ∧ WrM g (bs ++ leb (zig n)) (m + 10) O') := by
  have := hW.le
  refine Calls.mono' (c59 g n hn.lo hn.hi bs (by omega) O hW.s _ hS.at_left) fun u O' ⟨h1, h2⟩ => ⟨h1, h2, ?_⟩
  have := leb_len (zig n)
  rw [List.length_append]; omega
theorem opE_len (k : Int) (nm : List UInt8) (a b : Int) : (opE k nm a b).length ≤ 40 + nm.length := by
  have h1 := numsE_len [k]
  have h2 := numsE_len [(nm.length : Int)]
  have h3 := leb_len (zig a)
  have h4 := leb_len (zig b)
  simp only [List.length_cons, List.length_nil] at h1 h2
  simp only [opE, List.length_append]
  omega
theorem w47 {k a b : Int} {nm : List UInt8} (hS : St w0 K w (O ++ F)) (ha : I64 a) (hb : I64 b) (hs : nm.length ≤ 16) (hl : m + 56 ≤ 1099511627776) (hW : WrM g bs m O) :
    Calls Try.prog 47 #[.pointer (some ⟨g, 0, none⟩), .agg #[.int .i64 k, Lw.S nm, .int .i64 a, .int .i64 b]] w (Ret w (keysOf O) fun u O' => u = .tuple #[] ∧ WrM g (bs ++ opE k nm a b) (m + 56) O') := by
  have := hW.le
  refine Calls.mono' (c47 g k nm a b ha hb bs (by omega) O hW.s _ hS.at_left) fun u O' ⟨h1, h2⟩ => ⟨h1, h2, ?_⟩
  have := opE_len k nm a b
  rw [List.length_append]; omega
end
def viewE (v : Vw) : List UInt8 := textE v.name ++ numsE [v.cap, v.recaps, v.ver, v.down, v.up, v.held]
def viewsE (vs : List Vw) : List UInt8 := numsE [(vs.length : Int)] ++ vs.flatMap viewE
set_option maxHeartbeats 1000000 in
theorem c48 (g m : Nat) (vs : List Vw) (bs : List UInt8) (hn : ∀ v ∈ vs, v.name.length ≤ 16) (hb : m + 10 + 86 * vs.length ≤ 1099511627776) (O : Blks) (hW : WrM g bs m O) (vv : Value) (w0 : World) (hA : At w0 O) (hR : RdL w0 (keysOf O) 7 vv vs Vw.cells) :
    Calls Try.prog 48 #[.pointer (some ⟨g, 0, none⟩), vv] w0 (Ret w0 (keysOf O) fun u O' => u = .tuple #[] ∧ WrM g (bs ++ viewsE vs) (m + 10 + 86 * vs.length) O') := by
  obtain ⟨A, c, rfl, _⟩ := hR.1.slc
  refine enterF (args := [.pointer (some ⟨g, 0, none⟩), .slice A vs.length c]) Try.func48 low48 rfl ?_; have hS := St.init hA; dsimp only [L48, envL, Nat.reduceAdd]
  generalize hK : keysOf O = K at hS hR ⊢
  obtain ⟨Ow, rfl⟩ : ∃ Ow, Ow = O := ⟨_, rfl⟩
  repeat' (first | ((with_reducible apply WL_p); (· exact evk)) | (with_reducible first | refine WL_nil ?_ | refine then_normal ?_ | refine blk_normal ?_ | refine WC_seq ?_ | refine WC_reg ?_ | refine WC_block ?_ | refine WC_skip ?_ | refine WC_exit ?_ | refine then_exit ?_ | refine blk_hit ?_ | refine blk_miss (by decide) ?_ | refine WC_ret ?_ | refine then_ret ?_ | refine blk_ret ?_) | ((first | (with_reducible apply WL_newz hS) | ((with_reducible apply WL_newv hS); (· exact evk); (· rfl)) | ((with_reducible apply WL_row hS); (· exact evk))); clear hS; intro bq w hS hbq; (try simp only [List.nil_append, List.cons_append, List.append_assoc] at hS)) | ((with_reducible apply WL_load hS); (· exact evk); (· exact inn); (· rfl)) | ((with_reducible apply WL_call (Oc := Ow) hS); (· exact evk); (· first | ((with_reducible apply w45_1 hS (hW := hW)) <;> first | assumption | omega | exact inn) | ((with_reducible apply w45_2 hS (hW := hW)) <;> first | assumption | omega | exact inn) | ((with_reducible apply w45_5 hS (hW := hW)) <;> first | assumption | omega | exact inn) | ((with_reducible apply w45_6 hS (hW := hW)) <;> first | assumption | omega | exact inn) | ((with_reducible apply w46 hS (hW := hW)) <;> first | assumption | omega | exact inn) | ((with_reducible apply w47 hS (hW := hW)) <;> first | assumption | omega | exact inn) | ((with_reducible apply w49 hS (hW := hW)) <;> first | assumption | omega | exact inn) | ((with_reducible apply w59 hS (hW := hW)) <;> first | assumption | omega | exact inn)); (clear hS hW; rintro u Ow w ⟨rfl, hW⟩ hS)))
  refine WC_loopH (α := Nat × List UInt8 × Nat × Blks) (fun a => [(0, .pointer (some ⟨g, 0, none⟩)), (11, .slice A vs.length c), (12, .int .i64 vs.length), (13, .int .i64 a.1)])
    (fun a w' => a.1 ≤ vs.length ∧ bs ++ viewsE vs = a.2.1 ++ (vs.drop a.1).flatMap viewE ∧ a.2.2.1 + 86 * (vs.length - a.1) ≤ m + 10 + 86 * vs.length ∧ WrM g a.2.1 a.2.2.1 a.2.2.2 ∧ St w0 K w' a.2.2.2)
    (fun a => vs.length - a.1) (0, _, _, Ow) (by exact kWg0) ⟨by dsimp only; omega, by simp [viewsE], by dsimp only; omega, hW, hS.sub (List.sublist_append_left _ _)⟩ ?_
  clear hS hW
  rintro ⟨k, bs', m', Ow⟩ e w1 ⟨hk, hall, hm, hW, hS⟩
  dsimp only [patch] at hk hall hm hW hS ⊢
  by_cases hlt : k < vs.length
  · obtain ⟨x, hx⟩ : ∃ x, vs[k]? = some x := ⟨_, List.getElem?_eq_getElem hlt⟩
    have hxn := hn x (List.mem_of_getElem? hx)
    repeat' (first | ((with_reducible apply WL_p); (· exact evk)) | ((with_reducible apply WL_do); (· exact evd)) | ((with_reducible apply WL_no); (· exact evd)) | ((with_reducible apply WC_true); (· exact evk)) | ((with_reducible apply WC_false); (· exact evk)) | (with_reducible first | refine WL_nil ?_ | refine then_normal ?_ | refine blk_normal ?_ | refine WC_seq ?_ | refine WC_reg ?_ | refine WC_block ?_ | refine WC_skip ?_ | refine WC_exit ?_ | refine then_exit ?_ | refine blk_hit ?_ | refine blk_miss (by decide) ?_ | refine WC_ret ?_ | refine then_ret ?_ | refine blk_ret ?_) | (first | ((with_reducible apply WL_split); (· exact evk)) | ((with_reducible apply WC_dec); (· exact evk)) | ((with_reducible apply WL_splitB); (· exact evk)) | ((with_reducible apply WC_bool); (· exact evk)) | (with_reducible intro hh)))
    all_goals (try omega)
    ((with_reducible apply WL_idxS hR); (· exact evk); (· exact evk); (· omega); (· assumption); (intro b o hbK hcell))
    simp only [Vw.cells] at hcell
    ((with_reducible apply WL_loadNR hS); (· exact evk); (· assumption); (· exact hcell); (· rfl))
    repeat' (first | ((with_reducible apply WL_p); (· exact evk)) | (with_reducible first | refine WL_nil ?_ | refine then_normal ?_ | refine blk_normal ?_ | refine WC_seq ?_ | refine WC_reg ?_ | refine WC_block ?_ | refine WC_skip ?_ | refine WC_exit ?_ | refine then_exit ?_ | refine blk_hit ?_ | refine blk_miss (by decide) ?_ | refine WC_ret ?_ | refine then_ret ?_ | refine blk_ret ?_) | ((first | (with_reducible apply WL_newz hS) | ((with_reducible apply WL_newv hS); (· exact evk); (· rfl)) | ((with_reducible apply WL_row hS); (· exact evk))); clear hS; intro bq w hS hbq; (try simp only [List.nil_append, List.cons_append, List.append_assoc] at hS)) | ((with_reducible apply WL_storeN hS); (· exact evk); (· exact evk); (· rfl); (· simp [Value.oneCell', S]); (· exact upp); (· simp); (clear hS; intro w hS; (simp only [List.set_cons_succ, List.set_cons_zero, putList, Nat.zero_add, Nat.reduceAdd] at hS))) | ((with_reducible apply WL_load hS); (· exact evk); (· exact inn); (· rfl)) | ((with_reducible apply WL_call (Oc := Ow) hS); (· exact evk); (· first | ((with_reducible apply w45_1 hS (hW := hW)) <;> first | assumption | omega | exact inn) | ((with_reducible apply w45_2 hS (hW := hW)) <;> first | assumption | omega | exact inn) | ((with_reducible apply w45_5 hS (hW := hW)) <;> first | assumption | omega | exact inn) | ((with_reducible apply w45_6 hS (hW := hW)) <;> first | assumption | omega | exact inn) | ((with_reducible apply w46 hS (hW := hW)) <;> first | assumption | omega | exact inn) | ((with_reducible apply w47 hS (hW := hW)) <;> first | assumption | omega | exact inn) | ((with_reducible apply w49 hS (hW := hW)) <;> first | assumption | omega | exact inn) | ((with_reducible apply w59 hS (hW := hW)) <;> first | assumption | omega | exact inn)); (clear hS hW; rintro u Ow w ⟨rfl, hW⟩ hS)))
    refine ⟨(k + 1, _, m' + 26 + 60, Ow), by dsimp only; omega, ?_, by dsimp only; omega, ?_, by dsimp only; omega, hW, hS.sub (List.sublist_append_left _ _)⟩
    · exact kWg0
    · rw [hall, drop_get hx]; simp [viewE]
  · obtain rfl : k = vs.length := by omega
    repeat' (first | ((with_reducible apply WL_p); (· exact evk)) | ((with_reducible apply WL_do); (· exact evd)) | ((with_reducible apply WL_no); (· exact evd)) | ((with_reducible apply WC_true); (· exact evk)) | ((with_reducible apply WC_false); (· exact evk)) | (with_reducible first | refine WL_nil ?_ | refine then_normal ?_ | refine blk_normal ?_ | refine WC_seq ?_ | refine WC_reg ?_ | refine WC_block ?_ | refine WC_skip ?_ | refine WC_exit ?_ | refine then_exit ?_ | refine blk_hit ?_ | refine blk_miss (by decide) ?_ | refine WC_ret ?_ | refine then_ret ?_ | refine blk_ret ?_) | (first | ((with_reducible apply WL_split); (· exact evk)) | ((with_reducible apply WC_dec); (· exact evk)) | ((with_reducible apply WL_splitB); (· exact evk)) | ((with_reducible apply WC_bool); (· exact evk)) | (with_reducible intro hh)))
    all_goals (try omega)
    refine ret0n hS ⟨rfl, ?_, ?_⟩
    · rw [hall]; simpa using hW.s
    · rw [hall]; have := hW.le; simp; omega
end Go.Proofs.Ytohmgkcdjapinaa.Lw
namespace Go.Proofs.Ytohmgkcdjapinaa.Lw
abbrev R34_0 : List LOper := [⟨some 2, none, .newv 27 (.tmp 0)⟩, ⟨some 3, none, .newv 29 (.tmp 1)⟩, ⟨some 4, none, .pv (.move (.const (.slice none 0 0)))⟩, ⟨some 5, none, .pv (.move (.const (.int .i64 0)))⟩]
abbrev R34_1 : List LOper := [⟨some 7, none, .loadN 2 (.tmp 2)⟩, ⟨some 8, none, .call 58 [(.tmp 7)]⟩, ⟨some 9, none, .pv (.not (.tmp 8))⟩, ⟨some 10, none, .pv (.move (.tmp 9))⟩, ⟨some 11, (some (10, false)), .loadN 4 (.tmp 3)⟩, ⟨some 12, (some (10, false)), .call 61 [(.tmp 11)]⟩, ⟨some 13, (some (10, false)), .pv (.not (.tmp 12))⟩, ⟨some 14, none, .pv (.pick (.tmp 10) (.const (.bool true)) (.tmp 13))⟩]
abbrev R34_2 : List LOper := [⟨some 4, none, .pv (.move (.const (.slice none 0 0)))⟩, ⟨some 5, none, .pv (.move (.const (.int .i64 21)))⟩]
abbrev R34_3 : List LOper := [⟨some 15, none, .pv (.bld [(.slice none 0 0)] [])⟩, ⟨some 16, none, .newv 96 (.tmp 15)⟩, ⟨some 6, none, .pv (.move (.tmp 16))⟩]
abbrev R34_4 : List LOper := [⟨some 17, none, .pv (.move (.tmp 6))⟩, ⟨some 18, none, .loadN 2 (.tmp 2)⟩, ⟨some 19, none, .call 46 [(.tmp 17), (.tmp 18)]⟩]
abbrev R34_5 : List LOper := [⟨some 20, none, .pv (.move (.tmp 6))⟩, ⟨some 21, none, .loadN 4 (.tmp 3)⟩, ⟨some 22, none, .call 47 [(.tmp 20), (.tmp 21)]⟩]
abbrev R34_6 : List LOper := [⟨some 23, none, .pv (.move (.tmp 6))⟩, ⟨some 24, none, .pv (.nilck (.tmp 23))⟩, ⟨some 25, none, .pv (.off (.tmp 24) 0)⟩, ⟨some 26, none, .load (.tmp 25)⟩, ⟨some 4, none, .pv (.move (.tmp 26))⟩, ⟨some 5, none, .pv (.move (.const (.int .i64 0)))⟩]
abbrev L34 : LFun := ⟨27, [(.tmp 4), (.tmp 5)], (.seq (.reg R34_0) (.seq (.seq (.reg R34_1) (.cond (.tmp 14) (.seq (.reg R34_2) .ret) .skip)) (.seq (.reg R34_3) (.seq (.reg R34_4) (.seq (.reg R34_5) (.seq (.reg R34_6) .ret))))))⟩
theorem low34 : lowFn Try.prog Try.f34 = some L34 := by kernel_rfl
abbrev R20_0 : List LOper := [⟨some 1, none, .newv 42 (.tmp 0)⟩, ⟨some 2, none, .pv (.move (.const (.slice none 0 0)))⟩, ⟨some 3, none, .pv (.move (.const (.int .i64 0)))⟩]
abbrev R20_1 : List LOper := [⟨some 5, none, .pv (.off (.tmp 1) 0)⟩, ⟨some 6, none, .loadN 2 (.tmp 5)⟩, ⟨some 7, none, .call 58 [(.tmp 6)]⟩, ⟨some 8, none, .pv (.not (.tmp 7))⟩, ⟨some 9, none, .pv (.move (.tmp 8))⟩, ⟨some 10, (some (9, false)), .pv (.off (.tmp 1) 2)⟩, ⟨some 11, (some (9, false)), .load (.tmp 10)⟩, ⟨some 12, (some (9, false)), .call 54 [(.tmp 11), (.const (.int .i64 0)), (.const (.int .i64 255))]⟩, ⟨some 13, (some (9, false)), .pv (.not (.tmp 12))⟩, ⟨some 14, none, .pv (.pick (.tmp 9) (.const (.bool true)) (.tmp 13))⟩]
abbrev R20_2 : List LOper := [⟨some 2, none, .pv (.move (.const (.slice none 0 0)))⟩, ⟨some 3, none, .pv (.move (.const (.int .i64 21)))⟩]
abbrev R20_3 : List LOper := [⟨some 15, none, .pv (.bld [(.slice none 0 0)] [])⟩, ⟨some 16, none, .newv 96 (.tmp 15)⟩, ⟨some 4, none, .pv (.move (.tmp 16))⟩]
abbrev R20_4 : List LOper := [⟨some 17, none, .pv (.move (.tmp 4))⟩, ⟨some 18, none, .pv (.off (.tmp 1) 0)⟩, ⟨some 19, none, .loadN 2 (.tmp 18)⟩, ⟨some 20, none, .call 46 [(.tmp 17), (.tmp 19)]⟩]
abbrev R20_5 : List LOper := [⟨some 21, none, .pv (.move (.tmp 4))⟩, ⟨some 22, none, .pv (.off (.tmp 1) 2)⟩, ⟨some 23, none, .load (.tmp 22)⟩, ⟨some 24, none, .row 3 1 [(.int .i64 0)] [(0, (1, (.tmp 23)))]⟩, ⟨some 25, none, .call 45 [(.tmp 21), (.tmp 24)]⟩]
abbrev R20_6 : List LOper := [⟨some 26, none, .pv (.move (.tmp 4))⟩, ⟨some 27, none, .pv (.off (.tmp 1) 3)⟩, ⟨some 28, none, .load (.tmp 27)⟩, ⟨some 29, none, .call 59 [(.tmp 26), (.tmp 28)]⟩]
abbrev R20_7 : List LOper := [⟨some 30, none, .pv (.move (.tmp 4))⟩, ⟨some 31, none, .pv (.nilck (.tmp 30))⟩, ⟨some 32, none, .pv (.off (.tmp 31) 0)⟩, ⟨some 33, none, .load (.tmp 32)⟩, ⟨some 2, none, .pv (.move (.tmp 33))⟩, ⟨some 3, none, .pv (.move (.const (.int .i64 0)))⟩]
abbrev L20 : LFun := ⟨34, [(.tmp 2), (.tmp 3)], (.seq (.reg R20_0) (.seq (.seq (.reg R20_1) (.cond (.tmp 14) (.seq (.reg R20_2) .ret) .skip)) (.seq (.reg R20_3) (.seq (.reg R20_4) (.seq (.reg R20_5) (.seq (.reg R20_6) (.seq (.reg R20_7) .ret)))))))⟩
theorem low20 : lowFn Try.prog Try.f20 = some L20 := by kernel_rfl

/-- An encoder's answer: the bytes in a row of their own, or the error. -/
def EncR (o : Option (List UInt8)) (u : Value) (O' : Blks) : Prop :=
  match o with
  | none => u = .tuple #[.slice none 0 0, .int .i64 21]
  | some bs => ∃ v, u = .tuple #[v, .int .i64 0] ∧ RowIs 5 1 v bs.length (bs.map b8) O'
theorem WrM.start (g : Nat) : WrM g [] 0 [(g, Blk 96 [.slice none 0 0])] := ⟨⟨_, [], rfl, RowIs.nil 5 1⟩, Nat.le_refl _⟩
theorem WrM.cast {g m : Nat} {bs bs' : List UInt8} {O : Blks} (h : WrM g bs m O) (he : bs = bs') : WrM g bs' m O := he ▸ h
theorem opB_len {k : Int} {nm : List UInt8} (h : opB k nm = true) : nm.length ≤ 16 := by
  simp only [opB, namedB, Bool.and_eq_true, decide_eq_true_eq] at h
  omega
theorem St.rot1 {w0 w : World} {K : List Nat} {a q : Nat × Obj} (h : St w0 K w [a, q]) : St w0 K w ([q] ++ [a]) := h.perm (List.Perm.swap _ _ _)
theorem St.rot2 {w0 w : World} {K : List Nat} {a b q : Nat × Obj} (h : St w0 K w [a, b, q]) : St w0 K w ([q] ++ [a, b]) := h.perm (List.perm_append_comm (l₁ := [a, b]) (l₂ := [q]))
theorem encOut {w0 w : World} {K : List Nat} {g s t : Nat} {bs : List UInt8} {v : Value} {L F : Blks} {o : Option (List UInt8)} {e : Env} (hS : St w0 K w ((g, Blk 96 [v]) :: L ++ F)) (hr : RowIs 5 1 v bs.length (bs.map b8) L) (h1 : e s = v) (h2 : e t = .int .i64 0) (ho : o = some bs) :
    retQ [.tmp s, .tmp t] (Ret w0 K (EncR o)) .ret e w :=
  ret2 (hS.sub ((List.sublist_cons_self _ _).trans (List.sublist_append_left _ _))) h1 h2 (by subst ho; exact ⟨v, rfl, hr⟩)
theorem encNo {w0 w : World} {K : List Nat} {O : Blks} {s t : Nat} {o : Option (List UInt8)} {e : Env} (hS : St w0 K w O) (h1 : e s = .slice none 0 0) (h2 : e t = .int .i64 21) (ho : o = none) :
    retQ [.tmp s, .tmp t] (Ret w0 K (EncR o)) .ret e w :=
  ret2 hS h1 h2 (by subst ho; rfl)
def reqE (s i k : Int) (nm : List UInt8) (a b : Int) : Option (List UInt8) := if callB s i && opB k nm then some (numsE [s, i] ++ opE k nm a b) else none
set_option maxHeartbeats 1000000 in
theorem c34 (s i k : Int) (nm : List UInt8) (a b : Int) (ha : I64 a) (hb : I64 b) (hl : nm.length ≤ 140737488351232) (w : World) :
    Calls Try.prog 34 #[.agg #[.int .i64 s, .int .i64 i], .agg #[.int .i64 k, Lw.S nm, .int .i64 a, .int .i64 b]] w (Ret w [] (EncR (reqE s i k nm a b))) := by
  refine enterF (args := [.agg #[.int .i64 s, .int .i64 i], .agg #[.int .i64 k, Lw.S nm, .int .i64 a, .int .i64 b]]) Try.func34 low34 rfl ?_; have hS := St.start w; dsimp only [L34, envL, Nat.reduceAdd]
  have e1 := fun w => c58 s i w
  have e2 := fun w => c61 k a b nm hl w
  by_cases h1 : callB s i = true
  · rw [h1] at e1
    by_cases h2 : opB k nm = true
    · have hnm := opB_len h2
      rw [h2] at e2
      repeat' (first | ((with_reducible apply WL_p); (· exact evk)) | ((with_reducible apply WL_do); (· exact evd)) | ((with_reducible apply WL_no); (· exact evd)) | ((with_reducible apply WC_true); (· exact evk)) | ((with_reducible apply WC_false); (· exact evk)) | (with_reducible first | refine WL_nil ?_ | refine then_normal ?_ | refine blk_normal ?_ | refine WC_seq ?_ | refine WC_reg ?_ | refine WC_block ?_ | refine WC_skip ?_ | refine WC_exit ?_ | refine then_exit ?_ | refine blk_hit ?_ | refine blk_miss (by decide) ?_ | refine WC_ret ?_ | refine then_ret ?_ | refine blk_ret ?_) | ((first | (with_reducible apply WL_newz hS) | ((with_reducible apply WL_newv hS); (· exact evk); (· rfl)) | ((with_reducible apply WL_row hS); (· exact evk))); clear hS; intro bq w hS hbq; (try simp only [List.nil_append, List.cons_append, List.append_assoc] at hS)) | ((with_reducible apply WL_loadN hS); (· exact evk); (· exact inn); (· ((simp only [List.drop_succ_cons, List.drop_zero, List.take_succ_cons, List.take_zero]) <;> rfl)); (· rfl)) | ((with_reducible apply WL_callq hS); (· exact evk); (· first | exact e1 _ | exact e2 _); (clear hS; intro w hS)))
      replace hS := St.rot2 hS
      have hW := WrM.start bq
      generalize hOw : [(bq, Blk 96 [Value.slice none 0 0])] = Ow at hS hW
      clear hOw
      repeat' (first | ((with_reducible apply WL_p); (· exact evk)) | ((with_reducible apply WL_do); (· exact evd)) | ((with_reducible apply WL_no); (· exact evd)) | ((with_reducible apply WC_true); (· exact evk)) | ((with_reducible apply WC_false); (· exact evk)) | (with_reducible first | refine WL_nil ?_ | refine then_normal ?_ | refine blk_normal ?_ | refine WC_seq ?_ | refine WC_reg ?_ | refine WC_block ?_ | refine WC_skip ?_ | refine WC_exit ?_ | refine then_exit ?_ | refine blk_hit ?_ | refine blk_miss (by decide) ?_ | refine WC_ret ?_ | refine then_ret ?_ | refine blk_ret ?_) | ((with_reducible apply WL_loadN hS); (· exact evk); (· exact inn); (· ((simp only [List.drop_succ_cons, List.drop_zero, List.take_succ_cons, List.take_zero]) <;> rfl)); (· rfl)) | ((with_reducible apply WL_call (Oc := Ow) hS); (· exact evk); (· first | ((with_reducible apply w45_1 hS (hW := hW)) <;> first | assumption | omega | exact inn) | ((with_reducible apply w45_2 hS (hW := hW)) <;> first | assumption | omega | exact inn) | ((with_reducible apply w45_5 hS (hW := hW)) <;> first | assumption | omega | exact inn) | ((with_reducible apply w45_6 hS (hW := hW)) <;> first | assumption | omega | exact inn) | ((with_reducible apply w46 hS (hW := hW)) <;> first | assumption | omega | exact inn) | ((with_reducible apply w47 hS (hW := hW)) <;> first | assumption | omega | exact inn) | ((with_reducible apply w49 hS (hW := hW)) <;> first | assumption | omega | exact inn) | ((with_reducible apply w59 hS (hW := hW)) <;> first | assumption | omega | exact inn)); (clear hS hW; rintro u Ow w ⟨rfl, hW⟩ hS)))
      obtain ⟨v, L, rfl, hrow⟩ := hW.s
      repeat' (first | ((with_reducible apply WL_p); (· exact evk)) | (with_reducible first | refine WL_nil ?_ | refine then_normal ?_ | refine blk_normal ?_ | refine WC_seq ?_ | refine WC_reg ?_ | refine WC_block ?_ | refine WC_skip ?_ | refine WC_exit ?_ | refine then_exit ?_ | refine blk_hit ?_ | refine blk_miss (by decide) ?_ | refine WC_ret ?_ | refine then_ret ?_ | refine blk_ret ?_) | ((with_reducible apply WL_load hS); (· exact evk); (· exact inn); (· rfl)))
      exact encOut hS hrow rfl rfl (by simp [reqE, h1, h2])
    · rw [Bool.not_eq_true] at h2
      rw [h2] at e2
      repeat' (first | ((with_reducible apply WL_p); (· exact evk)) | ((with_reducible apply WL_do); (· exact evd)) | ((with_reducible apply WL_no); (· exact evd)) | ((with_reducible apply WC_true); (· exact evk)) | ((with_reducible apply WC_false); (· exact evk)) | (with_reducible first | refine WL_nil ?_ | refine then_normal ?_ | refine blk_normal ?_ | refine WC_seq ?_ | refine WC_reg ?_ | refine WC_block ?_ | refine WC_skip ?_ | refine WC_exit ?_ | refine then_exit ?_ | refine blk_hit ?_ | refine blk_miss (by decide) ?_ | refine WC_ret ?_ | refine then_ret ?_ | refine blk_ret ?_) | ((first | (with_reducible apply WL_newz hS) | ((with_reducible apply WL_newv hS); (· exact evk); (· rfl)) | ((with_reducible apply WL_row hS); (· exact evk))); clear hS; intro bq w hS hbq; (try simp only [List.nil_append, List.cons_append, List.append_assoc] at hS)) | ((with_reducible apply WL_loadN hS); (· exact evk); (· exact inn); (· ((simp only [List.drop_succ_cons, List.drop_zero, List.take_succ_cons, List.take_zero]) <;> rfl)); (· rfl)) | ((with_reducible apply WL_callq hS); (· exact evk); (· first | exact e1 _ | exact e2 _); (clear hS; intro w hS)))
      exact encNo hS rfl rfl (by simp [reqE, h2])
  · rw [Bool.not_eq_true] at h1
    rw [h1] at e1
    repeat' (first | ((with_reducible apply WL_p); (· exact evk)) | ((with_reducible apply WL_do); (· exact evd)) | ((with_reducible apply WL_no); (· exact evd)) | ((with_reducible apply WC_true); (· exact evk)) | ((with_reducible apply WC_false); (· exact evk)) | (with_reducible first | refine WL_nil ?_ | refine then_normal ?_ | refine blk_normal ?_ | refine WC_seq ?_ | refine WC_reg ?_ | refine WC_block ?_ | refine WC_skip ?_ | refine WC_exit ?_ | refine then_exit ?_ | refine blk_hit ?_ | refine blk_miss (by decide) ?_ | refine WC_ret ?_ | refine then_ret ?_ | refine blk_ret ?_) | ((first | (with_reducible apply WL_newz hS) | ((with_reducible apply WL_newv hS); (· exact evk); (· rfl)) | ((with_reducible apply WL_row hS); (· exact evk))); clear hS; intro bq w hS hbq; (try simp only [List.nil_append, List.cons_append, List.append_assoc] at hS)) | ((with_reducible apply WL_loadN hS); (· exact evk); (· exact inn); (· ((simp only [List.drop_succ_cons, List.drop_zero, List.take_succ_cons, List.take_zero]) <;> rfl)); (· rfl)) | ((with_reducible apply WL_callq hS); (· exact evk); (· first | exact e1 _ | exact e2 _); (clear hS; intro w hS)))
    exact encNo hS rfl rfl (by simp [reqE, h1])
def repE (s i er x : Int) : Option (List UInt8) := if callB s i && decide (0 ≤ er ∧ er ≤ 255) then some (numsE [s, i] ++ numsE [er] ++ leb (zig x)) else none
set_option maxHeartbeats 1000000 in
theorem c20 (s i er x : Int) (hx : I64 x) (w : World) :
    Calls Try.prog 20 #[.agg #[.int .i64 s, .int .i64 i, .int .i64 er, .int .i64 x]] w (Ret w [] (EncR (repE s i er x))) := by
  refine enterF (args := [.agg #[.int .i64 s, .int .i64 i, .int .i64 er, .int .i64 x]]) Try.func20 low20 rfl ?_; have hS := St.start w; dsimp only [L20, envL, Nat.reduceAdd]
  have e1 := fun w => c58 s i w
  have e2 := fun w => c54 er 0 255 w
  by_cases h1 : callB s i = true
  · rw [h1] at e1
    by_cases h2 : 0 ≤ er ∧ er ≤ 255
    · simp only [h2, and_self, decide_true] at e2
      repeat' (first | ((with_reducible apply WL_p); (· exact evk)) | ((with_reducible apply WL_do); (· exact evd)) | ((with_reducible apply WL_no); (· exact evd)) | ((with_reducible apply WC_true); (· exact evk)) | ((with_reducible apply WC_false); (· exact evk)) | (with_reducible first | refine WL_nil ?_ | refine then_normal ?_ | refine blk_normal ?_ | refine WC_seq ?_ | refine WC_reg ?_ | refine WC_block ?_ | refine WC_skip ?_ | refine WC_exit ?_ | refine then_exit ?_ | refine blk_hit ?_ | refine blk_miss (by decide) ?_ | refine WC_ret ?_ | refine then_ret ?_ | refine blk_ret ?_) | ((first | (with_reducible apply WL_newz hS) | ((with_reducible apply WL_newv hS); (· exact evk); (· rfl)) | ((with_reducible apply WL_row hS); (· exact evk))); clear hS; intro bq w hS hbq; (try simp only [List.nil_append, List.cons_append, List.append_assoc] at hS)) | ((with_reducible apply WL_load hS); (· exact evk); (· exact inn); (· rfl)) | ((with_reducible apply WL_loadN hS); (· exact evk); (· exact inn); (· ((simp only [List.drop_succ_cons, List.drop_zero, List.take_succ_cons, List.take_zero]) <;> rfl)); (· rfl)) | ((with_reducible apply WL_callq hS); (· exact evk); (· first | exact e1 _ | exact e2 _); (clear hS; intro w hS)))
      replace hS := St.rot1 hS
      have hW := WrM.start bq
      generalize hOw : [(bq, Blk 96 [Value.slice none 0 0])] = Ow at hS hW
      clear hOw
      repeat' (first | ((with_reducible apply WL_p); (· exact evk)) | ((with_reducible apply WL_do); (· exact evd)) | ((with_reducible apply WL_no); (· exact evd)) | ((with_reducible apply WC_true); (· exact evk)) | ((with_reducible apply WC_false); (· exact evk)) | (with_reducible first | refine WL_nil ?_ | refine then_normal ?_ | refine blk_normal ?_ | refine WC_seq ?_ | refine WC_reg ?_ | refine WC_block ?_ | refine WC_skip ?_ | refine WC_exit ?_ | refine then_exit ?_ | refine blk_hit ?_ | refine blk_miss (by decide) ?_ | refine WC_ret ?_ | refine then_ret ?_ | refine blk_ret ?_) | ((with_reducible apply WL_load hS); (· exact evk); (· exact inn); (· rfl)) | ((with_reducible apply WL_loadN hS); (· exact evk); (· exact inn); (· ((simp only [List.drop_succ_cons, List.drop_zero, List.take_succ_cons, List.take_zero]) <;> rfl)); (· rfl)) | ((first | (with_reducible apply WL_newz hS) | ((with_reducible apply WL_newv hS); (· exact evk); (· rfl)) | ((with_reducible apply WL_row hS); (· exact evk))); clear hS; intro bq w hS hbq; (try simp only [List.nil_append, List.cons_append, List.append_assoc] at hS)) | ((with_reducible apply WL_call (Oc := Ow) hS); (· exact evk); (· first | ((with_reducible apply w45_1 hS (hW := hW)) <;> first | assumption | omega | exact inn) | ((with_reducible apply w45_2 hS (hW := hW)) <;> first | assumption | omega | exact inn) | ((with_reducible apply w45_5 hS (hW := hW)) <;> first | assumption | omega | exact inn) | ((with_reducible apply w45_6 hS (hW := hW)) <;> first | assumption | omega | exact inn) | ((with_reducible apply w46 hS (hW := hW)) <;> first | assumption | omega | exact inn) | ((with_reducible apply w47 hS (hW := hW)) <;> first | assumption | omega | exact inn) | ((with_reducible apply w49 hS (hW := hW)) <;> first | assumption | omega | exact inn) | ((with_reducible apply w59 hS (hW := hW)) <;> first | assumption | omega | exact inn)); (clear hS hW; rintro u Ow w ⟨rfl, hW⟩ hS)))
      obtain ⟨v, L, rfl, hrow⟩ := hW.s
      repeat' (first | ((with_reducible apply WL_p); (· exact evk)) | (with_reducible first | refine WL_nil ?_ | refine then_normal ?_ | refine blk_normal ?_ | refine WC_seq ?_ | refine WC_reg ?_ | refine WC_block ?_ | refine WC_skip ?_ | refine WC_exit ?_ | refine then_exit ?_ | refine blk_hit ?_ | refine blk_miss (by decide) ?_ | refine WC_ret ?_ | refine then_ret ?_ | refine blk_ret ?_) | ((with_reducible apply WL_load hS); (· exact evk); (· exact inn); (· rfl)))
      exact encOut hS hrow rfl rfl (by simp [repE, h1, h2])
    · simp only [h2, decide_false] at e2
      repeat' (first | ((with_reducible apply WL_p); (· exact evk)) | ((with_reducible apply WL_do); (· exact evd)) | ((with_reducible apply WL_no); (· exact evd)) | ((with_reducible apply WC_true); (· exact evk)) | ((with_reducible apply WC_false); (· exact evk)) | (with_reducible first | refine WL_nil ?_ | refine then_normal ?_ | refine blk_normal ?_ | refine WC_seq ?_ | refine WC_reg ?_ | refine WC_block ?_ | refine WC_skip ?_ | refine WC_exit ?_ | refine then_exit ?_ | refine blk_hit ?_ | refine blk_miss (by decide) ?_ | refine WC_ret ?_ | refine then_ret ?_ | refine blk_ret ?_) | ((first | (with_reducible apply WL_newz hS) | ((with_reducible apply WL_newv hS); (· exact evk); (· rfl)) | ((with_reducible apply WL_row hS); (· exact evk))); clear hS; intro bq w hS hbq; (try simp only [List.nil_append, List.cons_append, List.append_assoc] at hS)) | ((with_reducible apply WL_load hS); (· exact evk); (· exact inn); (· rfl)) | ((with_reducible apply WL_loadN hS); (· exact evk); (· exact inn); (· ((simp only [List.drop_succ_cons, List.drop_zero, List.take_succ_cons, List.take_zero]) <;> rfl)); (· rfl)) | ((with_reducible apply WL_callq hS); (· exact evk); (· first | exact e1 _ | exact e2 _); (clear hS; intro w hS)))
      exact encNo hS rfl rfl (by simp [repE, h2])
  · rw [Bool.not_eq_true] at h1
    rw [h1] at e1
    repeat' (first | ((with_reducible apply WL_p); (· exact evk)) | ((with_reducible apply WL_do); (· exact evd)) | ((with_reducible apply WL_no); (· exact evd)) | ((with_reducible apply WC_true); (· exact evk)) | ((with_reducible apply WC_false); (· exact evk)) | (with_reducible first | refine WL_nil ?_ | refine then_normal ?_ | refine blk_normal ?_ | refine WC_seq ?_ | refine WC_reg ?_ | refine WC_block ?_ | refine WC_skip ?_ | refine WC_exit ?_ | refine then_exit ?_ | refine blk_hit ?_ | refine blk_miss (by decide) ?_ | refine WC_ret ?_ | refine then_ret ?_ | refine blk_ret ?_) | ((first | (with_reducible apply WL_newz hS) | ((with_reducible apply WL_newv hS); (· exact evk); (· rfl)) | ((with_reducible apply WL_row hS); (· exact evk))); clear hS; intro bq w hS hbq; (try simp only [List.nil_append, List.cons_append, List.append_assoc] at hS)) | ((with_reducible apply WL_load hS); (· exact evk); (· exact inn); (· rfl)) | ((with_reducible apply WL_loadN hS); (· exact evk); (· exact inn); (· ((simp only [List.drop_succ_cons, List.drop_zero, List.take_succ_cons, List.take_zero]) <;> rfl)); (· rfl)) | ((with_reducible apply WL_callq hS); (· exact evk); (· first | exact e1 _ | exact e2 _); (clear hS; intro w hS)))
    exact encNo hS rfl rfl (by simp [repE, h1])
end Go.Proofs.Ytohmgkcdjapinaa.Lw
namespace Go.Proofs.Ytohmgkcdjapinaa.Lw
abbrev R18_0 : List LOper := [⟨some 1, none, .newv 39 (.tmp 0)⟩, ⟨some 2, none, .pv (.move (.const (.slice none 0 0)))⟩, ⟨some 3, none, .pv (.move (.const (.int .i64 0)))⟩]
abbrev R18_1 : List LOper := [⟨some 6, none, .pv (.off (.tmp 1) 0)⟩, ⟨some 7, none, .load (.tmp 6)⟩, ⟨some 8, none, .call 54 [(.tmp 7), (.const (.int .i64 0)), (.const (.int .i64 15))]⟩, ⟨some 9, none, .pv (.move (.tmp 8))⟩, ⟨some 10, (some (9, true)), .pv (.off (.tmp 1) 1)⟩, ⟨some 11, (some (9, true)), .load (.tmp 10)⟩, ⟨some 12, (some (9, true)), .call 54 [(.tmp 11), (.const (.int .i64 0)), (.const (.int .i64 15))]⟩, ⟨some 13, none, .pv (.pick (.tmp 9) (.tmp 12) (.const (.bool false)))⟩, ⟨some 14, none, .pv (.move (.tmp 13))⟩, ⟨some 15, (some (14, true)), .pv (.off (.tmp 1) 2)⟩, ⟨some 16, (some (14, true)), .load (.tmp 15)⟩, ⟨some 17, (some (14, true)), .call 54 [(.tmp 16), (.const (.int .i64 0)), (.const (.int .i64 1099511627776))]⟩, ⟨some 18, none, .pv (.pick (.tmp 14) (.tmp 17) (.const (.bool false)))⟩, ⟨some 19, none, .pv (.move (.tmp 18))⟩, ⟨some 20, (some (19, true)), .pv (.off (.tmp 1) 3)⟩, ⟨some 21, (some (19, true)), .load (.tmp 20)⟩, ⟨some 22, (some (19, true)), .call 54 [(.tmp 21), (.const (.int .i64 0)), (.const (.int .i64 1099511627776))]⟩, ⟨some 23, none, .pv (.pick (.tmp 19) (.tmp 22) (.const (.bool false)))⟩, ⟨some 4, none, .pv (.move (.tmp 23))⟩]
abbrev R18_2 : List LOper := [⟨some 24, none, .pv (.move (.tmp 4))⟩, ⟨some 25, none, .pv (.not (.tmp 24))⟩, ⟨some 26, none, .pv (.move (.tmp 25))⟩, ⟨some 27, (some (26, false)), .pv (.off (.tmp 1) 4)⟩, ⟨some 28, (some (26, false)), .load (.tmp 27)⟩, ⟨some 29, (some (26, false)), .pv (.len (.tmp 28))⟩, ⟨some 30, (some (26, false)), .pv (.bin .gtr (.tmp 29) (.const (.int .i64 4000)))⟩, ⟨some 31, none, .pv (.pick (.tmp 26) (.const (.bool true)) (.tmp 30))⟩, ⟨some 32, none, .pv (.move (.tmp 31))⟩, ⟨some 33, (some (32, false)), .pv (.off (.tmp 1) 2)⟩, ⟨some 34, (some (32, false)), .load (.tmp 33)⟩, ⟨some 35, (some (32, false)), .pv (.bin .eql (.tmp 34) (.const (.int .i64 0)))⟩, ⟨some 36, (some (32, false)), .pv (.off (.tmp 1) 4)⟩, ⟨some 37, (some (32, false)), .load (.tmp 36)⟩, ⟨some 38, (some (32, false)), .pv (.len (.tmp 37))⟩, ⟨some 39, (some (32, false)), .pv (.bin .eql (.tmp 38) (.const (.int .i64 0)))⟩, ⟨some 40, (some (32, false)), .pv (.beq true (.tmp 35) (.tmp 39))⟩, ⟨some 41, none, .pv (.pick (.tmp 32) (.const (.bool true)) (.tmp 40))⟩]
abbrev R18_3 : List LOper := [⟨some 2, none, .pv (.move (.const (.slice none 0 0)))⟩, ⟨some 3, none, .pv (.move (.const (.int .i64 21)))⟩]
abbrev R18_4 : List LOper := [⟨some 42, none, .pv (.bld [(.slice none 0 0)] [])⟩, ⟨some 43, none, .newv 96 (.tmp 42)⟩, ⟨some 5, none, .pv (.move (.tmp 43))⟩]
abbrev R18_5 : List LOper := [⟨some 44, none, .pv (.move (.tmp 5))⟩, ⟨some 45, none, .pv (.off (.tmp 1) 0)⟩, ⟨some 46, none, .load (.tmp 45)⟩, ⟨some 47, none, .pv (.off (.tmp 1) 1)⟩, ⟨some 48, none, .load (.tmp 47)⟩, ⟨some 49, none, .pv (.off (.tmp 1) 2)⟩, ⟨some 50, none, .load (.tmp 49)⟩, ⟨some 51, none, .pv (.off (.tmp 1) 3)⟩, ⟨some 52, none, .load (.tmp 51)⟩, ⟨some 53, none, .pv (.off (.tmp 1) 4)⟩, ⟨some 54, none, .load (.tmp 53)⟩, ⟨some 55, none, .pv (.len (.tmp 54))⟩, ⟨some 56, none, .row 3 5 [(.int .i64 0), (.int .i64 0), (.int .i64 0), (.int .i64 0), (.int .i64 0)] [(0, (1, (.tmp 46))), (1, (1, (.tmp 48))), (2, (1, (.tmp 50))), (3, (1, (.tmp 52))), (4, (1, (.tmp 55)))]⟩, ⟨some 57, none, .call 45 [(.tmp 44), (.tmp 56)]⟩]
abbrev L18 : LFun := ⟨65, [(.tmp 2), (.tmp 3)], (.seq (.reg R18_0) (.seq (.reg R18_1) (.seq (.seq (.reg R18_2) (.cond (.tmp 41) (.seq (.reg R18_3) .ret) .skip)) (.seq (.reg R18_4) (.seq (.reg R18_5) (.seq (.dreg (.still ⟨some 58, none, .pv (.move (.tmp 5))⟩ (.still ⟨some 59, none, .pv (.nilck (.tmp 58))⟩ (.still ⟨some 60, none, .pv (.off (.tmp 59) 0)⟩ (.still ⟨some 61, none, .load (.tmp 60)⟩ (.still ⟨some 62, none, .pv (.off (.tmp 1) 4)⟩ (.still ⟨some 63, none, .load (.tmp 62)⟩ (.eff ⟨some 64, none, .raw 36 (.call (.mk (.builtin .append) #[(.tmp 61), (.tmp 63)] #[36, 36]))⟩ (.still ⟨some 2, none, .pv (.move (.tmp 64))⟩ (.still ⟨some 3, none, .pv (.move (.const (.int .i64 0)))⟩ .nil)))))))))) .ret))))))⟩
theorem low18 : lowFn Try.prog Try.f18 = some L18 := by kernel_rfl

theorem St.wrm {w0 w : World} {K : List Nat} {g : Nat} {a b : Nat × Obj} (h : St w0 K w [a, (g, Blk 96 [.slice none 0 0]), b]) : ∃ Ow, WrM g [] 0 Ow ∧ St w0 K w (Ow ++ [a, b]) := ⟨_, WrM.start g, h.perm (List.Perm.swap _ _ _)⟩
theorem St.wr1 {w0 w : World} {K : List Nat} {g : Nat} {a : Nat × Obj} (h : St w0 K w [a, (g, Blk 96 [.slice none 0 0])]) : ∃ Ow, WrM g [] 0 Ow ∧ St w0 K w (Ow ++ [a]) := ⟨_, WrM.start g, h.perm (List.Perm.swap _ _ _)⟩
def segB (f t s a : Int) (n : Nat) : Bool :=
  decide ((0 ≤ f ∧ f ≤ 15) ∧ (0 ≤ t ∧ t ≤ 15) ∧ (0 ≤ s ∧ s ≤ 1099511627776) ∧ (0 ≤ a ∧ a ≤ 1099511627776) ∧ n ≤ 4000 ∧ (s = 0 ↔ n = 0))
theorem segB_no {f t s a : Int} {n : Nat} (h : ¬ ((0 ≤ f ∧ f ≤ 15) ∧ (0 ≤ t ∧ t ≤ 15) ∧ (0 ≤ s ∧ s ≤ 1099511627776) ∧ (0 ≤ a ∧ a ≤ 1099511627776) ∧ n ≤ 4000 ∧ (s = 0 ↔ n = 0))) : segB f t s a n = false := decide_eq_false h
theorem segB_yes {f t s a : Int} {n : Nat} (h : ((0 ≤ f ∧ f ≤ 15) ∧ (0 ≤ t ∧ t ≤ 15) ∧ (0 ≤ s ∧ s ≤ 1099511627776) ∧ (0 ≤ a ∧ a ≤ 1099511627776) ∧ n ≤ 4000 ∧ (s = 0 ↔ n = 0))) : segB f t s a n = true := decide_eq_true h
def segE (f t s a : Int) (ds : List UInt8) : Option (List UInt8) := if segB f t s a ds.length then some (numsE [f, t, s, a, (ds.length : Int)] ++ ds) else none
set_option maxHeartbeats 2000000 in
theorem c18 (f t s a : Int) (ds : List UInt8) (dv : Value) (w : World) (hr : Reads w [] 1 dv ds.length (ds.map b8)) :
    Calls Try.prog 18 #[.agg #[.int .i64 f, .int .i64 t, .int .i64 s, .int .i64 a, dv]] w (Ret w [] (EncR (segE f t s a ds))) := by
  obtain ⟨A, c, rfl, _⟩ := hr.slc
  refine enterF (args := [.agg #[.int .i64 f, .int .i64 t, .int .i64 s, .int .i64 a, .slice A ds.length c]]) Try.func18 low18 rfl ?_; have hS := St.start w; dsimp only [L18, envL, Nat.reduceAdd]
  repeat' (first | ((with_reducible apply WL_p); (· exact evk)) | ((with_reducible apply WL_do); (· exact evd)) | ((with_reducible apply WL_no); (· exact evd)) | ((with_reducible apply WC_true); (· exact evk)) | ((with_reducible apply WC_false); (· exact evk)) | (with_reducible first | refine WL_nil ?_ | refine then_normal ?_ | refine blk_normal ?_ | refine WC_seq ?_ | refine WC_reg ?_ | refine WC_block ?_ | refine WC_skip ?_ | refine WC_exit ?_ | refine then_exit ?_ | refine blk_hit ?_ | refine blk_miss (by decide) ?_ | refine WC_ret ?_ | refine then_ret ?_ | refine blk_ret ?_) | ((first | (with_reducible apply WL_newz hS) | ((with_reducible apply WL_newv hS); (· exact evk); (· rfl)) | ((with_reducible apply WL_row hS); (· exact evk))); clear hS; intro bq w hS hbq; (try simp only [List.nil_append, List.cons_append, List.append_assoc] at hS)) | ((with_reducible apply WL_load hS); (· exact evk); (· exact inn); (· rfl)) | ((with_reducible apply WL_callq hS); (· exact evk); (· first | exact c54 _ _ _ _); (clear hS; intro w hS)) | (first | ((with_reducible apply WL_split); (· exact evk)) | ((with_reducible apply WC_dec); (· exact evk)) | ((with_reducible apply WL_splitB); (· exact evk)) | ((with_reducible apply WC_bool); (· exact evk)) | (with_reducible intro hh)))
  all_goals (try (refine encNo hS rfl rfl ?_; rw [segE, segB_no, if_neg (by decide)]; (try simp only [bne_iff_ne, ne_eq, decide_eq_decide] at hh); omega))
  have hx : segB f t s a ds.length = true := by
    refine segB_yes ?_
    simp only [bne_eq_false_iff_eq, decide_eq_decide] at *; omega
  clear hbq
  obtain ⟨Ow, hW, hS⟩ := St.wrm hS
  ((with_reducible apply WL_call (Oc := Ow) hS); (· exact evk); (· first | ((with_reducible apply w45_1 hS (hW := hW)) <;> first | assumption | omega | exact inn) | ((with_reducible apply w45_2 hS (hW := hW)) <;> first | assumption | omega | exact inn) | ((with_reducible apply w45_5 hS (hW := hW)) <;> first | assumption | omega | exact inn) | ((with_reducible apply w45_6 hS (hW := hW)) <;> first | assumption | omega | exact inn) | ((with_reducible apply w46 hS (hW := hW)) <;> first | assumption | omega | exact inn) | ((with_reducible apply w47 hS (hW := hW)) <;> first | assumption | omega | exact inn) | ((with_reducible apply w49 hS (hW := hW)) <;> first | assumption | omega | exact inn) | ((with_reducible apply w59 hS (hW := hW)) <;> first | assumption | omega | exact inn)); (clear hS hW; rintro u Ow w ⟨rfl, hW⟩ hS))
  obtain ⟨v, L, rfl, hrow⟩ := hW.s
  repeat' (first | ((with_reducible apply WL_p); (· exact evk)) | (with_reducible first | refine WL_nil ?_ | refine then_normal ?_ | refine blk_normal ?_ | refine WC_seq ?_ | refine WC_reg ?_ | refine WC_block ?_ | refine WC_skip ?_ | refine WC_exit ?_ | refine then_exit ?_ | refine blk_hit ?_ | refine blk_miss (by decide) ?_ | refine WC_ret ?_ | refine then_ret ?_ | refine blk_ret ?_))
  refine WC_drA hS fun w hS hD => ?_
  repeat' (first | ((with_reducible apply WD_p hD); (· exact evk)) | ((with_reducible apply WD_do hD); (· exact evd)) | ((with_reducible apply WD_no hD); (· exact evd)) | ((with_reducible apply WDe_do); (· exact evd)) | ((with_reducible apply WDe_no hD); (· exact evd)) | ((with_reducible apply WD_load hD); (· exact evk); (· exact inn); (· rfl)) | ((with_reducible apply WD_loadN hD); (· exact evk); (· exact inn); (· ((simp only [List.drop_succ_cons, List.drop_zero, List.take_succ_cons, List.take_zero]) <;> rfl)); (· rfl)) | ((with_reducible apply WD_go); (· exact hS.sh (by repeat (first | exact AllIn.nil | (apply AllIn.cons; (· exact inn))))); (clear hD; intro hD)) | (with_reducible apply WD_nil) | (with_reducible apply WD_eff))
  have hl := numsE_len [f, t, s, a, (ds.length : Int)]
  simp only [List.nil_append, List.cons_append, List.length_cons, List.length_nil] at hS hl hrow
  clear hh
  refine WL_append (M := [(_, Blk 96 [v])]) (L := L) hS el36 (by exact evk) (by exact evk) hrow (Src.of_reads (hS.reads0 hr) (b8_one ds) Try.underlying36) (by omega) (by omega) ?_
  clear hS
  intro v2 w L2 hrow2 hS
  simp only [List.nil_append, List.cons_append] at hS
  repeat' (first | ((with_reducible apply WD_p hD); (· exact evk)) | ((with_reducible apply WD_do hD); (· exact evd)) | ((with_reducible apply WD_no hD); (· exact evd)) | ((with_reducible apply WDe_do); (· exact evd)) | ((with_reducible apply WDe_no hD); (· exact evd)) | ((with_reducible apply WD_load hD); (· exact evk); (· exact inn); (· rfl)) | ((with_reducible apply WD_loadN hD); (· exact evk); (· exact inn); (· ((simp only [List.drop_succ_cons, List.drop_zero, List.take_succ_cons, List.take_zero]) <;> rfl)); (· rfl)) | ((with_reducible apply WD_go); (· exact hS.sh (by repeat (first | exact AllIn.nil | (apply AllIn.cons; (· exact inn))))); (clear hD; intro hD)) | (with_reducible apply WD_nil) | (with_reducible apply WD_eff))
  repeat' (first | ((with_reducible apply WL_p); (· exact evk)) | (with_reducible first | refine WL_nil ?_ | refine then_normal ?_ | refine blk_normal ?_ | refine WC_seq ?_ | refine WC_reg ?_ | refine WC_block ?_ | refine WC_skip ?_ | refine WC_exit ?_ | refine then_exit ?_ | refine blk_hit ?_ | refine blk_miss (by decide) ?_ | refine WC_ret ?_ | refine then_ret ?_ | refine blk_ret ?_))
  exact ret2 (hS.sub ((List.sublist_append_left _ _).trans (List.sublist_cons_self _ _))) rfl rfl (by rw [segE, hx, if_pos rfl]; exact ⟨v2, rfl, by simpa [List.append_assoc, Nat.add_assoc] using hrow2⟩)
end Go.Proofs.Ytohmgkcdjapinaa.Lw
namespace Go.Proofs.Ytohmgkcdjapinaa.Lw
abbrev R16_0 : List LOper := [⟨some 1, none, .newv 33 (.tmp 0)⟩, ⟨some 2, none, .pv (.move (.const (.slice none 0 0)))⟩, ⟨some 3, none, .pv (.move (.const (.int .i64 0)))⟩]
abbrev R16_1 : List LOper := [⟨some 5, none, .loadN 20 (.tmp 1)⟩, ⟨some 6, none, .call 22 [(.tmp 5)]⟩, ⟨some 7, none, .pv (.not (.tmp 6))⟩]
abbrev R16_2 : List LOper := [⟨some 2, none, .pv (.move (.const (.slice none 0 0)))⟩, ⟨some 3, none, .pv (.move (.const (.int .i64 21)))⟩]
abbrev R16_3 : List LOper := [⟨some 8, none, .pv (.bld [(.slice none 0 0)] [])⟩, ⟨some 9, none, .newv 96 (.tmp 8)⟩, ⟨some 4, none, .pv (.move (.tmp 9))⟩]
abbrev R16_4 : List LOper := [⟨some 10, none, .pv (.move (.tmp 4))⟩, ⟨some 11, none, .pv (.off (.tmp 1) 0)⟩, ⟨some 12, none, .load (.tmp 11)⟩, ⟨some 13, none, .row 3 1 [(.int .i64 0)] [(0, (1, (.tmp 12)))]⟩, ⟨some 14, none, .call 45 [(.tmp 10), (.tmp 13)]⟩]
abbrev R16_5 : List LOper := [⟨some 15, none, .pv (.off (.tmp 1) 0)⟩, ⟨some 16, none, .load (.tmp 15)⟩]
abbrev R16_6 : List LOper := [⟨some 18, none, .pv (.bin .eql (.tmp 16) (.const (.int .i64 1)))⟩, ⟨some 17, none, .pv (.move (.tmp 18))⟩]
abbrev R16_7 : List LOper := [⟨some 19, none, .pv (.move (.tmp 4))⟩, ⟨some 20, none, .pv (.off (.tmp 1) 11)⟩, ⟨some 21, none, .loadN 2 (.tmp 20)⟩, ⟨some 22, none, .call 46 [(.tmp 19), (.tmp 21)]⟩]
abbrev R16_8 : List LOper := [⟨some 23, none, .pv (.move (.tmp 4))⟩, ⟨some 24, none, .pv (.off (.tmp 1) 13)⟩, ⟨some 25, none, .loadN 4 (.tmp 24)⟩, ⟨some 26, none, .call 47 [(.tmp 23), (.tmp 25)]⟩]
abbrev R16_9 : List LOper := [⟨some 27, none, .pv (.move (.tmp 4))⟩, ⟨some 28, none, .pv (.nilck (.tmp 27))⟩, ⟨some 29, none, .pv (.off (.tmp 28) 0)⟩, ⟨some 30, none, .load (.tmp 29)⟩, ⟨some 2, none, .pv (.move (.tmp 30))⟩, ⟨some 3, none, .pv (.move (.const (.int .i64 0)))⟩]
abbrev R16_10 : List LOper := [⟨some 32, none, .pv (.bin .eql (.tmp 16) (.const (.int .i64 10)))⟩, ⟨some 31, none, .pv (.move (.tmp 32))⟩]
abbrev R16_11 : List LOper := [⟨some 33, none, .pv (.move (.tmp 4))⟩, ⟨some 34, none, .pv (.off (.tmp 1) 19)⟩, ⟨some 35, none, .load (.tmp 34)⟩, ⟨some 36, none, .call 48 [(.tmp 33), (.tmp 35)]⟩]
abbrev R16_12 : List LOper := [⟨some 37, none, .pv (.move (.tmp 4))⟩, ⟨some 38, none, .pv (.nilck (.tmp 37))⟩, ⟨some 39, none, .pv (.off (.tmp 38) 0)⟩, ⟨some 40, none, .load (.tmp 39)⟩, ⟨some 2, none, .pv (.move (.tmp 40))⟩, ⟨some 3, none, .pv (.move (.const (.int .i64 0)))⟩]
abbrev R16_13 : List LOper := [⟨some 42, none, .pv (.bin .eql (.tmp 16) (.const (.int .i64 2)))⟩, ⟨some 41, none, .pv (.move (.tmp 42))⟩]
abbrev R16_14 : List LOper := [⟨some 43, none, .pv (.move (.tmp 4))⟩, ⟨some 44, none, .pv (.off (.tmp 1) 11)⟩, ⟨some 45, none, .loadN 2 (.tmp 44)⟩, ⟨some 46, none, .call 46 [(.tmp 43), (.tmp 45)]⟩]
abbrev R16_15 : List LOper := [⟨some 47, none, .pv (.move (.tmp 4))⟩, ⟨some 48, none, .pv (.off (.tmp 1) 1)⟩, ⟨some 49, none, .load (.tmp 48)⟩, ⟨some 50, none, .call 49 [(.tmp 47), (.tmp 49)]⟩]
abbrev R16_16 : List LOper := [⟨some 51, none, .pv (.move (.tmp 4))⟩, ⟨some 52, none, .pv (.off (.tmp 1) 17)⟩, ⟨some 53, none, .load (.tmp 52)⟩, ⟨some 54, none, .row 3 1 [(.int .i64 0)] [(0, (1, (.tmp 53)))]⟩, ⟨some 55, none, .call 45 [(.tmp 51), (.tmp 54)]⟩]
abbrev R16_17 : List LOper := [⟨some 56, none, .pv (.off (.tmp 1) 17)⟩, ⟨some 57, none, .load (.tmp 56)⟩, ⟨some 58, none, .call 50 [(.tmp 57)]⟩]
abbrev R16_18 : List LOper := [⟨some 59, none, .pv (.move (.tmp 4))⟩, ⟨some 60, none, .pv (.off (.tmp 1) 2)⟩, ⟨some 61, none, .load (.tmp 60)⟩, ⟨some 62, none, .pv (.off (.tmp 1) 3)⟩, ⟨some 63, none, .load (.tmp 62)⟩, ⟨some 64, none, .row 3 2 [(.int .i64 0), (.int .i64 0)] [(0, (1, (.tmp 61))), (1, (1, (.tmp 63)))]⟩, ⟨some 65, none, .call 45 [(.tmp 59), (.tmp 64)]⟩]
abbrev R16_19 : List LOper := [⟨some 66, none, .pv (.move (.tmp 4))⟩, ⟨some 67, none, .pv (.nilck (.tmp 66))⟩, ⟨some 68, none, .pv (.off (.tmp 67) 0)⟩, ⟨some 69, none, .load (.tmp 68)⟩, ⟨some 2, none, .pv (.move (.tmp 69))⟩, ⟨some 3, none, .pv (.move (.const (.int .i64 0)))⟩]
abbrev R16_20 : List LOper := [⟨some 70, none, .pv (.move (.tmp 4))⟩, ⟨some 71, none, .pv (.off (.tmp 1) 1)⟩, ⟨some 72, none, .load (.tmp 71)⟩, ⟨some 73, none, .call 49 [(.tmp 70), (.tmp 72)]⟩]
abbrev R16_21 : List LOper := [⟨some 74, none, .pv (.move (.tmp 4))⟩, ⟨some 75, none, .pv (.off (.tmp 1) 2)⟩, ⟨some 76, none, .load (.tmp 75)⟩, ⟨some 77, none, .pv (.off (.tmp 1) 3)⟩, ⟨some 78, none, .load (.tmp 77)⟩, ⟨some 79, none, .row 3 2 [(.int .i64 0), (.int .i64 0)] [(0, (1, (.tmp 76))), (1, (1, (.tmp 78)))]⟩, ⟨some 80, none, .call 45 [(.tmp 74), (.tmp 79)]⟩]
abbrev R16_22 : List LOper := [⟨some 81, none, .pv (.off (.tmp 1) 0)⟩, ⟨some 82, none, .load (.tmp 81)⟩]
abbrev R16_23 : List LOper := [⟨some 84, none, .pv (.bin .eql (.tmp 82) (.const (.int .i64 3)))⟩, ⟨some 83, none, .pv (.move (.tmp 84))⟩]
abbrev R16_24 : List LOper := [⟨some 85, none, .pv (.bin .eql (.tmp 82) (.const (.int .i64 7)))⟩, ⟨some 83, none, .pv (.move (.tmp 85))⟩]
abbrev R16_25 : List LOper := [⟨some 86, none, .pv (.bin .eql (.tmp 82) (.const (.int .i64 4)))⟩, ⟨some 83, none, .pv (.move (.tmp 86))⟩]
abbrev R16_26 : List LOper := [⟨some 87, none, .pv (.bin .eql (.tmp 82) (.const (.int .i64 5)))⟩, ⟨some 83, none, .pv (.move (.tmp 87))⟩]
abbrev R16_27 : List LOper := [⟨some 88, none, .pv (.bin .eql (.tmp 82) (.const (.int .i64 6)))⟩, ⟨some 83, none, .pv (.move (.tmp 88))⟩]
abbrev R16_28 : List LOper := [⟨some 89, none, .pv (.move (.tmp 4))⟩, ⟨some 90, none, .pv (.off (.tmp 1) 4)⟩, ⟨some 91, none, .pv (.off (.tmp 90) 0)⟩, ⟨some 92, none, .load (.tmp 91)⟩, ⟨some 93, none, .pv (.off (.tmp 1) 4)⟩, ⟨some 94, none, .pv (.off (.tmp 93) 1)⟩, ⟨some 95, none, .load (.tmp 94)⟩, ⟨some 96, none, .row 3 2 [(.int .i64 0), (.int .i64 0)] [(0, (1, (.tmp 92))), (1, (1, (.tmp 95)))]⟩, ⟨some 97, none, .call 45 [(.tmp 89), (.tmp 96)]⟩]
abbrev R16_29 : List LOper := [⟨some 98, none, .pv (.off (.tmp 1) 0)⟩, ⟨some 99, none, .load (.tmp 98)⟩]
abbrev R16_30 : List LOper := [⟨some 118, none, .pv (.bin .eql (.tmp 99) (.const (.int .i64 3)))⟩, ⟨some 117, none, .pv (.move (.tmp 118))⟩]
abbrev R16_31 : List LOper := [⟨some 120, none, .pv (.bin .eql (.tmp 99) (.const (.int .i64 7)))⟩, ⟨some 119, none, .pv (.move (.tmp 120))⟩]
abbrev R16_32 : List LOper := [⟨some 121, none, .pv (.move (.tmp 4))⟩, ⟨some 122, none, .pv (.off (.tmp 1) 6)⟩, ⟨some 123, none, .pv (.off (.tmp 122) 0)⟩, ⟨some 124, none, .load (.tmp 123)⟩, ⟨some 125, none, .pv (.off (.tmp 1) 6)⟩, ⟨some 126, none, .pv (.off (.tmp 125) 1)⟩, ⟨some 127, none, .load (.tmp 126)⟩, ⟨some 128, none, .row 3 2 [(.int .i64 0), (.int .i64 0)] [(0, (1, (.tmp 124))), (1, (1, (.tmp 127)))]⟩, ⟨some 129, none, .call 45 [(.tmp 121), (.tmp 128)]⟩]
abbrev R16_33 : List LOper := [⟨some 100, none, .pv (.move (.tmp 4))⟩, ⟨some 101, none, .pv (.off (.tmp 1) 8)⟩, ⟨some 102, none, .pv (.off (.tmp 101) 0)⟩, ⟨some 103, none, .load (.tmp 102)⟩, ⟨some 104, none, .pv (.off (.tmp 1) 8)⟩, ⟨some 105, none, .pv (.off (.tmp 104) 1)⟩, ⟨some 106, none, .load (.tmp 105)⟩, ⟨some 107, none, .row 3 2 [(.int .i64 0), (.int .i64 0)] [(0, (1, (.tmp 103))), (1, (1, (.tmp 106)))]⟩, ⟨some 108, none, .call 45 [(.tmp 100), (.tmp 107)]⟩]
abbrev R16_34 : List LOper := [⟨some 109, none, .pv (.off (.tmp 1) 0)⟩, ⟨some 110, none, .load (.tmp 109)⟩, ⟨some 111, none, .pv (.bin .eql (.tmp 110) (.const (.int .i64 4)))⟩]
abbrev R16_35 : List LOper := [⟨some 112, none, .pv (.move (.tmp 4))⟩, ⟨some 113, none, .pv (.off (.tmp 1) 10)⟩, ⟨some 114, none, .load (.tmp 113)⟩, ⟨some 115, none, .row 3 1 [(.int .i64 0)] [(0, (1, (.tmp 114)))]⟩, ⟨some 116, none, .call 45 [(.tmp 112), (.tmp 115)]⟩]
abbrev R16_36 : List LOper := [⟨some 130, none, .pv (.move (.tmp 4))⟩, ⟨some 131, none, .pv (.nilck (.tmp 130))⟩, ⟨some 132, none, .pv (.off (.tmp 131) 0)⟩, ⟨some 133, none, .load (.tmp 132)⟩, ⟨some 2, none, .pv (.move (.tmp 133))⟩, ⟨some 3, none, .pv (.move (.const (.int .i64 0)))⟩]
abbrev L16 : LFun := ⟨134, [(.tmp 2), (.tmp 3)], (.seq (.reg R16_0) (.seq (.seq (.reg R16_1) (.cond (.tmp 7) (.seq (.reg R16_2) .ret) .skip)) (.seq (.reg R16_3) (.seq (.reg R16_4) (.seq (.seq (.reg R16_5) (.block 0 (.seq (.reg R16_6) (.cond (.tmp 17) (.seq (.reg R16_7) (.seq (.reg R16_8) (.seq (.reg R16_9) .ret))) (.seq (.reg R16_10) (.cond (.tmp 31) (.seq (.reg R16_11) (.seq (.reg R16_12) .ret)) (.seq (.reg R16_13) (.cond (.tmp 41) (.seq (.reg R16_14) (.seq (.reg R16_15) (.seq (.reg R16_16) (.seq (.seq (.reg R16_17) (.cond (.tmp 58) (.reg R16_18) .skip)) (.seq (.reg R16_19) .ret))))) .skip)))))))) (.seq (.reg R16_20) (.seq (.reg R16_21) (.seq (.seq (.reg R16_22) (.block 1 (.seq (.seq (.reg R16_23) (.cond (.tmp 83) .skip (.seq (.reg R16_24) (.cond (.tmp 83) .skip (.seq (.reg R16_25) (.cond (.tmp 83) .skip (.seq (.reg R16_26) (.cond (.tmp 83) .skip (.reg R16_27))))))))) (.cond (.tmp 83) (.reg R16_28) .skip)))) (.seq (.seq (.reg R16_29) (.block 2 (.seq (.reg R16_30) (.cond (.tmp 117) .skip (.seq (.reg R16_31) (.cond (.tmp 119) (.reg R16_32) (.seq (.reg R16_33) (.seq (.reg R16_34) (.cond (.tmp 111) (.reg R16_35) .skip))))))))) (.seq (.reg R16_36) .ret))))))))))⟩
theorem low16 : lowFn Try.prog Try.f16 = some L16 := by kernel_rfl

def msgE (m : Ms) (vs : List Vw) : List UInt8 :=
  if m.kind = 1 then numsE [m.kind] ++ numsE [m.cs, m.ci] ++ opE m.opk m.opn m.opa m.opb else
  if m.kind = 10 then numsE [m.kind] ++ viewsE vs else
  if m.kind = 2 then numsE [m.kind] ++ numsE [m.cs, m.ci] ++ textE m.name ++ numsE [m.err] ++ (if capped m.err then numsE [m.cap, m.recaps] else []) else
  numsE [m.kind] ++ textE m.name ++ numsE [m.cap, m.recaps] ++ (if m.kind = 3 ∨ m.kind = 7 ∨ m.kind = 4 ∨ m.kind = 5 ∨ m.kind = 6 then numsE [m.er, m.ek] else []) ++
    (if m.kind = 3 then [] else if m.kind = 7 then numsE [m.or_, m.ok] else numsE [m.down, m.up] ++ (if m.kind = 4 then numsE [m.held] else []))
def encE (m : Ms) (vs : List Vw) : Option (List UInt8) := if validB m vs then some (msgE m vs) else none
theorem namedB_len {l : List UInt8} (h : namedB l = true) : l.length ≤ 16 := by
  simp only [namedB, Bool.and_eq_true, decide_eq_true_eq] at h
  omega
theorem viewsFrom_names : ∀ (l : List Vw) (last : List UInt8), viewsFrom last l = true → ∀ v ∈ l, v.name.length ≤ 16
  | [], _, _, v, hv => by cases hv
  | x :: r, last, h, v, hv => by
    simp only [viewsFrom, Bool.and_eq_true, viewB] at h
    rcases List.mem_cons.1 hv with rfl | hv
    · exact namedB_len h.1.1.1.1.1.1.1
    · exact viewsFrom_names r _ h.2 v hv
structure MsIn (m : Ms) (vs : List Vw) : Prop where
  name : m.name.length ≤ 16
  opn : m.opn.length ≤ 16
  kind : 1 ≤ m.kind ∧ m.kind ≤ 10
  views : m.kind = 10 → vs.length ≤ 64 ∧ ∀ v ∈ vs, v.name.length ≤ 16
theorem valid_in {m : Ms} {vs : List Vw} (h : validB m vs = true) : MsIn m vs := by
  unfold validB at h
  dsimp only at h
  repeat' split at h
  all_goals simp only [Bool.and_eq_true, emptyB, decide_eq_true_eq, Bool.false_eq_true, viewsB, opB] at h
  all_goals (try exact h.elim)
  all_goals
    (refine ⟨?_, ?_, by omega, ?_⟩
     · first | (simp [h]; done) | (refine namedB_len ?_; simp only [h])
     · first | (simp [h]; done) | (refine namedB_len ?_; simp only [h])
     · first | (intro h9; omega) | (intro; exact ⟨h.1.2, viewsFrom_names _ _ h.1.1⟩))
theorem w48 {w0 w : World} {K : List Nat} {O F : Blks} {g m : Nat} {bs : List UInt8} {vs : List Vw} {vv : Value} (hS : St w0 K w (O ++ F)) (hR : RdL w (keysOf O) 7 vv vs Vw.cells) (hn : vs.length ≤ 64 ∧ ∀ v ∈ vs, v.name.length ≤ 16) (hl : m + 10 + 86 * 64 ≤ 1099511627776) (hW : WrM g bs m O) :
    Calls Try.prog 48 #[.pointer (some ⟨g, 0, none⟩), vv] w (Ret w (keysOf O) fun u O' => u = .tuple #[] ∧ WrM g (bs ++ viewsE vs) (m + 10 + 86 * vs.length) O') :=
  c48 g m vs bs hn.2 (by omega) O hW vv w hS.at_left hR
set_option maxHeartbeats 4000000 in
theorem c16 (m : Ms) (vs : List Vw) (vv : Value) (hok : MsOk m vs) (ha : I64 m.opa) (hb : I64 m.opb) (w : World) (hR : RdL w [] 7 vv vs Vw.cells) :
    Calls Try.prog 16 #[.agg (m.cells vv).toArray] w (Ret w [] (EncR (encE m vs))) := by
  have e1 := fun w hR => c22 m vs vv hok w hR
  by_cases hv : validB m vs = true
  · obtain ⟨q1, q2, q3, q4⟩ := valid_in hv
    rw [hv] at e1
    have ho : encE m vs = some (msgE m vs) := by rw [encE, if_pos hv]
    generalize hgo : encE m vs = o at ho ⊢
    clear hgo hv
    obtain ⟨kind, name, cap, recaps, er, ek, or_, ok, down, up, held, cs, ci, opk, opn, opa, opb, err, val⟩ := m
    dsimp only at ha hb q1 q2 q3 q4
    obtain ⟨A, c, rfl, _⟩ := hR.1.slc
    simp only [Ms.cells] at e1
    simp only [Ms.cells]
    refine enterF (args := [.agg #[.int .i64 kind, Lw.S name, .int .i64 cap, .int .i64 recaps, .int .i64 er, .int .i64 ek, .int .i64 or_, .int .i64 ok, .int .i64 down, .int .i64 up, .int .i64 held, .int .i64 cs, .int .i64 ci, .int .i64 opk, Lw.S opn, .int .i64 opa, .int .i64 opb, .int .i64 err, .int .i64 val, .slice A vs.length c]]) Try.func16 low16 rfl ?_; have hS := St.start w; dsimp only [L16, envL, Nat.reduceAdd]
    repeat' (first | ((with_reducible apply WL_p); (· exact evk)) | ((with_reducible apply WL_do); (· exact evd)) | ((with_reducible apply WL_no); (· exact evd)) | ((with_reducible apply WC_true); (· exact evk)) | ((with_reducible apply WC_false); (· exact evk)) | (with_reducible first | refine WL_nil ?_ | refine then_normal ?_ | refine blk_normal ?_ | refine WC_seq ?_ | refine WC_reg ?_ | refine WC_block ?_ | refine WC_skip ?_ | refine WC_exit ?_ | refine then_exit ?_ | refine blk_hit ?_ | refine blk_miss (by decide) ?_ | refine WC_ret ?_ | refine then_ret ?_ | refine blk_ret ?_) | ((first | (with_reducible apply WL_newz hS) | ((with_reducible apply WL_newv hS); (· exact evk); (· rfl)) | ((with_reducible apply WL_row hS); (· exact evk))); clear hS; intro bq w hS hbq; (try simp only [List.nil_append, List.cons_append, List.append_assoc] at hS)) | ((with_reducible apply WL_load hS); (· exact evk); (· exact inn); (· rfl)) | ((with_reducible apply WL_loadN hS); (· exact evk); (· exact inn); (· ((simp only [List.drop_succ_cons, List.drop_zero, List.take_succ_cons, List.take_zero]) <;> rfl)); (· rfl)) | ((with_reducible apply WL_callq hS); (· exact evk); (· first | exact e1 _ (hS.rdL0 hR)); (clear hS; intro w hS)))
    obtain ⟨Ow, hW, hS⟩ := St.wrm hS
    have q5 : kind = 10 ∨ ¬ kind = 10 := by omega
    rcases q5 with hk | hk
    · have q5 := q4 hk
      repeat' (first | ((with_reducible apply WL_p); (· exact evk)) | ((with_reducible apply WL_do); (· exact evd)) | ((with_reducible apply WL_no); (· exact evd)) | ((with_reducible apply WC_true); (· exact evk)) | ((with_reducible apply WC_false); (· exact evk)) | (with_reducible first | refine WL_nil ?_ | refine then_normal ?_ | refine blk_normal ?_ | refine WC_seq ?_ | refine WC_reg ?_ | refine WC_block ?_ | refine WC_skip ?_ | refine WC_exit ?_ | refine then_exit ?_ | refine blk_hit ?_ | refine blk_miss (by decide) ?_ | refine WC_ret ?_ | refine then_ret ?_ | refine blk_ret ?_) | ((with_reducible apply WL_load hS); (· exact evk); (· exact inn); (· rfl)) | ((with_reducible apply WL_loadN hS); (· exact evk); (· exact inn); (· ((simp only [List.drop_succ_cons, List.drop_zero, List.take_succ_cons, List.take_zero]) <;> rfl)); (· rfl)) | ((with_reducible apply WL_call (Oc := Ow) hS); (· exact evk); (· first | ((with_reducible apply w48 hS (hS.rdL hR fun q h => List.mem_append_left _ h) (hW := hW)) <;> first | assumption | omega | exact inn)); (clear hS hW; rintro u Ow w ⟨rfl, hW⟩ hS)) | ((first | (with_reducible apply WL_newz hS) | ((with_reducible apply WL_newv hS); (· exact evk); (· rfl)) | ((with_reducible apply WL_row hS); (· exact evk))); clear hS; intro bq w hS hbq; (try simp only [List.nil_append, List.cons_append, List.append_assoc] at hS)) | ((with_reducible apply WL_call (Oc := Ow) hS); (· exact evk); (· first | ((with_reducible apply w45_1 hS (hW := hW)) <;> first | assumption | omega | exact inn) | ((with_reducible apply w45_2 hS (hW := hW)) <;> first | assumption | omega | exact inn) | ((with_reducible apply w45_5 hS (hW := hW)) <;> first | assumption | omega | exact inn) | ((with_reducible apply w45_6 hS (hW := hW)) <;> first | assumption | omega | exact inn) | ((with_reducible apply w46 hS (hW := hW)) <;> first | assumption | omega | exact inn) | ((with_reducible apply w47 hS (hW := hW)) <;> first | assumption | omega | exact inn) | ((with_reducible apply w49 hS (hW := hW)) <;> first | assumption | omega | exact inn) | ((with_reducible apply w59 hS (hW := hW)) <;> first | assumption | omega | exact inn)); (clear hS hW; rintro u Ow w ⟨rfl, hW⟩ hS)) | (first | ((with_reducible apply WL_split); (· exact evk)) | ((with_reducible apply WC_dec); (· exact evk)) | ((with_reducible apply WL_splitB); (· exact evk)) | ((with_reducible apply WC_bool); (· exact evk)) | (with_reducible intro hh)))
      all_goals (try omega)
      all_goals
        (obtain ⟨v, L, rfl, hrow⟩ := hW.s
         repeat' (first | ((with_reducible apply WL_p); (· exact evk)) | (with_reducible first | refine WL_nil ?_ | refine then_normal ?_ | refine blk_normal ?_ | refine WC_seq ?_ | refine WC_reg ?_ | refine WC_block ?_ | refine WC_skip ?_ | refine WC_exit ?_ | refine then_exit ?_ | refine blk_hit ?_ | refine blk_miss (by decide) ?_ | refine WC_ret ?_ | refine then_ret ?_ | refine blk_ret ?_) | ((with_reducible apply WL_load hS); (· exact evk); (· exact inn); (· rfl))))
      all_goals (refine encOut hS hrow rfl rfl ?_; rw [ho, msgE]; simp [*])
    · clear q4
      repeat' (first | ((with_reducible apply WL_p); (· exact evk)) | ((with_reducible apply WL_do); (· exact evd)) | ((with_reducible apply WL_no); (· exact evd)) | ((with_reducible apply WC_true); (· exact evk)) | ((with_reducible apply WC_false); (· exact evk)) | (with_reducible first | refine WL_nil ?_ | refine then_normal ?_ | refine blk_normal ?_ | refine WC_seq ?_ | refine WC_reg ?_ | refine WC_block ?_ | refine WC_skip ?_ | refine WC_exit ?_ | refine then_exit ?_ | refine blk_hit ?_ | refine blk_miss (by decide) ?_ | refine WC_ret ?_ | refine then_ret ?_ | refine blk_ret ?_) | ((with_reducible apply WL_load hS); (· exact evk); (· exact inn); (· rfl)) | ((with_reducible apply WL_loadN hS); (· exact evk); (· exact inn); (· ((simp only [List.drop_succ_cons, List.drop_zero, List.take_succ_cons, List.take_zero]) <;> rfl)); (· rfl)) | ((first | (with_reducible apply WL_newz hS) | ((with_reducible apply WL_newv hS); (· exact evk); (· rfl)) | ((with_reducible apply WL_row hS); (· exact evk))); clear hS; intro bq w hS hbq; (try simp only [List.nil_append, List.cons_append, List.append_assoc] at hS)) | ((with_reducible apply WL_call (Oc := Ow) hS); (· exact evk); (· first | ((with_reducible apply w45_1 hS (hW := hW)) <;> first | assumption | omega | exact inn) | ((with_reducible apply w45_2 hS (hW := hW)) <;> first | assumption | omega | exact inn) | ((with_reducible apply w45_5 hS (hW := hW)) <;> first | assumption | omega | exact inn) | ((with_reducible apply w45_6 hS (hW := hW)) <;> first | assumption | omega | exact inn) | ((with_reducible apply w46 hS (hW := hW)) <;> first | assumption | omega | exact inn) | ((with_reducible apply w47 hS (hW := hW)) <;> first | assumption | omega | exact inn) | ((with_reducible apply w49 hS (hW := hW)) <;> first | assumption | omega | exact inn) | ((with_reducible apply w59 hS (hW := hW)) <;> first | assumption | omega | exact inn)); (clear hS hW; rintro u Ow w ⟨rfl, hW⟩ hS)) | ((with_reducible apply WL_callq hS); (· exact evk); (· first | exact c50 _ _); (clear hS; intro w hS)) | (first | ((with_reducible apply WL_split); (· exact evk)) | ((with_reducible apply WC_dec); (· exact evk)) | ((with_reducible apply WL_splitB); (· exact evk)) | ((with_reducible apply WC_bool); (· exact evk)) | (with_reducible intro hh)))
      all_goals (try omega)
      all_goals
        (obtain ⟨v, L, rfl, hrow⟩ := hW.s
         repeat' (first | ((with_reducible apply WL_p); (· exact evk)) | (with_reducible first | refine WL_nil ?_ | refine then_normal ?_ | refine blk_normal ?_ | refine WC_seq ?_ | refine WC_reg ?_ | refine WC_block ?_ | refine WC_skip ?_ | refine WC_exit ?_ | refine then_exit ?_ | refine blk_hit ?_ | refine blk_miss (by decide) ?_ | refine WC_ret ?_ | refine then_ret ?_ | refine blk_ret ?_) | ((with_reducible apply WL_load hS); (· exact evk); (· exact inn); (· rfl))))
      all_goals
        (refine encOut hS hrow rfl rfl ?_
         clear hrow hS hW hR e1 hok
         rw [ho, msgE]
         clear ho)
      all_goals (simp [capped, *]; done)
  · rw [Bool.not_eq_true] at hv
    rw [hv] at e1
    refine enterF (args := [.agg (Ms.cells m vv).toArray]) Try.func16 low16 rfl ?_; have hS := St.start w; dsimp only [L16, envL, Nat.reduceAdd]
    obtain ⟨kind, name, cap, recaps, er, ek, or_, ok, down, up, held, cs, ci, opk, opn, opa, opb, err, val⟩ := m
    obtain ⟨A, c, rfl, _⟩ := hR.1.slc
    simp only [Ms.cells] at e1
    simp only [Ms.cells]
    repeat' (first | ((with_reducible apply WL_p); (· exact evk)) | ((with_reducible apply WL_do); (· exact evd)) | ((with_reducible apply WL_no); (· exact evd)) | ((with_reducible apply WC_true); (· exact evk)) | ((with_reducible apply WC_false); (· exact evk)) | (with_reducible first | refine WL_nil ?_ | refine then_normal ?_ | refine blk_normal ?_ | refine WC_seq ?_ | refine WC_reg ?_ | refine WC_block ?_ | refine WC_skip ?_ | refine WC_exit ?_ | refine then_exit ?_ | refine blk_hit ?_ | refine blk_miss (by decide) ?_ | refine WC_ret ?_ | refine then_ret ?_ | refine blk_ret ?_) | ((first | (with_reducible apply WL_newz hS) | ((with_reducible apply WL_newv hS); (· exact evk); (· rfl)) | ((with_reducible apply WL_row hS); (· exact evk))); clear hS; intro bq w hS hbq; (try simp only [List.nil_append, List.cons_append, List.append_assoc] at hS)) | ((with_reducible apply WL_load hS); (· exact evk); (· exact inn); (· rfl)) | ((with_reducible apply WL_loadN hS); (· exact evk); (· exact inn); (· ((simp only [List.drop_succ_cons, List.drop_zero, List.take_succ_cons, List.take_zero]) <;> rfl)); (· rfl)) | ((with_reducible apply WL_callq hS); (· exact evk); (· first | exact e1 _ (hS.rdL0 hR)); (clear hS; intro w hS)))
    exact encNo hS rfl rfl (by rw [encE, hv]; rfl)
end Go.Proofs.Ytohmgkcdjapinaa.Lw
namespace Go.Proofs.Ytohmgkcdjapinaa.Lw
theorem kWk0 {p : Prop} (h : p := by ((simp (disch := omega) only [ev_tmp, ev_const, ev_func, ev_global, upd_app, val_move, val_pick, pickV_true, pickV_false, pickV_bool, val_nilck, nilckV_ptr, val_bin, bin_add, bin_sub, bin_mul, bin_eql, bin_neq, bin_lss, bin_leq, bin_gtr, bin_geq, bin_seql, bin_sneq, bin_slss, bin_sleq, bin_sgtr, bin_sgeq, val_beq, beqV_f, beqV_t, val_seq, val_not, notV_bool, val_toInt, toIntV_int, val_off, offV_ptr, val_len, lenV_slice, val_slen, slenV_S, val_ext, extV_tup, val_ifc, val_fn, List.getElem?_cons_zero, List.getElem?_cons_succ, List.map_cons, List.map_nil, eq_self, Bool.false_eq_true, Bool.not_true, Bool.not_false, Option.map_some, Nat.zero_add, isB_bool, isB_undef, Bool.true_beq, Bool.false_beq, beq_self_eq_true, Bool.true_and, Bool.and_true, Bool.false_and, Bool.and_false, Bool.true_or, Bool.or_true, Bool.false_or, Bool.or_false, not_dec, and_dec, or_dec, seqV_f, seqV_t, ceq_i, ceq_s, ceq_nil, val_bld, bldV, cells_int, cells_bool, cells_S, cells_b8, cells_slice, cells_ptr, cells_agg, List.size_toArray, List.length_cons, List.length_nil, place, List.take_succ_cons, List.take_zero, List.drop_succ_cons, List.drop_zero, List.cons_append, List.nil_append, and_self, and_true, true_and, Nat.reduceLeDiff, List.toList_toArray, wr64, wru64, wru8, Nat.reduceEqDiff, ↓reduceIte, Nat.reduceAdd, e1, e2, e3]) <;> rfl)) : p := h
abbrev R110_0 : List LOper := [⟨some 2, none, .pv (.move (.const (.int .u64 0)))⟩, ⟨some 3, none, .pv (.move (.const (.int .i64 0)))⟩]
abbrev R110_1 : List LOper := [⟨some 9, none, .pv (.move (.tmp 0))⟩, ⟨some 10, none, .pv (.nilck (.tmp 9))⟩, ⟨some 11, none, .pv (.off (.tmp 10) 1)⟩, ⟨some 12, none, .load (.tmp 11)⟩, ⟨some 4, none, .pv (.move (.tmp 12))⟩]
abbrev R110_2 : List LOper := [⟨some 5, none, .pv (.move (.const (.int .u64 0)))⟩]
abbrev R110_3 : List LOper := [⟨some 6, none, .pv (.move (.const (.int .i64 0)))⟩]
abbrev R110_4 : List LOper := [⟨some 25, none, .pv (.move (.tmp 0))⟩, ⟨some 26, none, .pv (.nilck (.tmp 25))⟩, ⟨some 27, none, .pv (.off (.tmp 26) 1)⟩, ⟨some 28, none, .load (.tmp 27)⟩, ⟨some 29, none, .pv (.ifc 137 (.tmp 28))⟩, ⟨none, none, .panic (.tmp 29)⟩]
abbrev R110_5 : List LOper := [⟨some 40, none, .pv (.move (.tmp 0))⟩, ⟨some 41, none, .pv (.nilck (.tmp 40))⟩, ⟨some 42, none, .pv (.off (.tmp 41) 1)⟩, ⟨some 43, none, .load (.tmp 42)⟩, ⟨some 44, none, .pv (.bin .add (.tmp 43) (.const (.int .i64 1)))⟩, ⟨some 45, none, .pv (.nilck (.tmp 40))⟩, ⟨some 46, none, .pv (.off (.tmp 45) 1)⟩, ⟨none, none, .store 1 (.tmp 46) (.tmp 44)⟩]
abbrev R110_6 : List LOper := [⟨some 47, none, .pv (.move (.tmp 5))⟩, ⟨some 48, none, .pv (.move (.tmp 7))⟩, ⟨some 49, none, .pv (.bin .and (.tmp 48) (.const (.int .u8 127)))⟩, ⟨some 50, none, .pv (.toInt .u64 (.tmp 49))⟩, ⟨some 51, none, .pv (.move (.tmp 6))⟩, ⟨some 52, none, .pv (.bin .shl (.tmp 50) (.tmp 51))⟩, ⟨some 53, none, .pv (.bin .or (.tmp 47) (.tmp 52))⟩, ⟨some 5, none, .pv (.move (.tmp 53))⟩]
abbrev R110_7 : List LOper := [⟨some 54, none, .pv (.move (.tmp 6))⟩, ⟨some 55, none, .pv (.bin .eql (.tmp 54) (.const (.int .i64 63)))⟩, ⟨some 8, none, .pv (.move (.tmp 55))⟩]
abbrev R110_8 : List LOper := [⟨some 56, none, .pv (.move (.tmp 7))⟩, ⟨some 57, none, .pv (.bin .lss (.tmp 56) (.const (.int .u8 128)))⟩, ⟨some 58, none, .pv (.move (.tmp 57))⟩, ⟨some 59, (some (58, true)), .pv (.move (.tmp 7))⟩, ⟨some 60, (some (58, true)), .pv (.bin .gtr (.tmp 59) (.const (.int .u8 0)))⟩, ⟨some 61, (some (58, true)), .pv (.move (.tmp 60))⟩, ⟨some 62, (some (61, false)), .pv (.move (.tmp 6))⟩, ⟨some 63, (some (61, false)), .pv (.bin .eql (.tmp 62) (.const (.int .i64 0)))⟩, ⟨some 64, (some (58, true)), .pv (.pick (.tmp 61) (.const (.bool true)) (.tmp 63))⟩, ⟨some 65, none, .pv (.pick (.tmp 58) (.tmp 64) (.const (.bool false)))⟩, ⟨some 66, none, .pv (.move (.tmp 65))⟩, ⟨some 67, (some (66, true)), .pv (.move (.tmp 8))⟩, ⟨some 68, (some (66, true)), .pv (.not (.tmp 67))⟩, ⟨some 69, (some (66, true)), .pv (.move (.tmp 68))⟩, ⟨some 70, (some (69, false)), .pv (.move (.tmp 7))⟩, ⟨some 71, (some (69, false)), .pv (.bin .eql (.tmp 70) (.const (.int .u8 1)))⟩, ⟨some 72, (some (66, true)), .pv (.pick (.tmp 69) (.const (.bool true)) (.tmp 71))⟩, ⟨some 73, none, .pv (.pick (.tmp 66) (.tmp 72) (.const (.bool false)))⟩]
abbrev R110_9 : List LOper := [⟨some 74, none, .pv (.move (.tmp 5))⟩, ⟨some 75, none, .pv (.move (.tmp 4))⟩, ⟨some 2, none, .pv (.move (.tmp 74))⟩, ⟨some 3, none, .pv (.move (.tmp 75))⟩]
abbrev R110_10 : List LOper := [⟨some 76, none, .pv (.move (.tmp 7))⟩, ⟨some 77, none, .pv (.bin .lss (.tmp 76) (.const (.int .u8 128)))⟩, ⟨some 78, none, .pv (.move (.tmp 77))⟩, ⟨some 79, (some (78, false)), .pv (.move (.tmp 8))⟩, ⟨some 80, none, .pv (.pick (.tmp 78) (.const (.bool true)) (.tmp 79))⟩]
abbrev R110_11 : List LOper := [⟨some 81, none, .pv (.move (.tmp 4))⟩, ⟨some 82, none, .pv (.ifc 137 (.tmp 81))⟩, ⟨none, none, .panic (.tmp 82)⟩]
abbrev R110_12 : List LOper := [⟨some 13, none, .pv (.move (.tmp 6))⟩, ⟨some 14, none, .pv (.bin .add (.tmp 13) (.const (.int .i64 7)))⟩, ⟨some 6, none, .pv (.move (.tmp 14))⟩]
abbrev L110 : LFun := ⟨83, [(.tmp 2), (.tmp 3)], (.seq (.reg R110_0) (.seq (.reg R110_1) (.seq (.reg R110_2) (.seq (.reg R110_3) (.block 0 (.loop (.seq (.block 1 (.seq (.seq (.dreg (.still ⟨some 15, none, .pv (.move (.tmp 0))⟩ (.still ⟨some 16, none, .pv (.nilck (.tmp 15))⟩ (.still ⟨some 17, none, .pv (.off (.tmp 16) 1)⟩ (.still ⟨some 18, none, .load (.tmp 17)⟩ (.still ⟨some 19, none, .pv (.move (.tmp 0))⟩ (.still ⟨some 20, none, .pv (.nilck (.tmp 19))⟩ (.still ⟨some 21, none, .pv (.off (.tmp 20) 0)⟩ (.still ⟨some 22, none, .load (.tmp 21)⟩ (.still ⟨some 23, none, .pv (.len (.tmp 22))⟩ (.still ⟨some 24, none, .pv (.bin .eql (.tmp 18) (.tmp 23))⟩ .nil))))))))))) (.cond (.tmp 24) (.reg R110_4) .skip)) (.seq (.dreg (.still ⟨some 30, none, .pv (.move (.tmp 0))⟩ (.still ⟨some 31, none, .pv (.nilck (.tmp 30))⟩ (.still ⟨some 32, none, .pv (.off (.tmp 31) 0)⟩ (.still ⟨some 33, none, .load (.tmp 32)⟩ (.still ⟨some 34, none, .pv (.move (.tmp 0))⟩ (.still ⟨some 35, none, .pv (.nilck (.tmp 34))⟩ (.still ⟨some 36, none, .pv (.off (.tmp 35) 1)⟩ (.still ⟨some 37, none, .load (.tmp 36)⟩ (.still ⟨some 38, none, .pv (.idx 1 (.tmp 33) (.tmp 37))⟩ (.still ⟨some 39, none, .load (.tmp 38)⟩ (.still ⟨some 7, none, .pv (.move (.tmp 39))⟩ .nil)))))))))))) (.seq (.reg R110_5) (.seq (.reg R110_6) (.seq (.reg R110_7) (.seq (.seq (.reg R110_8) (.cond (.tmp 73) (.seq (.reg R110_9) .ret) .skip)) (.seq (.reg R110_10) (.cond (.tmp 80) (.reg R110_11) .skip))))))))) (.reg R110_12))))))))⟩
theorem low110 : lowFn Try.prog Try.f110 = some L110 := by kernel_rfl

/-- The number that begins at from: n so far, of k bytes. -/
def bigGo (l : List UInt8) (fr : Nat) : Nat → Nat → Nat → Nat → Except Nat (Nat × Nat)
  | 0, _, _, _ => .error fr
  | f + 1, k, n, a =>
    if a = l.length then .error l.length else
    let c := (at8 l a).toNat
    let n' := n + (c % 128 * 2 ^ (7 * k)) % 2 ^ 64
    if c < 128 then (if (0 < c ∨ k = 0) ∧ (k ≠ 9 ∨ c = 1) then .ok (n', a + 1) else .error fr)
    else if k = 9 then .error fr else bigGo l fr f (k + 1) n' (a + 1)
def rdBig (l : List UInt8) (a : Nat) : Except Nat (Nat × Nat) := bigGo l a 10 0 0 a
theorem fin_and : ∀ x : Fin 256, (x.val &&& 127) = x.val % 128 := by decide +kernel
theorem and127 (c : UInt8) : binV .and (.int .u8 (c.toNat : Int)) (.int .u8 127) = some (.int .u8 ((c.toNat % 128 : Nat) : Int)) := by
  rw [bin_and]
  have e1 : (BitVec.ofInt IntKind.u8.bits (c.toNat : Int)).toNat = c.toNat := by
    rw [BitVec.ofInt_natCast, BitVec.toNat_ofNat]
    exact Nat.mod_eq_of_lt c.toNat_lt
  have e2 : (BitVec.ofInt IntKind.u8.bits 127).toNat = 127 := by decide
  rw [BitVec.toNat_and, e1, e2]
  have := fin_and ⟨c.toNat, c.toNat_lt⟩
  simp only at this
  rw [this, IntKind.wrap_u8]
  congr 2
  omega
theorem shl7 (x k : Nat) (hk : k ≤ 9) : binV .shl (.int .u64 (x : Int)) (.int .i64 ((7 * k : Nat) : Int)) = some (.int .u64 ((x * 2 ^ (7 * k) % 2 ^ 64 : Nat) : Int)) := by
  rw [bin_shl _ _ _ _ (by omega)]
  have h1 : min ((7 * k : Nat) : Int).toNat IntKind.u64.bits = 7 * k := by
    have : IntKind.u64.bits = 64 := rfl
    rw [this]; omega
  rw [h1, IntKind.wrap_u64]
  congr 2
theorem or7 (n x k : Nat) (hk : k ≤ 9) (hn : n < 2 ^ (7 * k)) : binV .or (.int .u64 (n : Int)) (.int .u64 ((x * 2 ^ (7 * k) % 2 ^ 64 : Nat) : Int)) = some (.int .u64 ((n + x * 2 ^ (7 * k) % 2 ^ 64 : Nat) : Int)) := by
  have h64 : (2 : Nat) ^ 64 = 2 ^ (7 * k) * 2 ^ (64 - 7 * k) := by rw [← Nat.pow_add]; congr 1; omega
  have hn64 : n < 2 ^ 64 := Nat.lt_of_lt_of_le hn (Nat.pow_le_pow_right (by decide) (by omega))
  have e0 : x * 2 ^ (7 * k) % 2 ^ 64 = 2 ^ (7 * k) * (x % 2 ^ (64 - 7 * k)) := by
    rw [h64, Nat.mul_comm x, Nat.mul_mod_mul_left]
  have hor : n ||| (x * 2 ^ (7 * k) % 2 ^ 64) = n + x * 2 ^ (7 * k) % 2 ^ 64 := by
    rw [e0, Nat.or_comm, ← Nat.two_pow_add_eq_or_of_lt hn, Nat.add_comm]
  have hlt : n + x * 2 ^ (7 * k) % 2 ^ 64 < 2 ^ 64 := by
    rw [← hor]; exact Nat.or_lt_two_pow hn64 (Nat.mod_lt _ (by decide))
  rw [bin_or]
  have e1 : ∀ y : Nat, y < 2 ^ 64 → (BitVec.ofInt IntKind.u64.bits (y : Int)).toNat = y := by
    intro y hy
    rw [BitVec.ofInt_natCast, BitVec.toNat_ofNat]
    exact Nat.mod_eq_of_lt hy
  rw [BitVec.toNat_or, e1 _ hn64, e1 _ (Nat.mod_lt _ (by decide)), hor, IntKind.wrap_u64]
  congr 2
  omega
/-- What a reader's function answers: the value and the reader moved on; or it panics with the place. -/
def RdR {α : Type} (g : Nat) (dv : Value) (x : Except Nat (α × Nat)) (val : α → Value) (u : Value) (O' : Blks) : Prop := ∃ y a', x = .ok (y, a') ∧ u = val y ∧ O' = [(g, Blk 140 [dv, .int .i64 ((a' : Nat) : Int)])]
def RdP {α : Type} (x : Except Nat (α × Nat)) (ch : Chain) (O' : Blks) : Prop := ∃ p : Nat, x = .error p ∧ ch = [{ v := .iface 137 (.int .i64 (p : Int)), recovered := false }]
/-- The slice's length is within its capacity. -/
def CapOk (v : Value) : Prop := ∃ A n c, v = .slice A n c ∧ n ≤ c
structure RdA (g a : Nat) (l : List UInt8) (dv : Value) (w : World) : Prop where
  at_ : At w [(g, Blk 140 [dv, .int .i64 (a : Int)])]
  rd : Reads w [g] 1 dv l.length (l.map b8)
  le : a ≤ l.length
  cap : CapOk dv
def Lt7 (n k : Nat) : Prop := n < 2 ^ (7 * k)
theorem lt7_next {n k c : Nat} (hk : k ≤ 9) (h9 : k ≠ 9) (hn : Lt7 n k) : Lt7 (n + c % 128 * 2 ^ (7 * k) % 2 ^ 64) (k + 1) := by
  unfold Lt7 at *
  have h1 : c % 128 * 2 ^ (7 * k) % 2 ^ 64 ≤ c % 128 * 2 ^ (7 * k) := Nat.mod_le _ _
  have h2 : c % 128 * 2 ^ (7 * k) ≤ 127 * 2 ^ (7 * k) := Nat.mul_le_mul_right _ (by omega)
  have h3 : 2 ^ (7 * (k + 1)) = 128 * 2 ^ (7 * k) := by rw [Nat.mul_add, Nat.pow_add, Nat.mul_comm]
  omega
theorem map_b8_get {l : List UInt8} {a : Nat} (h : a < l.length) : (l.map b8)[a]? = some (b8 (at8 l a)) := by
  rw [List.getElem?_map, List.getElem?_eq_getElem h, at8_eq h]; rfl
theorem toNat_b8 (c : UInt8) : b8 c = .int .u8 (c.toNat : Int) := rfl
set_option maxRecDepth 4000 in
set_option maxHeartbeats 2000000 in
theorem c110 (g a : Nat) (l : List UInt8) (dv : Value) (w0 : World) (h : RdA g a l dv w0) :
    Calls Try.prog 110 #[.pointer (some ⟨g, 0, none⟩)] w0 (RetP w0 [g] (RdR g dv (rdBig l a) fun n => .tuple #[.int .u64 (n : Int), .int .i64 (a : Int)]) (RdP (rdBig l a))) := by
  obtain ⟨hA, hR, hle, hcap⟩ := h
  have hfit := hR.fits
  obtain ⟨A, c, rfl, _⟩ := hR.slc
  refine enterF (args := [.pointer (some ⟨g, 0, none⟩)]) Try.func110 low110 rfl ?_; have hS := St.init hA; dsimp only [L110, envL, Nat.reduceAdd]
  generalize hgo : rdBig l a = res
  repeat' (first | ((with_reducible apply WL_p); (· exact evk)) | ((with_reducible apply WL_load hS); (· exact evk); (· exact inn); (· rfl)) | (with_reducible first | refine WL_nil ?_ | refine then_normal ?_ | refine blk_normal ?_ | refine WC_seq ?_ | refine WC_reg ?_ | refine WC_block ?_ | refine WC_skip ?_ | refine WC_exit ?_ | refine then_exit ?_ | refine blk_hit ?_ | refine blk_miss (by decide) ?_ | refine WC_ret ?_ | refine then_ret ?_ | refine blk_ret ?_))
  refine WC_loopH (α := Nat × Nat × Nat) (fun s => [(0, .pointer (some ⟨g, 0, none⟩)), (4, .int .i64 (a : Int)), (5, .int .u64 (s.2.1 : Int)), (6, .int .i64 ((7 * s.1 : Nat) : Int))])
    (fun s w' => s.1 ≤ 9 ∧ Lt7 s.2.1 s.1 ∧ bigGo l a (10 - s.1) s.1 s.2.1 s.2.2 = res ∧ s.2.2 ≤ l.length ∧ St w0 [g] w' [(g, Blk 140 [.slice A l.length c, .int .i64 (s.2.2 : Int)])])
    (fun s => 10 - s.1) (0, 0, a) (by (simp (disch := omega) only [ev_tmp, ev_const, ev_func, ev_global, upd_app, val_move, val_pick, pickV_true, pickV_false, pickV_bool, val_nilck, nilckV_ptr, val_bin, bin_add, bin_sub, bin_mul, bin_eql, bin_neq, bin_lss, bin_leq, bin_gtr, bin_geq, bin_seql, bin_sneq, bin_slss, bin_sleq, bin_sgtr, bin_sgeq, val_beq, beqV_f, beqV_t, val_seq, val_not, notV_bool, val_toInt, toIntV_int, val_off, offV_ptr, val_len, lenV_slice, val_slen, slenV_S, val_ext, extV_tup, val_ifc, val_fn, List.getElem?_cons_zero, List.getElem?_cons_succ, List.map_cons, List.map_nil, eq_self, Bool.false_eq_true, Bool.not_true, Bool.not_false, Option.map_some, Nat.zero_add, isB_bool, isB_undef, Bool.true_beq, Bool.false_beq, beq_self_eq_true, Bool.true_and, Bool.and_true, Bool.false_and, Bool.and_false, Bool.true_or, Bool.or_true, Bool.false_or, Bool.or_false, not_dec, and_dec, or_dec, seqV_f, seqV_t, ceq_i, ceq_s, ceq_nil, val_bld, bldV, cells_int, cells_bool, cells_S, cells_b8, cells_slice, cells_ptr, cells_agg, List.size_toArray, List.length_cons, List.length_nil, place, List.take_succ_cons, List.take_zero, List.drop_succ_cons, List.drop_zero, List.cons_append, List.nil_append, and_self, and_true, true_and, Nat.reduceLeDiff, List.toList_toArray, wr64, wru64, wru8, Nat.reduceEqDiff, ↓reduceIte, Nat.reduceAdd, Has, and_true, Int.natCast_add, Int.cast_ofNat_Int]); rfl) ⟨by dsimp only; omega, (Nat.one_pos : 0 < 1), hgo, hle, hS⟩ ?_
  clear hS
  rintro ⟨k, n, p⟩ e w1 ⟨hk, hn, hall, hp, hS⟩
  dsimp only [patch] at hk hn hall hp hS ⊢
  repeat' (first | ((with_reducible apply WL_p); (· exact evk)) | (with_reducible first | refine WL_nil ?_ | refine then_normal ?_ | refine blk_normal ?_ | refine WC_seq ?_ | refine WC_reg ?_ | refine WC_block ?_ | refine WC_skip ?_ | refine WC_exit ?_ | refine then_exit ?_ | refine blk_hit ?_ | refine blk_miss (by decide) ?_ | refine WC_ret ?_ | refine then_ret ?_ | refine blk_ret ?_))
  refine WC_drO hS fun w hS hD => ?_
  repeat' (first | ((with_reducible apply WD_p hD); (· exact evk)) | ((with_reducible apply WD_do hD); (· exact evd)) | ((with_reducible apply WD_no hD); (· exact evd)) | ((with_reducible apply WDe_do); (· exact evd)) | ((with_reducible apply WDe_no hD); (· exact evd)) | ((with_reducible apply WD_load hD); (· exact evk); (· exact inn); (· rfl)) | ((with_reducible apply WD_loadN hD); (· exact evk); (· exact inn); (· ((simp only [List.drop_succ_cons, List.drop_zero, List.take_succ_cons, List.take_zero]) <;> rfl)); (· rfl)) | ((with_reducible apply WD_go); (· exact hS.sh (by repeat (first | exact AllIn.nil | (apply AllIn.cons; (· exact inn))))); (clear hD; intro hD)) | (with_reducible apply WD_nil) | (with_reducible apply WD_eff))
  repeat' (first | ((with_reducible apply WL_p); (· exact evk)) | (with_reducible first | refine WL_nil ?_ | refine then_normal ?_ | refine blk_normal ?_ | refine WC_seq ?_ | refine WC_reg ?_ | refine WC_block ?_ | refine WC_skip ?_ | refine WC_exit ?_ | refine then_exit ?_ | refine blk_hit ?_ | refine blk_miss (by decide) ?_ | refine WC_ret ?_ | refine then_ret ?_ | refine blk_ret ?_) | ((with_reducible apply WC_dec); (· exact evk)) | (with_reducible intro hh))
  · repeat' (first | ((with_reducible apply WL_p); (· exact evk)) | ((with_reducible apply WL_load hS); (· exact evk); (· exact inn); (· rfl)) | (with_reducible first | refine WL_nil ?_ | refine then_normal ?_ | refine blk_normal ?_ | refine WC_seq ?_ | refine WC_reg ?_ | refine WC_block ?_ | refine WC_skip ?_ | refine WC_exit ?_ | refine then_exit ?_ | refine blk_hit ?_ | refine blk_miss (by decide) ?_ | refine WC_ret ?_ | refine then_ret ?_ | refine blk_ret ?_))
    refine WL_panic (by exact evk) ⟨_, ⟨p, ?_, rfl⟩, hS⟩
    obtain rfl : p = l.length := by omega
    obtain ⟨f, hf⟩ : ∃ f, 10 - k = f + 1 := ⟨9 - k, by omega⟩
    rw [← hall, hf, bigGo, if_pos rfl]
  · have hlt : p < l.length := by omega
    obtain ⟨f, hf⟩ : ∃ f, 10 - k = f + 1 := ⟨9 - k, by omega⟩
    rw [hf, bigGo, if_neg (by omega)] at hall
    dsimp only at hall
    refine WC_drO hS fun w hS hD => ?_
    repeat' (first | ((with_reducible apply WD_p hD); (· exact evk)) | ((with_reducible apply WD_do hD); (· exact evd)) | ((with_reducible apply WD_no hD); (· exact evd)) | ((with_reducible apply WDe_do); (· exact evd)) | ((with_reducible apply WDe_no hD); (· exact evd)) | ((with_reducible apply WD_load hD); (· exact evk); (· exact inn); (· rfl)) | ((with_reducible apply WD_loadN hD); (· exact evk); (· exact inn); (· ((simp only [List.drop_succ_cons, List.drop_zero, List.take_succ_cons, List.take_zero]) <;> rfl)); (· rfl)) | ((with_reducible apply WD_go); (· exact hS.sh (by repeat (first | exact AllIn.nil | (apply AllIn.cons; (· exact inn))))); (clear hD; intro hD)) | (with_reducible apply WD_nil) | (with_reducible apply WD_eff))
    refine WD_pv hD (WL_idxR (k := p) hR (by exact evk) (by exact evk) (by omega) hlt fun b o hb hcell => WL_nil ?_)
    have hcell := hcell 0 (by omega)
    rw [Nat.mul_one, Nat.add_zero, Nat.add_zero, map_b8_get hlt, toNat_b8] at hcell
    refine WD_loadR hD (by exact evk) hb hcell ?_
    have e1 := and127 (at8 l p)
    have e2 := shl7 ((at8 l p).toNat % 128) k hk
    have e3 := or7 n ((at8 l p).toNat % 128) k hk hn
    have hc := (at8 l p).toNat_lt
    have hn' : k ≠ 9 → Lt7 (n + (at8 l p).toNat % 128 * 2 ^ (7 * k) % 2 ^ 64) (k + 1) := fun h9 => lt7_next hk h9 hn
    generalize (at8 l p).toNat = cc at *
    generalize cc % 128 * 2 ^ (7 * k) % 2 ^ 64 = y at *
    repeat' (first | ((with_reducible apply WD_p hD); (· exact evk)) | ((with_reducible apply WD_do hD); (· exact evd)) | ((with_reducible apply WD_no hD); (· exact evd)) | ((with_reducible apply WDe_do); (· exact evd)) | ((with_reducible apply WDe_no hD); (· exact evd)) | ((with_reducible apply WD_load hD); (· exact evk); (· exact inn); (· rfl)) | ((with_reducible apply WD_loadN hD); (· exact evk); (· exact inn); (· ((simp only [List.drop_succ_cons, List.drop_zero, List.take_succ_cons, List.take_zero]) <;> rfl)); (· rfl)) | ((with_reducible apply WD_go); (· exact hS.sh (by repeat (first | exact AllIn.nil | (apply AllIn.cons; (· exact inn))))); (clear hD; intro hD)) | (with_reducible apply WD_nil) | (with_reducible apply WD_eff))
    repeat' (first | ((with_reducible apply WL_p); (· exact kWk0)) | ((with_reducible apply WL_do); (· exact evd)) | ((with_reducible apply WL_no); (· exact evd)) | ((with_reducible apply WC_true); (· exact evk)) | ((with_reducible apply WC_false); (· exact evk)) | ((with_reducible apply WL_load hS); (· exact evk); (· exact inn); (· rfl)) | ((with_reducible apply WL_store hS); (· exact evk); (· exact evk); (· first | rfl | assumption | exact RowIs.one (by assumption)); (· exact upp); (· simp); (clear hS; intro w hS; (simp only [List.set_cons_succ, List.set_cons_zero, putList, Nat.zero_add, Nat.reduceAdd] at hS))) | (with_reducible first | refine WL_nil ?_ | refine then_normal ?_ | refine blk_normal ?_ | refine WC_seq ?_ | refine WC_reg ?_ | refine WC_block ?_ | refine WC_skip ?_ | refine WC_exit ?_ | refine then_exit ?_ | refine blk_hit ?_ | refine blk_miss (by decide) ?_ | refine WC_ret ?_ | refine then_ret ?_ | refine blk_ret ?_) | (first | ((with_reducible apply WL_split); (· exact evk)) | ((with_reducible apply WC_dec); (· exact evk)) | ((with_reducible apply WL_splitB); (· exact evk)) | ((with_reducible apply WC_bool); (· exact evk)) | (with_reducible intro hh)))
    all_goals (try omega)
    all_goals (try
      (refine ret2P hS rfl rfl ⟨n + y, p + 1, ?_, rfl, rfl⟩
       rw [← hall, if_pos (by omega), if_pos (by omega)]
       done))
    all_goals (try
      (refine WL_panic (by exact evk) ⟨_, ⟨a, ?_, rfl⟩, hS⟩
       rw [← hall]
       by_cases h1 : cc < 128
       · rw [if_pos h1, if_neg (by omega)]
       · rw [if_neg h1, if_pos (by omega)]))
    all_goals
      (refine ⟨(k + 1, n + y, p + 1), by dsimp only; omega, ?_, by dsimp only; omega, hn' (by omega), ?_, by dsimp only; omega, hS⟩
       · (simp (disch := omega) only [ev_tmp, ev_const, ev_func, ev_global, upd_app, val_move, val_pick, pickV_true, pickV_false, pickV_bool, val_nilck, nilckV_ptr, val_bin, bin_add, bin_sub, bin_mul, bin_eql, bin_neq, bin_lss, bin_leq, bin_gtr, bin_geq, bin_seql, bin_sneq, bin_slss, bin_sleq, bin_sgtr, bin_sgeq, val_beq, beqV_f, beqV_t, val_seq, val_not, notV_bool, val_toInt, toIntV_int, val_off, offV_ptr, val_len, lenV_slice, val_slen, slenV_S, val_ext, extV_tup, val_ifc, val_fn, List.getElem?_cons_zero, List.getElem?_cons_succ, List.map_cons, List.map_nil, eq_self, Bool.false_eq_true, Bool.not_true, Bool.not_false, Option.map_some, Nat.zero_add, isB_bool, isB_undef, Bool.true_beq, Bool.false_beq, beq_self_eq_true, Bool.true_and, Bool.and_true, Bool.false_and, Bool.and_false, Bool.true_or, Bool.or_true, Bool.false_or, Bool.or_false, not_dec, and_dec, or_dec, seqV_f, seqV_t, ceq_i, ceq_s, ceq_nil, val_bld, bldV, cells_int, cells_bool, cells_S, cells_b8, cells_slice, cells_ptr, cells_agg, List.size_toArray, List.length_cons, List.length_nil, place, List.take_succ_cons, List.take_zero, List.drop_succ_cons, List.drop_zero, List.cons_append, List.nil_append, and_self, and_true, true_and, Nat.reduceLeDiff, List.toList_toArray, wr64, wru64, wru8, Nat.reduceEqDiff, ↓reduceIte, Nat.reduceAdd, Has, and_true, Int.natCast_add, Int.cast_ofNat_Int])
         congr 1 <;> omega
       · rw [← hall, if_neg (by omega), if_neg (by omega)]
         congr 1
         dsimp only
         omega)
end Go.Proofs.Ytohmgkcdjapinaa.Lw
