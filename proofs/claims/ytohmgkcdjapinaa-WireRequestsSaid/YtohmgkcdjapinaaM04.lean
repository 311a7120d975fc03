/- Part 4 of the texts of this claim: Wl Wm Wn Wo Wp Wq Wr Ws. -/
import Derived.Test.YtohmgkcdjapinaaM03
import Derived.Laws.BytesString
set_option linter.unusedVariables false
set_option linter.unusedSimpArgs false
namespace Go.Proofs.Ytohmgkcdjapinaa.Lw
abbrev R73_0 : List LOper := [⟨some 6, none, .pv (.move (.const (.int .i64 0)))⟩]
abbrev R73_1 : List LOper := [⟨some 10, none, .pv (.move (.tmp 0))⟩, ⟨some 11, none, .call 110 [(.tmp 10)]⟩, ⟨some 9, none, .pv (.move (.tmp 11))⟩, ⟨some 12, none, .pv (.ext (.tmp 9) 0)⟩, ⟨some 13, none, .pv (.ext (.tmp 9) 1)⟩, ⟨some 7, none, .pv (.move (.tmp 12))⟩, ⟨some 8, none, .pv (.move (.tmp 13))⟩]
abbrev R73_2 : List LOper := [⟨some 14, none, .pv (.move (.tmp 7))⟩, ⟨some 15, none, .pv (.move (.tmp 1))⟩, ⟨some 16, none, .pv (.toInt .u64 (.tmp 15))⟩, ⟨some 17, none, .pv (.bin .lss (.tmp 14) (.tmp 16))⟩, ⟨some 18, none, .pv (.move (.tmp 17))⟩, ⟨some 19, (some (18, false)), .pv (.move (.tmp 7))⟩, ⟨some 20, (some (18, false)), .pv (.move (.tmp 2))⟩, ⟨some 21, (some (18, false)), .pv (.toInt .u64 (.tmp 20))⟩, ⟨some 22, (some (18, false)), .pv (.bin .gtr (.tmp 19) (.tmp 21))⟩, ⟨some 23, none, .pv (.pick (.tmp 18) (.const (.bool true)) (.tmp 22))⟩]
abbrev R73_3 : List LOper := [⟨some 24, none, .pv (.move (.tmp 8))⟩, ⟨some 25, none, .pv (.ifc 137 (.tmp 24))⟩, ⟨none, none, .panic (.tmp 25)⟩]
abbrev R73_4 : List LOper := [⟨some 26, none, .pv (.move (.tmp 7))⟩, ⟨some 27, none, .pv (.toInt .i64 (.tmp 26))⟩, ⟨some 6, none, .pv (.move (.tmp 27))⟩]
abbrev L73 : LFun := ⟨28, [(.tmp 6)], (.seq (.reg R73_0) (.seq (.reg R73_1) (.seq (.seq (.reg R73_2) (.cond (.tmp 23) (.reg R73_3) .skip)) (.seq (.reg R73_4) .ret))))⟩
theorem low73 : lowFn Try.prog Try.f73 = some L73 := by kernel_rfl
abbrev R84_0 : List LOper := [⟨some 2, none, .pv (.move (.const (.int .i64 0)))⟩]
abbrev R84_1 : List LOper := [⟨some 6, none, .pv (.move (.tmp 0))⟩, ⟨some 7, none, .call 110 [(.tmp 6)]⟩, ⟨some 5, none, .pv (.move (.tmp 7))⟩, ⟨some 8, none, .pv (.ext (.tmp 5) 0)⟩, ⟨some 9, none, .pv (.ext (.tmp 5) 1)⟩, ⟨some 3, none, .pv (.move (.tmp 8))⟩, ⟨some 4, none, .pv (.move (.tmp 9))⟩]
abbrev R84_2 : List LOper := [⟨some 10, none, .pv (.move (.tmp 3))⟩, ⟨some 11, none, .pv (.bin .shr (.tmp 10) (.const (.int .u64 1)))⟩, ⟨some 12, none, .pv (.toInt .i64 (.tmp 11))⟩, ⟨some 13, none, .pv (.move (.tmp 3))⟩, ⟨some 14, none, .pv (.bin .and (.tmp 13) (.const (.int .u64 1)))⟩, ⟨some 15, none, .pv (.toInt .i64 (.tmp 14))⟩, ⟨some 16, none, .raw 3 (.unOp .neg 3 (.tmp 15))⟩, ⟨some 17, none, .pv (.bin .xor (.tmp 12) (.tmp 16))⟩, ⟨some 2, none, .pv (.move (.tmp 17))⟩]
abbrev L84 : LFun := ⟨18, [(.tmp 2)], (.seq (.reg R84_0) (.seq (.reg R84_1) (.seq (.reg R84_2) .ret)))⟩
theorem low84 : lowFn Try.prog Try.f84 = some L84 := by kernel_rfl
abbrev R56_0 : List LOper := [⟨some 2, none, .newz 27 [(.int .i64 0), (.int .i64 0)]⟩]
abbrev R56_1 : List LOper := [⟨some 4, none, .pv (.move (.tmp 0))⟩, ⟨some 5, none, .call 73 [(.tmp 4), (.const (.int .i64 0)), (.const (.int .i64 63))]⟩, ⟨some 3, none, .pv (.move (.tmp 5))⟩]
abbrev R56_2 : List LOper := [⟨some 6, none, .pv (.move (.tmp 3))⟩, ⟨some 7, none, .pv (.move (.tmp 0))⟩, ⟨some 8, none, .call 73 [(.tmp 7), (.const (.int .i64 1)), (.const (.int .i64 1099511627776))]⟩, ⟨some 9, none, .pv (.bld [(.int .i64 0), (.int .i64 0)] [(0, (1, (.tmp 6))), (1, (1, (.tmp 8)))])⟩, ⟨none, none, .store 2 (.tmp 2) (.tmp 9)⟩]
abbrev L56 : LFun := ⟨10, [(.cells 2 2)], (.seq (.reg R56_0) (.seq (.reg R56_1) (.seq (.reg R56_2) .ret)))⟩
theorem low56 : lowFn Try.prog Try.f56 = some L56 := by kernel_rfl
abbrev R103_0 : List LOper := [⟨some 2, none, .newz 23 [(.int .i64 0), (.int .i64 0)]⟩]
abbrev R103_1 : List LOper := [⟨some 4, none, .pv (.move (.tmp 0))⟩, ⟨some 5, none, .call 73 [(.tmp 4), (.const (.int .i64 1)), (.const (.int .i64 1099511627776))]⟩, ⟨some 3, none, .pv (.move (.tmp 5))⟩]
abbrev R103_2 : List LOper := [⟨some 6, none, .pv (.move (.tmp 3))⟩, ⟨some 7, none, .pv (.move (.tmp 0))⟩, ⟨some 8, none, .call 73 [(.tmp 7), (.const (.int .i64 0)), (.const (.int .i64 15))]⟩, ⟨some 9, none, .pv (.bld [(.int .i64 0), (.int .i64 0)] [(0, (1, (.tmp 6))), (1, (1, (.tmp 8)))])⟩, ⟨none, none, .store 2 (.tmp 2) (.tmp 9)⟩]
abbrev L103 : LFun := ⟨10, [(.cells 2 2)], (.seq (.reg R103_0) (.seq (.reg R103_1) (.seq (.reg R103_2) .ret)))⟩
theorem low103 : lowFn Try.prog Try.f103 = some L103 := by kernel_rfl
abbrev R104_0 : List LOper := [⟨some 2, none, .newz 25 [(.int .i64 0), (.int .i64 0)]⟩]
abbrev R104_1 : List LOper := [⟨some 4, none, .pv (.move (.tmp 0))⟩, ⟨some 5, none, .call 73 [(.tmp 4), (.const (.int .i64 0)), (.const (.int .i64 1099511627776))]⟩, ⟨some 3, none, .pv (.move (.tmp 5))⟩]
abbrev R104_2 : List LOper := [⟨some 6, none, .pv (.move (.tmp 3))⟩, ⟨some 7, none, .pv (.move (.tmp 0))⟩, ⟨some 8, none, .call 73 [(.tmp 7), (.const (.int .i64 0)), (.const (.int .i64 1099511627776))]⟩, ⟨some 9, none, .pv (.bld [(.int .i64 0), (.int .i64 0)] [(0, (1, (.tmp 6))), (1, (1, (.tmp 8)))])⟩, ⟨none, none, .store 2 (.tmp 2) (.tmp 9)⟩]
abbrev L104 : LFun := ⟨10, [(.cells 2 2)], (.seq (.reg R104_0) (.seq (.reg R104_1) (.seq (.reg R104_2) .ret)))⟩
theorem low104 : lowFn Try.prog Try.f104 = some L104 := by kernel_rfl
abbrev R101_0 : List LOper := [⟨some 2, none, .pv (.move (.const (.int .i64 0)))⟩, ⟨some 3, none, .pv (.move (.const (.int .i64 0)))⟩]
abbrev R101_1 : List LOper := [⟨some 5, none, .pv (.move (.tmp 0))⟩, ⟨some 6, none, .call 73 [(.tmp 5), (.const (.int .i64 1)), (.const (.int .i64 1099511627776))]⟩, ⟨some 4, none, .pv (.move (.tmp 6))⟩]
abbrev R101_2 : List LOper := [⟨some 7, none, .pv (.move (.tmp 4))⟩, ⟨some 8, none, .pv (.move (.tmp 0))⟩, ⟨some 9, none, .call 73 [(.tmp 8), (.const (.int .i64 0)), (.const (.int .i64 1099511627776))]⟩, ⟨some 2, none, .pv (.move (.tmp 7))⟩, ⟨some 3, none, .pv (.move (.tmp 9))⟩]
abbrev L101 : LFun := ⟨10, [(.tmp 2), (.tmp 3)], (.seq (.reg R101_0) (.seq (.reg R101_1) (.seq (.reg R101_2) .ret)))⟩
theorem low101 : lowFn Try.prog Try.f101 = some L101 := by kernel_rfl

theorem bigGo_ok {l : List UInt8} {fr : Nat} : ∀ (f k n a y a' : Nat), f + k = 10 → Lt7 n k → a ≤ l.length → bigGo l fr f k n a = .ok (y, a') → a' ≤ l.length ∧ y < 2 ^ 64
  | 0, k, n, a, y, a', _, _, _, h => by simp [bigGo] at h
  | f + 1, k, n, a, y, a', hf, hn, ha, h => by
    rw [bigGo] at h
    split at h
    · cases h
    · rename_i hne
      dsimp only at h
      split at h
      · split at h
        · injection h with h
          injection h with h1 h2
          subst h1 h2
          refine ⟨by omega, ?_⟩
          have h64 : n < 2 ^ 63 := Nat.lt_of_lt_of_le hn (Nat.pow_le_pow_right (by decide) (by omega))
          rename_i hc _
          rcases Nat.lt_or_ge k 9 with h9 | h9
          · have := lt7_next (c := (at8 l a).toNat) (by omega) (by omega) hn
            exact Nat.lt_of_lt_of_le this (Nat.pow_le_pow_right (by decide) (by omega))
          · obtain rfl : k = 9 := by omega
            have : (at8 l a).toNat % 128 * 2 ^ (7 * 9) % 2 ^ 64 ≤ 2 ^ 63 := by
              have : (at8 l a).toNat % 128 * 2 ^ (7 * 9) = 9223372036854775808 * ((at8 l a).toNat % 128) := by rw [Nat.mul_comm]
              omega
            omega
        · cases h
      · split at h
        · cases h
        · rename_i hk
          exact bigGo_ok f (k + 1) _ (a + 1) y a' (by omega) (lt7_next (by omega) hk hn) (by omega) h
theorem rdBig_ok {l : List UInt8} {a y a' : Nat} (ha : a ≤ l.length) (h : rdBig l a = .ok (y, a')) : a' ≤ l.length ∧ y < 18446744073709551616 :=
  bigGo_ok 10 0 0 a y a' rfl (Nat.one_pos : 0 < 1) ha h
theorem rdA {w0 w : World} {K : List Nat} {F : Blks} {g a : Nat} {l : List UInt8} {dv : Value} (hS : St w0 K w ((g, Blk 140 [dv, .int .i64 (a : Int)]) :: F)) (hR : Reads w0 K 1 dv l.length (l.map b8)) (ha : a ≤ l.length) (hcap : CapOk dv) : RdA g a l dv w :=
  ⟨(hS.sub (List.Sublist.cons_cons _ (List.nil_sublist _))).at, hS.reads (Oc := [(g, Blk 140 [dv, .int .i64 (a : Int)])]) hR (by intro q hq; rw [List.mem_singleton.1 hq]; exact List.mem_cons_self), ha, hcap⟩
section
variable {P : Program} {p : Chain → World → Prop} {Q : Exit → Env → World → Prop} {e : Env} {w0 w : World} {K : List Nat} {F : Blks} {d : Nat} {ops : List LOper} {α : Type}
theorem WL_rd {f : FuncId} {args : List Operand} {argv : List Value} {g a : Nat} {dv : Value} {x : Except Nat (α × Nat)} {val : α → Value} (hS : St w0 K w ((g, Blk 140 [dv, .int .i64 (a : Int)]) :: F)) (ha : args.map (ev e) = argv)
    (hc : Calls P f argv.toArray w (RetP w [g] (RdR g dv x val) (RdP x)))
    (hp : ∀ (q : Nat) w', x = .error q → St w0 K w' F → p [{ v := .iface 137 (.int .i64 (q : Int)), recovered := false }] w')
    (h : ∀ y (a' : Nat) w', x = .ok (y, a') → St w0 K w' ((g, Blk 140 [dv, .int .i64 (a' : Int)]) :: F) → WL P p Q ops (upd e d (val y)) w') : WL P p Q (⟨some d, none, .call f args⟩ :: ops) e w := by
  refine WL_callp (Oc := [(g, Blk 140 [dv, .int .i64 (a : Int)])]) hS ha hc ?_ ?_
  · rintro ch O' w' ⟨q, hx, rfl⟩ hS'
    exact hp q w' hx (hS'.sub (List.sublist_append_right _ _))
  · rintro v O' w' ⟨y, a', hx, rfl, rfl⟩ hS'
    exact h y a' w' hx hS'
end
def rdNum (l : List UInt8) (lo hi a : Nat) : Except Nat (Nat × Nat) :=
  match rdBig l a with
  | .error p => .error p
  | .ok (n, a') => if n < lo ∨ hi < n then .error a else .ok (n, a')
theorem rdNum_ok {l : List UInt8} {lo hi a y a' : Nat} (ha : a ≤ l.length) (h : rdNum l lo hi a = .ok (y, a')) : a' ≤ l.length ∧ lo ≤ y ∧ y ≤ hi := by
  unfold rdNum at h
  split at h
  · cases h
  · rename_i n a'' hb
    split at h
    · cases h
    · injection h with h
      injection h with h1 h2
      subst h1 h2
      exact ⟨(rdBig_ok ha hb).1, by omega, by omega⟩
set_option maxRecDepth 4000 in
theorem c73 (g a lo hi : Nat) (l : List UInt8) (dv : Value) (hhi : hi ≤ 1099511627776) (hlo : lo ≤ hi) (w0 : World) (h : RdA g a l dv w0) :
    Calls Try.prog 73 #[.pointer (some ⟨g, 0, none⟩), .int .i64 (lo : Int), .int .i64 (hi : Int)] w0 (RetP w0 [g] (RdR g dv (rdNum l lo hi a) fun n => .int .i64 (n : Int)) (RdP (rdNum l lo hi a))) := by
  obtain ⟨hA, hR, hle, hcap⟩ := h
  refine enterF (args := [.pointer (some ⟨g, 0, none⟩), .int .i64 (lo : Int), .int .i64 (hi : Int)]) Try.func73 low73 rfl ?_; have hS := St.init hA; dsimp only [L73, envL, Nat.reduceAdd]
  repeat' (first | ((with_reducible apply WL_p); (· exact evk)) | (with_reducible first | refine WL_nil ?_ | refine then_normal ?_ | refine blk_normal ?_ | refine WC_seq ?_ | refine WC_reg ?_ | refine WC_block ?_ | refine WC_skip ?_ | refine WC_exit ?_ | refine then_exit ?_ | refine blk_hit ?_ | refine blk_miss (by decide) ?_ | refine WC_ret ?_ | refine then_ret ?_ | refine blk_ret ?_))
  refine WL_rd hS (by exact evk) (c110 g a l dv _ (rdA hS hR hle hcap)) ?_ ?_
  · intro q w' hx hS'
    exact ⟨_, ⟨q, by rw [rdNum, hx], rfl⟩, hS'⟩
  · clear hS
    intro y a' w hx hS
    have hy := rdBig_ok hle hx
    have hn : rdNum l lo hi a = if y < lo ∨ hi < y then .error a else .ok (y, a') := by rw [rdNum, hx]
    repeat' (first | ((with_reducible apply WL_p); (· exact evk)) | ((with_reducible apply WL_do); (· exact evd)) | ((with_reducible apply WL_no); (· exact evd)) | ((with_reducible apply WC_true); (· exact evk)) | ((with_reducible apply WC_false); (· exact evk)) | (with_reducible first | refine WL_nil ?_ | refine then_normal ?_ | refine blk_normal ?_ | refine WC_seq ?_ | refine WC_reg ?_ | refine WC_block ?_ | refine WC_skip ?_ | refine WC_exit ?_ | refine then_exit ?_ | refine blk_hit ?_ | refine blk_miss (by decide) ?_ | refine WC_ret ?_ | refine then_ret ?_ | refine blk_ret ?_) | (first | ((with_reducible apply WL_split); (· exact evk)) | ((with_reducible apply WC_dec); (· exact evk)) | ((with_reducible apply WL_splitB); (· exact evk)) | ((with_reducible apply WC_bool); (· exact evk)) | (with_reducible intro hh)))
    all_goals (try omega)
    all_goals (try (refine WL_panic (by exact evk) ⟨_, ⟨a, ?_, rfl⟩, hS⟩; rw [hn, if_pos (by omega)]))
    exact ret1P hS rfl ⟨y, a', by rw [hn, if_neg (by omega)], rfl, rfl⟩
end Go.Proofs.Ytohmgkcdjapinaa.Lw
namespace Go.Proofs.Ytohmgkcdjapinaa.Lw
theorem retcR {t n b : Nat} {T : TypeId} {cs : List Value} {R : Value → Blks → Prop} {Rp : Chain → Blks → Prop} {w0 w : World} {K : List Nat} {O O' : Blks} {e : Env} (hS : St w0 K w O) (hs : O'.Sublist O) (ht : e t = .pointer (some ⟨b, 0, none⟩)) (hm : (b, Blk T cs) ∈ O) (hn : cs.length = n) (h : R (.agg cs.toArray) O') :
    retQ [.cells t n] (RetP w0 K R Rp) .ret e w := by
  refine ⟨[.agg cs.toArray], ⟨⟨_, cs, ht, hn, ?_, rfl⟩, trivial⟩, O', h, hS.sub hs⟩
  have := hS.cells (off := 0) (n := cs.length) hm (by omega)
  simpa using this
def bindR {α β : Type} (x : Except Nat (α × Nat)) (f : α → Nat → Except Nat (β × Nat)) : Except Nat (β × Nat) :=
  match x with
  | .error p => .error p
  | .ok (y, a) => f y a
theorem bindR_err {α β : Type} {x : Except Nat (α × Nat)} {f : α → Nat → Except Nat (β × Nat)} {p : Nat} (h : x = .error p) : bindR x f = .error p := by rw [h]; rfl
theorem bindR_ok {α β : Type} {x : Except Nat (α × Nat)} {f : α → Nat → Except Nat (β × Nat)} {y : α} {a : Nat} (h : x = .ok (y, a)) : bindR x f = f y a := by rw [h]; rfl
theorem bindR_inv {α β : Type} {x : Except Nat (α × Nat)} {f : α → Nat → Except Nat (β × Nat)} {r : β × Nat} (h : bindR x f = .ok r) : ∃ y a, x = .ok (y, a) ∧ f y a = .ok r := by
  unfold bindR at h
  split at h
  · cases h
  · exact ⟨_, _, rfl, h⟩
def rdPair (l : List UInt8) (lo1 hi1 lo2 hi2 a : Nat) : Except Nat ((Nat × Nat) × Nat) := bindR (rdNum l lo1 hi1 a) fun n a' => bindR (rdNum l lo2 hi2 a') fun m a'' => .ok ((n, m), a'')
def pairV (n : Nat × Nat) : Value := .agg #[.int .i64 (n.1 : Int), .int .i64 (n.2 : Int)]
theorem rdPair_ok {l : List UInt8} {lo1 hi1 lo2 hi2 a a' : Nat} {y : Nat × Nat} (ha : a ≤ l.length) (h : rdPair l lo1 hi1 lo2 hi2 a = .ok (y, a')) : a' ≤ l.length ∧ (lo1 ≤ y.1 ∧ y.1 ≤ hi1) ∧ lo2 ≤ y.2 ∧ y.2 ≤ hi2 := by
  obtain ⟨y1, a1, h1, h⟩ := bindR_inv h
  obtain ⟨y2, a2, h2, h⟩ := bindR_inv h
  have q1 := rdNum_ok ha h1
  have q2 := rdNum_ok q1.1 h2
  injection h with h
  injection h with h3 h4
  subst h3 h4
  exact ⟨q2.1, q1.2, q2.2⟩
theorem c56 (g a : Nat) (l : List UInt8) (dv : Value) (w0 : World) (h : RdA g a l dv w0) :
    Calls Try.prog 56 #[.pointer (some ⟨g, 0, none⟩)] w0 (RetP w0 [g] (RdR g dv (rdPair l 0 63 1 1099511627776 a) pairV) (RdP (rdPair l 0 63 1 1099511627776 a))) := by
  obtain ⟨hA, hR, hle, hcap⟩ := h
  refine enterF (args := [.pointer (some ⟨g, 0, none⟩)]) Try.func56 low56 rfl ?_; have hS := St.init hA; dsimp only [L56, envL, Nat.reduceAdd]
  repeat' (first | ((with_reducible apply WL_p); (· exact evk)) | (with_reducible first | refine WL_nil ?_ | refine then_normal ?_ | refine blk_normal ?_ | refine WC_seq ?_ | refine WC_reg ?_ | refine WC_block ?_ | refine WC_skip ?_ | refine WC_exit ?_ | refine then_exit ?_ | refine blk_hit ?_ | refine blk_miss (by decide) ?_ | refine WC_ret ?_ | refine then_ret ?_ | refine blk_ret ?_) | ((first | (with_reducible apply WL_newz hS) | ((with_reducible apply WL_newv hS); (· exact evk); (· rfl)) | ((with_reducible apply WL_row hS); (· exact evk))); clear hS; intro bq w hS hbq; (try simp only [List.nil_append, List.cons_append, List.append_assoc] at hS)))
  refine WL_rd hS (by exact evk) (c73 g a 0 63 l dv (by omega) (by omega) _ (rdA hS hR hle hcap)) (fun q w' hx hS' => ⟨_, ⟨q, bindR_err hx, rfl⟩, hS'.sub (List.nil_sublist _)⟩) ?_
  clear hS
  intro y a' w hx hS
  have hy := rdNum_ok hle hx
  repeat' (first | ((with_reducible apply WL_p); (· exact evk)) | (with_reducible first | refine WL_nil ?_ | refine then_normal ?_ | refine blk_normal ?_ | refine WC_seq ?_ | refine WC_reg ?_ | refine WC_block ?_ | refine WC_skip ?_ | refine WC_exit ?_ | refine then_exit ?_ | refine blk_hit ?_ | refine blk_miss (by decide) ?_ | refine WC_ret ?_ | refine then_ret ?_ | refine blk_ret ?_))
  refine WL_rd hS (by exact evk) (c73 g a' 1 1099511627776 l dv (by omega) (by omega) _ (rdA hS hR hy.1 hcap)) (fun q w' hx2 hS' => ⟨_, ⟨q, (bindR_ok hx).trans (bindR_err hx2), rfl⟩, hS'.sub (List.nil_sublist _)⟩) ?_
  clear hS
  intro y2 a2 w hx2 hS
  repeat' (first | ((with_reducible apply WL_p); (· exact evk)) | (with_reducible first | refine WL_nil ?_ | refine then_normal ?_ | refine blk_normal ?_ | refine WC_seq ?_ | refine WC_reg ?_ | refine WC_block ?_ | refine WC_skip ?_ | refine WC_exit ?_ | refine then_exit ?_ | refine blk_hit ?_ | refine blk_miss (by decide) ?_ | refine WC_ret ?_ | refine then_ret ?_ | refine blk_ret ?_) | ((with_reducible apply WL_storeN hS); (· exact evk); (· exact evk); (· rfl); (· simp [Value.oneCell', S]); (· exact upp); (· simp); (clear hS; intro w hS; (simp only [List.set_cons_succ, List.set_cons_zero, putList, Nat.zero_add, Nat.reduceAdd] at hS))))
  exact retcR hS (List.Sublist.cons_cons _ (List.nil_sublist _)) rfl inn rfl ⟨_, a2, (bindR_ok hx).trans (bindR_ok hx2), rfl, rfl⟩
theorem c103 (g a : Nat) (l : List UInt8) (dv : Value) (w0 : World) (h : RdA g a l dv w0) :
    Calls Try.prog 103 #[.pointer (some ⟨g, 0, none⟩)] w0 (RetP w0 [g] (RdR g dv (rdPair l 1 1099511627776 0 15 a) pairV) (RdP (rdPair l 1 1099511627776 0 15 a))) := by
  obtain ⟨hA, hR, hle, hcap⟩ := h
  refine enterF (args := [.pointer (some ⟨g, 0, none⟩)]) Try.func103 low103 rfl ?_; have hS := St.init hA; dsimp only [L103, envL, Nat.reduceAdd]
  repeat' (first | ((with_reducible apply WL_p); (· exact evk)) | (with_reducible first | refine WL_nil ?_ | refine then_normal ?_ | refine blk_normal ?_ | refine WC_seq ?_ | refine WC_reg ?_ | refine WC_block ?_ | refine WC_skip ?_ | refine WC_exit ?_ | refine then_exit ?_ | refine blk_hit ?_ | refine blk_miss (by decide) ?_ | refine WC_ret ?_ | refine then_ret ?_ | refine blk_ret ?_) | ((first | (with_reducible apply WL_newz hS) | ((with_reducible apply WL_newv hS); (· exact evk); (· rfl)) | ((with_reducible apply WL_row hS); (· exact evk))); clear hS; intro bq w hS hbq; (try simp only [List.nil_append, List.cons_append, List.append_assoc] at hS)))
  refine WL_rd hS (by exact evk) (c73 g a 1 1099511627776 l dv (by omega) (by omega) _ (rdA hS hR hle hcap)) (fun q w' hx hS' => ⟨_, ⟨q, bindR_err hx, rfl⟩, hS'.sub (List.nil_sublist _)⟩) ?_
  clear hS
  intro y a' w hx hS
  have hy := rdNum_ok hle hx
  repeat' (first | ((with_reducible apply WL_p); (· exact evk)) | (with_reducible first | refine WL_nil ?_ | refine then_normal ?_ | refine blk_normal ?_ | refine WC_seq ?_ | refine WC_reg ?_ | refine WC_block ?_ | refine WC_skip ?_ | refine WC_exit ?_ | refine then_exit ?_ | refine blk_hit ?_ | refine blk_miss (by decide) ?_ | refine WC_ret ?_ | refine then_ret ?_ | refine blk_ret ?_))
  refine WL_rd hS (by exact evk) (c73 g a' 0 15 l dv (by omega) (by omega) _ (rdA hS hR hy.1 hcap)) (fun q w' hx2 hS' => ⟨_, ⟨q, (bindR_ok hx).trans (bindR_err hx2), rfl⟩, hS'.sub (List.nil_sublist _)⟩) ?_
  clear hS
  intro y2 a2 w hx2 hS
  repeat' (first | ((with_reducible apply WL_p); (· exact evk)) | (with_reducible first | refine WL_nil ?_ | refine then_normal ?_ | refine blk_normal ?_ | refine WC_seq ?_ | refine WC_reg ?_ | refine WC_block ?_ | refine WC_skip ?_ | refine WC_exit ?_ | refine then_exit ?_ | refine blk_hit ?_ | refine blk_miss (by decide) ?_ | refine WC_ret ?_ | refine then_ret ?_ | refine blk_ret ?_) | ((with_reducible apply WL_storeN hS); (· exact evk); (· exact evk); (· rfl); (· simp [Value.oneCell', S]); (· exact upp); (· simp); (clear hS; intro w hS; (simp only [List.set_cons_succ, List.set_cons_zero, putList, Nat.zero_add, Nat.reduceAdd] at hS))))
  exact retcR hS (List.Sublist.cons_cons _ (List.nil_sublist _)) rfl inn rfl ⟨_, a2, (bindR_ok hx).trans (bindR_ok hx2), rfl, rfl⟩
theorem c104 (g a : Nat) (l : List UInt8) (dv : Value) (w0 : World) (h : RdA g a l dv w0) :
    Calls Try.prog 104 #[.pointer (some ⟨g, 0, none⟩)] w0 (RetP w0 [g] (RdR g dv (rdPair l 0 1099511627776 0 1099511627776 a) pairV) (RdP (rdPair l 0 1099511627776 0 1099511627776 a))) := by
  obtain ⟨hA, hR, hle, hcap⟩ := h
  refine enterF (args := [.pointer (some ⟨g, 0, none⟩)]) Try.func104 low104 rfl ?_; have hS := St.init hA; dsimp only [L104, envL, Nat.reduceAdd]
  repeat' (first | ((with_reducible apply WL_p); (· exact evk)) | (with_reducible first | refine WL_nil ?_ | refine then_normal ?_ | refine blk_normal ?_ | refine WC_seq ?_ | refine WC_reg ?_ | refine WC_block ?_ | refine WC_skip ?_ | refine WC_exit ?_ | refine then_exit ?_ | refine blk_hit ?_ | refine blk_miss (by decide) ?_ | refine WC_ret ?_ | refine then_ret ?_ | refine blk_ret ?_) | ((first | (with_reducible apply WL_newz hS) | ((with_reducible apply WL_newv hS); (· exact evk); (· rfl)) | ((with_reducible apply WL_row hS); (· exact evk))); clear hS; intro bq w hS hbq; (try simp only [List.nil_append, List.cons_append, List.append_assoc] at hS)))
  refine WL_rd hS (by exact evk) (c73 g a 0 1099511627776 l dv (by omega) (by omega) _ (rdA hS hR hle hcap)) (fun q w' hx hS' => ⟨_, ⟨q, bindR_err hx, rfl⟩, hS'.sub (List.nil_sublist _)⟩) ?_
  clear hS
  intro y a' w hx hS
  have hy := rdNum_ok hle hx
  repeat' (first | ((with_reducible apply WL_p); (· exact evk)) | (with_reducible first | refine WL_nil ?_ | refine then_normal ?_ | refine blk_normal ?_ | refine WC_seq ?_ | refine WC_reg ?_ | refine WC_block ?_ | refine WC_skip ?_ | refine WC_exit ?_ | refine then_exit ?_ | refine blk_hit ?_ | refine blk_miss (by decide) ?_ | refine WC_ret ?_ | refine then_ret ?_ | refine blk_ret ?_))
  refine WL_rd hS (by exact evk) (c73 g a' 0 1099511627776 l dv (by omega) (by omega) _ (rdA hS hR hy.1 hcap)) (fun q w' hx2 hS' => ⟨_, ⟨q, (bindR_ok hx).trans (bindR_err hx2), rfl⟩, hS'.sub (List.nil_sublist _)⟩) ?_
  clear hS
  intro y2 a2 w hx2 hS
  repeat' (first | ((with_reducible apply WL_p); (· exact evk)) | (with_reducible first | refine WL_nil ?_ | refine then_normal ?_ | refine blk_normal ?_ | refine WC_seq ?_ | refine WC_reg ?_ | refine WC_block ?_ | refine WC_skip ?_ | refine WC_exit ?_ | refine then_exit ?_ | refine blk_hit ?_ | refine blk_miss (by decide) ?_ | refine WC_ret ?_ | refine then_ret ?_ | refine blk_ret ?_) | ((with_reducible apply WL_storeN hS); (· exact evk); (· exact evk); (· rfl); (· simp [Value.oneCell', S]); (· exact upp); (· simp); (clear hS; intro w hS; (simp only [List.set_cons_succ, List.set_cons_zero, putList, Nat.zero_add, Nat.reduceAdd] at hS))))
  exact retcR hS (List.Sublist.cons_cons _ (List.nil_sublist _)) rfl inn rfl ⟨_, a2, (bindR_ok hx).trans (bindR_ok hx2), rfl, rfl⟩
theorem c101 (g a : Nat) (l : List UInt8) (dv : Value) (w0 : World) (h : RdA g a l dv w0) :
    Calls Try.prog 101 #[.pointer (some ⟨g, 0, none⟩)] w0 (RetP w0 [g] (RdR g dv (rdPair l 1 1099511627776 0 1099511627776 a) fun n => .tuple #[.int .i64 (n.1 : Int), .int .i64 (n.2 : Int)]) (RdP (rdPair l 1 1099511627776 0 1099511627776 a))) := by
  obtain ⟨hA, hR, hle, hcap⟩ := h
  refine enterF (args := [.pointer (some ⟨g, 0, none⟩)]) Try.func101 low101 rfl ?_; have hS := St.init hA; dsimp only [L101, envL, Nat.reduceAdd]
  repeat' (first | ((with_reducible apply WL_p); (· exact evk)) | (with_reducible first | refine WL_nil ?_ | refine then_normal ?_ | refine blk_normal ?_ | refine WC_seq ?_ | refine WC_reg ?_ | refine WC_block ?_ | refine WC_skip ?_ | refine WC_exit ?_ | refine then_exit ?_ | refine blk_hit ?_ | refine blk_miss (by decide) ?_ | refine WC_ret ?_ | refine then_ret ?_ | refine blk_ret ?_) | ((first | (with_reducible apply WL_newz hS) | ((with_reducible apply WL_newv hS); (· exact evk); (· rfl)) | ((with_reducible apply WL_row hS); (· exact evk))); clear hS; intro bq w hS hbq; (try simp only [List.nil_append, List.cons_append, List.append_assoc] at hS)))
  refine WL_rd hS (by exact evk) (c73 g a 1 1099511627776 l dv (by omega) (by omega) _ (rdA hS hR hle hcap)) (fun q w' hx hS' => ⟨_, ⟨q, bindR_err hx, rfl⟩, hS'.sub (List.nil_sublist _)⟩) ?_
  clear hS
  intro y a' w hx hS
  have hy := rdNum_ok hle hx
  repeat' (first | ((with_reducible apply WL_p); (· exact evk)) | (with_reducible first | refine WL_nil ?_ | refine then_normal ?_ | refine blk_normal ?_ | refine WC_seq ?_ | refine WC_reg ?_ | refine WC_block ?_ | refine WC_skip ?_ | refine WC_exit ?_ | refine then_exit ?_ | refine blk_hit ?_ | refine blk_miss (by decide) ?_ | refine WC_ret ?_ | refine then_ret ?_ | refine blk_ret ?_))
  refine WL_rd hS (by exact evk) (c73 g a' 0 1099511627776 l dv (by omega) (by omega) _ (rdA hS hR hy.1 hcap)) (fun q w' hx2 hS' => ⟨_, ⟨q, (bindR_ok hx).trans (bindR_err hx2), rfl⟩, hS'.sub (List.nil_sublist _)⟩) ?_
  clear hS
  intro y2 a2 w hx2 hS
  repeat' (first | ((with_reducible apply WL_p); (· exact evk)) | (with_reducible first | refine WL_nil ?_ | refine then_normal ?_ | refine blk_normal ?_ | refine WC_seq ?_ | refine WC_reg ?_ | refine WC_block ?_ | refine WC_skip ?_ | refine WC_exit ?_ | refine then_exit ?_ | refine blk_hit ?_ | refine blk_miss (by decide) ?_ | refine WC_ret ?_ | refine then_ret ?_ | refine blk_ret ?_))
  exact ret2P hS rfl rfl ⟨_, a2, (bindR_ok hx).trans (bindR_ok hx2), rfl, rfl⟩
def unzig (n : Nat) : Int := if n % 2 = 0 then ((n / 2 : Nat) : Int) else -((n / 2 : Nat) : Int) - 1
def rdSigned (l : List UInt8) (a : Nat) : Except Nat (Int × Nat) := bindR (rdBig l a) fun n a' => .ok (unzig n, a')
end Go.Proofs.Ytohmgkcdjapinaa.Lw
namespace Go.Proofs.Ytohmgkcdjapinaa.Lw
theorem kWn0 {p : Prop} (h : p := by ((simp (disch := omega) only [ev_tmp, ev_const, ev_func, ev_global, upd_app, val_move, val_pick, pickV_true, pickV_false, pickV_bool, val_nilck, nilckV_ptr, val_bin, bin_add, bin_sub, bin_mul, bin_eql, bin_neq, bin_lss, bin_leq, bin_gtr, bin_geq, bin_seql, bin_sneq, bin_slss, bin_sleq, bin_sgtr, bin_sgeq, val_beq, beqV_f, beqV_t, val_seq, val_not, notV_bool, val_toInt, toIntV_int, val_off, offV_ptr, val_len, lenV_slice, val_slen, slenV_S, val_ext, extV_tup, val_ifc, val_fn, List.getElem?_cons_zero, List.getElem?_cons_succ, List.map_cons, List.map_nil, eq_self, Bool.false_eq_true, Bool.not_true, Bool.not_false, Option.map_some, Nat.zero_add, isB_bool, isB_undef, Bool.true_beq, Bool.false_beq, beq_self_eq_true, Bool.true_and, Bool.and_true, Bool.false_and, Bool.and_false, Bool.true_or, Bool.or_true, Bool.false_or, Bool.or_false, not_dec, and_dec, or_dec, seqV_f, seqV_t, ceq_i, ceq_s, ceq_nil, val_bld, bldV, cells_int, cells_bool, cells_S, cells_b8, cells_slice, cells_ptr, cells_agg, List.size_toArray, List.length_cons, List.length_nil, place, List.take_succ_cons, List.take_zero, List.drop_succ_cons, List.drop_zero, List.cons_append, List.nil_append, and_self, and_true, true_and, Nat.reduceLeDiff, List.toList_toArray, wr64, wru64, wru8, Nat.reduceEqDiff, ↓reduceIte, Nat.reduceAdd, bin_shr, bin_and, toIntV_int, e1]) <;> rfl)) : p := h
section
variable {P : Program} {p : Chain → World → Prop} {Q : Exit → Env → World → Prop} {e : Env} {w : World} {d : Nat} {ops : List LOper}
theorem WL_neg {x : Operand} {ty tx : TypeId} {k : IntKind} {n : Int} (hx : ev e x = .int k n) (h : WL P p Q ops (upd e d (.int k (k.wrap (0 - n)))) w) : WL P p Q (⟨some d, none, .raw ty (.unOp .neg tx x)⟩ :: ops) e w := by
  simp only [WL, wantedE, if_true, LOp.wp]
  have : (execOp (ev e) (mkOper ty (.unOp .neg tx x))).run P w = .ok (.value (.int k (k.wrap (0 - n)))) w := by
    simp only [execOp, mkOper, hx, Op.unary, Op.intArith, Sem.run_bind, Sem.run_pure, Result.andThen_ok]
  rw [this]
  exact h
end
theorem unzig_xor (n : Nat) (hn : n < 18446744073709551616) : binV .xor (.int .i64 (IntKind.i64.wrap ((n : Int).fdiv (2 ^ (min (1 : Int).toNat IntKind.u64.bits))))) (.int .i64 (IntKind.i64.wrap (0 - IntKind.i64.wrap (IntKind.u64.wrap (BitVec.ofInt IntKind.u64.bits (n : Int) &&& BitVec.ofInt IntKind.u64.bits 1).toNat)))) = some (.int .i64 (unzig n)) := by
  have e1 : (2 : Int) ^ (min (1 : Int).toNat IntKind.u64.bits) = 2 := by decide
  have e2 : (BitVec.ofInt IntKind.u64.bits (n : Int) &&& BitVec.ofInt IntKind.u64.bits 1).toNat = n % 2 := by
    have h1 : (BitVec.ofInt IntKind.u64.bits (n : Int)).toNat = n := by
      rw [BitVec.ofInt_natCast, BitVec.toNat_ofNat]; exact Nat.mod_eq_of_lt hn
    have h2 : (BitVec.ofInt IntKind.u64.bits 1).toNat = 1 := by decide
    rw [BitVec.toNat_and, h1, h2, Nat.and_one_is_mod]
  have e3 : IntKind.i64.wrap ((n : Int) / 2) = ((n / 2 : Nat) : Int) := by rw [wr64 (by omega) (by omega)]; omega
  have e4 : (BitVec.ofInt IntKind.i64.bits ((n / 2 : Nat) : Int)).toNat = n / 2 := by
    rw [BitVec.ofInt_natCast, BitVec.toNat_ofNat]
    exact Nat.mod_eq_of_lt (by have : (2 : Nat) ^ IntKind.i64.bits = 18446744073709551616 := by decide
                               omega)
  rw [e1, e2, Int.fdiv_eq_ediv_of_nonneg _ (by decide), e3, bin_xor, BitVec.toNat_xor, e4]
  unfold unzig
  rcases (by omega : n % 2 = 0 ∨ n % 2 = 1) with h | h
  · rw [h, if_pos rfl]
    have : (BitVec.ofInt IntKind.i64.bits (IntKind.i64.wrap (0 - IntKind.i64.wrap (IntKind.u64.wrap ((0 : Nat) : Int))))).toNat = 0 := by decide
    rw [this, Nat.xor_zero, wr64 (by omega) (by omega)]
  · rw [h, if_neg (by omega)]
    have : (BitVec.ofInt IntKind.i64.bits (IntKind.i64.wrap (0 - IntKind.i64.wrap (IntKind.u64.wrap ((1 : Nat) : Int))))).toNat = 18446744073709551615 := by decide
    rw [this, xor_ones _ (by omega)]
    congr 2
    rw [IntKind.wrap_i64]
    omega
theorem c84 (g a : Nat) (l : List UInt8) (dv : Value) (w0 : World) (h : RdA g a l dv w0) :
    Calls Try.prog 84 #[.pointer (some ⟨g, 0, none⟩)] w0 (RetP w0 [g] (RdR g dv (rdSigned l a) fun n => .int .i64 n) (RdP (rdSigned l a))) := by
  obtain ⟨hA, hR, hle, hcap⟩ := h
  refine enterF (args := [.pointer (some ⟨g, 0, none⟩)]) Try.func84 low84 rfl ?_; have hS := St.init hA; dsimp only [L84, envL, Nat.reduceAdd]
  repeat' (first | ((with_reducible apply WL_p); (· exact evk)) | (with_reducible first | refine WL_nil ?_ | refine then_normal ?_ | refine blk_normal ?_ | refine WC_seq ?_ | refine WC_reg ?_ | refine WC_block ?_ | refine WC_skip ?_ | refine WC_exit ?_ | refine then_exit ?_ | refine blk_hit ?_ | refine blk_miss (by decide) ?_ | refine WC_ret ?_ | refine then_ret ?_ | refine blk_ret ?_) | ((first | (with_reducible apply WL_newz hS) | ((with_reducible apply WL_newv hS); (· exact evk); (· rfl)) | ((with_reducible apply WL_row hS); (· exact evk))); clear hS; intro bq w hS hbq; (try simp only [List.nil_append, List.cons_append, List.append_assoc] at hS)))
  refine WL_rd hS (by exact evk) (c110 g a l dv _ (rdA hS hR hle hcap)) (fun q w' hx hS' => ⟨_, ⟨q, bindR_err hx, rfl⟩, hS'⟩) ?_
  clear hS
  intro y a' w hx hS
  have hy := rdBig_ok hle hx
  have e1 := unzig_xor y hy.2
  repeat' (first | ((with_reducible apply WL_p); (· exact kWn0)) | (with_reducible first | refine WL_nil ?_ | refine then_normal ?_ | refine blk_normal ?_ | refine WC_seq ?_ | refine WC_reg ?_ | refine WC_block ?_ | refine WC_skip ?_ | refine WC_exit ?_ | refine then_exit ?_ | refine blk_hit ?_ | refine blk_miss (by decide) ?_ | refine WC_ret ?_ | refine then_ret ?_ | refine blk_ret ?_) | ((with_reducible apply WL_neg); (· exact evk)))
  exact ret1P hS rfl ⟨_, a', bindR_ok hx, rfl, rfl⟩
end Go.Proofs.Ytohmgkcdjapinaa.Lw
namespace Go.Proofs.Ytohmgkcdjapinaa.Lw
abbrev R74_0 : List LOper := [⟨some 4, none, .pv (.move (.const (.slice none 0 0)))⟩, ⟨some 5, none, .pv (.move (.const (.int .i64 0)))⟩]
abbrev R74_1 : List LOper := [⟨some 7, none, .pv (.move (.tmp 0))⟩, ⟨some 8, none, .pv (.nilck (.tmp 7))⟩, ⟨some 9, none, .pv (.off (.tmp 8) 1)⟩, ⟨some 10, none, .load (.tmp 9)⟩, ⟨some 6, none, .pv (.move (.tmp 10))⟩]
abbrev R74_2 : List LOper := [⟨some 11, none, .pv (.move (.tmp 0))⟩, ⟨some 12, none, .pv (.nilck (.tmp 11))⟩, ⟨some 13, none, .pv (.off (.tmp 12) 0)⟩, ⟨some 14, none, .load (.tmp 13)⟩, ⟨some 15, none, .pv (.len (.tmp 14))⟩, ⟨some 16, none, .pv (.move (.tmp 6))⟩, ⟨some 17, none, .pv (.bin .sub (.tmp 15) (.tmp 16))⟩, ⟨some 18, none, .pv (.move (.tmp 1))⟩, ⟨some 19, none, .pv (.bin .lss (.tmp 17) (.tmp 18))⟩]
abbrev R74_3 : List LOper := [⟨some 20, none, .pv (.move (.tmp 0))⟩, ⟨some 21, none, .pv (.nilck (.tmp 20))⟩, ⟨some 22, none, .pv (.off (.tmp 21) 0)⟩, ⟨some 23, none, .load (.tmp 22)⟩, ⟨some 24, none, .pv (.len (.tmp 23))⟩, ⟨some 25, none, .pv (.ifc 137 (.tmp 24))⟩, ⟨none, none, .panic (.tmp 25)⟩]
abbrev R74_4 : List LOper := [⟨some 26, none, .pv (.move (.tmp 0))⟩, ⟨some 27, none, .pv (.nilck (.tmp 26))⟩, ⟨some 28, none, .pv (.off (.tmp 27) 1)⟩, ⟨some 29, none, .load (.tmp 28)⟩, ⟨some 30, none, .pv (.move (.tmp 1))⟩, ⟨some 31, none, .pv (.bin .add (.tmp 29) (.tmp 30))⟩, ⟨some 32, none, .pv (.nilck (.tmp 26))⟩, ⟨some 33, none, .pv (.off (.tmp 32) 1)⟩, ⟨none, none, .store 1 (.tmp 33) (.tmp 31)⟩]
abbrev L74 : LFun := ⟨45, [(.tmp 4), (.tmp 5)], (.seq (.reg R74_0) (.seq (.reg R74_1) (.seq (.seq (.reg R74_2) (.cond (.tmp 19) (.reg R74_3) .skip)) (.seq (.reg R74_4) (.seq (.dreg (.still ⟨some 34, none, .pv (.move (.tmp 0))⟩ (.still ⟨some 35, none, .pv (.nilck (.tmp 34))⟩ (.still ⟨some 36, none, .pv (.off (.tmp 35) 0)⟩ (.still ⟨some 37, none, .load (.tmp 36)⟩ (.still ⟨some 38, none, .pv (.move (.tmp 6))⟩ (.still ⟨some 39, none, .pv (.move (.tmp 0))⟩ (.still ⟨some 40, none, .pv (.nilck (.tmp 39))⟩ (.still ⟨some 41, none, .pv (.off (.tmp 40) 1)⟩ (.still ⟨some 42, none, .load (.tmp 41)⟩ (.still ⟨some 43, none, .pv (.slc 1 (.tmp 37) (some (.tmp 38)) (some (.tmp 42)))⟩ (.still ⟨some 44, none, .pv (.move (.tmp 6))⟩ (.still ⟨some 4, none, .pv (.move (.tmp 43))⟩ (.still ⟨some 5, none, .pv (.move (.tmp 44))⟩ .nil)))))))))))))) .ret)))))⟩
theorem low74 : lowFn Try.prog Try.f74 = some L74 := by kernel_rfl

def subV (A : Option Addr) (c lo m : Nat) : Value := .slice (if c = lo then A else A.map (·.add (lo * 1))) (lo + m - lo) (c - lo)
theorem Reads.part {w : World} {K : List Nat} {A : Option Addr} {n c : Nat} {cs : List Value} (hr : Reads w K 1 (.slice A n c) n cs) (hc : n ≤ c) {lo m : Nat} (h : lo + m ≤ n) : Reads w K 1 (subV A c lo m) m ((cs.drop lo).take m) := by
  obtain ⟨hl, hf, A', c', he, hA⟩ := hr
  injection he with h1 h2 h3
  subst h1 h3
  have e : lo + m - lo = m := by omega
  refine ⟨by rw [List.length_take, List.length_drop, hl]; omega, by omega, _, c - lo, by unfold subV; rw [e], fun hp => ?_⟩
  obtain ⟨b, o, rfl, hb, hcell⟩ := hA (by omega)
  refine ⟨b, o + lo, ?_, hb, fun j hj => ?_⟩
  · rw [if_neg (by omega), Option.map_some, Nat.mul_one, add_none]
  · rw [List.getElem?_take_of_lt (by omega), List.getElem?_drop, Nat.add_assoc]
    exact hcell (lo + j) (by omega)
theorem slc_val {e : Env} {x y z : Operand} {A : Option Addr} {n c lo m : Nat} (hx : ev e x = .slice A n c) (hy : ev e y = .int .i64 (lo : Int)) (hz : ev e z = .int .i64 ((lo + m : Nat) : Int)) (h : lo + m ≤ c) : PV.val e (.slc 1 x (some y) (some z)) = some (subV A c lo m) := by
  have h1 : bndV e (some z) n c = some (lo + m) := by
    simp only [bndV, hz]
    rw [if_pos (by omega)]; congr 1
  have h2 : bndV e (some y) 0 (lo + m) = some lo := by
    simp only [bndV, hy]
    rw [if_pos (by omega)]; congr 1
  simp only [PV.val, hx, h1, h2, Option.bind_some, Option.map_some]
  rfl
def rdBytes (l : List UInt8) (n a : Nat) : Except Nat (List UInt8 × Nat) := if l.length - a < n then .error l.length else .ok ((l.drop a).take n, a + n)
set_option maxRecDepth 4000 in
theorem c74 (g a n : Nat) (l : List UInt8) (dv : Value) (hn : n ≤ 1099511627776) (w0 : World) (h : RdA g a l dv w0) :
    Calls Try.prog 74 #[.pointer (some ⟨g, 0, none⟩), .int .i64 (n : Int)] w0 (RetP w0 [g] (fun u O' => ∃ A c, dv = .slice A l.length c ∧ l.length ≤ c ∧ rdBytes l n a = .ok ((l.drop a).take n, a + n) ∧ a + n ≤ l.length ∧ u = .tuple #[subV A c a n, .int .i64 (a : Int)] ∧ O' = [(g, Blk 140 [dv, .int .i64 ((a + n : Nat) : Int)])]) (RdP (rdBytes l n a))) := by
  obtain ⟨hA, hR, hle, hcap⟩ := h
  have hfit := hR.fits
  obtain ⟨A, n', c, rfl, hcap⟩ := hcap
  obtain ⟨A', c', he, _⟩ := hR.slc
  injection he with h1 h2 h3
  subst h1 h2 h3
  refine enterF (args := [.pointer (some ⟨g, 0, none⟩), .int .i64 (n : Int)]) Try.func74 low74 rfl ?_; have hS := St.init hA; dsimp only [L74, envL, Nat.reduceAdd]
  repeat' (first | ((with_reducible apply WL_p); (· exact evk)) | ((with_reducible apply WL_load hS); (· exact evk); (· exact inn); (· rfl)) | (with_reducible first | refine WL_nil ?_ | refine then_normal ?_ | refine blk_normal ?_ | refine WC_seq ?_ | refine WC_reg ?_ | refine WC_block ?_ | refine WC_skip ?_ | refine WC_exit ?_ | refine then_exit ?_ | refine blk_hit ?_ | refine blk_miss (by decide) ?_ | refine WC_ret ?_ | refine then_ret ?_ | refine blk_ret ?_) | ((with_reducible apply WC_dec); (· exact evk)) | (with_reducible intro hh))
  · refine WL_panic (by exact evk) ⟨_, ⟨l.length, ?_, rfl⟩, hS⟩
    rw [rdBytes, if_pos (by omega)]
  · have hb : rdBytes l n a = .ok ((l.drop a).take n, a + n) := by rw [rdBytes, if_neg (by omega)]
    repeat' (first | ((with_reducible apply WL_p); (· exact evk)) | ((with_reducible apply WL_load hS); (· exact evk); (· exact inn); (· rfl)) | (with_reducible first | refine WL_nil ?_ | refine then_normal ?_ | refine blk_normal ?_ | refine WC_seq ?_ | refine WC_reg ?_ | refine WC_block ?_ | refine WC_skip ?_ | refine WC_exit ?_ | refine then_exit ?_ | refine blk_hit ?_ | refine blk_miss (by decide) ?_ | refine WC_ret ?_ | refine then_ret ?_ | refine blk_ret ?_) | ((with_reducible apply WL_store hS); (· exact evk); (· exact evk); (· first | rfl | assumption | exact RowIs.one (by assumption)); (· exact upp); (· simp); (clear hS; intro w hS; (simp only [List.set_cons_succ, List.set_cons_zero, putList, Nat.zero_add, Nat.reduceAdd] at hS))))
    refine WC_drO hS fun w hS hD => ?_
    repeat' (first | ((with_reducible apply WD_p hD); (· exact evk)) | ((with_reducible apply WD_do hD); (· exact evd)) | ((with_reducible apply WD_no hD); (· exact evd)) | ((with_reducible apply WDe_do); (· exact evd)) | ((with_reducible apply WDe_no hD); (· exact evd)) | ((with_reducible apply WD_load hD); (· exact evk); (· exact inn); (· rfl)) | ((with_reducible apply WD_loadN hD); (· exact evk); (· exact inn); (· ((simp only [List.drop_succ_cons, List.drop_zero, List.take_succ_cons, List.take_zero]) <;> rfl)); (· rfl)) | ((with_reducible apply WD_go); (· exact hS.sh (by repeat (first | exact AllIn.nil | (apply AllIn.cons; (· exact inn))))); (clear hD; intro hD)) | (with_reducible apply WD_nil) | (with_reducible apply WD_eff))
    refine WD_p hD (slc_val (lo := a) (m := n) evk evk evk (by omega)) ?_
    repeat' (first | ((with_reducible apply WD_p hD); (· exact evk)) | ((with_reducible apply WD_do hD); (· exact evd)) | ((with_reducible apply WD_no hD); (· exact evd)) | ((with_reducible apply WDe_do); (· exact evd)) | ((with_reducible apply WDe_no hD); (· exact evd)) | ((with_reducible apply WD_load hD); (· exact evk); (· exact inn); (· rfl)) | ((with_reducible apply WD_loadN hD); (· exact evk); (· exact inn); (· ((simp only [List.drop_succ_cons, List.drop_zero, List.take_succ_cons, List.take_zero]) <;> rfl)); (· rfl)) | ((with_reducible apply WD_go); (· exact hS.sh (by repeat (first | exact AllIn.nil | (apply AllIn.cons; (· exact inn))))); (clear hD; intro hD)) | (with_reducible apply WD_nil) | (with_reducible apply WD_eff))
    repeat' (first | ((with_reducible apply WL_p); (· exact evk)) | (with_reducible first | refine WL_nil ?_ | refine then_normal ?_ | refine blk_normal ?_ | refine WC_seq ?_ | refine WC_reg ?_ | refine WC_block ?_ | refine WC_skip ?_ | refine WC_exit ?_ | refine then_exit ?_ | refine blk_hit ?_ | refine blk_miss (by decide) ?_ | refine WC_ret ?_ | refine then_ret ?_ | refine blk_ret ?_))
    exact ret2P hS rfl rfl ⟨A, c, rfl, hcap, hb, by omega, rfl, rfl⟩
theorem Reads.sub8 {w : World} {K : List Nat} {A : Option Addr} {c n a : Nat} {l : List UInt8} (hr : Reads w K 1 (.slice A l.length c) l.length (l.map b8)) (hc : l.length ≤ c) (h : a + n ≤ l.length) : Reads w K 1 (subV A c a n) n (((l.drop a).take n).map b8) := by
  have := hr.part hc (lo := a) (m := n) h
  rwa [← List.map_drop, ← List.map_take] at this
end Go.Proofs.Ytohmgkcdjapinaa.Lw
namespace Go.Proofs.Ytohmgkcdjapinaa.Lw
abbrev R100_0 : List LOper := [⟨some 4, none, .pv (.move (.const (S [])))⟩]
abbrev R100_1 : List LOper := [⟨some 9, none, .pv (.move (.tmp 0))⟩, ⟨some 10, none, .pv (.move (.tmp 0))⟩, ⟨some 11, none, .call 73 [(.tmp 10), (.const (.int .i64 1)), (.const (.int .i64 16))]⟩, ⟨some 12, none, .call 74 [(.tmp 9), (.tmp 11)]⟩, ⟨some 8, none, .pv (.move (.tmp 12))⟩, ⟨some 13, none, .pv (.ext (.tmp 8) 0)⟩, ⟨some 14, none, .pv (.ext (.tmp 8) 1)⟩, ⟨some 5, none, .pv (.move (.tmp 13))⟩, ⟨some 6, none, .pv (.move (.tmp 14))⟩]
abbrev R100_2 : List LOper := [⟨some 15, none, .pv (.move (.tmp 5))⟩, ⟨some 16, none, .raw 9 (.convert 36 9 (.tmp 15))⟩, ⟨some 7, none, .pv (.move (.tmp 16))⟩]
abbrev R100_3 : List LOper := [⟨some 17, none, .pv (.move (.tmp 7))⟩, ⟨some 18, none, .call 62 [(.tmp 17)]⟩, ⟨some 19, none, .pv (.move (.tmp 18))⟩, ⟨some 20, (some (19, true)), .pv (.move (.tmp 7))⟩, ⟨some 21, (some (19, true)), .pv (.move (.tmp 1))⟩, ⟨some 22, (some (19, true)), .pv (.bin .gtr (.tmp 20) (.tmp 21))⟩, ⟨some 23, none, .pv (.pick (.tmp 19) (.tmp 22) (.const (.bool false)))⟩]
abbrev R100_4 : List LOper := [⟨some 24, none, .pv (.move (.tmp 7))⟩, ⟨some 4, none, .pv (.move (.tmp 24))⟩]
abbrev R100_5 : List LOper := [⟨some 25, none, .pv (.move (.tmp 6))⟩, ⟨some 26, none, .pv (.ifc 137 (.tmp 25))⟩, ⟨none, none, .panic (.tmp 26)⟩]
abbrev L100 : LFun := ⟨27, [(.tmp 4)], (.seq (.reg R100_0) (.seq (.reg R100_1) (.seq (.seq (.reg R100_2) (.seq (.reg R100_3) (.cond (.tmp 23) (.seq (.reg R100_4) .ret) .skip))) (.reg R100_5))))⟩
theorem low100 : lowFn Try.prog Try.f100 = some L100 := by kernel_rfl
abbrev R57_0 : List LOper := [⟨some 2, none, .newz 29 [(.int .i64 0), (S []), (.int .i64 0), (.int .i64 0)]⟩]
abbrev R57_1 : List LOper := [⟨some 6, none, .pv (.move (.tmp 0))⟩, ⟨some 7, none, .call 73 [(.tmp 6), (.const (.int .i64 1)), (.const (.int .i64 11))]⟩, ⟨some 3, none, .pv (.move (.tmp 7))⟩]
abbrev R57_2 : List LOper := [⟨some 8, none, .pv (.move (.tmp 0))⟩, ⟨some 9, none, .call 100 [(.tmp 8), (.const (S []))]⟩, ⟨some 4, none, .pv (.move (.tmp 9))⟩]
abbrev R57_3 : List LOper := [⟨some 10, none, .pv (.move (.tmp 0))⟩, ⟨some 11, none, .call 84 [(.tmp 10)]⟩, ⟨some 5, none, .pv (.move (.tmp 11))⟩]
abbrev R57_4 : List LOper := [⟨some 12, none, .pv (.move (.tmp 3))⟩, ⟨some 13, none, .pv (.move (.tmp 4))⟩, ⟨some 14, none, .pv (.move (.tmp 5))⟩, ⟨some 15, none, .pv (.move (.tmp 0))⟩, ⟨some 16, none, .call 84 [(.tmp 15)]⟩, ⟨some 17, none, .pv (.bld [(.int .i64 0), (S []), (.int .i64 0), (.int .i64 0)] [(0, (1, (.tmp 12))), (1, (1, (.tmp 13))), (2, (1, (.tmp 14))), (3, (1, (.tmp 16)))])⟩, ⟨none, none, .store 4 (.tmp 2) (.tmp 17)⟩]
abbrev L57 : LFun := ⟨18, [(.cells 2 4)], (.seq (.reg R57_0) (.seq (.reg R57_1) (.seq (.reg R57_2) (.seq (.reg R57_3) (.seq (.reg R57_4) .ret)))))⟩
theorem low57 : lowFn Try.prog Try.f57 = some L57 := by kernel_rfl

theorem push_all : ∀ (ds : List UInt8) (s : ByteArray), (ds.map fun c => (c.toNat : Int)).foldl (fun r n => r.push (UInt8.ofNat n.toNat)) s = ⟨s.data ++ ds.toArray⟩
  | [], s => by simp
  | c :: ds, s => by
    rw [List.map_cons, List.foldl_cons, push_all ds]
    congr 1
    have : UInt8.ofNat ((c.toNat : Int)).toNat = c := by simp
    rw [this]
    simp [ByteArray.push]
section
variable {P : Program} {p : Chain → World → Prop} {Q : Exit → Env → World → Prop} {e : Env} {w : World} {K : List Nat} {d : Nat} {ops : List LOper}
theorem WL_str {x : Operand} {ty src dst el : TypeId} {v : Value} {ds : List UInt8} {n : Nat} (hr : Reads w K 1 v n (ds.map b8)) (hs : P.underlying src = some (.slice el)) (he : P.underlying el = some (.int .u8)) (hd : P.underlying dst = some .string) (hx : ev e x = v)
    (h : WL P p Q ops (upd e d (S ds)) w) : WL P p Q (⟨some d, none, .raw ty (.convert src dst x)⟩ :: ops) e w := by
  simp only [WL, wantedE, if_true, LOp.wp]
  have hlen := hr.len
  rw [List.length_map] at hlen
  obtain ⟨A, c, rfl, hA⟩ := hr.slc
  have key : (convert src dst (.slice A n c)).run P w = .ok (S ds) w := by
    rw [run_convert_bytes_string w src dst el A n c hs he hd]
    cases A with
    | none =>
      have h0 : ds = [] := by
        rcases Nat.eq_zero_or_pos (n * 1) with h0 | h0
        · exact List.eq_nil_of_length_eq_zero (by omega)
        · obtain ⟨b, o, hh, _⟩ := hA h0; cases hh
      subst h0
      rfl
    | some a =>
      have hl : (loadCells a n).run P w = .ok ((ds.map fun c => (c.toNat : Int)).map (Value.int .u8)).toArray w := by
        have hmm : (ds.map fun c => (c.toNat : Int)).map (Value.int .u8) = ds.map b8 := by rw [List.map_map]; rfl
        rw [hmm]
        have hcs : Cells w a (ds.map b8) := by
          intro i hi
          rw [List.length_map] at hi
          obtain ⟨b, o, hh, _, hc⟩ := hA (by omega)
          injection hh with hh
          subst hh
          rw [add_none, hc i (by omega)]
        have := run_loadCells' (P := P) hcs
        rw [List.length_map] at this
        rw [show n = ds.length by omega]
        exact this
      rw [run_bytesToString w a n c _ hl, push_all]
      simp [S]
  have : (execOp (ev e) (mkOper ty (.convert src dst x))).run P w = .ok (.value (S ds)) w := by
    simp only [execOp, mkOper, hx, Sem.run_bind, key, Result.andThen_ok, Sem.run_pure]
  rw [this]
  exact h
end
def rdName (l : List UInt8) (above : List UInt8) (a : Nat) : Except Nat (List UInt8 × Nat) :=
  bindR (rdNum l 1 16 a) fun n a1 => bindR (rdBytes l n a1) fun s a2 => if namedB s && aboveB above s then .ok (s, a2) else .error a1
set_option maxRecDepth 4000 in
theorem c100 (g a : Nat) (l above : List UInt8) (dv : Value) (w0 : World) (h : RdA g a l dv w0) :
    Calls Try.prog 100 #[.pointer (some ⟨g, 0, none⟩), Lw.S above] w0 (RetP w0 [g] (RdR g dv (rdName l above a) Lw.S) (RdP (rdName l above a))) := by
  obtain ⟨hA, hR, hle, hcap⟩ := h
  refine enterF (args := [.pointer (some ⟨g, 0, none⟩), Lw.S above]) Try.func100 low100 rfl ?_; have hS := St.init hA; dsimp only [L100, envL, Nat.reduceAdd]
  repeat' (first | ((with_reducible apply WL_p); (· exact evk)) | (with_reducible first | refine WL_nil ?_ | refine then_normal ?_ | refine blk_normal ?_ | refine WC_seq ?_ | refine WC_reg ?_ | refine WC_block ?_ | refine WC_skip ?_ | refine WC_exit ?_ | refine then_exit ?_ | refine blk_hit ?_ | refine blk_miss (by decide) ?_ | refine WC_ret ?_ | refine then_ret ?_ | refine blk_ret ?_))
  refine WL_rd hS (by exact evk) (c73 g a 1 16 l dv (by omega) (by omega) _ (rdA hS hR hle hcap)) (fun q w' hx hS' => ⟨_, ⟨q, bindR_err hx, rfl⟩, hS'⟩) ?_
  clear hS
  intro n a1 w hx hS
  have hy := rdNum_ok hle hx
  refine WL_callp (Oc := [(g, Blk 140 [dv, .int .i64 (a1 : Int)])]) (F := []) hS (by exact evk) (c74 g a1 n l dv (by omega) _ (rdA hS hR hy.1 hcap)) ?_ ?_
  · rintro ch O' w' ⟨q, hq, rfl⟩ hS'
    exact ⟨_, ⟨q, (bindR_ok hx).trans (bindR_err hq), rfl⟩, hS'⟩
  · rintro u O' w ⟨A, c, rfl, hc, hb, hle2, rfl, rfl⟩ hS'
    clear hS
    have hlen : ((l.drop a1).take n).length = n := by rw [List.length_take, List.length_drop]; omega
    have hn : rdName l above a = if namedB ((l.drop a1).take n) && aboveB above ((l.drop a1).take n) then .ok ((l.drop a1).take n, a1 + n) else .error a1 := (bindR_ok hx).trans (bindR_ok hb)
    have hrd := hR.sub8 hc hle2
    have hS := hS'
    clear hb hS'
    generalize (l.drop a1).take n = s at *
    have e1 := fun w => c62 s (by omega) w
    repeat' (first | ((with_reducible apply WL_p); (· exact evk)) | (with_reducible first | refine WL_nil ?_ | refine then_normal ?_ | refine blk_normal ?_ | refine WC_seq ?_ | refine WC_reg ?_ | refine WC_block ?_ | refine WC_skip ?_ | refine WC_exit ?_ | refine then_exit ?_ | refine blk_hit ?_ | refine blk_miss (by decide) ?_ | refine WC_ret ?_ | refine then_ret ?_ | refine blk_ret ?_))
    refine WL_str (hS.reads0 hrd) Try.underlying36 Try.underlying5 Try.underlying9 (by exact evk) ?_
    repeat' (first | ((with_reducible apply WL_p); (· exact evk)) | ((with_reducible apply WL_do); (· exact evd)) | ((with_reducible apply WL_no); (· exact evd)) | ((with_reducible apply WC_true); (· exact evk)) | ((with_reducible apply WC_false); (· exact evk)) | (with_reducible first | refine WL_nil ?_ | refine then_normal ?_ | refine blk_normal ?_ | refine WC_seq ?_ | refine WC_reg ?_ | refine WC_block ?_ | refine WC_skip ?_ | refine WC_exit ?_ | refine then_exit ?_ | refine blk_hit ?_ | refine blk_miss (by decide) ?_ | refine WC_ret ?_ | refine then_ret ?_ | refine blk_ret ?_) | ((with_reducible apply WL_callq hS); (· exact evk); (· first | exact e1 _); (clear hS; intro w hS)) | (first | ((with_reducible apply WL_split); (· exact evk)) | ((with_reducible apply WC_dec); (· exact evk)) | ((with_reducible apply WL_splitB); (· exact evk)) | ((with_reducible apply WC_bool); (· exact evk)) | (with_reducible intro hh)))
    · exact ret1P hS rfl ⟨s, a1 + n, by rw [hn, if_pos]; rename_i h1; simpa [aboveB, h1] using hh, rfl, rfl⟩
    · refine WL_panic (by exact evk) ⟨_, ⟨a1, ?_, rfl⟩, hS⟩
      rename_i h1
      rw [hn, if_neg]
      simpa [aboveB, h1] using hh
    · refine WL_panic (by exact evk) ⟨_, ⟨a1, ?_, rfl⟩, hS⟩
      rw [hn, if_neg]
      simp [hh]
theorem rdName_ok {l above : List UInt8} {a a' : Nat} {s : List UInt8} (ha : a ≤ l.length) (h : rdName l above a = .ok (s, a')) : a' ≤ l.length ∧ s.length ≤ 16 ∧ namedB s = true := by
  obtain ⟨n, a1, h1, h⟩ := bindR_inv h
  obtain ⟨s', a2, h2, h⟩ := bindR_inv h
  have q1 := rdNum_ok ha h1
  split at h
  · rename_i hc
    injection h with h
    injection h with h3 h4
    subst h3 h4
    unfold rdBytes at h2
    split at h2
    · cases h2
    · injection h2 with h2
      injection h2 with h5 h6
      rw [Bool.and_eq_true] at hc
      refine ⟨by omega, ?_, hc.1⟩
      rw [← h5, List.length_take]
      omega
  · cases h
/-- An op's fields. -/
structure OpV where
  k : Int
  nm : List UInt8
  a : Int
  b : Int
def OpV.cells (o : OpV) : List Value := [.int .i64 o.k, S o.nm, .int .i64 o.a, .int .i64 o.b]
def rdOp (l : List UInt8) (a : Nat) : Except Nat (OpV × Nat) :=
  bindR (rdNum l 1 11 a) fun k a1 => bindR (rdName l [] a1) fun s a2 => bindR (rdSigned l a2) fun x a3 => bindR (rdSigned l a3) fun y a4 => .ok (⟨k, s, x, y⟩, a4)
theorem rdSigned_ok {l : List UInt8} {a a' : Nat} {n : Int} (ha : a ≤ l.length) (h : rdSigned l a = .ok (n, a')) : a' ≤ l.length ∧ -9223372036854775808 ≤ n ∧ n ≤ 9223372036854775807 := by
  obtain ⟨n, a1, h1, h⟩ := bindR_inv h
  have q := rdBig_ok ha h1
  injection h with h
  injection h with h3 h4
  subst h3 h4
  refine ⟨q.1, ?_⟩
  unfold unzig
  split <;> omega
set_option maxRecDepth 4000 in
theorem c57 (g a : Nat) (l : List UInt8) (dv : Value) (w0 : World) (h : RdA g a l dv w0) :
    Calls Try.prog 57 #[.pointer (some ⟨g, 0, none⟩)] w0 (RetP w0 [g] (RdR g dv (rdOp l a) fun o => .agg o.cells.toArray) (RdP (rdOp l a))) := by
  obtain ⟨hA, hR, hle, hcap⟩ := h
  refine enterF (args := [.pointer (some ⟨g, 0, none⟩)]) Try.func57 low57 rfl ?_; have hS := St.init hA; dsimp only [L57, envL, Nat.reduceAdd]
  repeat' (first | ((with_reducible apply WL_p); (· exact evk)) | (with_reducible first | refine WL_nil ?_ | refine then_normal ?_ | refine blk_normal ?_ | refine WC_seq ?_ | refine WC_reg ?_ | refine WC_block ?_ | refine WC_skip ?_ | refine WC_exit ?_ | refine then_exit ?_ | refine blk_hit ?_ | refine blk_miss (by decide) ?_ | refine WC_ret ?_ | refine then_ret ?_ | refine blk_ret ?_) | ((first | (with_reducible apply WL_newz hS) | ((with_reducible apply WL_newv hS); (· exact evk); (· rfl)) | ((with_reducible apply WL_row hS); (· exact evk))); clear hS; intro bq w hS hbq; (try simp only [List.nil_append, List.cons_append, List.append_assoc] at hS)))
  refine WL_rd hS (by exact evk) (c73 g a 1 11 l dv (by omega) (by omega) _ (rdA hS hR hle hcap)) (fun q w' hx hS' => ⟨_, ⟨q, bindR_err hx, rfl⟩, hS'.sub (List.nil_sublist _)⟩) ?_
  clear hS
  intro k a1 w x1 hS
  have y1 := rdNum_ok hle x1
  repeat' (first | ((with_reducible apply WL_p); (· exact evk)) | (with_reducible first | refine WL_nil ?_ | refine then_normal ?_ | refine blk_normal ?_ | refine WC_seq ?_ | refine WC_reg ?_ | refine WC_block ?_ | refine WC_skip ?_ | refine WC_exit ?_ | refine then_exit ?_ | refine blk_hit ?_ | refine blk_miss (by decide) ?_ | refine WC_ret ?_ | refine then_ret ?_ | refine blk_ret ?_))
  refine WL_rd hS (by exact evk) (c100 g a1 l [] dv _ (rdA hS hR y1.1 hcap)) (fun q w' hx hS' => ⟨_, ⟨q, (bindR_ok x1).trans (bindR_err hx), rfl⟩, hS'.sub (List.nil_sublist _)⟩) ?_
  clear hS
  intro s a2 w x2 hS
  have y2 := rdName_ok y1.1 x2
  repeat' (first | ((with_reducible apply WL_p); (· exact evk)) | (with_reducible first | refine WL_nil ?_ | refine then_normal ?_ | refine blk_normal ?_ | refine WC_seq ?_ | refine WC_reg ?_ | refine WC_block ?_ | refine WC_skip ?_ | refine WC_exit ?_ | refine then_exit ?_ | refine blk_hit ?_ | refine blk_miss (by decide) ?_ | refine WC_ret ?_ | refine then_ret ?_ | refine blk_ret ?_))
  refine WL_rd hS (by exact evk) (c84 g a2 l dv _ (rdA hS hR y2.1 hcap)) (fun q w' hx hS' => ⟨_, ⟨q, (bindR_ok x1).trans ((bindR_ok x2).trans (bindR_err hx)), rfl⟩, hS'.sub (List.nil_sublist _)⟩) ?_
  clear hS
  intro n1 a3 w x3 hS
  have y3 := rdSigned_ok y2.1 x3
  repeat' (first | ((with_reducible apply WL_p); (· exact evk)) | (with_reducible first | refine WL_nil ?_ | refine then_normal ?_ | refine blk_normal ?_ | refine WC_seq ?_ | refine WC_reg ?_ | refine WC_block ?_ | refine WC_skip ?_ | refine WC_exit ?_ | refine then_exit ?_ | refine blk_hit ?_ | refine blk_miss (by decide) ?_ | refine WC_ret ?_ | refine then_ret ?_ | refine blk_ret ?_))
  refine WL_rd hS (by exact evk) (c84 g a3 l dv _ (rdA hS hR y3.1 hcap)) (fun q w' hx hS' => ⟨_, ⟨q, (bindR_ok x1).trans ((bindR_ok x2).trans ((bindR_ok x3).trans (bindR_err hx))), rfl⟩, hS'.sub (List.nil_sublist _)⟩) ?_
  clear hS
  intro n2 a4 w x4 hS
  repeat' (first | ((with_reducible apply WL_p); (· exact evk)) | (with_reducible first | refine WL_nil ?_ | refine then_normal ?_ | refine blk_normal ?_ | refine WC_seq ?_ | refine WC_reg ?_ | refine WC_block ?_ | refine WC_skip ?_ | refine WC_exit ?_ | refine then_exit ?_ | refine blk_hit ?_ | refine blk_miss (by decide) ?_ | refine WC_ret ?_ | refine then_ret ?_ | refine blk_ret ?_) | ((with_reducible apply WL_storeN hS); (· exact evk); (· exact evk); (· rfl); (· simp [Value.oneCell', S]); (· exact upp); (· simp); (clear hS; intro w hS; (simp only [List.set_cons_succ, List.set_cons_zero, putList, Nat.zero_add, Nat.reduceAdd] at hS))))
  exact retcR hS (List.Sublist.cons_cons _ (List.nil_sublist _)) rfl inn rfl ⟨_, a4, (bindR_ok x1).trans ((bindR_ok x2).trans ((bindR_ok x3).trans (bindR_ok x4))), rfl, rfl⟩
end Go.Proofs.Ytohmgkcdjapinaa.Lw
namespace Go.Proofs.Ytohmgkcdjapinaa.Lw
abbrev R55_0 : List LOper := [⟨some 4, none, .pv (.move (.tmp 0))⟩, ⟨some 5, none, .call 56 [(.tmp 4)]⟩, ⟨none, none, .store 2 (.tmp 1) (.tmp 5)⟩]
abbrev R55_1 : List LOper := [⟨some 6, none, .pv (.move (.tmp 0))⟩, ⟨some 7, none, .call 57 [(.tmp 6)]⟩, ⟨none, none, .store 4 (.tmp 2) (.tmp 7)⟩]
abbrev L55 : LFun := ⟨8, [], (.seq (.reg R55_0) (.reg R55_1))⟩
theorem low55 : lowFn Try.prog Try.f55 = some L55 := by kernel_rfl
abbrev R83_0 : List LOper := [⟨some 3, none, .pv (.move (.tmp 0))⟩, ⟨some 4, none, .call 56 [(.tmp 3)]⟩, ⟨some 5, none, .pv (.off (.tmp 1) 0)⟩, ⟨none, none, .store 2 (.tmp 5) (.tmp 4)⟩]
abbrev R83_1 : List LOper := [⟨some 6, none, .pv (.move (.tmp 0))⟩, ⟨some 7, none, .call 73 [(.tmp 6), (.const (.int .i64 0)), (.const (.int .i64 255))]⟩, ⟨some 8, none, .pv (.off (.tmp 1) 2)⟩, ⟨none, none, .store 1 (.tmp 8) (.tmp 7)⟩]
abbrev R83_2 : List LOper := [⟨some 9, none, .pv (.move (.tmp 0))⟩, ⟨some 10, none, .call 84 [(.tmp 9)]⟩, ⟨some 11, none, .pv (.off (.tmp 1) 3)⟩, ⟨none, none, .store 1 (.tmp 11) (.tmp 10)⟩]
abbrev L83 : LFun := ⟨12, [], (.seq (.reg R83_0) (.seq (.reg R83_1) (.reg R83_2)))⟩
theorem low83 : lowFn Try.prog Try.f83 = some L83 := by kernel_rfl

/-- What a closure that fills blocks answers: R y are the blocks that hold what was read; if it panics they are such as Rb says. -/
def RdF {α : Type} (g : Nat) (dv : Value) (x : Except Nat (α × Nat)) (R : α → Blks → Prop) (u : Value) (O' : Blks) : Prop := ∃ y a' B, x = .ok (y, a') ∧ u = .tuple #[] ∧ R y B ∧ O' = (g, Blk 140 [dv, .int .i64 ((a' : Nat) : Int)]) :: B
def RdE {α : Type} (x : Except Nat (α × Nat)) (Rb : Blks → Prop) (ch : Chain) (O' : Blks) : Prop := ∃ p : Nat, x = .error p ∧ ch = [{ v := .iface 137 (.int .i64 (p : Int)), recovered := false }] ∧ Rb O'
def rdReq (l : List UInt8) (a : Nat) : Except Nat (((Nat × Nat) × OpV) × Nat) := bindR (rdPair l 0 63 1 1099511627776 a) fun c a1 => bindR (rdOp l a1) fun o a2 => .ok ((c, o), a2)
theorem ret0nP {R : Value → Blks → Prop} {Rp : Chain → Blks → Prop} {w0 w : World} {K : List Nat} {O : Blks} {e : Env} (hS : St w0 K w O) (h : R (.tuple #[]) O) : retQ [] (RetP w0 K R Rp) .normal e w := ⟨[], trivial, O, h, hS⟩
def pairC (n : Nat × Nat) : List Value := [.int .i64 (n.1 : Int), .int .i64 (n.2 : Int)]
theorem rdOp_ok {l : List UInt8} {a a' : Nat} {o : OpV} (ha : a ≤ l.length) (h : rdOp l a = .ok (o, a')) : a' ≤ l.length := by
  obtain ⟨k, a1, h1, h⟩ := bindR_inv h
  obtain ⟨s, a2, h2, h⟩ := bindR_inv h
  obtain ⟨x, a3, h3, h⟩ := bindR_inv h
  obtain ⟨y, a4, h4, h⟩ := bindR_inv h
  have q1 := rdNum_ok ha h1
  have q2 := rdName_ok q1.1 h2
  have q3 := rdSigned_ok q2.1 h3
  have q4 := rdSigned_ok q3.1 h4
  injection h with h
  injection h with h5 h6
  subst h6
  exact q4.1
set_option maxRecDepth 4000 in
theorem c55 (g a cb ob : Nat) (l : List UInt8) (dv : Value) (x1 x2 y1 y2 y3 y4 : Value) (hle : a ≤ l.length) (hcap : CapOk dv) (w0 : World)
    (hA : At w0 [(g, Blk 140 [dv, .int .i64 (a : Int)]), (cb, Blk 27 [x1, x2]), (ob, Blk 29 [y1, y2, y3, y4])]) (hR : Reads w0 [g, cb, ob] 1 dv l.length (l.map b8)) :
    Calls Try.prog 55 #[.pointer (some ⟨g, 0, none⟩), .pointer (some ⟨cb, 0, none⟩), .pointer (some ⟨ob, 0, none⟩)] w0
      (RetP w0 [g, cb, ob] (RdF g dv (rdReq l a) fun y B => B = [(cb, Blk 27 (pairC y.1)), (ob, Blk 29 y.2.cells)])
        (RdE (rdReq l a) fun O' => ∃ x1 x2 y1 y2 y3 y4, O' = [(cb, Blk 27 [x1, x2]), (ob, Blk 29 [y1, y2, y3, y4])])) := by
  refine enterF (args := [.pointer (some ⟨g, 0, none⟩), .pointer (some ⟨cb, 0, none⟩), .pointer (some ⟨ob, 0, none⟩)]) Try.func55 low55 rfl ?_; have hS := St.init hA; dsimp only [L55, envL, Nat.reduceAdd]
  repeat' (first | ((with_reducible apply WL_p); (· exact evk)) | (with_reducible first | refine WL_nil ?_ | refine then_normal ?_ | refine blk_normal ?_ | refine WC_seq ?_ | refine WC_reg ?_ | refine WC_block ?_ | refine WC_skip ?_ | refine WC_exit ?_ | refine then_exit ?_ | refine blk_hit ?_ | refine blk_miss (by decide) ?_ | refine WC_ret ?_ | refine then_ret ?_ | refine blk_ret ?_) | ((first | (with_reducible apply WL_newz hS) | ((with_reducible apply WL_newv hS); (· exact evk); (· rfl)) | ((with_reducible apply WL_row hS); (· exact evk))); clear hS; intro bq w hS hbq; (try simp only [List.nil_append, List.cons_append, List.append_assoc] at hS)))
  refine WL_rd hS (by exact evk) (c56 g a l dv _ (rdA hS hR hle hcap)) (fun q w' hx hS' => ⟨_, ⟨q, bindR_err hx, rfl, _, _, _, _, _, _, rfl⟩, hS'⟩) ?_
  clear hS
  intro c a1 w x1 hS
  have y1 := rdPair_ok hle x1
  unfold pairV
  repeat' (first | ((with_reducible apply WL_p); (· exact evk)) | (with_reducible first | refine WL_nil ?_ | refine then_normal ?_ | refine blk_normal ?_ | refine WC_seq ?_ | refine WC_reg ?_ | refine WC_block ?_ | refine WC_skip ?_ | refine WC_exit ?_ | refine then_exit ?_ | refine blk_hit ?_ | refine blk_miss (by decide) ?_ | refine WC_ret ?_ | refine then_ret ?_ | refine blk_ret ?_) | ((with_reducible apply WL_storeN hS); (· exact evk); (· exact evk); (· rfl); (· simp [Value.oneCell', S]); (· exact upp); (· simp); (clear hS; intro w hS; (simp only [List.set_cons_succ, List.set_cons_zero, putList, Nat.zero_add, Nat.reduceAdd] at hS))))
  refine WL_rd hS (by exact evk) (c57 g a1 l dv _ (rdA hS hR y1.1 hcap)) (fun q w' hx hS' => ⟨_, ⟨q, (bindR_ok x1).trans (bindR_err hx), rfl, _, _, _, _, _, _, rfl⟩, hS'⟩) ?_
  clear hS
  intro o a2 w x2 hS
  unfold OpV.cells
  repeat' (first | ((with_reducible apply WL_p); (· exact evk)) | (with_reducible first | refine WL_nil ?_ | refine then_normal ?_ | refine blk_normal ?_ | refine WC_seq ?_ | refine WC_reg ?_ | refine WC_block ?_ | refine WC_skip ?_ | refine WC_exit ?_ | refine then_exit ?_ | refine blk_hit ?_ | refine blk_miss (by decide) ?_ | refine WC_ret ?_ | refine then_ret ?_ | refine blk_ret ?_) | ((with_reducible apply WL_storeN hS); (· exact evk); (· exact evk); (· rfl); (· simp [Value.oneCell', S]); (· exact upp); (· simp); (clear hS; intro w hS; (simp only [List.set_cons_succ, List.set_cons_zero, putList, Nat.zero_add, Nat.reduceAdd] at hS))))
  exact ret0nP hS ⟨_, a2, _, (bindR_ok x1).trans (bindR_ok x2), rfl, rfl, rfl⟩
/-- A reply's fields. -/
structure RepV where
  c : Nat × Nat
  er : Nat
  val : Int
def RepV.cells (r : RepV) : List Value := [.int .i64 (r.c.1 : Int), .int .i64 (r.c.2 : Int), .int .i64 (r.er : Int), .int .i64 r.val]
def rdRep (l : List UInt8) (a : Nat) : Except Nat (RepV × Nat) := bindR (rdPair l 0 63 1 1099511627776 a) fun c a1 => bindR (rdNum l 0 255 a1) fun er a2 => bindR (rdSigned l a2) fun v a3 => .ok (⟨c, er, v⟩, a3)
set_option maxRecDepth 4000 in
theorem c83 (g a mb : Nat) (l : List UInt8) (dv : Value) (z1 z2 z3 z4 : Value) (hle : a ≤ l.length) (hcap : CapOk dv) (w0 : World)
    (hA : At w0 [(g, Blk 140 [dv, .int .i64 (a : Int)]), (mb, Blk 42 [z1, z2, z3, z4])]) (hR : Reads w0 [g, mb] 1 dv l.length (l.map b8)) :
    Calls Try.prog 83 #[.pointer (some ⟨g, 0, none⟩), .pointer (some ⟨mb, 0, none⟩)] w0
      (RetP w0 [g, mb] (RdF g dv (rdRep l a) fun y B => B = [(mb, Blk 42 y.cells)])
        (RdE (rdRep l a) fun O' => ∃ z1 z2 z3 z4, O' = [(mb, Blk 42 [z1, z2, z3, z4])])) := by
  refine enterF (args := [.pointer (some ⟨g, 0, none⟩), .pointer (some ⟨mb, 0, none⟩)]) Try.func83 low83 rfl ?_; have hS := St.init hA; dsimp only [L83, envL, Nat.reduceAdd]
  repeat' (first | ((with_reducible apply WL_p); (· exact evk)) | (with_reducible first | refine WL_nil ?_ | refine then_normal ?_ | refine blk_normal ?_ | refine WC_seq ?_ | refine WC_reg ?_ | refine WC_block ?_ | refine WC_skip ?_ | refine WC_exit ?_ | refine then_exit ?_ | refine blk_hit ?_ | refine blk_miss (by decide) ?_ | refine WC_ret ?_ | refine then_ret ?_ | refine blk_ret ?_) | ((first | (with_reducible apply WL_newz hS) | ((with_reducible apply WL_newv hS); (· exact evk); (· rfl)) | ((with_reducible apply WL_row hS); (· exact evk))); clear hS; intro bq w hS hbq; (try simp only [List.nil_append, List.cons_append, List.append_assoc] at hS)))
  refine WL_rd hS (by exact evk) (c56 g a l dv _ (rdA hS hR hle hcap)) (fun q w' hx hS' => ⟨_, ⟨q, bindR_err hx, rfl, _, _, _, _, rfl⟩, hS'⟩) ?_
  clear hS
  intro c a1 w x1 hS
  have y1 := rdPair_ok hle x1
  unfold pairV
  repeat' (first | ((with_reducible apply WL_p); (· exact evk)) | (with_reducible first | refine WL_nil ?_ | refine then_normal ?_ | refine blk_normal ?_ | refine WC_seq ?_ | refine WC_reg ?_ | refine WC_block ?_ | refine WC_skip ?_ | refine WC_exit ?_ | refine then_exit ?_ | refine blk_hit ?_ | refine blk_miss (by decide) ?_ | refine WC_ret ?_ | refine then_ret ?_ | refine blk_ret ?_) | ((with_reducible apply WL_storeN hS); (· exact evk); (· exact evk); (· rfl); (· simp [Value.oneCell', S]); (· exact upp); (· simp); (clear hS; intro w hS; (simp only [List.set_cons_succ, List.set_cons_zero, putList, Nat.zero_add, Nat.reduceAdd] at hS))))
  refine WL_rd hS (by exact evk) (c73 g a1 0 255 l dv (by omega) (by omega) _ (rdA hS hR y1.1 hcap)) (fun q w' hx hS' => ⟨_, ⟨q, (bindR_ok x1).trans (bindR_err hx), rfl, _, _, _, _, rfl⟩, hS'⟩) ?_
  clear hS
  intro er a2 w x2 hS
  have y2 := rdNum_ok y1.1 x2
  repeat' (first | ((with_reducible apply WL_p); (· exact evk)) | (with_reducible first | refine WL_nil ?_ | refine then_normal ?_ | refine blk_normal ?_ | refine WC_seq ?_ | refine WC_reg ?_ | refine WC_block ?_ | refine WC_skip ?_ | refine WC_exit ?_ | refine then_exit ?_ | refine blk_hit ?_ | refine blk_miss (by decide) ?_ | refine WC_ret ?_ | refine then_ret ?_ | refine blk_ret ?_) | ((with_reducible apply WL_store hS); (· exact evk); (· exact evk); (· first | rfl | assumption | exact RowIs.one (by assumption)); (· exact upp); (· simp); (clear hS; intro w hS; (simp only [List.set_cons_succ, List.set_cons_zero, putList, Nat.zero_add, Nat.reduceAdd] at hS))))
  refine WL_rd hS (by exact evk) (c84 g a2 l dv _ (rdA hS hR y2.1 hcap)) (fun q w' hx hS' => ⟨_, ⟨q, (bindR_ok x1).trans ((bindR_ok x2).trans (bindR_err hx)), rfl, _, _, _, _, rfl⟩, hS'⟩) ?_
  clear hS
  intro v a3 w x3 hS
  repeat' (first | ((with_reducible apply WL_p); (· exact evk)) | (with_reducible first | refine WL_nil ?_ | refine then_normal ?_ | refine blk_normal ?_ | refine WC_seq ?_ | refine WC_reg ?_ | refine WC_block ?_ | refine WC_skip ?_ | refine WC_exit ?_ | refine then_exit ?_ | refine blk_hit ?_ | refine blk_miss (by decide) ?_ | refine WC_ret ?_ | refine then_ret ?_ | refine blk_ret ?_) | ((with_reducible apply WL_store hS); (· exact evk); (· exact evk); (· first | rfl | assumption | exact RowIs.one (by assumption)); (· exact upp); (· simp); (clear hS; intro w hS; (simp only [List.set_cons_succ, List.set_cons_zero, putList, Nat.zero_add, Nat.reduceAdd] at hS))))
  exact ret0nP hS ⟨_, a3, _, (bindR_ok x1).trans ((bindR_ok x2).trans (bindR_ok x3)), rfl, rfl, rfl⟩
end Go.Proofs.Ytohmgkcdjapinaa.Lw
namespace Go.Proofs.Ytohmgkcdjapinaa.Lw
abbrev R72_0 : List LOper := [⟨some 7, none, .pv (.move (.tmp 0))⟩, ⟨some 8, none, .call 73 [(.tmp 7), (.const (.int .i64 0)), (.const (.int .i64 15))]⟩, ⟨some 9, none, .pv (.move (.tmp 0))⟩, ⟨some 10, none, .call 73 [(.tmp 9), (.const (.int .i64 0)), (.const (.int .i64 15))]⟩, ⟨some 11, none, .pv (.off (.tmp 1) 0)⟩, ⟨none, none, .store 1 (.tmp 11) (.tmp 8)⟩, ⟨some 12, none, .pv (.off (.tmp 1) 1)⟩, ⟨none, none, .store 1 (.tmp 12) (.tmp 10)⟩]
abbrev R72_1 : List LOper := [⟨some 13, none, .pv (.move (.tmp 0))⟩, ⟨some 14, none, .call 73 [(.tmp 13), (.const (.int .i64 0)), (.const (.int .i64 1099511627776))]⟩, ⟨some 15, none, .pv (.move (.tmp 0))⟩, ⟨some 16, none, .call 73 [(.tmp 15), (.const (.int .i64 0)), (.const (.int .i64 1099511627776))]⟩, ⟨some 17, none, .pv (.off (.tmp 1) 2)⟩, ⟨none, none, .store 1 (.tmp 17) (.tmp 14)⟩, ⟨some 18, none, .pv (.off (.tmp 1) 3)⟩, ⟨none, none, .store 1 (.tmp 18) (.tmp 16)⟩]
abbrev R72_2 : List LOper := [⟨some 3, none, .pv (.move (.const (.int .i64 1)))⟩, ⟨some 4, none, .pv (.move (.const (.int .i64 4000)))⟩]
abbrev R72_3 : List LOper := [⟨some 19, none, .pv (.off (.tmp 1) 2)⟩, ⟨some 20, none, .load (.tmp 19)⟩, ⟨some 21, none, .pv (.bin .eql (.tmp 20) (.const (.int .i64 0)))⟩]
abbrev R72_4 : List LOper := [⟨some 3, none, .pv (.move (.const (.int .i64 0)))⟩, ⟨some 4, none, .pv (.move (.const (.int .i64 0)))⟩]
abbrev R72_5 : List LOper := [⟨some 23, none, .pv (.move (.tmp 0))⟩, ⟨some 24, none, .pv (.move (.tmp 0))⟩, ⟨some 25, none, .pv (.move (.tmp 3))⟩, ⟨some 26, none, .pv (.move (.tmp 4))⟩, ⟨some 27, none, .call 73 [(.tmp 24), (.tmp 25), (.tmp 26)]⟩, ⟨some 28, none, .call 74 [(.tmp 23), (.tmp 27)]⟩, ⟨some 22, none, .pv (.move (.tmp 28))⟩, ⟨some 29, none, .pv (.ext (.tmp 22) 0)⟩, ⟨some 30, none, .pv (.ext (.tmp 22) 1)⟩, ⟨some 5, none, .pv (.move (.tmp 29))⟩, ⟨some 6, none, .pv (.move (.tmp 30))⟩]
abbrev R72_6 : List LOper := [⟨some 31, none, .pv (.move (.tmp 5))⟩, ⟨some 32, none, .raw 36 (.call (.mk (.builtin .append) #[(.const (.slice none 0 0)), (.tmp 31)] #[36, 36]))⟩, ⟨some 33, none, .pv (.off (.tmp 1) 4)⟩, ⟨none, none, .store 1 (.tmp 33) (.tmp 32)⟩]
abbrev L72 : LFun := ⟨34, [], (.seq (.reg R72_0) (.seq (.reg R72_1) (.seq (.reg R72_2) (.seq (.seq (.reg R72_3) (.cond (.tmp 21) (.reg R72_4) .skip)) (.seq (.reg R72_5) (.reg R72_6))))))⟩
theorem low72 : lowFn Try.prog Try.f72 = some L72 := by kernel_rfl

structure SegV where
  f : Nat
  t : Nat
  s : Nat
  a : Nat
  ds : List UInt8
def SegV.cells (x : SegV) (v : Value) : List Value := [.int .i64 (x.f : Int), .int .i64 (x.t : Int), .int .i64 (x.s : Int), .int .i64 (x.a : Int), v]
def rdSeg (l : List UInt8) (a : Nat) : Except Nat (SegV × Nat) :=
  bindR (rdNum l 0 15 a) fun f a1 => bindR (rdNum l 0 15 a1) fun t a2 => bindR (rdNum l 0 1099511627776 a2) fun s a3 => bindR (rdNum l 0 1099511627776 a3) fun k a4 =>
    bindR (rdNum l (if s = 0 then 0 else 1) (if s = 0 then 0 else 4000) a4) fun n a5 => bindR (rdBytes l n a5) fun ds a6 => .ok (⟨f, t, s, k, ds⟩, a6)
set_option maxRecDepth 4000 in
set_option maxHeartbeats 1000000 in
theorem c72 (g a sb : Nat) (l : List UInt8) (dv : Value) (z1 z2 z3 z4 z5 : Value) (hle : a ≤ l.length) (hcap : CapOk dv) (w0 : World)
    (hA : At w0 [(g, Blk 140 [dv, .int .i64 (a : Int)]), (sb, Blk 39 [z1, z2, z3, z4, z5])]) (hR : Reads w0 [g, sb] 1 dv l.length (l.map b8)) :
    Calls Try.prog 72 #[.pointer (some ⟨g, 0, none⟩), .pointer (some ⟨sb, 0, none⟩)] w0
      (RetP w0 [g, sb] (RdF g dv (rdSeg l a) fun y B => ∃ v L, RowIs 5 1 v y.ds.length (y.ds.map b8) L ∧ B = (sb, Blk 39 (y.cells v)) :: L)
        (RdE (rdSeg l a) fun O' => ∃ z1 z2 z3 z4 z5, O' = [(sb, Blk 39 [z1, z2, z3, z4, z5])])) := by
  refine enterF (args := [.pointer (some ⟨g, 0, none⟩), .pointer (some ⟨sb, 0, none⟩)]) Try.func72 low72 rfl ?_; have hS := St.init hA; dsimp only [L72, envL, Nat.reduceAdd]
  repeat' (first | ((with_reducible apply WL_p); (· exact evk)) | (with_reducible first | refine WL_nil ?_ | refine then_normal ?_ | refine blk_normal ?_ | refine WC_seq ?_ | refine WC_reg ?_ | refine WC_block ?_ | refine WC_skip ?_ | refine WC_exit ?_ | refine then_exit ?_ | refine blk_hit ?_ | refine blk_miss (by decide) ?_ | refine WC_ret ?_ | refine then_ret ?_ | refine blk_ret ?_) | ((first | (with_reducible apply WL_newz hS) | ((with_reducible apply WL_newv hS); (· exact evk); (· rfl)) | ((with_reducible apply WL_row hS); (· exact evk))); clear hS; intro bq w hS hbq; (try simp only [List.nil_append, List.cons_append, List.append_assoc] at hS)))
  refine WL_rd hS (by exact evk) (c73 g a 0 15 l dv (by omega) (by omega) _ (rdA hS hR hle hcap)) (fun q w' hx hS' => ⟨_, ⟨q, bindR_err hx, rfl, _, _, _, _, _, rfl⟩, hS'⟩) ?_
  clear hS
  intro f a1 w x1 hS
  have y1 := rdNum_ok hle x1
  repeat' (first | ((with_reducible apply WL_p); (· exact evk)) | (with_reducible first | refine WL_nil ?_ | refine then_normal ?_ | refine blk_normal ?_ | refine WC_seq ?_ | refine WC_reg ?_ | refine WC_block ?_ | refine WC_skip ?_ | refine WC_exit ?_ | refine then_exit ?_ | refine blk_hit ?_ | refine blk_miss (by decide) ?_ | refine WC_ret ?_ | refine then_ret ?_ | refine blk_ret ?_))
  refine WL_rd hS (by exact evk) (c73 g a1 0 15 l dv (by omega) (by omega) _ (rdA hS hR y1.1 hcap)) (fun q w' hx hS' => ⟨_, ⟨q, (bindR_ok x1).trans (bindR_err hx), rfl, _, _, _, _, _, rfl⟩, hS'⟩) ?_
  clear hS
  intro t a2 w x2 hS
  have y2 := rdNum_ok y1.1 x2
  repeat' (first | ((with_reducible apply WL_p); (· exact evk)) | (with_reducible first | refine WL_nil ?_ | refine then_normal ?_ | refine blk_normal ?_ | refine WC_seq ?_ | refine WC_reg ?_ | refine WC_block ?_ | refine WC_skip ?_ | refine WC_exit ?_ | refine then_exit ?_ | refine blk_hit ?_ | refine blk_miss (by decide) ?_ | refine WC_ret ?_ | refine then_ret ?_ | refine blk_ret ?_) | ((with_reducible apply WL_store hS); (· exact evk); (· exact evk); (· first | rfl | assumption | exact RowIs.one (by assumption)); (· exact upp); (· simp); (clear hS; intro w hS; (simp only [List.set_cons_succ, List.set_cons_zero, putList, Nat.zero_add, Nat.reduceAdd] at hS))))
  refine WL_rd hS (by exact evk) (c73 g a2 0 1099511627776 l dv (by omega) (by omega) _ (rdA hS hR y2.1 hcap)) (fun q w' hx hS' => ⟨_, ⟨q, (bindR_ok x1).trans ((bindR_ok x2).trans (bindR_err hx)), rfl, _, _, _, _, _, rfl⟩, hS'⟩) ?_
  clear hS
  intro s a3 w x3 hS
  have y3 := rdNum_ok y2.1 x3
  repeat' (first | ((with_reducible apply WL_p); (· exact evk)) | (with_reducible first | refine WL_nil ?_ | refine then_normal ?_ | refine blk_normal ?_ | refine WC_seq ?_ | refine WC_reg ?_ | refine WC_block ?_ | refine WC_skip ?_ | refine WC_exit ?_ | refine then_exit ?_ | refine blk_hit ?_ | refine blk_miss (by decide) ?_ | refine WC_ret ?_ | refine then_ret ?_ | refine blk_ret ?_))
  refine WL_rd hS (by exact evk) (c73 g a3 0 1099511627776 l dv (by omega) (by omega) _ (rdA hS hR y3.1 hcap)) (fun q w' hx hS' => ⟨_, ⟨q, (bindR_ok x1).trans ((bindR_ok x2).trans ((bindR_ok x3).trans (bindR_err hx))), rfl, _, _, _, _, _, rfl⟩, hS'⟩) ?_
  clear hS
  intro k a4 w x4 hS
  have y4 := rdNum_ok y3.1 x4
  have hx : rdSeg l a = bindR (rdNum l (if s = 0 then 0 else 1) (if s = 0 then 0 else 4000) a4) fun n a5 => bindR (rdBytes l n a5) fun ds a6 => .ok (⟨f, t, s, k, ds⟩, a6) :=
    (bindR_ok x1).trans ((bindR_ok x2).trans ((bindR_ok x3).trans (bindR_ok x4)))
  generalize rdSeg l a = res at hx ⊢
  subst hx
  have hlohi : ∃ lo hi : Nat, (if s = 0 then 0 else 1) = lo ∧ (if s = 0 then 0 else 4000) = hi ∧ lo ≤ hi ∧ hi ≤ 4000 ∧ (s = 0 → lo = 0 ∧ hi = 0) ∧ (s ≠ 0 → lo = 1 ∧ hi = 4000) := by
    by_cases h : s = 0
    · exact ⟨0, 0, by simp [h], by simp [h], by omega, by omega, fun _ => ⟨rfl, rfl⟩, fun h' => absurd h h'⟩
    · exact ⟨1, 4000, by simp [h], by simp [h], by omega, by omega, fun h' => absurd h' h, fun _ => ⟨rfl, rfl⟩⟩
  obtain ⟨lo, hi, e1, e2, h1, h2, h3, h4⟩ := hlohi
  rw [e1, e2]
  repeat' (first | ((with_reducible apply WL_p); (· exact evk)) | (with_reducible first | refine WL_nil ?_ | refine then_normal ?_ | refine blk_normal ?_ | refine WC_seq ?_ | refine WC_reg ?_ | refine WC_block ?_ | refine WC_skip ?_ | refine WC_exit ?_ | refine then_exit ?_ | refine blk_hit ?_ | refine blk_miss (by decide) ?_ | refine WC_ret ?_ | refine then_ret ?_ | refine blk_ret ?_) | ((with_reducible apply WL_store hS); (· exact evk); (· exact evk); (· first | rfl | assumption | exact RowIs.one (by assumption)); (· exact upp); (· simp); (clear hS; intro w hS; (simp only [List.set_cons_succ, List.set_cons_zero, putList, Nat.zero_add, Nat.reduceAdd] at hS))) | ((with_reducible apply WL_load hS); (· exact evk); (· exact inn); (· rfl)) | (first | ((with_reducible apply WL_split); (· exact evk)) | ((with_reducible apply WC_dec); (· exact evk)) | ((with_reducible apply WL_splitB); (· exact evk)) | ((with_reducible apply WC_bool); (· exact evk)) | (with_reducible intro hh)))
  · obtain ⟨rfl, rfl⟩ := h3 (by omega)
    refine WL_rd hS (by exact evk) (c73 g a4 0 0 l dv (by omega) (by omega) _ (rdA hS hR y4.1 hcap)) (fun q w' hx hS' => ⟨_, ⟨q, bindR_err hx, rfl, _, _, _, _, _, rfl⟩, hS'⟩) ?_
    clear hS
    intro n a5 w x5 hS
    have y5 := rdNum_ok y4.1 x5
    rw [bindR_ok x5]
    refine WL_callp (Oc := [(g, Blk 140 [dv, .int .i64 (a5 : Int)])]) hS (by exact evk) (c74 g a5 n l dv (by omega) _ (rdA hS hR y5.1 hcap)) ?_ ?_
    · rintro ch O' w' ⟨q, hq, rfl⟩ hS'
      exact ⟨_, ⟨q, bindR_err hq, rfl, _, _, _, _, _, rfl⟩, hS'.sub (List.sublist_append_right _ _)⟩
    rintro u O' w ⟨A, c, rfl, hc, hb, hle2, rfl, rfl⟩ hS'
    clear hS
    rw [bindR_ok hb]
    have hrd := hR.sub8 hc hle2
    have hlen : ((l.drop a5).take n).length = n := by rw [List.length_take, List.length_drop]; omega
    have hS := hS'
    clear hb hS'
    generalize (l.drop a5).take n = ds at *
    subst hlen
    repeat' (first | ((with_reducible apply WL_p); (· exact evk)) | (with_reducible first | refine WL_nil ?_ | refine then_normal ?_ | refine blk_normal ?_ | refine WC_seq ?_ | refine WC_reg ?_ | refine WC_block ?_ | refine WC_skip ?_ | refine WC_exit ?_ | refine then_exit ?_ | refine blk_hit ?_ | refine blk_miss (by decide) ?_ | refine WC_ret ?_ | refine then_ret ?_ | refine blk_ret ?_))
    refine WL_append (M := [(g, _), (sb, _)]) (L := []) (F := []) hS el36 (by exact evk) (by exact evk) (RowIs.nil 5 1) (Src.of_reads (hS.reads0 hrd) (b8_one ds) Try.underlying36) (by omega) (by omega) ?_
    clear hS
    intro v w L hrow hS
    simp only [List.nil_append, List.cons_append, List.append_nil, Nat.zero_add] at hS hrow
    repeat' (first | ((with_reducible apply WL_p); (· exact evk)) | (with_reducible first | refine WL_nil ?_ | refine then_normal ?_ | refine blk_normal ?_ | refine WC_seq ?_ | refine WC_reg ?_ | refine WC_block ?_ | refine WC_skip ?_ | refine WC_exit ?_ | refine then_exit ?_ | refine blk_hit ?_ | refine blk_miss (by decide) ?_ | refine WC_ret ?_ | refine then_ret ?_ | refine blk_ret ?_) | ((with_reducible apply WL_store hS); (· exact evk); (· exact evk); (· first | rfl | assumption | exact RowIs.one (by assumption)); (· exact upp); (· simp); (clear hS; intro w hS; (simp only [List.set_cons_succ, List.set_cons_zero, putList, Nat.zero_add, Nat.reduceAdd] at hS))))
    exact ret0nP hS ⟨_, _, _, rfl, rfl, ⟨v, L, hrow, rfl⟩, rfl⟩
  · obtain ⟨rfl, rfl⟩ := h4 (by omega)
    refine WL_rd hS (by exact evk) (c73 g a4 1 4000 l dv (by omega) (by omega) _ (rdA hS hR y4.1 hcap)) (fun q w' hx hS' => ⟨_, ⟨q, bindR_err hx, rfl, _, _, _, _, _, rfl⟩, hS'⟩) ?_
    clear hS
    intro n a5 w x5 hS
    have y5 := rdNum_ok y4.1 x5
    rw [bindR_ok x5]
    refine WL_callp (Oc := [(g, Blk 140 [dv, .int .i64 (a5 : Int)])]) hS (by exact evk) (c74 g a5 n l dv (by omega) _ (rdA hS hR y5.1 hcap)) ?_ ?_
    · rintro ch O' w' ⟨q, hq, rfl⟩ hS'
      exact ⟨_, ⟨q, bindR_err hq, rfl, _, _, _, _, _, rfl⟩, hS'.sub (List.sublist_append_right _ _)⟩
    rintro u O' w ⟨A, c, rfl, hc, hb, hle2, rfl, rfl⟩ hS'
    clear hS
    rw [bindR_ok hb]
    have hrd := hR.sub8 hc hle2
    have hlen : ((l.drop a5).take n).length = n := by rw [List.length_take, List.length_drop]; omega
    have hS := hS'
    clear hb hS'
    generalize (l.drop a5).take n = ds at *
    subst hlen
    repeat' (first | ((with_reducible apply WL_p); (· exact evk)) | (with_reducible first | refine WL_nil ?_ | refine then_normal ?_ | refine blk_normal ?_ | refine WC_seq ?_ | refine WC_reg ?_ | refine WC_block ?_ | refine WC_skip ?_ | refine WC_exit ?_ | refine then_exit ?_ | refine blk_hit ?_ | refine blk_miss (by decide) ?_ | refine WC_ret ?_ | refine then_ret ?_ | refine blk_ret ?_))
    refine WL_append (M := [(g, _), (sb, _)]) (L := []) (F := []) hS el36 (by exact evk) (by exact evk) (RowIs.nil 5 1) (Src.of_reads (hS.reads0 hrd) (b8_one ds) Try.underlying36) (by omega) (by omega) ?_
    clear hS
    intro v w L hrow hS
    simp only [List.nil_append, List.cons_append, List.append_nil, Nat.zero_add] at hS hrow
    repeat' (first | ((with_reducible apply WL_p); (· exact evk)) | (with_reducible first | refine WL_nil ?_ | refine then_normal ?_ | refine blk_normal ?_ | refine WC_seq ?_ | refine WC_reg ?_ | refine WC_block ?_ | refine WC_skip ?_ | refine WC_exit ?_ | refine then_exit ?_ | refine blk_hit ?_ | refine blk_miss (by decide) ?_ | refine WC_ret ?_ | refine then_ret ?_ | refine blk_ret ?_) | ((with_reducible apply WL_store hS); (· exact evk); (· exact evk); (· first | rfl | assumption | exact RowIs.one (by assumption)); (· exact upp); (· simp); (clear hS; intro w hS; (simp only [List.set_cons_succ, List.set_cons_zero, putList, Nat.zero_add, Nat.reduceAdd] at hS))))
    exact ret0nP hS ⟨_, _, _, rfl, rfl, ⟨v, L, hrow, rfl⟩, rfl⟩
end Go.Proofs.Ytohmgkcdjapinaa.Lw
namespace Go.Proofs.Ytohmgkcdjapinaa.Lw
theorem kWs0 {p : Prop} (h : p := by ((simp (disch := omega) only [ev_tmp, ev_const, ev_func, ev_global, upd_app, val_move, val_pick, pickV_true, pickV_false, pickV_bool, val_nilck, nilckV_ptr, val_bin, bin_add, bin_sub, bin_mul, bin_eql, bin_neq, bin_lss, bin_leq, bin_gtr, bin_geq, bin_seql, bin_sneq, bin_slss, bin_sleq, bin_sgtr, bin_sgeq, val_beq, beqV_f, beqV_t, val_seq, val_not, notV_bool, val_toInt, toIntV_int, val_off, offV_ptr, val_len, lenV_slice, val_slen, slenV_S, val_ext, extV_tup, val_ifc, val_fn, List.getElem?_cons_zero, List.getElem?_cons_succ, List.map_cons, List.map_nil, eq_self, Bool.false_eq_true, Bool.not_true, Bool.not_false, Option.map_some, Nat.zero_add, isB_bool, isB_undef, Bool.true_beq, Bool.false_beq, beq_self_eq_true, Bool.true_and, Bool.and_true, Bool.false_and, Bool.and_false, Bool.true_or, Bool.or_true, Bool.false_or, Bool.or_false, not_dec, and_dec, or_dec, seqV_f, seqV_t, ceq_i, ceq_s, ceq_nil, val_bld, bldV, cells_int, cells_bool, cells_S, cells_b8, cells_slice, cells_ptr, cells_agg, List.size_toArray, List.length_cons, List.length_nil, place, List.take_succ_cons, List.take_zero, List.drop_succ_cons, List.drop_zero, List.cons_append, List.nil_append, and_self, and_true, true_and, Nat.reduceLeDiff, List.toList_toArray, wr64, wru64, wru8, Nat.reduceEqDiff, ↓reduceIte, Nat.reduceAdd, Has, and_true, Int.natCast_add, Int.cast_ofNat_Int]))) : p := h
abbrev R102_0 : List LOper := [⟨some 2, none, .pv (.move (.const (.slice none 0 0)))⟩]
abbrev R102_1 : List LOper := [⟨some 7, none, .pv (.move (.tmp 0))⟩, ⟨some 8, none, .call 73 [(.tmp 7), (.const (.int .i64 0)), (.const (.int .i64 64))]⟩, ⟨some 9, none, .raw 31 (.makeSlice 31 (.tmp 8) (.tmp 8))⟩, ⟨some 3, none, .pv (.move (.tmp 9))⟩]
abbrev R102_2 : List LOper := [⟨some 4, none, .pv (.move (.const (S [])))⟩]
abbrev R102_3 : List LOper := [⟨some 10, none, .pv (.move (.tmp 3))⟩, ⟨some 11, none, .pv (.len (.tmp 10))⟩, ⟨some 12, none, .pv (.move (.const (.int .i64 0)))⟩]
abbrev R102_4 : List LOper := [⟨some 13, none, .pv (.bin .lss (.tmp 12) (.tmp 11))⟩]
abbrev R102_5 : List LOper := [⟨some 14, none, .pv (.move (.tmp 12))⟩, ⟨some 5, none, .pv (.move (.tmp 14))⟩]
abbrev R102_6 : List LOper := [⟨some 15, none, .pv (.move (.tmp 3))⟩, ⟨some 16, none, .pv (.move (.tmp 5))⟩, ⟨some 17, none, .pv (.idx 7 (.tmp 15) (.tmp 16))⟩, ⟨some 6, none, .pv (.move (.tmp 17))⟩]
abbrev R102_7 : List LOper := [⟨some 18, none, .pv (.move (.tmp 6))⟩, ⟨some 19, none, .pv (.move (.tmp 0))⟩, ⟨some 20, none, .pv (.move (.tmp 4))⟩, ⟨some 21, none, .call 100 [(.tmp 19), (.tmp 20)]⟩, ⟨some 22, none, .pv (.nilck (.tmp 18))⟩, ⟨some 23, none, .pv (.off (.tmp 22) 0)⟩, ⟨none, none, .store 1 (.tmp 23) (.tmp 21)⟩]
abbrev R102_8 : List LOper := [⟨some 25, none, .pv (.move (.tmp 6))⟩, ⟨some 26, none, .pv (.move (.tmp 6))⟩, ⟨some 27, none, .pv (.move (.tmp 0))⟩, ⟨some 28, none, .call 101 [(.tmp 27)]⟩, ⟨some 24, none, .pv (.move (.tmp 28))⟩, ⟨some 29, none, .pv (.ext (.tmp 24) 0)⟩, ⟨some 30, none, .pv (.ext (.tmp 24) 1)⟩, ⟨some 31, none, .pv (.nilck (.tmp 25))⟩, ⟨some 32, none, .pv (.off (.tmp 31) 1)⟩, ⟨none, none, .store 1 (.tmp 32) (.tmp 29)⟩, ⟨some 33, none, .pv (.nilck (.tmp 26))⟩, ⟨some 34, none, .pv (.off (.tmp 33) 2)⟩, ⟨none, none, .store 1 (.tmp 34) (.tmp 30)⟩]
abbrev R102_9 : List LOper := [⟨some 35, none, .pv (.move (.tmp 6))⟩, ⟨some 36, none, .pv (.move (.tmp 0))⟩, ⟨some 37, none, .call 73 [(.tmp 36), (.const (.int .i64 0)), (.const (.int .i64 1099511627776))]⟩, ⟨some 38, none, .pv (.nilck (.tmp 35))⟩, ⟨some 39, none, .pv (.off (.tmp 38) 3)⟩, ⟨none, none, .store 1 (.tmp 39) (.tmp 37)⟩]
abbrev R102_10 : List LOper := [⟨some 40, none, .pv (.move (.tmp 6))⟩, ⟨some 41, none, .pv (.move (.tmp 0))⟩, ⟨some 42, none, .call 104 [(.tmp 41)]⟩, ⟨some 43, none, .pv (.nilck (.tmp 40))⟩, ⟨some 44, none, .pv (.off (.tmp 43) 4)⟩, ⟨none, none, .store 2 (.tmp 44) (.tmp 42)⟩]
abbrev R102_11 : List LOper := [⟨some 45, none, .pv (.move (.tmp 6))⟩, ⟨some 46, none, .pv (.move (.tmp 0))⟩, ⟨some 47, none, .call 73 [(.tmp 46), (.const (.int .i64 0)), (.const (.int .i64 1099511627776))]⟩, ⟨some 48, none, .pv (.nilck (.tmp 45))⟩, ⟨some 49, none, .pv (.off (.tmp 48) 6)⟩, ⟨none, none, .store 1 (.tmp 49) (.tmp 47)⟩]
abbrev R102_12 : List LOper := [⟨some 50, none, .pv (.move (.tmp 6))⟩, ⟨some 51, none, .pv (.nilck (.tmp 50))⟩, ⟨some 52, none, .pv (.off (.tmp 51) 0)⟩, ⟨some 53, none, .load (.tmp 52)⟩, ⟨some 4, none, .pv (.move (.tmp 53))⟩]
abbrev R102_13 : List LOper := [⟨some 54, none, .pv (.bin .add (.tmp 12) (.const (.int .i64 1)))⟩, ⟨some 12, none, .pv (.move (.tmp 54))⟩]
abbrev R102_14 : List LOper := [⟨some 55, none, .pv (.move (.tmp 3))⟩, ⟨some 2, none, .pv (.move (.tmp 55))⟩]
abbrev L102 : LFun := ⟨56, [(.tmp 2)], (.seq (.reg R102_0) (.seq (.reg R102_1) (.seq (.reg R102_2) (.seq (.seq (.reg R102_3) (.block 0 (.loop (.seq (.reg R102_4) (.seq (.cond (.tmp 13) .skip (.exit 0)) (.seq (.block 1 (.seq (.reg R102_5) (.seq (.reg R102_6) (.seq (.reg R102_7) (.seq (.reg R102_8) (.seq (.reg R102_9) (.seq (.reg R102_10) (.seq (.reg R102_11) (.reg R102_12))))))))) (.reg R102_13))))))) (.seq (.reg R102_14) .ret)))))⟩
theorem low102 : lowFn Try.prog Try.f102 = some L102 := by kernel_rfl

def rdView (l last : List UInt8) (a : Nat) : Except Nat (Vw × Nat) :=
  bindR (rdName l last a) fun nm a1 => bindR (rdPair l 1 1099511627776 0 1099511627776 a1) fun c a2 => bindR (rdNum l 0 1099511627776 a2) fun ver a3 =>
    bindR (rdPair l 0 1099511627776 0 1099511627776 a3) fun r a4 => bindR (rdNum l 0 1099511627776 a4) fun held a5 => .ok (⟨nm, c.1, c.2, ver, r.1, r.2, held⟩, a5)
def rdViewsN (l : List UInt8) : Nat → List UInt8 → Nat → Except Nat (List Vw × Nat)
  | 0, _, a => .ok ([], a)
  | n + 1, last, a => bindR (rdView l last a) fun v a1 => bindR (rdViewsN l n v.name a1) fun vs a2 => .ok (v :: vs, a2)
def rdViews (l : List UInt8) (a : Nat) : Except Nat (List Vw × Nat) := bindR (rdNum l 0 64 a) fun n a1 => rdViewsN l n [] a1
theorem rdView_ok {l last : List UInt8} {a a' : Nat} {v : Vw} (ha : a ≤ l.length) (h : rdView l last a = .ok (v, a')) : a' ≤ l.length := by
  obtain ⟨nm, a1, h1, h⟩ := bindR_inv h
  obtain ⟨c, a2, h2, h⟩ := bindR_inv h
  obtain ⟨x, a3, h3, h⟩ := bindR_inv h
  obtain ⟨y, a4, h4, h⟩ := bindR_inv h
  obtain ⟨z, a5, h5, h⟩ := bindR_inv h
  have q1 := rdName_ok ha h1
  have q2 := rdPair_ok q1.1 h2
  have q3 := rdNum_ok q2.1 h3
  have q4 := rdPair_ok q3.1 h4
  have q5 := rdNum_ok q4.1 h5
  injection h with h
  injection h with h5 h6
  subst h6
  exact q5.1
section
variable {P : Program} {p : Chain → World → Prop} {Q : Exit → Env → World → Prop} {e : Env} {w : World} {d : Nat} {ops : List LOper}
theorem WL_idxO {x i : Operand} {b n c sz k : Nat} {kd : IntKind} (hx : ev e x = .slice (some ⟨b, 0, none⟩) n c) (hi : ev e i = .int kd (k : Int)) (hk : k < n)
    (h : WL P p Q ops (upd e d (.pointer (some ⟨b, k * sz, none⟩))) w) : WL P p Q (⟨some d, none, .pv (.idx sz x i)⟩ :: ops) e w := by
  refine WL_p ?_ h
  simp only [PV.val, hx, hi]
  rw [if_pos (by omega)]
  simp [add_none]
end
theorem set_pre {pre xs : List Value} {m j : Nat} {v : Value} (h : pre.length = m) : (pre ++ xs).set (m + j) v = pre ++ xs.set j v := by
  subst h
  rw [List.set_append, if_neg (by omega)]
  congr 2
  omega
theorem get_pre {pre xs : List Value} {m j : Nat} (h : pre.length = m) : (pre ++ xs)[m + j]? = xs[j]? := by
  subst h
  rw [List.getElem?_append_right (by omega)]
  congr 1
  omega
def zeroVw : Vw := ⟨[], 0, 0, 0, 0, 0, 0⟩
set_option maxRecDepth 4000 in
set_option maxHeartbeats 1000000 in
theorem c102 (g a : Nat) (l : List UInt8) (dv : Value) (w0 : World) (h : RdA g a l dv w0) :
    Calls Try.prog 102 #[.pointer (some ⟨g, 0, none⟩)] w0 (RetP w0 [g] (fun u O' => ∃ vs a' b, rdViews l a = .ok (vs, a') ∧ u = .slice (some ⟨b, 0, none⟩) vs.length vs.length ∧ O' = [(g, Blk 140 [dv, .int .i64 ((a' : Nat) : Int)]), (b, Blk 71 (vs.flatMap Vw.cells))]) (RdP (rdViews l a))) := by
  obtain ⟨hA, hR, hle, hcap⟩ := h
  refine enterF (args := [.pointer (some ⟨g, 0, none⟩)]) Try.func102 low102 rfl ?_; have hS := St.init hA; dsimp only [L102, envL, Nat.reduceAdd]
  repeat' (first | ((with_reducible apply WL_p); (· exact evk)) | (with_reducible first | refine WL_nil ?_ | refine then_normal ?_ | refine blk_normal ?_ | refine WC_seq ?_ | refine WC_reg ?_ | refine WC_block ?_ | refine WC_skip ?_ | refine WC_exit ?_ | refine then_exit ?_ | refine blk_hit ?_ | refine blk_miss (by decide) ?_ | refine WC_ret ?_ | refine then_ret ?_ | refine blk_ret ?_) | ((first | (with_reducible apply WL_newz hS) | ((with_reducible apply WL_newv hS); (· exact evk); (· rfl)) | ((with_reducible apply WL_row hS); (· exact evk))); clear hS; intro bq w hS hbq; (try simp only [List.nil_append, List.cons_append, List.append_assoc] at hS)))
  refine WL_rd hS (by exact evk) (c73 g a 0 64 l dv (by omega) (by omega) _ (rdA hS hR hle hcap)) (fun q w' hx hS' => ⟨_, ⟨q, bindR_err hx, rfl⟩, hS'⟩) ?_
  clear hS
  intro n a1 w x1 hS
  have y1 := rdNum_ok hle x1
  have hx : rdViews l a = rdViewsN l n [] a1 := bindR_ok x1
  generalize rdViews l a = res at hx ⊢
  repeat' (first | ((with_reducible apply WL_p); (· exact evk)) | (with_reducible first | refine WL_nil ?_ | refine then_normal ?_ | refine blk_normal ?_ | refine WC_seq ?_ | refine WC_reg ?_ | refine WC_block ?_ | refine WC_skip ?_ | refine WC_exit ?_ | refine then_exit ?_ | refine blk_hit ?_ | refine blk_miss (by decide) ?_ | refine WC_ret ?_ | refine then_ret ?_ | refine blk_ret ?_))
  refine WL_make (z := zeroVw) (f := Vw.cells) hS Try.underlying31 (zv := .agg #[Lw.S [], .int .i64 0, .int .i64 0, .int .i64 0, .int .i64 0, .int .i64 0, .int .i64 0]) (sz := 7) (bytes := 64) (by kernel_rfl) rfl Vw.len (by omega) (by exact evk) (by omega) (by omega) ?_
  clear hS
  intro b w hS hb
  repeat' (first | ((with_reducible apply WL_p); (· exact evk)) | (with_reducible first | refine WL_nil ?_ | refine then_normal ?_ | refine blk_normal ?_ | refine WC_seq ?_ | refine WC_reg ?_ | refine WC_block ?_ | refine WC_skip ?_ | refine WC_exit ?_ | refine then_exit ?_ | refine blk_hit ?_ | refine blk_miss (by decide) ?_ | refine WC_ret ?_ | refine then_ret ?_ | refine blk_ret ?_))
  have hS2 : St w0 [g] w [(g, Blk 140 [dv, .int .i64 (a1 : Int)]), (b, Blk 71 (([] ++ List.replicate n zeroVw).flatMap Vw.cells))] := hS
  clear hS
  refine WC_loopH (α := Nat × List Vw × List UInt8 × Nat) (fun s => [(0, .pointer (some ⟨g, 0, none⟩)), (3, .slice (some ⟨b, 0, none⟩) n n), (4, Lw.S s.2.2.1), (11, .int .i64 (n : Int)), (12, .int .i64 (s.1 : Int))])
    (fun s w' => s.2.1.length = s.1 ∧ s.1 ≤ n ∧ res = bindR (rdViewsN l (n - s.1) s.2.2.1 s.2.2.2) (fun vs a' => .ok (s.2.1 ++ vs, a')) ∧ s.2.2.2 ≤ l.length ∧ St w0 [g] w' [(g, Blk 140 [dv, .int .i64 (s.2.2.2 : Int)]), (b, Blk 71 ((s.2.1 ++ List.replicate (n - s.1) zeroVw).flatMap Vw.cells))])
    (fun s => n - s.1) (0, [], [], a1) (by exact kWs0) ⟨rfl, by dsimp only; omega, ?_, y1.1, hS2⟩ ?_
  · dsimp only
    rw [hx, Nat.sub_zero]
    unfold bindR
    cases rdViewsN l n [] a1 <;> rfl
  clear hS2 hx
  rintro ⟨k, ds, last, a⟩ e w1 ⟨hk, hkn, hall, hle, hS⟩
  dsimp only [patch] at hk hkn hall hle hS ⊢
  by_cases hlt : k < n
  · obtain ⟨m, hm⟩ : ∃ m, n - k = m + 1 := ⟨n - k - 1, by omega⟩
    rw [hm] at hall hS
    have hpre : (ds.flatMap Vw.cells).length = k * 7 := by rw [flat_len Vw.len, hk]
    have hfl : (ds ++ List.replicate (m + 1) zeroVw).flatMap Vw.cells = ds.flatMap Vw.cells ++ (Lw.S [] :: .int .i64 0 :: .int .i64 0 :: .int .i64 0 :: .int .i64 0 :: .int .i64 0 :: .int .i64 0 :: (List.replicate m zeroVw).flatMap Vw.cells) := by
      rw [List.flatMap_append, List.replicate_succ, List.flatMap_cons]; rfl
    rw [hfl] at hS
    generalize hpe : ds.flatMap Vw.cells = pre at hpre hS
    generalize hpo : (List.replicate m zeroVw).flatMap Vw.cells = post at hS
    repeat' (first | ((with_reducible apply WL_p); (· exact evk)) | ((with_reducible apply WL_do); (· exact evd)) | ((with_reducible apply WL_no); (· exact evd)) | ((with_reducible apply WC_true); (· exact evk)) | ((with_reducible apply WC_false); (· exact evk)) | (with_reducible first | refine WL_nil ?_ | refine then_normal ?_ | refine blk_normal ?_ | refine WC_seq ?_ | refine WC_reg ?_ | refine WC_block ?_ | refine WC_skip ?_ | refine WC_exit ?_ | refine then_exit ?_ | refine blk_hit ?_ | refine blk_miss (by decide) ?_ | refine WC_ret ?_ | refine then_ret ?_ | refine blk_ret ?_) | (first | ((with_reducible apply WL_split); (· exact evk)) | ((with_reducible apply WC_dec); (· exact evk)) | ((with_reducible apply WL_splitB); (· exact evk)) | ((with_reducible apply WC_bool); (· exact evk)) | (with_reducible intro hh)))
    all_goals (try omega)
    refine WL_idxO (k := k) (by exact evk) (by exact evk) hlt ?_
    repeat' (first | ((with_reducible apply WL_p); (· exact evk)) | (with_reducible first | refine WL_nil ?_ | refine then_normal ?_ | refine blk_normal ?_ | refine WC_seq ?_ | refine WC_reg ?_ | refine WC_block ?_ | refine WC_skip ?_ | refine WC_exit ?_ | refine then_exit ?_ | refine blk_hit ?_ | refine blk_miss (by decide) ?_ | refine WC_ret ?_ | refine then_ret ?_ | refine blk_ret ?_))
    have hall2 : res = bindR (bindR (rdView l last a) fun v a1 => bindR (rdViewsN l m v.name a1) fun vs a2 => .ok (v :: vs, a2)) fun vs a' => .ok (ds ++ vs, a') := hall
    refine WL_rd hS (by exact evk) (c100 g a l last dv _ (rdA hS hR hle hcap)) (fun q w' hx hS' => ⟨_, ⟨q, hall2.trans (bindR_err (bindR_err (bindR_err hx))), rfl⟩, hS'.sub (List.nil_sublist _)⟩) ?_
    intro nm a2 w x2 hS
    have y2 := rdName_ok hle x2
    repeat' (first | ((with_reducible apply WL_p); (· exact evk)) | (with_reducible first | refine WL_nil ?_ | refine then_normal ?_ | refine blk_normal ?_ | refine WC_seq ?_ | refine WC_reg ?_ | refine WC_block ?_ | refine WC_skip ?_ | refine WC_exit ?_ | refine then_exit ?_ | refine blk_hit ?_ | refine blk_miss (by decide) ?_ | refine WC_ret ?_ | refine then_ret ?_ | refine blk_ret ?_))
    refine WL_store hS (by exact evk) (by exact evk) rfl upp (by simp [hpre]) fun w hS => ?_
    rw [set_pre hpre] at hS
    simp only [List.set_cons_succ, List.set_cons_zero] at hS
    repeat' (first | ((with_reducible apply WL_p); (· exact evk)) | (with_reducible first | refine WL_nil ?_ | refine then_normal ?_ | refine blk_normal ?_ | refine WC_seq ?_ | refine WC_reg ?_ | refine WC_block ?_ | refine WC_skip ?_ | refine WC_exit ?_ | refine then_exit ?_ | refine blk_hit ?_ | refine blk_miss (by decide) ?_ | refine WC_ret ?_ | refine then_ret ?_ | refine blk_ret ?_))
    refine WL_rd hS (by exact evk) (c101 g a2 l dv _ (rdA hS hR y2.1 hcap)) (fun q w' hx hS' => ⟨_, ⟨q, hall2.trans (bindR_err (bindR_err ((bindR_ok x2).trans (bindR_err hx)))), rfl⟩, hS'.sub (List.nil_sublist _)⟩) ?_
    intro cc a3 w x3 hS
    have y3 := rdPair_ok y2.1 x3
    repeat' (first | ((with_reducible apply WL_p); (· exact evk)) | (with_reducible first | refine WL_nil ?_ | refine then_normal ?_ | refine blk_normal ?_ | refine WC_seq ?_ | refine WC_reg ?_ | refine WC_block ?_ | refine WC_skip ?_ | refine WC_exit ?_ | refine then_exit ?_ | refine blk_hit ?_ | refine blk_miss (by decide) ?_ | refine WC_ret ?_ | refine then_ret ?_ | refine blk_ret ?_))
    refine WL_store hS (by exact evk) (by exact evk) rfl upp (by simp [hpre]) fun w hS => ?_
    rw [set_pre hpre] at hS
    simp only [List.set_cons_succ, List.set_cons_zero] at hS
    repeat' (first | ((with_reducible apply WL_p); (· exact evk)) | (with_reducible first | refine WL_nil ?_ | refine then_normal ?_ | refine blk_normal ?_ | refine WC_seq ?_ | refine WC_reg ?_ | refine WC_block ?_ | refine WC_skip ?_ | refine WC_exit ?_ | refine then_exit ?_ | refine blk_hit ?_ | refine blk_miss (by decide) ?_ | refine WC_ret ?_ | refine then_ret ?_ | refine blk_ret ?_))
    refine WL_store hS (by exact evk) (by exact evk) rfl upp (by simp [hpre]) fun w hS => ?_
    rw [set_pre hpre] at hS
    simp only [List.set_cons_succ, List.set_cons_zero] at hS
    repeat' (first | ((with_reducible apply WL_p); (· exact evk)) | (with_reducible first | refine WL_nil ?_ | refine then_normal ?_ | refine blk_normal ?_ | refine WC_seq ?_ | refine WC_reg ?_ | refine WC_block ?_ | refine WC_skip ?_ | refine WC_exit ?_ | refine then_exit ?_ | refine blk_hit ?_ | refine blk_miss (by decide) ?_ | refine WC_ret ?_ | refine then_ret ?_ | refine blk_ret ?_))
    refine WL_rd hS (by exact evk) (c73 g a3 0 1099511627776 l dv (by omega) (by omega) _ (rdA hS hR y3.1 hcap)) (fun q w' hx hS' => ⟨_, ⟨q, hall2.trans (bindR_err (bindR_err ((bindR_ok x2).trans ((bindR_ok x3).trans (bindR_err hx))))), rfl⟩, hS'.sub (List.nil_sublist _)⟩) ?_
    intro ver a4 w x4 hS
    have y4 := rdNum_ok y3.1 x4
    repeat' (first | ((with_reducible apply WL_p); (· exact evk)) | (with_reducible first | refine WL_nil ?_ | refine then_normal ?_ | refine blk_normal ?_ | refine WC_seq ?_ | refine WC_reg ?_ | refine WC_block ?_ | refine WC_skip ?_ | refine WC_exit ?_ | refine then_exit ?_ | refine blk_hit ?_ | refine blk_miss (by decide) ?_ | refine WC_ret ?_ | refine then_ret ?_ | refine blk_ret ?_))
    refine WL_store hS (by exact evk) (by exact evk) rfl upp (by simp [hpre]) fun w hS => ?_
    rw [set_pre hpre] at hS
    simp only [List.set_cons_succ, List.set_cons_zero] at hS
    repeat' (first | ((with_reducible apply WL_p); (· exact evk)) | (with_reducible first | refine WL_nil ?_ | refine then_normal ?_ | refine blk_normal ?_ | refine WC_seq ?_ | refine WC_reg ?_ | refine WC_block ?_ | refine WC_skip ?_ | refine WC_exit ?_ | refine then_exit ?_ | refine blk_hit ?_ | refine blk_miss (by decide) ?_ | refine WC_ret ?_ | refine then_ret ?_ | refine blk_ret ?_))
    refine WL_rd hS (by exact evk) (c104 g a4 l dv _ (rdA hS hR y4.1 hcap)) (fun q w' hx hS' => ⟨_, ⟨q, hall2.trans (bindR_err (bindR_err ((bindR_ok x2).trans ((bindR_ok x3).trans ((bindR_ok x4).trans (bindR_err hx)))))), rfl⟩, hS'.sub (List.nil_sublist _)⟩) ?_
    intro rr a5 w x5 hS
    have y5 := rdPair_ok y4.1 x5
    unfold pairV
    repeat' (first | ((with_reducible apply WL_p); (· exact evk)) | (with_reducible first | refine WL_nil ?_ | refine then_normal ?_ | refine blk_normal ?_ | refine WC_seq ?_ | refine WC_reg ?_ | refine WC_block ?_ | refine WC_skip ?_ | refine WC_exit ?_ | refine then_exit ?_ | refine blk_hit ?_ | refine blk_miss (by decide) ?_ | refine WC_ret ?_ | refine then_ret ?_ | refine blk_ret ?_))
    refine WL_storeN hS (by exact evk) (by exact evk) rfl (by simp [Value.oneCell']) upp (by simp [hpre]; omega) fun w hS => ?_
    simp only [putList, Nat.add_assoc, Nat.reduceAdd] at hS
    rw [set_pre hpre, set_pre hpre] at hS
    simp only [List.set_cons_succ, List.set_cons_zero] at hS
    repeat' (first | ((with_reducible apply WL_p); (· exact evk)) | (with_reducible first | refine WL_nil ?_ | refine then_normal ?_ | refine blk_normal ?_ | refine WC_seq ?_ | refine WC_reg ?_ | refine WC_block ?_ | refine WC_skip ?_ | refine WC_exit ?_ | refine then_exit ?_ | refine blk_hit ?_ | refine blk_miss (by decide) ?_ | refine WC_ret ?_ | refine then_ret ?_ | refine blk_ret ?_))
    refine WL_rd hS (by exact evk) (c73 g a5 0 1099511627776 l dv (by omega) (by omega) _ (rdA hS hR y5.1 hcap)) (fun q w' hx hS' => ⟨_, ⟨q, hall2.trans (bindR_err (bindR_err ((bindR_ok x2).trans ((bindR_ok x3).trans ((bindR_ok x4).trans ((bindR_ok x5).trans (bindR_err hx))))))), rfl⟩, hS'.sub (List.nil_sublist _)⟩) ?_
    intro held a6 w x6 hS
    have y6 := rdNum_ok y5.1 x6
    repeat' (first | ((with_reducible apply WL_p); (· exact evk)) | (with_reducible first | refine WL_nil ?_ | refine then_normal ?_ | refine blk_normal ?_ | refine WC_seq ?_ | refine WC_reg ?_ | refine WC_block ?_ | refine WC_skip ?_ | refine WC_exit ?_ | refine then_exit ?_ | refine blk_hit ?_ | refine blk_miss (by decide) ?_ | refine WC_ret ?_ | refine then_ret ?_ | refine blk_ret ?_))
    refine WL_store hS (by exact evk) (by exact evk) rfl upp (by simp [hpre]) fun w hS => ?_
    rw [set_pre hpre] at hS
    simp only [List.set_cons_succ, List.set_cons_zero] at hS
    repeat' (first | ((with_reducible apply WL_p); (· exact evk)) | (with_reducible first | refine WL_nil ?_ | refine then_normal ?_ | refine blk_normal ?_ | refine WC_seq ?_ | refine WC_reg ?_ | refine WC_block ?_ | refine WC_skip ?_ | refine WC_exit ?_ | refine then_exit ?_ | refine blk_hit ?_ | refine blk_miss (by decide) ?_ | refine WC_ret ?_ | refine then_ret ?_ | refine blk_ret ?_))
    refine WL_load hS (by exact evk) inn (by rw [get_pre hpre]; rfl) ?_
    repeat' (first | ((with_reducible apply WL_p); (· exact evk)) | (with_reducible first | refine WL_nil ?_ | refine then_normal ?_ | refine blk_normal ?_ | refine WC_seq ?_ | refine WC_reg ?_ | refine WC_block ?_ | refine WC_skip ?_ | refine WC_exit ?_ | refine then_exit ?_ | refine blk_hit ?_ | refine blk_miss (by decide) ?_ | refine WC_ret ?_ | refine then_ret ?_ | refine blk_ret ?_))
    have hv : rdView l last a = .ok (⟨nm, cc.1, cc.2, ver, rr.1, rr.2, held⟩, a6) := (bindR_ok x2).trans ((bindR_ok x3).trans ((bindR_ok x4).trans ((bindR_ok x5).trans (bindR_ok x6))))
    have hmm : n - (k + 1) = m := by omega
    refine ⟨(k + 1, ds ++ [⟨nm, cc.1, cc.2, ver, rr.1, rr.2, held⟩], nm, a6), by dsimp only; omega, ?_, by simp [hk], by dsimp only; omega, ?_, y6.1, ?_⟩
    · (simp (disch := omega) only [ev_tmp, ev_const, ev_func, ev_global, upd_app, val_move, val_pick, pickV_true, pickV_false, pickV_bool, val_nilck, nilckV_ptr, val_bin, bin_add, bin_sub, bin_mul, bin_eql, bin_neq, bin_lss, bin_leq, bin_gtr, bin_geq, bin_seql, bin_sneq, bin_slss, bin_sleq, bin_sgtr, bin_sgeq, val_beq, beqV_f, beqV_t, val_seq, val_not, notV_bool, val_toInt, toIntV_int, val_off, offV_ptr, val_len, lenV_slice, val_slen, slenV_S, val_ext, extV_tup, val_ifc, val_fn, List.getElem?_cons_zero, List.getElem?_cons_succ, List.map_cons, List.map_nil, eq_self, Bool.false_eq_true, Bool.not_true, Bool.not_false, Option.map_some, Nat.zero_add, isB_bool, isB_undef, Bool.true_beq, Bool.false_beq, beq_self_eq_true, Bool.true_and, Bool.and_true, Bool.false_and, Bool.and_false, Bool.true_or, Bool.or_true, Bool.false_or, Bool.or_false, not_dec, and_dec, or_dec, seqV_f, seqV_t, ceq_i, ceq_s, ceq_nil, val_bld, bldV, cells_int, cells_bool, cells_S, cells_b8, cells_slice, cells_ptr, cells_agg, List.size_toArray, List.length_cons, List.length_nil, place, List.take_succ_cons, List.take_zero, List.drop_succ_cons, List.drop_zero, List.cons_append, List.nil_append, and_self, and_true, true_and, Nat.reduceLeDiff, List.toList_toArray, wr64, wru64, wru8, Nat.reduceEqDiff, ↓reduceIte, Nat.reduceAdd, Has, and_true, Int.natCast_add, Int.cast_ofNat_Int])
    · dsimp only
      rw [hall2, bindR_ok hv, hmm]
      dsimp only
      cases rdViewsN l m nm a6 <;> simp [bindR]
    · dsimp only
      have he : (ds ++ [(⟨nm, cc.1, cc.2, ver, rr.1, rr.2, held⟩ : Vw)] ++ List.replicate (n - (k + 1)) zeroVw).flatMap Vw.cells = pre ++ (Lw.S nm :: .int .i64 cc.1 :: .int .i64 cc.2 :: .int .i64 ver :: .int .i64 rr.1 :: .int .i64 rr.2 :: .int .i64 held :: post) := by
        rw [hmm, List.append_assoc, List.flatMap_append, List.flatMap_append, hpe, hpo]
        simp [Vw.cells]
      rw [he]
      exact hS
  · obtain rfl : k = n := by omega
    repeat' (first | ((with_reducible apply WL_p); (· exact evk)) | ((with_reducible apply WL_do); (· exact evd)) | ((with_reducible apply WL_no); (· exact evd)) | ((with_reducible apply WC_true); (· exact evk)) | ((with_reducible apply WC_false); (· exact evk)) | (with_reducible first | refine WL_nil ?_ | refine then_normal ?_ | refine blk_normal ?_ | refine WC_seq ?_ | refine WC_reg ?_ | refine WC_block ?_ | refine WC_skip ?_ | refine WC_exit ?_ | refine then_exit ?_ | refine blk_hit ?_ | refine blk_miss (by decide) ?_ | refine WC_ret ?_ | refine then_ret ?_ | refine blk_ret ?_) | (first | ((with_reducible apply WL_split); (· exact evk)) | ((with_reducible apply WC_dec); (· exact evk)) | ((with_reducible apply WL_splitB); (· exact evk)) | ((with_reducible apply WC_bool); (· exact evk)) | (with_reducible intro hh)))
    all_goals (try omega)
    rw [Nat.sub_self] at hall hS
    subst hk
    refine ret1P hS rfl ⟨ds, a, b, ?_, rfl, ?_⟩
    · rw [hall]; simp [rdViewsN, bindR]
    · simp
end Go.Proofs.Ytohmgkcdjapinaa.Lw
