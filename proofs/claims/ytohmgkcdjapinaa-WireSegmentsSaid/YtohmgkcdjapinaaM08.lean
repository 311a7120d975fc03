/- Part 8 of the texts of this claim: Xi Xj Xk Xl. -/
import Derived.Test.YtohmgkcdjapinaaM07
set_option linter.unusedVariables false
set_option linter.unusedSimpArgs false
namespace Go.Proofs.Ytohmgkcdjapinaa.Lw
abbrev R75_0 : List LOper := [⟨some 6, none, .pv (.move (.const (.int .i64 0)))⟩]
abbrev R75_1 : List LOper := [⟨some 10, none, .pv (.move (.tmp 0))⟩, ⟨some 11, none, .pv (.nilck (.tmp 10))⟩, ⟨some 12, none, .pv (.off (.tmp 11) 2)⟩, ⟨some 13, none, .load (.tmp 12)⟩]
abbrev R75_2 : List LOper := [⟨some 6, none, .pv (.move (.const (.int .i64 0)))⟩]
abbrev R75_3 : List LOper := [⟨some 14, none, .pv (.move (.tmp 0))⟩, ⟨some 15, none, .call 111 [(.tmp 14)]⟩]
abbrev R75_4 : List LOper := [⟨some 16, none, .pv (.move (.tmp 0))⟩, ⟨some 17, none, .call 112 [(.tmp 16)]⟩]
abbrev R75_5 : List LOper := [⟨some 6, none, .pv (.move (.const (.int .i64 0)))⟩]
abbrev R75_6 : List LOper := [⟨some 19, none, .pv (.move (.tmp 0))⟩, ⟨some 20, none, .call 113 [(.tmp 19)]⟩, ⟨some 18, none, .pv (.move (.tmp 20))⟩, ⟨some 21, none, .pv (.ext (.tmp 18) 0)⟩, ⟨some 22, none, .pv (.ext (.tmp 18) 1)⟩, ⟨some 23, none, .pv (.ext (.tmp 18) 2)⟩, ⟨some 7, none, .pv (.move (.tmp 21))⟩, ⟨some 8, none, .pv (.move (.tmp 22))⟩, ⟨some 9, none, .pv (.move (.tmp 23))⟩]
abbrev R75_7 : List LOper := [⟨some 24, none, .pv (.move (.tmp 9))⟩, ⟨some 25, none, .pv (.not (.tmp 24))⟩, ⟨some 26, none, .pv (.move (.tmp 25))⟩, ⟨some 27, (some (26, false)), .pv (.move (.tmp 7))⟩, ⟨some 28, (some (26, false)), .pv (.move (.tmp 2))⟩, ⟨some 29, (some (26, false)), .pv (.toInt .u64 (.tmp 28))⟩, ⟨some 30, (some (26, false)), .pv (.bin .gtr (.tmp 27) (.tmp 29))⟩, ⟨some 31, none, .pv (.pick (.tmp 26) (.const (.bool true)) (.tmp 30))⟩, ⟨some 32, none, .pv (.move (.tmp 31))⟩, ⟨some 33, (some (32, false)), .pv (.move (.tmp 7))⟩, ⟨some 34, (some (32, false)), .pv (.move (.tmp 1))⟩, ⟨some 35, (some (32, false)), .pv (.toInt .u64 (.tmp 34))⟩, ⟨some 36, (some (32, false)), .pv (.bin .lss (.tmp 33) (.tmp 35))⟩, ⟨some 37, none, .pv (.pick (.tmp 32) (.const (.bool true)) (.tmp 36))⟩]
abbrev R75_8 : List LOper := [⟨some 38, none, .pv (.move (.tmp 0))⟩, ⟨some 39, none, .pv (.nilck (.tmp 38))⟩, ⟨some 40, none, .pv (.off (.tmp 39) 2)⟩, ⟨none, none, .store 1 (.tmp 40) (.const (.bool true))⟩]
abbrev R75_9 : List LOper := [⟨some 6, none, .pv (.move (.const (.int .i64 0)))⟩]
abbrev R75_10 : List LOper := [⟨some 41, none, .pv (.move (.tmp 0))⟩, ⟨some 42, none, .pv (.move (.tmp 0))⟩, ⟨some 43, none, .pv (.nilck (.tmp 42))⟩, ⟨some 44, none, .pv (.off (.tmp 43) 1)⟩, ⟨some 45, none, .load (.tmp 44)⟩, ⟨some 46, none, .pv (.move (.tmp 8))⟩, ⟨some 47, none, .pv (.bin .add (.tmp 45) (.tmp 46))⟩, ⟨some 48, none, .pv (.nilck (.tmp 41))⟩, ⟨some 49, none, .pv (.off (.tmp 48) 1)⟩, ⟨none, none, .store 1 (.tmp 49) (.tmp 47)⟩]
abbrev R75_11 : List LOper := [⟨some 50, none, .pv (.move (.tmp 7))⟩, ⟨some 51, none, .pv (.toInt .i64 (.tmp 50))⟩, ⟨some 6, none, .pv (.move (.tmp 51))⟩]
abbrev L75 : LFun := ⟨52, [(.tmp 6)], (.seq (.reg R75_0) (.seq (.seq (.reg R75_1) (.cond (.tmp 13) (.seq (.reg R75_2) .ret) .skip)) (.seq (.seq (.reg R75_3) (.cond (.tmp 15) (.seq (.reg R75_4) (.seq (.reg R75_5) .ret)) .skip)) (.seq (.reg R75_6) (.seq (.seq (.reg R75_7) (.cond (.tmp 37) (.seq (.reg R75_8) (.seq (.reg R75_9) .ret)) .skip)) (.seq (.reg R75_10) (.seq (.reg R75_11) .ret)))))))⟩
theorem low75 : lowFn Try.prog Try.f75 = some L75 := by kernel_rfl
abbrev R85_0 : List LOper := [⟨some 2, none, .pv (.move (.const (.int .i64 0)))⟩]
abbrev R85_1 : List LOper := [⟨some 6, none, .pv (.move (.tmp 0))⟩, ⟨some 7, none, .pv (.nilck (.tmp 6))⟩, ⟨some 8, none, .pv (.off (.tmp 7) 2)⟩, ⟨some 9, none, .load (.tmp 8)⟩]
abbrev R85_2 : List LOper := [⟨some 2, none, .pv (.move (.const (.int .i64 0)))⟩]
abbrev R85_3 : List LOper := [⟨some 10, none, .pv (.move (.tmp 0))⟩, ⟨some 11, none, .call 111 [(.tmp 10)]⟩]
abbrev R85_4 : List LOper := [⟨some 12, none, .pv (.move (.tmp 0))⟩, ⟨some 13, none, .call 112 [(.tmp 12)]⟩]
abbrev R85_5 : List LOper := [⟨some 2, none, .pv (.move (.const (.int .i64 0)))⟩]
abbrev R85_6 : List LOper := [⟨some 15, none, .pv (.move (.tmp 0))⟩, ⟨some 16, none, .call 113 [(.tmp 15)]⟩, ⟨some 14, none, .pv (.move (.tmp 16))⟩, ⟨some 17, none, .pv (.ext (.tmp 14) 0)⟩, ⟨some 18, none, .pv (.ext (.tmp 14) 1)⟩, ⟨some 19, none, .pv (.ext (.tmp 14) 2)⟩, ⟨some 3, none, .pv (.move (.tmp 17))⟩, ⟨some 4, none, .pv (.move (.tmp 18))⟩, ⟨some 5, none, .pv (.move (.tmp 19))⟩]
abbrev R85_7 : List LOper := [⟨some 20, none, .pv (.move (.tmp 5))⟩, ⟨some 21, none, .pv (.not (.tmp 20))⟩]
abbrev R85_8 : List LOper := [⟨some 22, none, .pv (.move (.tmp 0))⟩, ⟨some 23, none, .pv (.nilck (.tmp 22))⟩, ⟨some 24, none, .pv (.off (.tmp 23) 2)⟩, ⟨none, none, .store 1 (.tmp 24) (.const (.bool true))⟩]
abbrev R85_9 : List LOper := [⟨some 2, none, .pv (.move (.const (.int .i64 0)))⟩]
abbrev R85_10 : List LOper := [⟨some 25, none, .pv (.move (.tmp 0))⟩, ⟨some 26, none, .pv (.move (.tmp 0))⟩, ⟨some 27, none, .pv (.nilck (.tmp 26))⟩, ⟨some 28, none, .pv (.off (.tmp 27) 1)⟩, ⟨some 29, none, .load (.tmp 28)⟩, ⟨some 30, none, .pv (.move (.tmp 4))⟩, ⟨some 31, none, .pv (.bin .add (.tmp 29) (.tmp 30))⟩, ⟨some 32, none, .pv (.nilck (.tmp 25))⟩, ⟨some 33, none, .pv (.off (.tmp 32) 1)⟩, ⟨none, none, .store 1 (.tmp 33) (.tmp 31)⟩]
abbrev R85_11 : List LOper := [⟨some 34, none, .pv (.move (.tmp 3))⟩, ⟨some 35, none, .pv (.bin .rem (.tmp 34) (.const (.int .u64 2)))⟩, ⟨some 36, none, .pv (.bin .eql (.tmp 35) (.const (.int .u64 0)))⟩]
abbrev R85_12 : List LOper := [⟨some 37, none, .pv (.move (.tmp 3))⟩, ⟨some 38, none, .pv (.bin .quo (.tmp 37) (.const (.int .u64 2)))⟩, ⟨some 39, none, .pv (.toInt .i64 (.tmp 38))⟩, ⟨some 2, none, .pv (.move (.tmp 39))⟩]
abbrev R85_13 : List LOper := [⟨some 40, none, .pv (.move (.tmp 3))⟩, ⟨some 41, none, .pv (.bin .quo (.tmp 40) (.const (.int .u64 2)))⟩, ⟨some 42, none, .pv (.toInt .i64 (.tmp 41))⟩, ⟨some 43, none, .raw 3 (.unOp .neg 3 (.tmp 42))⟩, ⟨some 44, none, .pv (.bin .sub (.tmp 43) (.const (.int .i64 1)))⟩, ⟨some 2, none, .pv (.move (.tmp 44))⟩]
abbrev L85 : LFun := ⟨45, [(.tmp 2)], (.seq (.reg R85_0) (.seq (.seq (.reg R85_1) (.cond (.tmp 9) (.seq (.reg R85_2) .ret) .skip)) (.seq (.seq (.reg R85_3) (.cond (.tmp 11) (.seq (.reg R85_4) (.seq (.reg R85_5) .ret)) .skip)) (.seq (.reg R85_6) (.seq (.seq (.reg R85_7) (.cond (.tmp 21) (.seq (.reg R85_8) (.seq (.reg R85_9) .ret)) .skip)) (.seq (.reg R85_10) (.seq (.seq (.reg R85_11) (.cond (.tmp 36) (.seq (.reg R85_12) .ret) .skip)) (.seq (.reg R85_13) .ret))))))))⟩
theorem low85 : lowFn Try.prog Try.f85 = some L85 := by kernel_rfl

/-- One field: the reader goes from s to s', and tells y. -/
def stepS {α : Type} (rd : Nat → Except Nat (α × Nat)) (s : Except Nat Nat) (y : α) (s' : Except Nat Nat) : Prop :=
  match s with
  | .error p => s' = .error p
  | .ok a => match rd a with
    | .ok (y', a') => y = y' ∧ s' = .ok a'
    | .error p => s' = .error p
def okS (l : List UInt8) : Except Nat Nat → Prop
  | .ok a => a ≤ l.length
  | .error _ => True
theorem stepS_bind {α β : Type} {rd1 : Nat → Except Nat (α × Nat)} {rd2 : α → Nat → Except Nat (β × Nat)} {s s1 s2 : Except Nat Nat} {y1 : α} {y2 : β} (h1 : stepS rd1 s y1 s1) (h2 : stepS (rd2 y1) s1 y2 s2) : stepS (fun a => bindR (rd1 a) fun y a' => rd2 y a') s y2 s2 := by
  cases s with
  | error p =>
    simp only [stepS] at h1
    subst h1
    exact h2
  | ok a =>
    simp only [stepS] at h1 ⊢
    cases hx : rd1 a with
    | error p =>
      rw [hx] at h1
      simp only at h1
      subst h1
      rw [bindR_err rfl]
      exact h2
    | ok r =>
      obtain ⟨y, a'⟩ := r
      rw [hx] at h1
      obtain ⟨rfl, rfl⟩ := h1
      rw [bindR_ok rfl]
      exact h2
theorem stepS_ret {α : Type} {y : α} {s : Except Nat Nat} : stepS (fun a => .ok (y, a)) s y s := by
  cases s with
  | error p => rfl
  | ok a => exact ⟨rfl, rfl⟩
theorem stepS_err {α : Type} {rd : Nat → Except Nat (α × Nat)} {p : Nat} {y : α} {s' : Except Nat Nat} (h : stepS rd (.error p) y s') : s' = .error p := h
theorem stepS_ok {α : Type} {rd : Nat → Except Nat (α × Nat)} {s : Except Nat Nat} {y : α} {a' : Nat} (h : stepS rd s y (.ok a')) : ∃ a, s = .ok a ∧ rd a = .ok (y, a') := by
  cases s with
  | error p => cases h
  | ok a =>
    simp only [stepS] at h
    refine ⟨a, rfl, ?_⟩
    split at h
    · rename_i y' a'' hx
      obtain ⟨rfl, h2⟩ := h
      injection h2 with h2
      rw [hx, h2]
    · cases h
structure RsA (g : Nat) (s : Except Nat Nat) (l : List UInt8) (dv : Value) (w : World) : Prop where
  at_ : At w [(g, Blk 123 (RC dv s))]
  rd : Reads w [g] 1 dv l.length (l.map b8)
  ok : okS l s
def FldR {α : Type} (g : Nat) (dv : Value) (l : List UInt8) (rd : Nat → Except Nat (α × Nat)) (val : α → Value) (s : Except Nat Nat) (u : Value) (O' : Blks) : Prop :=
  ∃ y s', u = val y ∧ O' = [(g, Blk 123 (RC dv s'))] ∧ stepS rd s y s' ∧ okS l s'
theorem rsA {w0 w : World} {K : List Nat} {F : Blks} {g : Nat} {s : Except Nat Nat} {l : List UInt8} {dv : Value} (hS : St w0 K w ((g, Blk 123 (RC dv s)) :: F)) (hR : Reads w0 K 1 dv l.length (l.map b8)) (hs : okS l s) : RsA g s l dv w :=
  ⟨(hS.sub (List.Sublist.cons_cons _ (List.nil_sublist _))).at, hS.reads (Oc := [(g, Blk 123 (RC dv s))]) hR (by intro q hq; rw [List.mem_singleton.1 hq]; exact List.mem_cons_self), hs⟩
section
variable {P : Program} {p : Chain → World → Prop} {Q : Exit → Env → World → Prop} {e : Env} {w0 w : World} {K : List Nat} {F : Blks} {d : Nat} {ops : List LOper} {α : Type}
theorem WL_fld {f : FuncId} {args : List Operand} {argv : List Value} {g : Nat} {s : Except Nat Nat} {l : List UInt8} {dv : Value} {rd : Nat → Except Nat (α × Nat)} {val : α → Value} (hS : St w0 K w ((g, Blk 123 (RC dv s)) :: F)) (ha : args.map (ev e) = argv)
    (hc : Calls P f argv.toArray w (Ret w [g] (FldR g dv l rd val s)))
    (h : ∀ y s' w', stepS rd s y s' → okS l s' → St w0 K w' ((g, Blk 123 (RC dv s')) :: F) → WL P p Q ops (upd e d (val y)) w') : WL P p Q (⟨some d, none, .call f args⟩ :: ops) e w := by
  refine WL_call (Oc := [(g, Blk 123 (RC dv s))]) hS ha hc ?_
  rintro v O' w' ⟨y, s', rfl, rfl, h1, h2⟩ hS'
  exact h y s' w' h1 h2 hS'
end
theorem bigGo_err {l : List UInt8} {fr : Nat} : ∀ (f k n a p : Nat), bigGo l fr f k n a = .error p → p = l.length ∨ p = fr
  | 0, k, n, a, p, h => by
    injection h with h
    exact .inr h.symm
  | f + 1, k, n, a, p, h => by
    rw [bigGo] at h
    split at h
    · injection h with h; exact .inl h.symm
    · dsimp only at h
      split at h
      · split at h
        · cases h
        · injection h with h; exact .inr h.symm
      · split at h
        · injection h with h; exact .inr h.symm
        · exact bigGo_err f _ _ _ p h
theorem rdBig_err {l : List UInt8} {a p : Nat} (h : rdBig l a = .error p) : p = l.length ∨ p = a := bigGo_err _ _ _ _ _ h
set_option maxRecDepth 4000 in
set_option maxHeartbeats 1000000 in
theorem c75 (g lo hi : Nat) (s : Except Nat Nat) (l : List UInt8) (dv : Value) (hhi : hi ≤ 1099511627776) (hlo : lo ≤ hi) (w0 : World) (h : RsA g s l dv w0) :
    Calls Try.prog 75 #[.pointer (some ⟨g, 0, none⟩), .int .i64 (lo : Int), .int .i64 (hi : Int)] w0 (Ret w0 [g] (FldR g dv l (rdNum l lo hi) (fun n => .int .i64 (n : Int)) s)) := by
  obtain ⟨hA, hR, hs⟩ := h
  refine enterF (args := [.pointer (some ⟨g, 0, none⟩), .int .i64 (lo : Int), .int .i64 (hi : Int)]) Try.func75 low75 rfl ?_; have hS := St.init hA; dsimp only [L75, envL, Nat.reduceAdd]
  cases s with
  | error p =>
    simp only [RC] at hS
    repeat' (first | ((with_reducible apply WL_p); (· exact evk)) | ((with_reducible apply WC_true); (· exact evk)) | ((with_reducible apply WC_false); (· exact evk)) | ((with_reducible apply WL_load hS); (· exact evk); (· exact inn); (· rfl)) | (with_reducible first | refine WL_nil ?_ | refine then_normal ?_ | refine blk_normal ?_ | refine WC_seq ?_ | refine WC_reg ?_ | refine WC_block ?_ | refine WC_skip ?_ | refine WC_exit ?_ | refine then_exit ?_ | refine blk_hit ?_ | refine blk_miss (by decide) ?_ | refine WC_ret ?_ | refine then_ret ?_ | refine blk_ret ?_))
    exact ret1 (v := .int .i64 ((0 : Nat) : Int)) hS rfl ⟨0, .error p, rfl, rfl, rfl, trivial⟩
  | ok a =>
    simp only [RC] at hS
    simp only [okS] at hs
    have hfit := hR.fits
    repeat' (first | ((with_reducible apply WL_p); (· exact evk)) | ((with_reducible apply WC_true); (· exact evk)) | ((with_reducible apply WC_false); (· exact evk)) | ((with_reducible apply WL_load hS); (· exact evk); (· exact inn); (· rfl)) | (with_reducible first | refine WL_nil ?_ | refine then_normal ?_ | refine blk_normal ?_ | refine WC_seq ?_ | refine WC_reg ?_ | refine WC_block ?_ | refine WC_skip ?_ | refine WC_exit ?_ | refine then_exit ?_ | refine blk_hit ?_ | refine blk_miss (by decide) ?_ | refine WC_ret ?_ | refine then_ret ?_ | refine blk_ret ?_))
    refine WL_call (Oc := [(g, Blk 123 [dv, .int .i64 (a : Int), .bool false])]) (F := []) hS (by exact evk) (c111 g a l dv _ ⟨hS.at, hS.reads hR (Oc := [(g, Blk 123 [dv, .int .i64 (a : Int), .bool false])]) (by simp), hs⟩) ?_
    clear hS
    rintro u O' w ⟨rfl, rfl⟩ hS
    rw [List.append_nil] at hS
    cases hcut : isCut l.length (rdBig l a) with
    | true =>
      have hx : rdBig l a = .error l.length := by
        unfold isCut at hcut
        split at hcut
        · rename_i p hp; rw [hp]; simp at hcut; rw [hcut]
        · cases hcut
      have hn : rdNum l lo hi a = .error l.length := by rw [rdNum, hx]
      repeat' (first | ((with_reducible apply WL_p); (· exact evk)) | ((with_reducible apply WC_true); (· exact evk)) | ((with_reducible apply WC_false); (· exact evk)) | ((with_reducible apply WL_load hS); (· exact evk); (· exact inn); (· rfl)) | (with_reducible first | refine WL_nil ?_ | refine then_normal ?_ | refine blk_normal ?_ | refine WC_seq ?_ | refine WC_reg ?_ | refine WC_block ?_ | refine WC_skip ?_ | refine WC_exit ?_ | refine then_exit ?_ | refine blk_hit ?_ | refine blk_miss (by decide) ?_ | refine WC_ret ?_ | refine then_ret ?_ | refine blk_ret ?_))
      refine WL_call (Oc := [(g, Blk 123 [dv, .int .i64 (a : Int), .bool false])]) (F := []) hS (by exact evk) (c112 g a _ l dv _ hS.at ?_) ?_
      · obtain ⟨A, c, rfl, _⟩ := hR.slc
        exact ⟨A, c, rfl⟩
      clear hS
      rintro u O' w ⟨rfl, rfl⟩ hS
      rw [List.append_nil] at hS
      repeat' (first | ((with_reducible apply WL_p); (· exact evk)) | ((with_reducible apply WC_true); (· exact evk)) | ((with_reducible apply WC_false); (· exact evk)) | ((with_reducible apply WL_load hS); (· exact evk); (· exact inn); (· rfl)) | (with_reducible first | refine WL_nil ?_ | refine then_normal ?_ | refine blk_normal ?_ | refine WC_seq ?_ | refine WC_reg ?_ | refine WC_block ?_ | refine WC_skip ?_ | refine WC_exit ?_ | refine then_exit ?_ | refine blk_hit ?_ | refine blk_miss (by decide) ?_ | refine WC_ret ?_ | refine then_ret ?_ | refine blk_ret ?_))
      exact ret1 (v := .int .i64 ((0 : Nat) : Int)) hS rfl ⟨0, .error l.length, rfl, rfl, by simp only [stepS, hn], trivial⟩
    | false =>
      repeat' (first | ((with_reducible apply WL_p); (· exact evk)) | ((with_reducible apply WC_true); (· exact evk)) | ((with_reducible apply WC_false); (· exact evk)) | ((with_reducible apply WL_load hS); (· exact evk); (· exact inn); (· rfl)) | (with_reducible first | refine WL_nil ?_ | refine then_normal ?_ | refine blk_normal ?_ | refine WC_seq ?_ | refine WC_reg ?_ | refine WC_block ?_ | refine WC_skip ?_ | refine WC_exit ?_ | refine then_exit ?_ | refine blk_hit ?_ | refine blk_miss (by decide) ?_ | refine WC_ret ?_ | refine then_ret ?_ | refine blk_ret ?_))
      refine WL_call (Oc := [(g, Blk 123 [dv, .int .i64 (a : Int), .bool false])]) (F := []) hS (by exact evk) (c113 g a l dv hcut _ ⟨hS.at, hS.reads hR (Oc := [(g, Blk 123 [dv, .int .i64 (a : Int), .bool false])]) (by simp), hs⟩) ?_
      clear hS
      rintro u O' w ⟨hraw, rfl⟩ hS
      rw [List.append_nil] at hS
      cases hx : rdBig l a with
      | error p =>
        rw [hx] at hraw hcut
        obtain ⟨n, z, rfl⟩ := hraw
        have hp : p = a := by
          rcases rdBig_err hx with h | h
          · simp [isCut, h] at hcut
          · exact h
        subst hp
        have hn : rdNum l lo hi p = .error p := by rw [rdNum, hx]
        repeat' (first | ((with_reducible apply WL_p); (· exact evk)) | ((with_reducible apply WL_do); (· exact evd)) | ((with_reducible apply WL_no); (· exact evd)) | ((with_reducible apply WC_true); (· exact evk)) | ((with_reducible apply WC_false); (· exact evk)) | ((with_reducible apply WL_load hS); (· exact evk); (· exact inn); (· rfl)) | ((with_reducible apply WL_store hS); (· exact evk); (· exact evk); (· first | rfl | assumption | exact RowIs.one (by assumption)); (· exact upp); (· simp); (clear hS; intro w hS; (simp only [List.set_cons_succ, List.set_cons_zero, putList, Nat.zero_add, Nat.reduceAdd] at hS))) | (with_reducible first | refine WL_nil ?_ | refine then_normal ?_ | refine blk_normal ?_ | refine WC_seq ?_ | refine WC_reg ?_ | refine WC_block ?_ | refine WC_skip ?_ | refine WC_exit ?_ | refine then_exit ?_ | refine blk_hit ?_ | refine blk_miss (by decide) ?_ | refine WC_ret ?_ | refine then_ret ?_ | refine blk_ret ?_))
        exact ret1 (v := .int .i64 ((0 : Nat) : Int)) hS rfl ⟨0, .error p, rfl, rfl, by simp only [stepS, hn], trivial⟩
      | ok r =>
        obtain ⟨n, a'⟩ := r
        rw [hx] at hraw
        obtain ⟨z, hz, rfl⟩ := hraw
        have hy := rdBig_ok hs hx
        have hn : rdNum l lo hi a = if n < lo ∨ hi < n then .error a else .ok (n, a') := by rw [rdNum, hx]
        have hz' : z = (a' : Int) - a := by omega
        have ha' := hy.1
        repeat' (first | ((with_reducible apply WL_p); (· exact evk)) | ((with_reducible apply WL_do); (· exact evd)) | ((with_reducible apply WL_no); (· exact evd)) | ((with_reducible apply WC_true); (· exact evk)) | ((with_reducible apply WC_false); (· exact evk)) | ((with_reducible apply WL_load hS); (· exact evk); (· exact inn); (· rfl)) | ((with_reducible apply WL_store hS); (· exact evk); (· exact evk); (· first | rfl | assumption | exact RowIs.one (by assumption)); (· exact upp); (· simp); (clear hS; intro w hS; (simp only [List.set_cons_succ, List.set_cons_zero, putList, Nat.zero_add, Nat.reduceAdd] at hS))) | (with_reducible first | refine WL_nil ?_ | refine then_normal ?_ | refine blk_normal ?_ | refine WC_seq ?_ | refine WC_reg ?_ | refine WC_block ?_ | refine WC_skip ?_ | refine WC_exit ?_ | refine then_exit ?_ | refine blk_hit ?_ | refine blk_miss (by decide) ?_ | refine WC_ret ?_ | refine then_ret ?_ | refine blk_ret ?_) | (first | ((with_reducible apply WL_split); (· exact evk)) | ((with_reducible apply WC_dec); (· exact evk)) | ((with_reducible apply WL_splitB); (· exact evk)) | ((with_reducible apply WC_bool); (· exact evk)) | ((with_reducible intro hh) <;> (try (exfalso; omega)))))
        all_goals (try
          (rw [if_pos (by omega)] at hn
           exact ret1 (v := .int .i64 ((0 : Nat) : Int)) hS rfl ⟨0, .error a, rfl, rfl, by simp only [stepS, hn], trivial⟩))
        all_goals
          (rw [if_neg (by omega)] at hn
           refine ret1 (v := .int .i64 ((n : Nat) : Int)) hS rfl ⟨n, .ok a', rfl, ?_, by simp only [stepS, hn]; exact ⟨trivial, trivial⟩, hy.1⟩
           simp only [RC, ← hz])
end Go.Proofs.Ytohmgkcdjapinaa.Lw
namespace Go.Proofs.Ytohmgkcdjapinaa.Lw
theorem kXj0 {p : Prop} (h : p := by ((simp (disch := omega) only [ev_tmp, ev_const, ev_func, ev_global, upd_app, val_move, val_pick, pickV_true, pickV_false, pickV_bool, val_nilck, nilckV_ptr, val_bin, bin_add, bin_sub, bin_mul, bin_eql, bin_neq, bin_lss, bin_leq, bin_gtr, bin_geq, bin_seql, bin_sneq, bin_slss, bin_sleq, bin_sgtr, bin_sgeq, val_beq, beqV_f, beqV_t, val_seq, val_not, notV_bool, val_toInt, toIntV_int, val_off, offV_ptr, val_len, lenV_slice, val_slen, slenV_S, val_ext, extV_tup, val_ifc, val_fn, List.getElem?_cons_zero, List.getElem?_cons_succ, List.map_cons, List.map_nil, eq_self, Bool.false_eq_true, Bool.not_true, Bool.not_false, Option.map_some, Nat.zero_add, isB_bool, isB_undef, Bool.true_beq, Bool.false_beq, beq_self_eq_true, Bool.true_and, Bool.and_true, Bool.false_and, Bool.and_false, Bool.true_or, Bool.or_true, Bool.false_or, Bool.or_false, not_dec, and_dec, or_dec, seqV_f, seqV_t, ceq_i, ceq_s, ceq_nil, val_bld, bldV, cells_int, cells_bool, cells_S, cells_b8, cells_slice, cells_ptr, cells_agg, List.size_toArray, List.length_cons, List.length_nil, place, List.take_succ_cons, List.take_zero, List.drop_succ_cons, List.drop_zero, List.cons_append, List.nil_append, and_self, and_true, true_and, Nat.reduceLeDiff, List.toList_toArray, wr64, wru64, wru8, Nat.reduceEqDiff, ↓reduceIte, Nat.reduceAdd, e1, e2]) <;> rfl)) : p := h
theorem kXj1 {p : Prop} (h : p := by ((simp (disch := omega) only [ev_tmp, ev_const, ev_func, ev_global, upd_app, val_move, val_pick, pickV_true, pickV_false, pickV_bool, val_nilck, nilckV_ptr, val_bin, bin_add, bin_sub, bin_mul, bin_eql, bin_neq, bin_lss, bin_leq, bin_gtr, bin_geq, bin_seql, bin_sneq, bin_slss, bin_sleq, bin_sgtr, bin_sgeq, val_beq, beqV_f, beqV_t, val_seq, val_not, notV_bool, val_toInt, toIntV_int, val_off, offV_ptr, val_len, lenV_slice, val_slen, slenV_S, val_ext, extV_tup, val_ifc, val_fn, List.getElem?_cons_zero, List.getElem?_cons_succ, List.map_cons, List.map_nil, eq_self, Bool.false_eq_true, Bool.not_true, Bool.not_false, Option.map_some, Nat.zero_add, isB_bool, isB_undef, Bool.true_beq, Bool.false_beq, beq_self_eq_true, Bool.true_and, Bool.and_true, Bool.false_and, Bool.and_false, Bool.true_or, Bool.or_true, Bool.false_or, Bool.or_false, not_dec, and_dec, or_dec, seqV_f, seqV_t, ceq_i, ceq_s, ceq_nil, val_bld, bldV, cells_int, cells_bool, cells_S, cells_b8, cells_slice, cells_ptr, cells_agg, List.size_toArray, List.length_cons, List.length_nil, place, List.take_succ_cons, List.take_zero, List.drop_succ_cons, List.drop_zero, List.cons_append, List.nil_append, and_self, and_true, true_and, Nat.reduceLeDiff, List.toList_toArray, wr64, wru64, wru8, Nat.reduceEqDiff, ↓reduceIte, Nat.reduceAdd, d1]) <;> rfl)) : p := h
theorem kXj2 {p : Prop} (h : p := by ((simp (disch := omega) only [ev_tmp, ev_const, ev_func, ev_global, upd_app, val_move, val_pick, pickV_true, pickV_false, pickV_bool, val_nilck, nilckV_ptr, val_bin, bin_add, bin_sub, bin_mul, bin_eql, bin_neq, bin_lss, bin_leq, bin_gtr, bin_geq, bin_seql, bin_sneq, bin_slss, bin_sleq, bin_sgtr, bin_sgeq, val_beq, beqV_f, beqV_t, val_seq, val_not, notV_bool, val_toInt, toIntV_int, val_off, offV_ptr, val_len, lenV_slice, val_slen, slenV_S, val_ext, extV_tup, val_ifc, val_fn, List.getElem?_cons_zero, List.getElem?_cons_succ, List.map_cons, List.map_nil, eq_self, Bool.false_eq_true, Bool.not_true, Bool.not_false, Option.map_some, Nat.zero_add, isB_bool, isB_undef, Bool.true_beq, Bool.false_beq, beq_self_eq_true, Bool.true_and, Bool.and_true, Bool.false_and, Bool.and_false, Bool.true_or, Bool.or_true, Bool.false_or, Bool.or_false, not_dec, and_dec, or_dec, seqV_f, seqV_t, ceq_i, ceq_s, ceq_nil, val_bld, bldV, cells_int, cells_bool, cells_S, cells_b8, cells_slice, cells_ptr, cells_agg, List.size_toArray, List.length_cons, List.length_nil, place, List.take_succ_cons, List.take_zero, List.drop_succ_cons, List.drop_zero, List.cons_append, List.nil_append, and_self, and_true, true_and, Nat.reduceLeDiff, List.toList_toArray, wr64, wru64, wru8, Nat.reduceEqDiff, ↓reduceIte, Nat.reduceAdd, d1, d2]) <;> rfl)) : p := h
abbrev R76_0 : List LOper := [⟨some 4, none, .pv (.move (.const (.slice none 0 0)))⟩]
abbrev R76_1 : List LOper := [⟨some 6, none, .pv (.move (.tmp 0))⟩, ⟨some 7, none, .pv (.nilck (.tmp 6))⟩, ⟨some 8, none, .pv (.off (.tmp 7) 2)⟩, ⟨some 9, none, .load (.tmp 8)⟩]
abbrev R76_2 : List LOper := [⟨some 4, none, .pv (.move (.const (.slice none 0 0)))⟩]
abbrev R76_3 : List LOper := [⟨some 22, none, .pv (.move (.tmp 0))⟩, ⟨some 23, none, .call 112 [(.tmp 22)]⟩]
abbrev R76_4 : List LOper := [⟨some 4, none, .pv (.move (.const (.slice none 0 0)))⟩]
abbrev R76_5 : List LOper := [⟨some 39, none, .pv (.move (.tmp 0))⟩, ⟨some 40, none, .pv (.move (.tmp 0))⟩, ⟨some 41, none, .pv (.nilck (.tmp 40))⟩, ⟨some 42, none, .pv (.off (.tmp 41) 1)⟩, ⟨some 43, none, .load (.tmp 42)⟩, ⟨some 44, none, .pv (.move (.tmp 1))⟩, ⟨some 45, none, .pv (.bin .add (.tmp 43) (.tmp 44))⟩, ⟨some 46, none, .pv (.nilck (.tmp 39))⟩, ⟨some 47, none, .pv (.off (.tmp 46) 1)⟩, ⟨none, none, .store 1 (.tmp 47) (.tmp 45)⟩]
abbrev R76_6 : List LOper := [⟨some 48, none, .pv (.move (.tmp 5))⟩, ⟨some 4, none, .pv (.move (.tmp 48))⟩]
abbrev L76 : LFun := ⟨49, [(.tmp 4)], (.seq (.reg R76_0) (.seq (.seq (.reg R76_1) (.cond (.tmp 9) (.seq (.reg R76_2) .ret) .skip)) (.seq (.seq (.dreg (.still ⟨some 10, none, .pv (.move (.tmp 0))⟩ (.still ⟨some 11, none, .pv (.nilck (.tmp 10))⟩ (.still ⟨some 12, none, .pv (.off (.tmp 11) 0)⟩ (.still ⟨some 13, none, .load (.tmp 12)⟩ (.still ⟨some 14, none, .pv (.len (.tmp 13))⟩ (.still ⟨some 15, none, .pv (.move (.tmp 0))⟩ (.still ⟨some 16, none, .pv (.nilck (.tmp 15))⟩ (.still ⟨some 17, none, .pv (.off (.tmp 16) 1)⟩ (.still ⟨some 18, none, .load (.tmp 17)⟩ (.still ⟨some 19, none, .pv (.bin .sub (.tmp 14) (.tmp 18))⟩ (.still ⟨some 20, none, .pv (.move (.tmp 1))⟩ (.still ⟨some 21, none, .pv (.bin .lss (.tmp 19) (.tmp 20))⟩ .nil))))))))))))) (.cond (.tmp 21) (.seq (.reg R76_3) (.seq (.reg R76_4) .ret)) .skip)) (.seq (.dreg (.still ⟨some 24, none, .pv (.move (.tmp 0))⟩ (.still ⟨some 25, none, .pv (.nilck (.tmp 24))⟩ (.still ⟨some 26, none, .pv (.off (.tmp 25) 0)⟩ (.still ⟨some 27, none, .load (.tmp 26)⟩ (.still ⟨some 28, none, .pv (.move (.tmp 0))⟩ (.still ⟨some 29, none, .pv (.nilck (.tmp 28))⟩ (.still ⟨some 30, none, .pv (.off (.tmp 29) 1)⟩ (.still ⟨some 31, none, .load (.tmp 30)⟩ (.still ⟨some 32, none, .pv (.move (.tmp 0))⟩ (.still ⟨some 33, none, .pv (.nilck (.tmp 32))⟩ (.still ⟨some 34, none, .pv (.off (.tmp 33) 1)⟩ (.still ⟨some 35, none, .load (.tmp 34)⟩ (.still ⟨some 36, none, .pv (.move (.tmp 1))⟩ (.still ⟨some 37, none, .pv (.bin .add (.tmp 35) (.tmp 36))⟩ (.still ⟨some 38, none, .pv (.slc 1 (.tmp 27) (some (.tmp 31)) (some (.tmp 37)))⟩ (.still ⟨some 5, none, .pv (.move (.tmp 38))⟩ .nil))))))))))))))))) (.seq (.reg R76_5) (.seq (.reg R76_6) .ret))))))⟩
theorem low76 : lowFn Try.prog Try.f76 = some L76 := by kernel_rfl
abbrev R106_0 : List LOper := [⟨some 4, none, .pv (.move (.const (S [])))⟩]
abbrev R106_1 : List LOper := [⟨some 7, none, .pv (.move (.tmp 0))⟩, ⟨some 8, none, .call 75 [(.tmp 7), (.const (.int .i64 1)), (.const (.int .i64 16))]⟩, ⟨some 5, none, .pv (.move (.tmp 8))⟩]
abbrev R106_2 : List LOper := [⟨some 9, none, .pv (.move (.tmp 0))⟩, ⟨some 10, none, .pv (.move (.tmp 5))⟩, ⟨some 11, none, .call 76 [(.tmp 9), (.tmp 10)]⟩, ⟨some 12, none, .raw 9 (.convert 36 9 (.tmp 11))⟩, ⟨some 6, none, .pv (.move (.tmp 12))⟩]
abbrev R106_3 : List LOper := [⟨some 13, none, .pv (.move (.tmp 0))⟩, ⟨some 14, none, .pv (.nilck (.tmp 13))⟩, ⟨some 15, none, .pv (.off (.tmp 14) 2)⟩, ⟨some 16, none, .load (.tmp 15)⟩, ⟨some 17, none, .pv (.not (.tmp 16))⟩, ⟨some 18, none, .pv (.move (.tmp 17))⟩, ⟨some 19, (some (18, true)), .pv (.move (.tmp 6))⟩, ⟨some 20, (some (18, true)), .call 89 [(.tmp 19)]⟩, ⟨some 21, (some (18, true)), .pv (.not (.tmp 20))⟩, ⟨some 22, (some (18, true)), .pv (.move (.tmp 21))⟩, ⟨some 23, (some (22, false)), .pv (.move (.tmp 1))⟩, ⟨some 24, (some (22, false)), .pv (.bin .neq (.tmp 23) (.const (S [])))⟩, ⟨some 25, (some (22, false)), .pv (.move (.tmp 24))⟩, ⟨some 26, (some (25, true)), .pv (.move (.tmp 6))⟩, ⟨some 27, (some (25, true)), .pv (.move (.tmp 1))⟩, ⟨some 28, (some (25, true)), .pv (.bin .leq (.tmp 26) (.tmp 27))⟩, ⟨some 29, (some (22, false)), .pv (.pick (.tmp 25) (.tmp 28) (.const (.bool false)))⟩, ⟨some 30, (some (18, true)), .pv (.pick (.tmp 22) (.const (.bool true)) (.tmp 29))⟩, ⟨some 31, none, .pv (.pick (.tmp 18) (.tmp 30) (.const (.bool false)))⟩]
abbrev R106_4 : List LOper := [⟨some 32, none, .pv (.move (.tmp 0))⟩, ⟨some 33, none, .pv (.move (.tmp 0))⟩, ⟨some 34, none, .pv (.nilck (.tmp 33))⟩, ⟨some 35, none, .pv (.off (.tmp 34) 1)⟩, ⟨some 36, none, .load (.tmp 35)⟩, ⟨some 37, none, .pv (.move (.tmp 5))⟩, ⟨some 38, none, .pv (.bin .sub (.tmp 36) (.tmp 37))⟩, ⟨some 39, none, .pv (.nilck (.tmp 32))⟩, ⟨some 40, none, .pv (.off (.tmp 39) 1)⟩, ⟨none, none, .store 1 (.tmp 40) (.tmp 38)⟩]
abbrev R106_5 : List LOper := [⟨some 41, none, .pv (.move (.tmp 0))⟩, ⟨some 42, none, .pv (.nilck (.tmp 41))⟩, ⟨some 43, none, .pv (.off (.tmp 42) 2)⟩, ⟨none, none, .store 1 (.tmp 43) (.const (.bool true))⟩]
abbrev R106_6 : List LOper := [⟨some 44, none, .pv (.move (.tmp 6))⟩, ⟨some 4, none, .pv (.move (.tmp 44))⟩]
abbrev L106 : LFun := ⟨45, [(.tmp 4)], (.seq (.reg R106_0) (.seq (.reg R106_1) (.seq (.reg R106_2) (.seq (.seq (.reg R106_3) (.cond (.tmp 31) (.seq (.reg R106_4) (.reg R106_5)) .skip)) (.seq (.reg R106_6) .ret)))))⟩
theorem low106 : lowFn Try.prog Try.f106 = some L106 := by kernel_rfl

theorem rem2 (n : Nat) : binV .rem (.int .u64 (n : Int)) (.int .u64 2) = some (.int .u64 ((n % 2 : Nat) : Int)) := by
  rw [bin_rem _ _ _ (by decide)]
  congr 2
theorem quo2 (n : Nat) (h : n < 18446744073709551616) : binV .quo (.int .u64 (n : Int)) (.int .u64 2) = some (.int .u64 ((n / 2 : Nat) : Int)) := by
  rw [bin_quo _ _ _ (by decide)]
  congr 2
  rw [show (n : Int).tdiv 2 = ((n / 2 : Nat) : Int) from rfl, wru64 (by omega) (by omega)]
set_option maxRecDepth 4000 in
set_option maxHeartbeats 1000000 in
theorem c85 (g : Nat) (s : Except Nat Nat) (l : List UInt8) (dv : Value) (w0 : World) (h : RsA g s l dv w0) :
    Calls Try.prog 85 #[.pointer (some ⟨g, 0, none⟩)] w0 (Ret w0 [g] (FldR g dv l (rdSigned l) (fun n => .int .i64 n) s)) := by
  obtain ⟨hA, hR, hs⟩ := h
  refine enterF (args := [.pointer (some ⟨g, 0, none⟩)]) Try.func85 low85 rfl ?_; have hS := St.init hA; dsimp only [L85, envL, Nat.reduceAdd]
  cases s with
  | error p =>
    simp only [RC] at hS
    repeat' (first | ((with_reducible apply WL_p); (· exact evk)) | ((with_reducible apply WC_true); (· exact evk)) | ((with_reducible apply WC_false); (· exact evk)) | ((with_reducible apply WL_load hS); (· exact evk); (· exact inn); (· rfl)) | (with_reducible first | refine WL_nil ?_ | refine then_normal ?_ | refine blk_normal ?_ | refine WC_seq ?_ | refine WC_reg ?_ | refine WC_block ?_ | refine WC_skip ?_ | refine WC_exit ?_ | refine then_exit ?_ | refine blk_hit ?_ | refine blk_miss (by decide) ?_ | refine WC_ret ?_ | refine then_ret ?_ | refine blk_ret ?_))
    exact ret1 (v := .int .i64 0) hS rfl ⟨0, .error p, rfl, rfl, rfl, trivial⟩
  | ok a =>
    simp only [RC] at hS
    simp only [okS] at hs
    have hfit := hR.fits
    repeat' (first | ((with_reducible apply WL_p); (· exact evk)) | ((with_reducible apply WC_true); (· exact evk)) | ((with_reducible apply WC_false); (· exact evk)) | ((with_reducible apply WL_load hS); (· exact evk); (· exact inn); (· rfl)) | (with_reducible first | refine WL_nil ?_ | refine then_normal ?_ | refine blk_normal ?_ | refine WC_seq ?_ | refine WC_reg ?_ | refine WC_block ?_ | refine WC_skip ?_ | refine WC_exit ?_ | refine then_exit ?_ | refine blk_hit ?_ | refine blk_miss (by decide) ?_ | refine WC_ret ?_ | refine then_ret ?_ | refine blk_ret ?_))
    refine WL_call (Oc := [(g, Blk 123 [dv, .int .i64 (a : Int), .bool false])]) (F := []) hS (by exact evk) (c111 g a l dv _ ⟨hS.at, hS.reads hR (Oc := [(g, Blk 123 [dv, .int .i64 (a : Int), .bool false])]) (by simp), hs⟩) ?_
    clear hS
    rintro u O' w ⟨rfl, rfl⟩ hS
    rw [List.append_nil] at hS
    cases hcut : isCut l.length (rdBig l a) with
    | true =>
      have hx : rdBig l a = .error l.length := by
        unfold isCut at hcut
        split at hcut
        · rename_i p hp; rw [hp]; simp at hcut; rw [hcut]
        · cases hcut
      have hn : rdSigned l a = .error l.length := bindR_err hx
      repeat' (first | ((with_reducible apply WL_p); (· exact evk)) | ((with_reducible apply WC_true); (· exact evk)) | ((with_reducible apply WC_false); (· exact evk)) | ((with_reducible apply WL_load hS); (· exact evk); (· exact inn); (· rfl)) | (with_reducible first | refine WL_nil ?_ | refine then_normal ?_ | refine blk_normal ?_ | refine WC_seq ?_ | refine WC_reg ?_ | refine WC_block ?_ | refine WC_skip ?_ | refine WC_exit ?_ | refine then_exit ?_ | refine blk_hit ?_ | refine blk_miss (by decide) ?_ | refine WC_ret ?_ | refine then_ret ?_ | refine blk_ret ?_))
      refine WL_call (Oc := [(g, Blk 123 [dv, .int .i64 (a : Int), .bool false])]) (F := []) hS (by exact evk) (c112 g a _ l dv _ hS.at ?_) ?_
      · obtain ⟨A, c, rfl, _⟩ := hR.slc
        exact ⟨A, c, rfl⟩
      clear hS
      rintro u O' w ⟨rfl, rfl⟩ hS
      rw [List.append_nil] at hS
      repeat' (first | ((with_reducible apply WL_p); (· exact evk)) | ((with_reducible apply WC_true); (· exact evk)) | ((with_reducible apply WC_false); (· exact evk)) | ((with_reducible apply WL_load hS); (· exact evk); (· exact inn); (· rfl)) | (with_reducible first | refine WL_nil ?_ | refine then_normal ?_ | refine blk_normal ?_ | refine WC_seq ?_ | refine WC_reg ?_ | refine WC_block ?_ | refine WC_skip ?_ | refine WC_exit ?_ | refine then_exit ?_ | refine blk_hit ?_ | refine blk_miss (by decide) ?_ | refine WC_ret ?_ | refine then_ret ?_ | refine blk_ret ?_))
      exact ret1 (v := .int .i64 0) hS rfl ⟨0, .error l.length, rfl, rfl, by simp only [stepS, hn], trivial⟩
    | false =>
      repeat' (first | ((with_reducible apply WL_p); (· exact evk)) | ((with_reducible apply WC_true); (· exact evk)) | ((with_reducible apply WC_false); (· exact evk)) | ((with_reducible apply WL_load hS); (· exact evk); (· exact inn); (· rfl)) | (with_reducible first | refine WL_nil ?_ | refine then_normal ?_ | refine blk_normal ?_ | refine WC_seq ?_ | refine WC_reg ?_ | refine WC_block ?_ | refine WC_skip ?_ | refine WC_exit ?_ | refine then_exit ?_ | refine blk_hit ?_ | refine blk_miss (by decide) ?_ | refine WC_ret ?_ | refine then_ret ?_ | refine blk_ret ?_))
      refine WL_call (Oc := [(g, Blk 123 [dv, .int .i64 (a : Int), .bool false])]) (F := []) hS (by exact evk) (c113 g a l dv hcut _ ⟨hS.at, hS.reads hR (Oc := [(g, Blk 123 [dv, .int .i64 (a : Int), .bool false])]) (by simp), hs⟩) ?_
      clear hS
      rintro u O' w ⟨hraw, rfl⟩ hS
      rw [List.append_nil] at hS
      cases hx : rdBig l a with
      | error p =>
        rw [hx] at hraw hcut
        obtain ⟨n, z, rfl⟩ := hraw
        have hp : p = a := by
          rcases rdBig_err hx with h | h
          · simp [isCut, h] at hcut
          · exact h
        subst hp
        have hn : rdSigned l p = .error p := bindR_err hx
        repeat' (first | ((with_reducible apply WL_p); (· exact evk)) | ((with_reducible apply WL_do); (· exact evd)) | ((with_reducible apply WL_no); (· exact evd)) | ((with_reducible apply WC_true); (· exact evk)) | ((with_reducible apply WC_false); (· exact evk)) | ((with_reducible apply WL_load hS); (· exact evk); (· exact inn); (· rfl)) | ((with_reducible apply WL_store hS); (· exact evk); (· exact evk); (· first | rfl | assumption | exact RowIs.one (by assumption)); (· exact upp); (· simp); (clear hS; intro w hS; (simp only [List.set_cons_succ, List.set_cons_zero, putList, Nat.zero_add, Nat.reduceAdd] at hS))) | (with_reducible first | refine WL_nil ?_ | refine then_normal ?_ | refine blk_normal ?_ | refine WC_seq ?_ | refine WC_reg ?_ | refine WC_block ?_ | refine WC_skip ?_ | refine WC_exit ?_ | refine then_exit ?_ | refine blk_hit ?_ | refine blk_miss (by decide) ?_ | refine WC_ret ?_ | refine then_ret ?_ | refine blk_ret ?_))
        exact ret1 (v := .int .i64 0) hS rfl ⟨0, .error p, rfl, rfl, by simp only [stepS, hn], trivial⟩
      | ok r =>
        obtain ⟨n, a'⟩ := r
        rw [hx] at hraw
        obtain ⟨z, hz, rfl⟩ := hraw
        have hy := rdBig_ok hs hx
        have hn : rdSigned l a = .ok (unzig n, a') := bindR_ok hx
        have hz' : z = (a' : Int) - a := by omega
        have ha' := hy.1
        have e1 := rem2 n
        have e2 := quo2 n (by omega)
        repeat' (first | ((with_reducible apply WL_p); (· exact kXj0)) | ((with_reducible apply WL_do); (· exact evd)) | ((with_reducible apply WL_no); (· exact evd)) | ((with_reducible apply WC_true); (· exact evk)) | ((with_reducible apply WC_false); (· exact evk)) | ((with_reducible apply WL_load hS); (· exact evk); (· exact inn); (· rfl)) | ((with_reducible apply WL_store hS); (· exact evk); (· exact evk); (· first | rfl | assumption | exact RowIs.one (by assumption)); (· exact upp); (· simp); (clear hS; intro w hS; (simp only [List.set_cons_succ, List.set_cons_zero, putList, Nat.zero_add, Nat.reduceAdd] at hS))) | (with_reducible first | refine WL_nil ?_ | refine then_normal ?_ | refine blk_normal ?_ | refine WC_seq ?_ | refine WC_reg ?_ | refine WC_block ?_ | refine WC_skip ?_ | refine WC_exit ?_ | refine then_exit ?_ | refine blk_hit ?_ | refine blk_miss (by decide) ?_ | refine WC_ret ?_ | refine then_ret ?_ | refine blk_ret ?_) | (first | ((with_reducible apply WL_split); (· exact evk)) | ((with_reducible apply WC_dec); (· exact evk)) | ((with_reducible apply WL_splitB); (· exact evk)) | ((with_reducible apply WC_bool); (· exact evk)) | ((with_reducible intro hh) <;> (try (exfalso; omega)))))
        · refine ret1 (v := .int .i64 (unzig n)) hS ?_ ⟨_, .ok a', rfl, ?_, by simp only [stepS, hn]; exact ⟨trivial, trivial⟩, hy.1⟩
          · simp only [upd_app, Nat.reduceEqDiff, ↓reduceIte]
            congr 1
            unfold unzig; rw [if_pos (by omega)]
          · simp only [RC, ← hz]
        · refine WL_neg (by exact evk) ?_
          repeat' (first | ((with_reducible apply WL_p); (· exact evk)) | (with_reducible first | refine WL_nil ?_ | refine then_normal ?_ | refine blk_normal ?_ | refine WC_seq ?_ | refine WC_reg ?_ | refine WC_block ?_ | refine WC_skip ?_ | refine WC_exit ?_ | refine then_exit ?_ | refine blk_hit ?_ | refine blk_miss (by decide) ?_ | refine WC_ret ?_ | refine then_ret ?_ | refine blk_ret ?_))
          refine ret1 (v := .int .i64 (unzig n)) hS ?_ ⟨_, .ok a', rfl, ?_, by simp only [stepS, hn]; exact ⟨trivial, trivial⟩, hy.1⟩
          · simp only [upd_app, Nat.reduceEqDiff, ↓reduceIte]
            congr 1
            unfold unzig; rw [if_neg (by omega)]
            omega
          · simp only [RC, ← hz]
/-- What take answers: a part of the bytes that are read, or nothing. -/
def TakeR (g : Nat) (dv : Value) (l : List UInt8) (n : Nat) (s : Except Nat Nat) (u : Value) (O' : Blks) : Prop :=
  ∃ y s', O' = [(g, Blk 123 (RC dv s'))] ∧ stepS (rdBytes l n) s y s' ∧ okS l s' ∧ ∀ w K, Reads w K 1 dv l.length (l.map b8) → Reads w K 1 u y.length (y.map b8)
theorem Reads.empty (w : World) (K : List Nat) : Reads w K 1 (.slice none 0 0) ([] : List UInt8).length (([] : List UInt8).map b8) := Reads.nilOf w K 0 none
set_option maxRecDepth 4000 in
set_option maxHeartbeats 1000000 in
theorem c76 (g n : Nat) (s : Except Nat Nat) (l : List UInt8) (dv : Value) (hn : ∀ a, s = .ok a → n ≤ 1099511627776) (hcap : CapOk dv) (w0 : World) (h : RsA g s l dv w0) :
    Calls Try.prog 76 #[.pointer (some ⟨g, 0, none⟩), .int .i64 (n : Int)] w0 (Ret w0 [g] (TakeR g dv l n s)) := by
  obtain ⟨hA, hR, hs⟩ := h
  refine enterF (args := [.pointer (some ⟨g, 0, none⟩), .int .i64 (n : Int)]) Try.func76 low76 rfl ?_; have hS := St.init hA; dsimp only [L76, envL, Nat.reduceAdd]
  cases s with
  | error p =>
    simp only [RC] at hS
    repeat' (first | ((with_reducible apply WL_p); (· exact evk)) | ((with_reducible apply WC_true); (· exact evk)) | ((with_reducible apply WC_false); (· exact evk)) | ((with_reducible apply WL_load hS); (· exact evk); (· exact inn); (· rfl)) | (with_reducible first | refine WL_nil ?_ | refine then_normal ?_ | refine blk_normal ?_ | refine WC_seq ?_ | refine WC_reg ?_ | refine WC_block ?_ | refine WC_skip ?_ | refine WC_exit ?_ | refine then_exit ?_ | refine blk_hit ?_ | refine blk_miss (by decide) ?_ | refine WC_ret ?_ | refine then_ret ?_ | refine blk_ret ?_))
    exact ret1 (v := .slice none 0 0) hS rfl ⟨[], .error p, rfl, rfl, trivial, fun _ _ _ => Reads.empty _ _⟩
  | ok a =>
    simp only [RC] at hS
    simp only [okS] at hs
    have hfit := hR.fits
    have hn := hn a rfl
    obtain ⟨A, n', c, rfl, hcap⟩ := hcap
    obtain ⟨A', c', he, _⟩ := hR.slc
    injection he with h1 h2 h3
    subst h1 h2 h3
    repeat' (first | ((with_reducible apply WL_p); (· exact evk)) | ((with_reducible apply WC_true); (· exact evk)) | ((with_reducible apply WC_false); (· exact evk)) | ((with_reducible apply WL_load hS); (· exact evk); (· exact inn); (· rfl)) | (with_reducible first | refine WL_nil ?_ | refine then_normal ?_ | refine blk_normal ?_ | refine WC_seq ?_ | refine WC_reg ?_ | refine WC_block ?_ | refine WC_skip ?_ | refine WC_exit ?_ | refine then_exit ?_ | refine blk_hit ?_ | refine blk_miss (by decide) ?_ | refine WC_ret ?_ | refine then_ret ?_ | refine blk_ret ?_))
    refine WC_drO hS fun w hS hD => ?_
    repeat' (first | ((with_reducible apply WD_p hD); (· exact evk)) | ((with_reducible apply WD_do hD); (· exact evd)) | ((with_reducible apply WD_no hD); (· exact evd)) | ((with_reducible apply WDe_do); (· exact evd)) | ((with_reducible apply WDe_no hD); (· exact evd)) | ((with_reducible apply WD_load hD); (· exact evk); (· exact inn); (· rfl)) | ((with_reducible apply WD_loadN hD); (· exact evk); (· exact inn); (· ((simp only [List.drop_succ_cons, List.drop_zero, List.take_succ_cons, List.take_zero]) <;> rfl)); (· rfl)) | ((with_reducible apply WD_go); (· exact hS.sh (by repeat (first | exact AllIn.nil | (apply AllIn.cons; (· exact inn))))); (clear hD; intro hD)) | (with_reducible apply WD_nil) | (with_reducible apply WD_eff))
    by_cases hlt : l.length - a < n
    · have hb : rdBytes l n a = .error l.length := by rw [rdBytes, if_pos hlt]
      repeat' (first | ((with_reducible apply WL_p); (· exact evk)) | (with_reducible first | refine WL_nil ?_ | refine then_normal ?_ | refine blk_normal ?_ | refine WC_seq ?_ | refine WC_reg ?_ | refine WC_block ?_ | refine WC_skip ?_ | refine WC_exit ?_ | refine then_exit ?_ | refine blk_hit ?_ | refine blk_miss (by decide) ?_ | refine WC_ret ?_ | refine then_ret ?_ | refine blk_ret ?_) | (first | ((with_reducible apply WL_split); (· exact evk)) | ((with_reducible apply WC_dec); (· exact evk)) | ((with_reducible apply WL_splitB); (· exact evk)) | ((with_reducible apply WC_bool); (· exact evk)) | ((with_reducible intro hh) <;> (try (exfalso; omega)))))
      refine WL_call (Oc := [(g, Blk 123 [.slice A l.length c, .int .i64 (a : Int), .bool false])]) (F := []) hS (by exact evk) (c112 g a _ l _ _ hS.at ⟨A, c, rfl⟩) ?_
      clear hS
      rintro u O' w ⟨rfl, rfl⟩ hS
      rw [List.append_nil] at hS
      repeat' (first | ((with_reducible apply WL_p); (· exact evk)) | ((with_reducible apply WC_true); (· exact evk)) | ((with_reducible apply WC_false); (· exact evk)) | ((with_reducible apply WL_load hS); (· exact evk); (· exact inn); (· rfl)) | (with_reducible first | refine WL_nil ?_ | refine then_normal ?_ | refine blk_normal ?_ | refine WC_seq ?_ | refine WC_reg ?_ | refine WC_block ?_ | refine WC_skip ?_ | refine WC_exit ?_ | refine then_exit ?_ | refine blk_hit ?_ | refine blk_miss (by decide) ?_ | refine WC_ret ?_ | refine then_ret ?_ | refine blk_ret ?_))
      exact ret1 (v := .slice none 0 0) hS rfl ⟨[], .error l.length, rfl, by simp only [stepS, hb], trivial, fun _ _ _ => Reads.empty _ _⟩
    · have hb : rdBytes l n a = .ok ((l.drop a).take n, a + n) := by rw [rdBytes, if_neg hlt]
      have hlen : ((l.drop a).take n).length = n := by rw [List.length_take, List.length_drop]; omega
      repeat' (first | ((with_reducible apply WL_p); (· exact evk)) | (with_reducible first | refine WL_nil ?_ | refine then_normal ?_ | refine blk_normal ?_ | refine WC_seq ?_ | refine WC_reg ?_ | refine WC_block ?_ | refine WC_skip ?_ | refine WC_exit ?_ | refine then_exit ?_ | refine blk_hit ?_ | refine blk_miss (by decide) ?_ | refine WC_ret ?_ | refine then_ret ?_ | refine blk_ret ?_) | (first | ((with_reducible apply WL_split); (· exact evk)) | ((with_reducible apply WC_dec); (· exact evk)) | ((with_reducible apply WL_splitB); (· exact evk)) | ((with_reducible apply WC_bool); (· exact evk)) | ((with_reducible intro hh) <;> (try (exfalso; omega)))))
      refine WC_drO hS fun w hS hD => ?_
      repeat' (first | ((with_reducible apply WD_p hD); (· exact evk)) | ((with_reducible apply WD_do hD); (· exact evd)) | ((with_reducible apply WD_no hD); (· exact evd)) | ((with_reducible apply WDe_do); (· exact evd)) | ((with_reducible apply WDe_no hD); (· exact evd)) | ((with_reducible apply WD_load hD); (· exact evk); (· exact inn); (· rfl)) | ((with_reducible apply WD_loadN hD); (· exact evk); (· exact inn); (· ((simp only [List.drop_succ_cons, List.drop_zero, List.take_succ_cons, List.take_zero]) <;> rfl)); (· rfl)) | ((with_reducible apply WD_go); (· exact hS.sh (by repeat (first | exact AllIn.nil | (apply AllIn.cons; (· exact inn))))); (clear hD; intro hD)) | (with_reducible apply WD_nil) | (with_reducible apply WD_eff))
      refine WD_p hD (slc_val (lo := a) (m := n) evk evk evk (by omega)) ?_
      repeat' (first | ((with_reducible apply WD_p hD); (· exact evk)) | ((with_reducible apply WD_do hD); (· exact evd)) | ((with_reducible apply WD_no hD); (· exact evd)) | ((with_reducible apply WDe_do); (· exact evd)) | ((with_reducible apply WDe_no hD); (· exact evd)) | ((with_reducible apply WD_load hD); (· exact evk); (· exact inn); (· rfl)) | ((with_reducible apply WD_loadN hD); (· exact evk); (· exact inn); (· ((simp only [List.drop_succ_cons, List.drop_zero, List.take_succ_cons, List.take_zero]) <;> rfl)); (· rfl)) | ((with_reducible apply WD_go); (· exact hS.sh (by repeat (first | exact AllIn.nil | (apply AllIn.cons; (· exact inn))))); (clear hD; intro hD)) | (with_reducible apply WD_nil) | (with_reducible apply WD_eff))
      repeat' (first | ((with_reducible apply WL_p); (· exact evk)) | ((with_reducible apply WL_load hS); (· exact evk); (· exact inn); (· rfl)) | ((with_reducible apply WL_store hS); (· exact evk); (· exact evk); (· first | rfl | assumption | exact RowIs.one (by assumption)); (· exact upp); (· simp); (clear hS; intro w hS; (simp only [List.set_cons_succ, List.set_cons_zero, putList, Nat.zero_add, Nat.reduceAdd] at hS))) | (with_reducible first | refine WL_nil ?_ | refine then_normal ?_ | refine blk_normal ?_ | refine WC_seq ?_ | refine WC_reg ?_ | refine WC_block ?_ | refine WC_skip ?_ | refine WC_exit ?_ | refine then_exit ?_ | refine blk_hit ?_ | refine blk_miss (by decide) ?_ | refine WC_ret ?_ | refine then_ret ?_ | refine blk_ret ?_))
      refine ret1 (v := subV A c a n) hS rfl ⟨(l.drop a).take n, .ok (a + n), ?_, by simp only [stepS, hb]; exact ⟨trivial, trivial⟩, (by show a + n ≤ l.length; omega), fun w K h => ?_⟩
      · simp only [RC]; rfl
      · rw [hlen]; exact h.sub8 hcap (by omega)
theorem stepS_fail {α β : Type} {rd1 : Nat → Except Nat (α × Nat)} {f : α → Nat → Except Nat (β × Nat)} {s : Except Nat Nat} {y : α} {z : β} {p : Nat} (h1 : stepS rd1 s y (.error p)) (hp : ∀ a, s = .ok a → rd1 a = .error p) : stepS (fun a => bindR (rd1 a) f) s z (.error p) := by
  cases s with
  | error q => exact h1
  | ok a => simp only [stepS, bindR_err (hp a rfl)]
theorem stepS_errOf {α : Type} {rd : Nat → Except Nat (α × Nat)} {a p : Nat} {y : α} (h : stepS rd (.ok a) y (.error p)) : rd a = .error p := by
  simp only [stepS] at h
  split at h
  · cases h.2
  · rename_i q hq
    injection h with h
    rw [hq, h]
theorem stepS_bindE {α β : Type} {rd1 : Nat → Except Nat (α × Nat)} {f : α → Nat → Except Nat (β × Nat)} {s : Except Nat Nat} {y : α} {z : β} {p : Nat} (h1 : stepS rd1 s y (.error p)) : stepS (fun a => bindR (rd1 a) f) s z (.error p) :=
  stepS_fail h1 fun a ha => by subst ha; exact stepS_errOf h1
theorem rdBytes_len {l s : List UInt8} {n a a' : Nat} (h : rdBytes l n a = .ok (s, a')) : a' = a + n := by
  unfold rdBytes at h
  split at h
  · cases h
  · injection h with h; injection h with h1 h2; exact h2.symm
set_option maxRecDepth 4000 in
set_option maxHeartbeats 1000000 in
theorem c106 (g : Nat) (above : List UInt8) (s : Except Nat Nat) (l : List UInt8) (dv : Value) (hcap : CapOk dv) (w0 : World) (h : RsA g s l dv w0) :
    Calls Try.prog 106 #[.pointer (some ⟨g, 0, none⟩), Lw.S above] w0 (Ret w0 [g] (FldR g dv l (rdName l above) Lw.S s)) := by
  obtain ⟨hA, hR, hs⟩ := h
  have hfit := hR.fits
  refine enterF (args := [.pointer (some ⟨g, 0, none⟩), Lw.S above]) Try.func106 low106 rfl ?_; have hS := St.init hA; dsimp only [L106, envL, Nat.reduceAdd]
  repeat' (first | ((with_reducible apply WL_p); (· exact evk)) | (with_reducible first | refine WL_nil ?_ | refine then_normal ?_ | refine blk_normal ?_ | refine WC_seq ?_ | refine WC_reg ?_ | refine WC_block ?_ | refine WC_skip ?_ | refine WC_exit ?_ | refine then_exit ?_ | refine blk_hit ?_ | refine blk_miss (by decide) ?_ | refine WC_ret ?_ | refine then_ret ?_ | refine blk_ret ?_))
  refine WL_fld hS (by exact evk) (c75 g 1 16 s l dv (by omega) (by omega) _ (rsA hS hR hs)) ?_
  clear hS
  intro n s1 w h1 hs1 hS
  have hn : ∀ a, s1 = .ok a → n ≤ 1099511627776 := by
    rintro a rfl
    obtain ⟨a0, rfl, h⟩ := stepS_ok h1
    have := rdNum_ok hs h
    omega
  repeat' (first | ((with_reducible apply WL_p); (· exact evk)) | (with_reducible first | refine WL_nil ?_ | refine then_normal ?_ | refine blk_normal ?_ | refine WC_seq ?_ | refine WC_reg ?_ | refine WC_block ?_ | refine WC_skip ?_ | refine WC_exit ?_ | refine then_exit ?_ | refine blk_hit ?_ | refine blk_miss (by decide) ?_ | refine WC_ret ?_ | refine then_ret ?_ | refine blk_ret ?_))
  refine WL_call (Oc := [(g, Blk 123 (RC dv s1))]) (F := []) hS (by exact evk) (c76 g n s1 l dv hn hcap _ (rsA hS hR hs1)) ?_
  clear hS
  rintro u O' w ⟨y, s2, rfl, h2, hs2, hrd⟩ hS
  rw [List.append_nil] at hS
  repeat' (first | ((with_reducible apply WL_p); (· exact evk)) | (with_reducible first | refine WL_nil ?_ | refine then_normal ?_ | refine blk_normal ?_ | refine WC_seq ?_ | refine WC_reg ?_ | refine WC_block ?_ | refine WC_skip ?_ | refine WC_exit ?_ | refine then_exit ?_ | refine blk_hit ?_ | refine blk_miss (by decide) ?_ | refine WC_ret ?_ | refine then_ret ?_ | refine blk_ret ?_))
  refine WL_str (hS.reads0 (hrd _ _ hR)) Try.underlying36 Try.underlying5 Try.underlying9 (by exact evk) ?_
  repeat' (first | ((with_reducible apply WL_p); (· exact evk)) | (with_reducible first | refine WL_nil ?_ | refine then_normal ?_ | refine blk_normal ?_ | refine WC_seq ?_ | refine WC_reg ?_ | refine WC_block ?_ | refine WC_skip ?_ | refine WC_exit ?_ | refine then_exit ?_ | refine blk_hit ?_ | refine blk_miss (by decide) ?_ | refine WC_ret ?_ | refine then_ret ?_ | refine blk_ret ?_))
  cases s2 with
  | error p =>
    simp only [RC] at hS
    repeat' (first | ((with_reducible apply WL_p); (· exact evk)) | ((with_reducible apply WL_do); (· exact evd)) | ((with_reducible apply WL_no); (· exact evd)) | ((with_reducible apply WC_true); (· exact evk)) | ((with_reducible apply WC_false); (· exact evk)) | ((with_reducible apply WL_load hS); (· exact evk); (· exact inn); (· rfl)) | (with_reducible first | refine WL_nil ?_ | refine then_normal ?_ | refine blk_normal ?_ | refine WC_seq ?_ | refine WC_reg ?_ | refine WC_block ?_ | refine WC_skip ?_ | refine WC_exit ?_ | refine then_exit ?_ | refine blk_hit ?_ | refine blk_miss (by decide) ?_ | refine WC_ret ?_ | refine then_ret ?_ | refine blk_ret ?_))
    exact ret1 (v := Lw.S y) hS rfl ⟨y, .error p, rfl, rfl, stepS_bind (rd2 := fun n a1 => bindR (rdBytes l n a1) fun s a2 => if namedB s && aboveB above s then .ok (s, a2) else .error a1) h1 (by
      cases s1 with
      | error q => exact h2
      | ok a => simp only [stepS, bindR_err (stepS_errOf h2)]), trivial⟩
  | ok a2 =>
    simp only [RC] at hS
    obtain ⟨a1, rfl, hb⟩ := stepS_ok h2
    obtain ⟨a0, rfl, hnum⟩ := stepS_ok h1
    have e16 := rdNum_ok hs hnum
    have hl2 := rdBytes_len hb
    subst hl2
    have hyl : y.length ≤ 140737488351232 := by
      have := (hrd _ _ hR).fits
      omega
    have hval : rdName l above a0 = if namedB y && aboveB above y then .ok (y, a1 + n) else .error a1 := (bindR_ok hnum).trans (bindR_ok hb)
    have e1 := fun w => c89 y hyl w
    simp only [okS] at hs2
    cases hnm : namedB y with
    | false =>
      rw [hnm] at e1
      repeat' (first | ((with_reducible apply WL_p); (· exact evk)) | ((with_reducible apply WL_do); (· exact evd)) | ((with_reducible apply WL_no); (· exact evd)) | ((with_reducible apply WC_true); (· exact evk)) | ((with_reducible apply WC_false); (· exact evk)) | ((with_reducible apply WL_load hS); (· exact evk); (· exact inn); (· rfl)) | ((with_reducible apply WL_store hS); (· exact evk); (· exact evk); (· first | rfl | assumption | exact RowIs.one (by assumption)); (· exact upp); (· simp); (clear hS; intro w hS; (simp only [List.set_cons_succ, List.set_cons_zero, putList, Nat.zero_add, Nat.reduceAdd] at hS))) | (with_reducible first | refine WL_nil ?_ | refine then_normal ?_ | refine blk_normal ?_ | refine WC_seq ?_ | refine WC_reg ?_ | refine WC_block ?_ | refine WC_skip ?_ | refine WC_exit ?_ | refine then_exit ?_ | refine blk_hit ?_ | refine blk_miss (by decide) ?_ | refine WC_ret ?_ | refine then_ret ?_ | refine blk_ret ?_) | ((with_reducible apply WL_callq hS); (· exact evk); (· first | exact e1 _); (clear hS; intro w hS)))
      refine ret1 (v := Lw.S y) hS rfl ⟨y, .error a1, rfl, ?_, by simp only [stepS, hval, hnm]; rfl, trivial⟩
      simp only [RC]
      congr 6
      omega
    | true =>
      rw [hnm] at e1 hval
      by_cases hab : above = []
      · have d1 : decide (above ≠ []) = false := by simp [hab]
        repeat' (first | ((with_reducible apply WL_p); (· exact kXj1)) | ((with_reducible apply WL_do); (· exact evd)) | ((with_reducible apply WL_no); (· exact evd)) | ((with_reducible apply WC_true); (· exact evk)) | ((with_reducible apply WC_false); (· exact evk)) | ((with_reducible apply WL_load hS); (· exact evk); (· exact inn); (· rfl)) | ((with_reducible apply WL_store hS); (· exact evk); (· exact evk); (· first | rfl | assumption | exact RowIs.one (by assumption)); (· exact upp); (· simp); (clear hS; intro w hS; (simp only [List.set_cons_succ, List.set_cons_zero, putList, Nat.zero_add, Nat.reduceAdd] at hS))) | (with_reducible first | refine WL_nil ?_ | refine then_normal ?_ | refine blk_normal ?_ | refine WC_seq ?_ | refine WC_reg ?_ | refine WC_block ?_ | refine WC_skip ?_ | refine WC_exit ?_ | refine then_exit ?_ | refine blk_hit ?_ | refine blk_miss (by decide) ?_ | refine WC_ret ?_ | refine then_ret ?_ | refine blk_ret ?_) | ((with_reducible apply WL_callq hS); (· exact evk); (· first | exact e1 _); (clear hS; intro w hS)))
        refine ret1 (v := Lw.S y) hS rfl ⟨y, .ok (a1 + n), rfl, rfl, ?_, hs2⟩
        rw [hab, aboveB_nil hnm] at hval
        simp only [stepS, hab, hval]
        exact ⟨rfl, rfl⟩
      · have d1 : decide (above ≠ []) = true := by simp [hab]
        by_cases hle : Op.bytesLess y above = true ∨ y = above
        · have d2 : decide (Op.bytesLess y above = true ∨ y = above) = true := decide_eq_true hle
          repeat' (first | ((with_reducible apply WL_p); (· exact kXj2)) | ((with_reducible apply WL_do); (· exact evd)) | ((with_reducible apply WL_no); (· exact evd)) | ((with_reducible apply WC_true); (· exact evk)) | ((with_reducible apply WC_false); (· exact evk)) | ((with_reducible apply WL_load hS); (· exact evk); (· exact inn); (· rfl)) | ((with_reducible apply WL_store hS); (· exact evk); (· exact evk); (· first | rfl | assumption | exact RowIs.one (by assumption)); (· exact upp); (· simp); (clear hS; intro w hS; (simp only [List.set_cons_succ, List.set_cons_zero, putList, Nat.zero_add, Nat.reduceAdd] at hS))) | (with_reducible first | refine WL_nil ?_ | refine then_normal ?_ | refine blk_normal ?_ | refine WC_seq ?_ | refine WC_reg ?_ | refine WC_block ?_ | refine WC_skip ?_ | refine WC_exit ?_ | refine then_exit ?_ | refine blk_hit ?_ | refine blk_miss (by decide) ?_ | refine WC_ret ?_ | refine then_ret ?_ | refine blk_ret ?_) | ((with_reducible apply WL_callq hS); (· exact evk); (· first | exact e1 _); (clear hS; intro w hS)))
          refine ret1 (v := Lw.S y) hS rfl ⟨y, .error a1, rfl, ?_, by simp only [stepS, hval, aboveB, hle]; rfl, trivial⟩
          simp only [RC]
          congr 6
          omega
        · have d2 : decide (Op.bytesLess y above = true ∨ y = above) = false := decide_eq_false hle
          repeat' (first | ((with_reducible apply WL_p); (· exact kXj2)) | ((with_reducible apply WL_do); (· exact evd)) | ((with_reducible apply WL_no); (· exact evd)) | ((with_reducible apply WC_true); (· exact evk)) | ((with_reducible apply WC_false); (· exact evk)) | ((with_reducible apply WL_load hS); (· exact evk); (· exact inn); (· rfl)) | ((with_reducible apply WL_store hS); (· exact evk); (· exact evk); (· first | rfl | assumption | exact RowIs.one (by assumption)); (· exact upp); (· simp); (clear hS; intro w hS; (simp only [List.set_cons_succ, List.set_cons_zero, putList, Nat.zero_add, Nat.reduceAdd] at hS))) | (with_reducible first | refine WL_nil ?_ | refine then_normal ?_ | refine blk_normal ?_ | refine WC_seq ?_ | refine WC_reg ?_ | refine WC_block ?_ | refine WC_skip ?_ | refine WC_exit ?_ | refine then_exit ?_ | refine blk_hit ?_ | refine blk_miss (by decide) ?_ | refine WC_ret ?_ | refine then_ret ?_ | refine blk_ret ?_) | ((with_reducible apply WL_callq hS); (· exact evk); (· first | exact e1 _); (clear hS; intro w hS)))
          refine ret1 (v := Lw.S y) hS rfl ⟨y, .ok (a1 + n), rfl, rfl, ?_, hs2⟩
          simp only [stepS, hval, aboveB, hle]
          exact ⟨rfl, rfl⟩
end Go.Proofs.Ytohmgkcdjapinaa.Lw
namespace Go.Proofs.Ytohmgkcdjapinaa.Lw
abbrev R79_0 : List LOper := [⟨some 2, none, .newz 27 [(.int .i64 0), (.int .i64 0)]⟩]
abbrev R79_1 : List LOper := [⟨some 4, none, .pv (.move (.tmp 0))⟩, ⟨some 5, none, .call 75 [(.tmp 4), (.const (.int .i64 0)), (.const (.int .i64 63))]⟩, ⟨some 3, none, .pv (.move (.tmp 5))⟩]
abbrev R79_2 : List LOper := [⟨some 6, none, .pv (.move (.tmp 3))⟩, ⟨some 7, none, .pv (.move (.tmp 0))⟩, ⟨some 8, none, .call 75 [(.tmp 7), (.const (.int .i64 1)), (.const (.int .i64 1099511627776))]⟩, ⟨some 9, none, .pv (.bld [(.int .i64 0), (.int .i64 0)] [(0, (1, (.tmp 6))), (1, (1, (.tmp 8)))])⟩, ⟨none, none, .store 2 (.tmp 2) (.tmp 9)⟩]
abbrev L79 : LFun := ⟨10, [(.cells 2 2)], (.seq (.reg R79_0) (.seq (.reg R79_1) (.seq (.reg R79_2) .ret)))⟩
theorem low79 : lowFn Try.prog Try.f79 = some L79 := by kernel_rfl
abbrev R108_0 : List LOper := [⟨some 2, none, .newz 23 [(.int .i64 0), (.int .i64 0)]⟩]
abbrev R108_1 : List LOper := [⟨some 4, none, .pv (.move (.tmp 0))⟩, ⟨some 5, none, .call 75 [(.tmp 4), (.const (.int .i64 1)), (.const (.int .i64 1099511627776))]⟩, ⟨some 3, none, .pv (.move (.tmp 5))⟩]
abbrev R108_2 : List LOper := [⟨some 6, none, .pv (.move (.tmp 3))⟩, ⟨some 7, none, .pv (.move (.tmp 0))⟩, ⟨some 8, none, .call 75 [(.tmp 7), (.const (.int .i64 0)), (.const (.int .i64 15))]⟩, ⟨some 9, none, .pv (.bld [(.int .i64 0), (.int .i64 0)] [(0, (1, (.tmp 6))), (1, (1, (.tmp 8)))])⟩, ⟨none, none, .store 2 (.tmp 2) (.tmp 9)⟩]
abbrev L108 : LFun := ⟨10, [(.cells 2 2)], (.seq (.reg R108_0) (.seq (.reg R108_1) (.seq (.reg R108_2) .ret)))⟩
theorem low108 : lowFn Try.prog Try.f108 = some L108 := by kernel_rfl
abbrev R109_0 : List LOper := [⟨some 2, none, .newz 25 [(.int .i64 0), (.int .i64 0)]⟩]
abbrev R109_1 : List LOper := [⟨some 4, none, .pv (.move (.tmp 0))⟩, ⟨some 5, none, .call 75 [(.tmp 4), (.const (.int .i64 0)), (.const (.int .i64 1099511627776))]⟩, ⟨some 3, none, .pv (.move (.tmp 5))⟩]
abbrev R109_2 : List LOper := [⟨some 6, none, .pv (.move (.tmp 3))⟩, ⟨some 7, none, .pv (.move (.tmp 0))⟩, ⟨some 8, none, .call 75 [(.tmp 7), (.const (.int .i64 0)), (.const (.int .i64 1099511627776))]⟩, ⟨some 9, none, .pv (.bld [(.int .i64 0), (.int .i64 0)] [(0, (1, (.tmp 6))), (1, (1, (.tmp 8)))])⟩, ⟨none, none, .store 2 (.tmp 2) (.tmp 9)⟩]
abbrev L109 : LFun := ⟨10, [(.cells 2 2)], (.seq (.reg R109_0) (.seq (.reg R109_1) (.seq (.reg R109_2) .ret)))⟩
theorem low109 : lowFn Try.prog Try.f109 = some L109 := by kernel_rfl
abbrev R80_0 : List LOper := [⟨some 2, none, .newz 29 [(.int .i64 0), (S []), (.int .i64 0), (.int .i64 0)]⟩]
abbrev R80_1 : List LOper := [⟨some 4, none, .pv (.move (.tmp 0))⟩, ⟨some 5, none, .call 75 [(.tmp 4), (.const (.int .i64 1)), (.const (.int .i64 11))]⟩, ⟨some 6, none, .pv (.bld [(.int .i64 0), (S []), (.int .i64 0), (.int .i64 0)] [(0, (1, (.tmp 5)))])⟩, ⟨some 3, none, .newz 29 [(.int .i64 0), (S []), (.int .i64 0), (.int .i64 0)]⟩, ⟨none, none, .store 4 (.tmp 3) (.tmp 6)⟩]
abbrev R80_2 : List LOper := [⟨some 7, none, .pv (.move (.tmp 0))⟩, ⟨some 8, none, .call 106 [(.tmp 7), (.const (S []))]⟩, ⟨some 9, none, .pv (.off (.tmp 3) 1)⟩, ⟨none, none, .store 1 (.tmp 9) (.tmp 8)⟩]
abbrev R80_3 : List LOper := [⟨some 10, none, .pv (.move (.tmp 0))⟩, ⟨some 11, none, .call 85 [(.tmp 10)]⟩, ⟨some 12, none, .pv (.off (.tmp 3) 2)⟩, ⟨none, none, .store 1 (.tmp 12) (.tmp 11)⟩]
abbrev R80_4 : List LOper := [⟨some 13, none, .pv (.move (.tmp 0))⟩, ⟨some 14, none, .call 85 [(.tmp 13)]⟩, ⟨some 15, none, .pv (.off (.tmp 3) 3)⟩, ⟨none, none, .store 1 (.tmp 15) (.tmp 14)⟩]
abbrev R80_5 : List LOper := [⟨some 16, none, .loadN 4 (.tmp 3)⟩, ⟨none, none, .store 4 (.tmp 2) (.tmp 16)⟩]
abbrev L80 : LFun := ⟨17, [(.cells 2 4)], (.seq (.reg R80_0) (.seq (.reg R80_1) (.seq (.reg R80_2) (.seq (.reg R80_3) (.seq (.reg R80_4) (.seq (.reg R80_5) .ret))))))⟩
theorem low80 : lowFn Try.prog Try.f80 = some L80 := by kernel_rfl
abbrev R71_0 : List LOper := [⟨some 2, none, .pv (.move (.const (.int .i64 0)))⟩, ⟨some 3, none, .pv (.move (.const (.int .i64 0)))⟩]
abbrev R71_1 : List LOper := [⟨some 20, none, .pv (.move (.tmp 0))⟩, ⟨some 21, none, .pv (.nilck (.tmp 20))⟩, ⟨some 22, none, .pv (.off (.tmp 21) 1)⟩, ⟨some 23, none, .load (.tmp 22)⟩, ⟨some 2, none, .pv (.move (.tmp 23))⟩, ⟨some 3, none, .pv (.move (.const (.int .i64 20)))⟩]
abbrev R71_2 : List LOper := [⟨some 2, none, .pv (.move (.const (.int .i64 0)))⟩, ⟨some 3, none, .pv (.move (.const (.int .i64 0)))⟩]
abbrev L71 : LFun := ⟨24, [(.tmp 2), (.tmp 3)], (.seq (.reg R71_0) (.seq (.seq (.dreg (.still ⟨some 4, none, .pv (.move (.tmp 0))⟩ (.still ⟨some 5, none, .pv (.nilck (.tmp 4))⟩ (.still ⟨some 6, none, .pv (.off (.tmp 5) 2)⟩ (.still ⟨some 7, none, .load (.tmp 6)⟩ (.still ⟨some 8, none, .pv (.move (.tmp 7))⟩ (.still ⟨some 9, (some (8, false)), .pv (.move (.tmp 0))⟩ (.still ⟨some 10, (some (8, false)), .pv (.nilck (.tmp 9))⟩ (.still ⟨some 11, (some (8, false)), .pv (.off (.tmp 10) 1)⟩ (.still ⟨some 12, (some (8, false)), .load (.tmp 11)⟩ (.still ⟨some 13, (some (8, false)), .pv (.move (.tmp 0))⟩ (.still ⟨some 14, (some (8, false)), .pv (.nilck (.tmp 13))⟩ (.still ⟨some 15, (some (8, false)), .pv (.off (.tmp 14) 0)⟩ (.still ⟨some 16, (some (8, false)), .load (.tmp 15)⟩ (.still ⟨some 17, (some (8, false)), .pv (.len (.tmp 16))⟩ (.still ⟨some 18, (some (8, false)), .pv (.bin .lss (.tmp 12) (.tmp 17))⟩ (.still ⟨some 19, none, .pv (.pick (.tmp 8) (.const (.bool true)) (.tmp 18))⟩ .nil))))))))))))))))) (.cond (.tmp 19) (.seq (.reg R71_1) .ret) .skip)) (.seq (.reg R71_2) .ret)))⟩
theorem low71 : lowFn Try.prog Try.f71 = some L71 := by kernel_rfl

theorem stepS_pair {l : List UInt8} {lo1 hi1 lo2 hi2 n m : Nat} {s s1 s2 : Except Nat Nat} (h1 : stepS (rdNum l lo1 hi1) s n s1) (h2 : stepS (rdNum l lo2 hi2) s1 m s2) : stepS (rdPair l lo1 hi1 lo2 hi2) s (n, m) s2 :=
  stepS_bind (rd2 := fun n a' => bindR (rdNum l lo2 hi2 a') fun m a'' => .ok ((n, m), a'')) h1 (stepS_bind (rd2 := fun m a'' => .ok ((n, m), a'')) h2 stepS_ret)
theorem stepS_op {l : List UInt8} {k : Nat} {nm : List UInt8} {a b : Int} {s s1 s2 s3 s4 : Except Nat Nat} (h1 : stepS (rdNum l 1 11) s k s1) (h2 : stepS (rdName l []) s1 nm s2) (h3 : stepS (rdSigned l) s2 a s3) (h4 : stepS (rdSigned l) s3 b s4) : stepS (rdOp l) s (⟨k, nm, a, b⟩ : OpV) s4 :=
  stepS_bind (rd2 := fun (k : Nat) a1 => bindR (rdName l [] a1) fun nm a2 => bindR (rdSigned l a2) fun x a3 => bindR (rdSigned l a3) fun y a4 => .ok ((⟨k, nm, x, y⟩ : OpV), a4)) h1
    (stepS_bind (rd2 := fun nm a2 => bindR (rdSigned l a2) fun x a3 => bindR (rdSigned l a3) fun y a4 => .ok ((⟨k, nm, x, y⟩ : OpV), a4)) h2
      (stepS_bind (rd2 := fun x a3 => bindR (rdSigned l a3) fun y a4 => .ok ((⟨k, nm, x, y⟩ : OpV), a4)) h3 (stepS_bind (rd2 := fun y a4 => .ok ((⟨k, nm, a, y⟩ : OpV), a4)) h4 stepS_ret)))
theorem retc {t n b : Nat} {T : TypeId} {cs : List Value} {R : Value → Blks → Prop} {w0 w : World} {K : List Nat} {O O' : Blks} {e : Env} (hS : St w0 K w O) (hs : O'.Sublist O) (ht : e t = .pointer (some ⟨b, 0, none⟩)) (hm : (b, Blk T cs) ∈ O) (hn : cs.length = n) (h : R (.agg cs.toArray) O') :
    retQ [.cells t n] (Ret w0 K R) .ret e w := by
  refine ⟨[.agg cs.toArray], ⟨⟨_, cs, ht, hn, ?_, rfl⟩, trivial⟩, O', h, hS.sub hs⟩
  have := hS.cells (off := 0) (n := cs.length) hm (by omega)
  simpa using this
theorem c79 (g : Nat) (s : Except Nat Nat) (l : List UInt8) (dv : Value) (w0 : World) (h : RsA g s l dv w0) :
    Calls Try.prog 79 #[.pointer (some ⟨g, 0, none⟩)] w0 (Ret w0 [g] (FldR g dv l (rdPair l 0 63 1 1099511627776) pairV s)) := by
  obtain ⟨hA, hR, hs⟩ := h
  refine enterF (args := [.pointer (some ⟨g, 0, none⟩)]) Try.func79 low79 rfl ?_; have hS := St.init hA; dsimp only [L79, envL, Nat.reduceAdd]
  repeat' (first | ((with_reducible apply WL_p); (· exact evk)) | (with_reducible first | refine WL_nil ?_ | refine then_normal ?_ | refine blk_normal ?_ | refine WC_seq ?_ | refine WC_reg ?_ | refine WC_block ?_ | refine WC_skip ?_ | refine WC_exit ?_ | refine then_exit ?_ | refine blk_hit ?_ | refine blk_miss (by decide) ?_ | refine WC_ret ?_ | refine then_ret ?_ | refine blk_ret ?_) | ((first | (with_reducible apply WL_newz hS) | ((with_reducible apply WL_newv hS); (· exact evk); (· rfl)) | ((with_reducible apply WL_row hS); (· exact evk))); clear hS; intro bq w hS hbq; (try simp only [List.nil_append, List.cons_append, List.append_assoc] at hS)))
  (refine WL_fld hS (by exact evk) (c75 g 0 63 s l dv (by omega) (by omega) _ (rsA hS hR hs)) ?_); clear hS; (intro n s1 w h1 hs1 hS)
  repeat' (first | ((with_reducible apply WL_p); (· exact evk)) | (with_reducible first | refine WL_nil ?_ | refine then_normal ?_ | refine blk_normal ?_ | refine WC_seq ?_ | refine WC_reg ?_ | refine WC_block ?_ | refine WC_skip ?_ | refine WC_exit ?_ | refine then_exit ?_ | refine blk_hit ?_ | refine blk_miss (by decide) ?_ | refine WC_ret ?_ | refine then_ret ?_ | refine blk_ret ?_))
  (refine WL_fld hS (by exact evk) (c75 g 1 1099511627776 s1 l dv (by omega) (by omega) _ (rsA hS hR hs1)) ?_); clear hS; (intro m s2 w h2 hs2 hS)
  repeat' (first | ((with_reducible apply WL_p); (· exact evk)) | (with_reducible first | refine WL_nil ?_ | refine then_normal ?_ | refine blk_normal ?_ | refine WC_seq ?_ | refine WC_reg ?_ | refine WC_block ?_ | refine WC_skip ?_ | refine WC_exit ?_ | refine then_exit ?_ | refine blk_hit ?_ | refine blk_miss (by decide) ?_ | refine WC_ret ?_ | refine then_ret ?_ | refine blk_ret ?_) | ((with_reducible apply WL_load hS); (· exact evk); (· exact inn); (· rfl)) | ((with_reducible apply WL_storeN hS); (· exact evk); (· exact evk); (· rfl); (· simp [Value.oneCell', S]); (· exact upp); (· simp); (clear hS; intro w hS; (simp only [List.set_cons_succ, List.set_cons_zero, putList, Nat.zero_add, Nat.reduceAdd] at hS))))
  exact retc hS (List.Sublist.cons_cons _ (List.nil_sublist _)) rfl inn rfl ⟨(n, m), s2, rfl, rfl, stepS_pair h1 h2, hs2⟩
theorem c108 (g : Nat) (s : Except Nat Nat) (l : List UInt8) (dv : Value) (w0 : World) (h : RsA g s l dv w0) :
    Calls Try.prog 108 #[.pointer (some ⟨g, 0, none⟩)] w0 (Ret w0 [g] (FldR g dv l (rdPair l 1 1099511627776 0 15) pairV s)) := by
  obtain ⟨hA, hR, hs⟩ := h
  refine enterF (args := [.pointer (some ⟨g, 0, none⟩)]) Try.func108 low108 rfl ?_; have hS := St.init hA; dsimp only [L108, envL, Nat.reduceAdd]
  repeat' (first | ((with_reducible apply WL_p); (· exact evk)) | (with_reducible first | refine WL_nil ?_ | refine then_normal ?_ | refine blk_normal ?_ | refine WC_seq ?_ | refine WC_reg ?_ | refine WC_block ?_ | refine WC_skip ?_ | refine WC_exit ?_ | refine then_exit ?_ | refine blk_hit ?_ | refine blk_miss (by decide) ?_ | refine WC_ret ?_ | refine then_ret ?_ | refine blk_ret ?_) | ((first | (with_reducible apply WL_newz hS) | ((with_reducible apply WL_newv hS); (· exact evk); (· rfl)) | ((with_reducible apply WL_row hS); (· exact evk))); clear hS; intro bq w hS hbq; (try simp only [List.nil_append, List.cons_append, List.append_assoc] at hS)))
  (refine WL_fld hS (by exact evk) (c75 g 1 1099511627776 s l dv (by omega) (by omega) _ (rsA hS hR hs)) ?_); clear hS; (intro n s1 w h1 hs1 hS)
  repeat' (first | ((with_reducible apply WL_p); (· exact evk)) | (with_reducible first | refine WL_nil ?_ | refine then_normal ?_ | refine blk_normal ?_ | refine WC_seq ?_ | refine WC_reg ?_ | refine WC_block ?_ | refine WC_skip ?_ | refine WC_exit ?_ | refine then_exit ?_ | refine blk_hit ?_ | refine blk_miss (by decide) ?_ | refine WC_ret ?_ | refine then_ret ?_ | refine blk_ret ?_))
  (refine WL_fld hS (by exact evk) (c75 g 0 15 s1 l dv (by omega) (by omega) _ (rsA hS hR hs1)) ?_); clear hS; (intro m s2 w h2 hs2 hS)
  repeat' (first | ((with_reducible apply WL_p); (· exact evk)) | (with_reducible first | refine WL_nil ?_ | refine then_normal ?_ | refine blk_normal ?_ | refine WC_seq ?_ | refine WC_reg ?_ | refine WC_block ?_ | refine WC_skip ?_ | refine WC_exit ?_ | refine then_exit ?_ | refine blk_hit ?_ | refine blk_miss (by decide) ?_ | refine WC_ret ?_ | refine then_ret ?_ | refine blk_ret ?_) | ((with_reducible apply WL_load hS); (· exact evk); (· exact inn); (· rfl)) | ((with_reducible apply WL_storeN hS); (· exact evk); (· exact evk); (· rfl); (· simp [Value.oneCell', S]); (· exact upp); (· simp); (clear hS; intro w hS; (simp only [List.set_cons_succ, List.set_cons_zero, putList, Nat.zero_add, Nat.reduceAdd] at hS))))
  exact retc hS (List.Sublist.cons_cons _ (List.nil_sublist _)) rfl inn rfl ⟨(n, m), s2, rfl, rfl, stepS_pair h1 h2, hs2⟩
theorem c109 (g : Nat) (s : Except Nat Nat) (l : List UInt8) (dv : Value) (w0 : World) (h : RsA g s l dv w0) :
    Calls Try.prog 109 #[.pointer (some ⟨g, 0, none⟩)] w0 (Ret w0 [g] (FldR g dv l (rdPair l 0 1099511627776 0 1099511627776) pairV s)) := by
  obtain ⟨hA, hR, hs⟩ := h
  refine enterF (args := [.pointer (some ⟨g, 0, none⟩)]) Try.func109 low109 rfl ?_; have hS := St.init hA; dsimp only [L109, envL, Nat.reduceAdd]
  repeat' (first | ((with_reducible apply WL_p); (· exact evk)) | (with_reducible first | refine WL_nil ?_ | refine then_normal ?_ | refine blk_normal ?_ | refine WC_seq ?_ | refine WC_reg ?_ | refine WC_block ?_ | refine WC_skip ?_ | refine WC_exit ?_ | refine then_exit ?_ | refine blk_hit ?_ | refine blk_miss (by decide) ?_ | refine WC_ret ?_ | refine then_ret ?_ | refine blk_ret ?_) | ((first | (with_reducible apply WL_newz hS) | ((with_reducible apply WL_newv hS); (· exact evk); (· rfl)) | ((with_reducible apply WL_row hS); (· exact evk))); clear hS; intro bq w hS hbq; (try simp only [List.nil_append, List.cons_append, List.append_assoc] at hS)))
  (refine WL_fld hS (by exact evk) (c75 g 0 1099511627776 s l dv (by omega) (by omega) _ (rsA hS hR hs)) ?_); clear hS; (intro n s1 w h1 hs1 hS)
  repeat' (first | ((with_reducible apply WL_p); (· exact evk)) | (with_reducible first | refine WL_nil ?_ | refine then_normal ?_ | refine blk_normal ?_ | refine WC_seq ?_ | refine WC_reg ?_ | refine WC_block ?_ | refine WC_skip ?_ | refine WC_exit ?_ | refine then_exit ?_ | refine blk_hit ?_ | refine blk_miss (by decide) ?_ | refine WC_ret ?_ | refine then_ret ?_ | refine blk_ret ?_))
  (refine WL_fld hS (by exact evk) (c75 g 0 1099511627776 s1 l dv (by omega) (by omega) _ (rsA hS hR hs1)) ?_); clear hS; (intro m s2 w h2 hs2 hS)
  repeat' (first | ((with_reducible apply WL_p); (· exact evk)) | (with_reducible first | refine WL_nil ?_ | refine then_normal ?_ | refine blk_normal ?_ | refine WC_seq ?_ | refine WC_reg ?_ | refine WC_block ?_ | refine WC_skip ?_ | refine WC_exit ?_ | refine then_exit ?_ | refine blk_hit ?_ | refine blk_miss (by decide) ?_ | refine WC_ret ?_ | refine then_ret ?_ | refine blk_ret ?_) | ((with_reducible apply WL_load hS); (· exact evk); (· exact inn); (· rfl)) | ((with_reducible apply WL_storeN hS); (· exact evk); (· exact evk); (· rfl); (· simp [Value.oneCell', S]); (· exact upp); (· simp); (clear hS; intro w hS; (simp only [List.set_cons_succ, List.set_cons_zero, putList, Nat.zero_add, Nat.reduceAdd] at hS))))
  exact retc hS (List.Sublist.cons_cons _ (List.nil_sublist _)) rfl inn rfl ⟨(n, m), s2, rfl, rfl, stepS_pair h1 h2, hs2⟩
theorem c80 (g : Nat) (s : Except Nat Nat) (l : List UInt8) (dv : Value) (hcap : CapOk dv) (w0 : World) (h : RsA g s l dv w0) :
    Calls Try.prog 80 #[.pointer (some ⟨g, 0, none⟩)] w0 (Ret w0 [g] (FldR g dv l (rdOp l) (fun o => .agg o.cells.toArray) s)) := by
  obtain ⟨hA, hR, hs⟩ := h
  refine enterF (args := [.pointer (some ⟨g, 0, none⟩)]) Try.func80 low80 rfl ?_; have hS := St.init hA; dsimp only [L80, envL, Nat.reduceAdd]
  repeat' (first | ((with_reducible apply WL_p); (· exact evk)) | (with_reducible first | refine WL_nil ?_ | refine then_normal ?_ | refine blk_normal ?_ | refine WC_seq ?_ | refine WC_reg ?_ | refine WC_block ?_ | refine WC_skip ?_ | refine WC_exit ?_ | refine then_exit ?_ | refine blk_hit ?_ | refine blk_miss (by decide) ?_ | refine WC_ret ?_ | refine then_ret ?_ | refine blk_ret ?_) | ((first | (with_reducible apply WL_newz hS) | ((with_reducible apply WL_newv hS); (· exact evk); (· rfl)) | ((with_reducible apply WL_row hS); (· exact evk))); clear hS; intro bq w hS hbq; (try simp only [List.nil_append, List.cons_append, List.append_assoc] at hS)))
  (refine WL_fld hS (by exact evk) (c75 g 1 11 s l dv (by omega) (by omega) _ (rsA hS hR hs)) ?_); clear hS; (intro k s1 w h1 hs1 hS)
  repeat' (first | ((with_reducible apply WL_p); (· exact evk)) | (with_reducible first | refine WL_nil ?_ | refine then_normal ?_ | refine blk_normal ?_ | refine WC_seq ?_ | refine WC_reg ?_ | refine WC_block ?_ | refine WC_skip ?_ | refine WC_exit ?_ | refine then_exit ?_ | refine blk_hit ?_ | refine blk_miss (by decide) ?_ | refine WC_ret ?_ | refine then_ret ?_ | refine blk_ret ?_) | ((first | (with_reducible apply WL_newz hS) | ((with_reducible apply WL_newv hS); (· exact evk); (· rfl)) | ((with_reducible apply WL_row hS); (· exact evk))); clear hS; intro bq w hS hbq; (try simp only [List.nil_append, List.cons_append, List.append_assoc] at hS)) | ((with_reducible apply WL_load hS); (· exact evk); (· exact inn); (· rfl)) | ((with_reducible apply WL_storeN hS); (· exact evk); (· exact evk); (· rfl); (· simp [Value.oneCell', S]); (· exact upp); (· simp); (clear hS; intro w hS; (simp only [List.set_cons_succ, List.set_cons_zero, putList, Nat.zero_add, Nat.reduceAdd] at hS))) | ((with_reducible apply WL_store hS); (· exact evk); (· exact evk); (· first | rfl | assumption | exact RowIs.one (by assumption)); (· exact upp); (· simp); (clear hS; intro w hS; (simp only [List.set_cons_succ, List.set_cons_zero, putList, Nat.zero_add, Nat.reduceAdd] at hS))))
  (refine WL_fld hS (by exact evk) (c106 g List.nil s1 l dv hcap _ (rsA hS hR hs1)) ?_); clear hS; (intro nm s2 w h2 hs2 hS)
  repeat' (first | ((with_reducible apply WL_p); (· exact evk)) | (with_reducible first | refine WL_nil ?_ | refine then_normal ?_ | refine blk_normal ?_ | refine WC_seq ?_ | refine WC_reg ?_ | refine WC_block ?_ | refine WC_skip ?_ | refine WC_exit ?_ | refine then_exit ?_ | refine blk_hit ?_ | refine blk_miss (by decide) ?_ | refine WC_ret ?_ | refine then_ret ?_ | refine blk_ret ?_) | ((with_reducible apply WL_load hS); (· exact evk); (· exact inn); (· rfl)) | ((with_reducible apply WL_storeN hS); (· exact evk); (· exact evk); (· rfl); (· simp [Value.oneCell', S]); (· exact upp); (· simp); (clear hS; intro w hS; (simp only [List.set_cons_succ, List.set_cons_zero, putList, Nat.zero_add, Nat.reduceAdd] at hS))) | ((with_reducible apply WL_store hS); (· exact evk); (· exact evk); (· first | rfl | assumption | exact RowIs.one (by assumption)); (· exact upp); (· simp); (clear hS; intro w hS; (simp only [List.set_cons_succ, List.set_cons_zero, putList, Nat.zero_add, Nat.reduceAdd] at hS))))
  (refine WL_fld hS (by exact evk) (c85 g s2 l dv _ (rsA hS hR hs2)) ?_); clear hS; (intro a s3 w h3 hs3 hS)
  repeat' (first | ((with_reducible apply WL_p); (· exact evk)) | (with_reducible first | refine WL_nil ?_ | refine then_normal ?_ | refine blk_normal ?_ | refine WC_seq ?_ | refine WC_reg ?_ | refine WC_block ?_ | refine WC_skip ?_ | refine WC_exit ?_ | refine then_exit ?_ | refine blk_hit ?_ | refine blk_miss (by decide) ?_ | refine WC_ret ?_ | refine then_ret ?_ | refine blk_ret ?_) | ((with_reducible apply WL_load hS); (· exact evk); (· exact inn); (· rfl)) | ((with_reducible apply WL_storeN hS); (· exact evk); (· exact evk); (· rfl); (· simp [Value.oneCell', S]); (· exact upp); (· simp); (clear hS; intro w hS; (simp only [List.set_cons_succ, List.set_cons_zero, putList, Nat.zero_add, Nat.reduceAdd] at hS))) | ((with_reducible apply WL_store hS); (· exact evk); (· exact evk); (· first | rfl | assumption | exact RowIs.one (by assumption)); (· exact upp); (· simp); (clear hS; intro w hS; (simp only [List.set_cons_succ, List.set_cons_zero, putList, Nat.zero_add, Nat.reduceAdd] at hS))))
  (refine WL_fld hS (by exact evk) (c85 g s3 l dv _ (rsA hS hR hs3)) ?_); clear hS; (intro b s4 w h4 hs4 hS)
  repeat' (first | ((with_reducible apply WL_p); (· exact evk)) | (with_reducible first | refine WL_nil ?_ | refine then_normal ?_ | refine blk_normal ?_ | refine WC_seq ?_ | refine WC_reg ?_ | refine WC_block ?_ | refine WC_skip ?_ | refine WC_exit ?_ | refine then_exit ?_ | refine blk_hit ?_ | refine blk_miss (by decide) ?_ | refine WC_ret ?_ | refine then_ret ?_ | refine blk_ret ?_) | ((with_reducible apply WL_load hS); (· exact evk); (· exact inn); (· rfl)) | ((with_reducible apply WL_loadN hS); (· exact evk); (· exact inn); (· ((simp only [List.drop_succ_cons, List.drop_zero, List.take_succ_cons, List.take_zero]) <;> rfl)); (· rfl)) | ((with_reducible apply WL_storeN hS); (· exact evk); (· exact evk); (· rfl); (· simp [Value.oneCell', S]); (· exact upp); (· simp); (clear hS; intro w hS; (simp only [List.set_cons_succ, List.set_cons_zero, putList, Nat.zero_add, Nat.reduceAdd] at hS))) | ((with_reducible apply WL_store hS); (· exact evk); (· exact evk); (· first | rfl | assumption | exact RowIs.one (by assumption)); (· exact upp); (· simp); (clear hS; intro w hS; (simp only [List.set_cons_succ, List.set_cons_zero, putList, Nat.zero_add, Nat.reduceAdd] at hS))))
  exact retc hS (List.Sublist.cons_cons _ (List.nil_sublist _)) rfl inn rfl ⟨⟨k, nm, a, b⟩, s4, rfl, rfl, stepS_op h1 h2 h3 h4, hs4⟩
/-- What is told at the end: all is read, or the place. -/
def doneV (n : Nat) : Except Nat Nat → Value
  | .ok a => if a < n then .tuple #[.int .i64 (a : Int), .int .i64 20] else .tuple #[.int .i64 0, .int .i64 0]
  | .error p => .tuple #[.int .i64 (p : Int), .int .i64 20]
theorem c71 (g : Nat) (s : Except Nat Nat) (l : List UInt8) (dv : Value) (w0 : World) (h : RsA g s l dv w0) :
    Calls Try.prog 71 #[.pointer (some ⟨g, 0, none⟩)] w0 (Ret w0 [g] fun u O' => u = doneV l.length s ∧ O' = [(g, Blk 123 (RC dv s))]) := by
  obtain ⟨hA, hR, hs⟩ := h
  obtain ⟨A, c, rfl, _⟩ := hR.slc
  refine enterF (args := [.pointer (some ⟨g, 0, none⟩)]) Try.func71 low71 rfl ?_; have hS := St.init hA; dsimp only [L71, envL, Nat.reduceAdd]
  repeat' (first | ((with_reducible apply WL_p); (· exact evk)) | (with_reducible first | refine WL_nil ?_ | refine then_normal ?_ | refine blk_normal ?_ | refine WC_seq ?_ | refine WC_reg ?_ | refine WC_block ?_ | refine WC_skip ?_ | refine WC_exit ?_ | refine then_exit ?_ | refine blk_hit ?_ | refine blk_miss (by decide) ?_ | refine WC_ret ?_ | refine then_ret ?_ | refine blk_ret ?_))
  cases s with
  | error p =>
    simp only [RC] at hS
    refine WC_drO hS fun w hS hD => ?_
    repeat' (first | ((with_reducible apply WD_p hD); (· exact evk)) | ((with_reducible apply WD_do hD); (· exact evd)) | ((with_reducible apply WD_no hD); (· exact evd)) | ((with_reducible apply WDe_do); (· exact evd)) | ((with_reducible apply WDe_no hD); (· exact evd)) | ((with_reducible apply WD_load hD); (· exact evk); (· exact inn); (· rfl)) | ((with_reducible apply WD_loadN hD); (· exact evk); (· exact inn); (· ((simp only [List.drop_succ_cons, List.drop_zero, List.take_succ_cons, List.take_zero]) <;> rfl)); (· rfl)) | ((with_reducible apply WD_go); (· exact hS.sh (by repeat (first | exact AllIn.nil | (apply AllIn.cons; (· exact inn))))); (clear hD; intro hD)) | (with_reducible apply WD_nil) | (with_reducible apply WD_eff))
    repeat' (first | ((with_reducible apply WL_p); (· exact evk)) | ((with_reducible apply WL_do); (· exact evd)) | ((with_reducible apply WL_no); (· exact evd)) | ((with_reducible apply WC_true); (· exact evk)) | ((with_reducible apply WC_false); (· exact evk)) | ((with_reducible apply WL_load hS); (· exact evk); (· exact inn); (· rfl)) | (with_reducible first | refine WL_nil ?_ | refine then_normal ?_ | refine blk_normal ?_ | refine WC_seq ?_ | refine WC_reg ?_ | refine WC_block ?_ | refine WC_skip ?_ | refine WC_exit ?_ | refine then_exit ?_ | refine blk_hit ?_ | refine blk_miss (by decide) ?_ | refine WC_ret ?_ | refine then_ret ?_ | refine blk_ret ?_))
    exact ret2 hS rfl rfl ⟨rfl, rfl⟩
  | ok a =>
    simp only [RC] at hS
    refine WC_drO hS fun w hS hD => ?_
    repeat' (first | ((with_reducible apply WD_p hD); (· exact evk)) | ((with_reducible apply WD_do hD); (· exact evd)) | ((with_reducible apply WD_no hD); (· exact evd)) | ((with_reducible apply WDe_do); (· exact evd)) | ((with_reducible apply WDe_no hD); (· exact evd)) | ((with_reducible apply WD_load hD); (· exact evk); (· exact inn); (· rfl)) | ((with_reducible apply WD_loadN hD); (· exact evk); (· exact inn); (· ((simp only [List.drop_succ_cons, List.drop_zero, List.take_succ_cons, List.take_zero]) <;> rfl)); (· rfl)) | ((with_reducible apply WD_go); (· exact hS.sh (by repeat (first | exact AllIn.nil | (apply AllIn.cons; (· exact inn))))); (clear hD; intro hD)) | (with_reducible apply WD_nil) | (with_reducible apply WD_eff))
    by_cases ha : a < l.length
    · repeat' (first | ((with_reducible apply WL_p); (· exact evk)) | ((with_reducible apply WL_do); (· exact evd)) | ((with_reducible apply WL_no); (· exact evd)) | ((with_reducible apply WL_load hS); (· exact evk); (· exact inn); (· rfl)) | (with_reducible first | refine WL_nil ?_ | refine then_normal ?_ | refine blk_normal ?_ | refine WC_seq ?_ | refine WC_reg ?_ | refine WC_block ?_ | refine WC_skip ?_ | refine WC_exit ?_ | refine then_exit ?_ | refine blk_hit ?_ | refine blk_miss (by decide) ?_ | refine WC_ret ?_ | refine then_ret ?_ | refine blk_ret ?_) | (first | ((with_reducible apply WL_split); (· exact evk)) | ((with_reducible apply WC_dec); (· exact evk)) | ((with_reducible apply WL_splitB); (· exact evk)) | ((with_reducible apply WC_bool); (· exact evk)) | ((with_reducible intro hh) <;> (try (exfalso; omega)))))
      refine ret2 hS rfl rfl ⟨?_, rfl⟩
      simp only [doneV, if_pos ha]; rfl
    · repeat' (first | ((with_reducible apply WL_p); (· exact evk)) | ((with_reducible apply WL_do); (· exact evd)) | ((with_reducible apply WL_no); (· exact evd)) | ((with_reducible apply WL_load hS); (· exact evk); (· exact inn); (· rfl)) | (with_reducible first | refine WL_nil ?_ | refine then_normal ?_ | refine blk_normal ?_ | refine WC_seq ?_ | refine WC_reg ?_ | refine WC_block ?_ | refine WC_skip ?_ | refine WC_exit ?_ | refine then_exit ?_ | refine blk_hit ?_ | refine blk_miss (by decide) ?_ | refine WC_ret ?_ | refine then_ret ?_ | refine blk_ret ?_) | (first | ((with_reducible apply WL_split); (· exact evk)) | ((with_reducible apply WC_dec); (· exact evk)) | ((with_reducible apply WL_splitB); (· exact evk)) | ((with_reducible apply WC_bool); (· exact evk)) | ((with_reducible intro hh) <;> (try (exfalso; omega)))))
      refine ret2 hS rfl rfl ⟨?_, rfl⟩
      simp only [doneV, if_neg ha]; rfl
end Go.Proofs.Ytohmgkcdjapinaa.Lw
namespace Go.Proofs.Ytohmgkcdjapinaa.Lw
theorem kXl0 {p : Prop} (h : p := by ((simp (disch := omega) only [ev_tmp, ev_const, ev_func, ev_global, upd_app, val_move, val_pick, pickV_true, pickV_false, pickV_bool, val_nilck, nilckV_ptr, val_bin, bin_add, bin_sub, bin_mul, bin_eql, bin_neq, bin_lss, bin_leq, bin_gtr, bin_geq, bin_seql, bin_sneq, bin_slss, bin_sleq, bin_sgtr, bin_sgeq, val_beq, beqV_f, beqV_t, val_seq, val_not, notV_bool, val_toInt, toIntV_int, val_off, offV_ptr, val_len, lenV_slice, val_slen, slenV_S, val_ext, extV_tup, val_ifc, val_fn, List.getElem?_cons_zero, List.getElem?_cons_succ, List.map_cons, List.map_nil, eq_self, Bool.false_eq_true, Bool.not_true, Bool.not_false, Option.map_some, Nat.zero_add, isB_bool, isB_undef, Bool.true_beq, Bool.false_beq, beq_self_eq_true, Bool.true_and, Bool.and_true, Bool.false_and, Bool.and_false, Bool.true_or, Bool.or_true, Bool.false_or, Bool.or_false, not_dec, and_dec, or_dec, seqV_f, seqV_t, ceq_i, ceq_s, ceq_nil, val_bld, bldV, cells_int, cells_bool, cells_S, cells_b8, cells_slice, cells_ptr, cells_agg, List.size_toArray, List.length_cons, List.length_nil, place, List.take_succ_cons, List.take_zero, List.drop_succ_cons, List.drop_zero, List.cons_append, List.nil_append, and_self, and_true, true_and, Nat.reduceLeDiff, List.toList_toArray, wr64, wru64, wru8, Nat.reduceEqDiff, ↓reduceIte, Nat.reduceAdd, Has, and_true, Int.natCast_add, Int.cast_ofNat_Int]) <;> fail)) : p := h
abbrev R107_0 : List LOper := [⟨some 2, none, .pv (.move (.const (.slice none 0 0)))⟩]
abbrev R107_1 : List LOper := [⟨some 3, none, .pv (.move (.const (.slice none 0 0)))⟩]
abbrev R107_2 : List LOper := [⟨some 4, none, .pv (.move (.const (S [])))⟩]
abbrev R107_3 : List LOper := [⟨some 7, none, .pv (.move (.tmp 0))⟩, ⟨some 8, none, .call 75 [(.tmp 7), (.const (.int .i64 0)), (.const (.int .i64 64))]⟩, ⟨some 5, none, .pv (.move (.tmp 8))⟩]
abbrev R107_4 : List LOper := [⟨some 9, none, .pv (.move (.tmp 5))⟩, ⟨some 10, none, .pv (.bin .gtr (.tmp 9) (.const (.int .i64 0)))⟩, ⟨some 11, none, .pv (.move (.tmp 10))⟩, ⟨some 12, (some (11, true)), .pv (.move (.tmp 0))⟩, ⟨some 13, (some (11, true)), .pv (.nilck (.tmp 12))⟩, ⟨some 14, (some (11, true)), .pv (.off (.tmp 13) 2)⟩, ⟨some 15, (some (11, true)), .load (.tmp 14)⟩, ⟨some 16, (some (11, true)), .pv (.not (.tmp 15))⟩, ⟨some 17, none, .pv (.pick (.tmp 11) (.tmp 16) (.const (.bool false)))⟩]
abbrev R107_5 : List LOper := [⟨some 20, none, .pv (.move (.tmp 0))⟩, ⟨some 21, none, .pv (.move (.tmp 4))⟩, ⟨some 22, none, .call 106 [(.tmp 20), (.tmp 21)]⟩, ⟨some 23, none, .pv (.bld [(S []), (.int .i64 0), (.int .i64 0), (.int .i64 0), (.int .i64 0), (.int .i64 0), (.int .i64 0)] [(0, (1, (.tmp 22)))])⟩, ⟨some 6, none, .newz 71 [(S []), (.int .i64 0), (.int .i64 0), (.int .i64 0), (.int .i64 0), (.int .i64 0), (.int .i64 0)]⟩, ⟨none, none, .store 7 (.tmp 6) (.tmp 23)⟩]
abbrev R107_6 : List LOper := [⟨some 24, none, .pv (.move (.tmp 0))⟩, ⟨some 25, none, .call 75 [(.tmp 24), (.const (.int .i64 1)), (.const (.int .i64 1099511627776))]⟩, ⟨some 26, none, .pv (.off (.tmp 6) 1)⟩, ⟨none, none, .store 1 (.tmp 26) (.tmp 25)⟩]
abbrev R107_7 : List LOper := [⟨some 27, none, .pv (.move (.tmp 0))⟩, ⟨some 28, none, .call 75 [(.tmp 27), (.const (.int .i64 0)), (.const (.int .i64 1099511627776))]⟩, ⟨some 29, none, .pv (.off (.tmp 6) 2)⟩, ⟨none, none, .store 1 (.tmp 29) (.tmp 28)⟩]
abbrev R107_8 : List LOper := [⟨some 30, none, .pv (.move (.tmp 0))⟩, ⟨some 31, none, .call 75 [(.tmp 30), (.const (.int .i64 0)), (.const (.int .i64 1099511627776))]⟩, ⟨some 32, none, .pv (.off (.tmp 6) 3)⟩, ⟨none, none, .store 1 (.tmp 32) (.tmp 31)⟩]
abbrev R107_9 : List LOper := [⟨some 33, none, .pv (.move (.tmp 0))⟩, ⟨some 34, none, .call 109 [(.tmp 33)]⟩, ⟨some 35, none, .pv (.off (.tmp 6) 4)⟩, ⟨none, none, .store 2 (.tmp 35) (.tmp 34)⟩]
abbrev R107_10 : List LOper := [⟨some 36, none, .pv (.move (.tmp 0))⟩, ⟨some 37, none, .call 75 [(.tmp 36), (.const (.int .i64 0)), (.const (.int .i64 1099511627776))]⟩, ⟨some 38, none, .pv (.off (.tmp 6) 6)⟩, ⟨none, none, .store 1 (.tmp 38) (.tmp 37)⟩]
abbrev R107_11 : List LOper := [⟨some 39, none, .pv (.move (.tmp 3))⟩, ⟨some 40, none, .loadN 7 (.tmp 6)⟩, ⟨some 41, none, .row 71 1 [(S []), (.int .i64 0), (.int .i64 0), (.int .i64 0), (.int .i64 0), (.int .i64 0), (.int .i64 0)] [(0, (7, (.tmp 40)))]⟩, ⟨some 42, none, .raw 31 (.call (.mk (.builtin .append) #[(.tmp 39), (.tmp 41)] #[31, 31]))⟩, ⟨some 3, none, .pv (.move (.tmp 42))⟩]
abbrev R107_12 : List LOper := [⟨some 43, none, .pv (.off (.tmp 6) 0)⟩, ⟨some 44, none, .load (.tmp 43)⟩, ⟨some 4, none, .pv (.move (.tmp 44))⟩]
abbrev R107_13 : List LOper := [⟨some 18, none, .pv (.move (.tmp 5))⟩, ⟨some 19, none, .pv (.bin .sub (.tmp 18) (.const (.int .i64 1)))⟩, ⟨some 5, none, .pv (.move (.tmp 19))⟩]
abbrev R107_14 : List LOper := [⟨some 45, none, .pv (.move (.tmp 3))⟩, ⟨some 2, none, .pv (.move (.tmp 45))⟩]
abbrev L107 : LFun := ⟨46, [(.tmp 2)], (.seq (.reg R107_0) (.seq (.reg R107_1) (.seq (.reg R107_2) (.seq (.seq (.reg R107_3) (.block 0 (.loop (.seq (.seq (.reg R107_4) (.cond (.tmp 17) .skip (.exit 0))) (.seq (.block 1 (.seq (.reg R107_5) (.seq (.reg R107_6) (.seq (.reg R107_7) (.seq (.reg R107_8) (.seq (.reg R107_9) (.seq (.reg R107_10) (.seq (.reg R107_11) (.reg R107_12))))))))) (.reg R107_13)))))) (.seq (.reg R107_14) .ret)))))⟩
theorem low107 : lowFn Try.prog Try.f107 = some L107 := by kernel_rfl

theorem el31 : ElInfo Try.prog 31 71 7 64 := ElInfo.of Try.underlying31 (z := .agg #[Lw.S [], .int .i64 0, .int .i64 0, .int .i64 0, .int .i64 0, .int .i64 0, .int .i64 0]) (by kernel_rfl) rfl
theorem stepS_view {l above nm : List UInt8} {c r ve h : Nat} {rg : Nat × Nat} {s s1 s2 s3 s4 s5 s6 : Except Nat Nat} (h1 : stepS (rdName l above) s nm s1) (h2 : stepS (rdNum l 1 1099511627776) s1 c s2) (h3 : stepS (rdNum l 0 1099511627776) s2 r s3)
    (h4 : stepS (rdNum l 0 1099511627776) s3 ve s4) (h5 : stepS (rdPair l 0 1099511627776 0 1099511627776) s4 rg s5) (h6 : stepS (rdNum l 0 1099511627776) s5 h s6) : stepS (rdView l above) s (⟨nm, c, r, ve, rg.1, rg.2, h⟩ : Vw) s6 :=
  stepS_bind (rd2 := fun (nm : List UInt8) a1 => bindR (rdPair l 1 1099511627776 0 1099511627776 a1) fun c a2 => bindR (rdNum l 0 1099511627776 a2) fun ver a3 =>
    bindR (rdPair l 0 1099511627776 0 1099511627776 a3) fun r a4 => bindR (rdNum l 0 1099511627776 a4) fun held a5 => .ok ((⟨nm, c.1, c.2, ver, r.1, r.2, held⟩ : Vw), a5)) h1
  (stepS_bind (rd2 := fun (c : Nat × Nat) a2 => bindR (rdNum l 0 1099511627776 a2) fun ver a3 =>
    bindR (rdPair l 0 1099511627776 0 1099511627776 a3) fun r a4 => bindR (rdNum l 0 1099511627776 a4) fun held a5 => .ok ((⟨nm, c.1, c.2, ver, r.1, r.2, held⟩ : Vw), a5)) (stepS_pair h2 h3)
  (stepS_bind (rd2 := fun (ver : Nat) a3 =>
    bindR (rdPair l 0 1099511627776 0 1099511627776 a3) fun rr a4 => bindR (rdNum l 0 1099511627776 a4) fun held a5 => .ok ((⟨nm, c, r, ver, rr.1, rr.2, held⟩ : Vw), a5)) h4
  (stepS_bind (rd2 := fun (rr : Nat × Nat) a4 => bindR (rdNum l 0 1099511627776 a4) fun held a5 => .ok ((⟨nm, c, r, ve, rr.1, rr.2, held⟩ : Vw), a5)) h5
  (stepS_bind (rd2 := fun (held : Nat) a5 => .ok ((⟨nm, c, r, ve, rg.1, rg.2, held⟩ : Vw), a5)) h6 stepS_ret))))
theorem rdViewsN_succ (l above : List UInt8) (n : Nat) : rdViewsN l (n + 1) above = fun a => bindR (rdView l above a) fun v a1 => bindR (rdViewsN l n v.name a1) fun vs a2 => .ok (v :: vs, a2) := by
  funext a; rw [rdViewsN]
theorem rdViewsN_zero (l above : List UInt8) : rdViewsN l 0 above = fun a => .ok ([], a) := by
  funext a; rw [rdViewsN]
theorem stepS_viewsN {l above : List UInt8} {n : Nat} {v : Vw} {ys : List Vw} {s s1 s2 : Except Nat Nat} (h1 : stepS (rdView l above) s v s1) (h2 : stepS (rdViewsN l n v.name) s1 ys s2) : stepS (rdViewsN l (n + 1) above) s (v :: ys) s2 := by
  rw [rdViewsN_succ]
  exact stepS_bind (rd2 := fun (v : Vw) a1 => bindR (rdViewsN l n v.name a1) fun vs a2 => .ok (v :: vs, a2)) h1 (stepS_bind (rd2 := fun vs a2 => .ok (v :: vs, a2)) h2 stepS_ret)
def ViewsR (g : Nat) (dv : Value) (l : List UInt8) (s : Except Nat Nat) (u : Value) (O' : Blks) : Prop :=
  ∃ vs s' L, RowIs 71 7 u vs.length (vs.flatMap Vw.cells) L ∧ O' = (g, Blk 123 (RC dv s')) :: L ∧ stepS (rdViews l) s vs s' ∧ okS l s'
theorem Vw.ones (v : Vw) : ∀ c ∈ v.cells, c.oneCell' = true := by
  intro c hc
  simp only [Vw.cells, List.mem_cons, List.not_mem_nil, or_false] at hc
  rcases hc with rfl | rfl | rfl | rfl | rfl | rfl | rfl <;> rfl
set_option maxRecDepth 4000 in
set_option maxHeartbeats 1000000 in
theorem c107 (g : Nat) (s : Except Nat Nat) (l : List UInt8) (dv : Value) (hcap : CapOk dv) (w0 : World) (h : RsA g s l dv w0) :
    Calls Try.prog 107 #[.pointer (some ⟨g, 0, none⟩)] w0 (Ret w0 [g] (ViewsR g dv l s)) := by
  obtain ⟨hA, hR, hs⟩ := h
  refine enterF (args := [.pointer (some ⟨g, 0, none⟩)]) Try.func107 low107 rfl ?_; have hS := St.init hA; dsimp only [L107, envL, Nat.reduceAdd]
  repeat' (first | ((with_reducible apply WL_p); (· exact evk)) | (with_reducible first | refine WL_nil ?_ | refine then_normal ?_ | refine blk_normal ?_ | refine WC_seq ?_ | refine WC_reg ?_ | refine WC_block ?_ | refine WC_skip ?_ | refine WC_exit ?_ | refine then_exit ?_ | refine blk_hit ?_ | refine blk_miss (by decide) ?_ | refine WC_ret ?_ | refine then_ret ?_ | refine blk_ret ?_))
  (refine WL_fld hS (by exact evk) (c75 g 0 64 s l dv (by omega) (by omega) _ (rsA hS hR hs)) ?_); clear hS; (intro n0 s1 w h1 hs1 hS)
  repeat' (first | ((with_reducible apply WL_p); (· exact evk)) | (with_reducible first | refine WL_nil ?_ | refine then_normal ?_ | refine blk_normal ?_ | refine WC_seq ?_ | refine WC_reg ?_ | refine WC_block ?_ | refine WC_skip ?_ | refine WC_exit ?_ | refine then_exit ?_ | refine blk_hit ?_ | refine blk_miss (by decide) ?_ | refine WC_ret ?_ | refine then_ret ?_ | refine blk_ret ?_))
  have hn0 : ∀ a, s1 = .ok a → n0 ≤ 64 := by
    rintro a rfl
    obtain ⟨a0, rfl, h⟩ := stepS_ok h1
    exact (rdNum_ok hs h).2.2
  refine WC_loopH (α := Nat × List UInt8 × List Vw × Except Nat Nat × Value × Blks) (fun a => [(0, .pointer (some ⟨g, 0, none⟩)), (3, a.2.2.2.2.1), (4, Lw.S a.2.1), (5, .int .i64 (a.1 : Int))])
    (fun a w' => (∀ p, a.2.2.2.1 = .ok p → a.1 + a.2.2.1.length ≤ 64) ∧ (∀ ys sf, stepS (rdViewsN l a.1 a.2.1) a.2.2.2.1 ys sf → stepS (rdViews l) s (a.2.2.1 ++ ys) sf) ∧ okS l a.2.2.2.1 ∧
      RowIs 71 7 a.2.2.2.2.1 a.2.2.1.length (a.2.2.1.flatMap Vw.cells) a.2.2.2.2.2 ∧ St w0 [g] w' ((g, Blk 123 (RC dv a.2.2.2.1)) :: a.2.2.2.2.2))
    (fun a => a.1) (n0, [], [], s1, .slice none 0 0, []) (by exact kXl0) ⟨fun p hp => by simpa using hn0 p hp, fun ys sf hy => stepS_bind (rd2 := fun (n : Nat) a1 => rdViewsN l n [] a1) h1 hy, hs1, RowIs.nil 71 7, hS⟩ ?_
  clear hS hs1 hn0 h1
  rintro ⟨n, above, acc, s1, vv, L⟩ e w ⟨hn, hall, hs1, hrow, hS⟩
  dsimp only [patch] at hn hall hs1 hrow hS ⊢
  rcases Nat.eq_zero_or_pos n with hn0 | hn0
  · repeat' (first | ((with_reducible apply WL_p); (· exact evk)) | ((with_reducible apply WL_do); (· exact evd)) | ((with_reducible apply WL_no); (· exact evd)) | ((with_reducible apply WC_true); (· exact evk)) | ((with_reducible apply WC_false); (· exact evk)) | (with_reducible first | refine WL_nil ?_ | refine then_normal ?_ | refine blk_normal ?_ | refine WC_seq ?_ | refine WC_reg ?_ | refine WC_block ?_ | refine WC_skip ?_ | refine WC_exit ?_ | refine then_exit ?_ | refine blk_hit ?_ | refine blk_miss (by decide) ?_ | refine WC_ret ?_ | refine then_ret ?_ | refine blk_ret ?_) | (first | ((with_reducible apply WL_split); (· exact evk)) | ((with_reducible apply WC_dec); (· exact evk)) | ((with_reducible apply WL_splitB); (· exact evk)) | ((with_reducible apply WC_bool); (· exact evk)) | ((with_reducible intro hh) <;> (try (exfalso; omega)))))
    refine ret1 (v := vv) hS rfl ⟨acc, s1, L, hrow, rfl, ?_, hs1⟩
    have := hall [] s1 (by subst hn0; rw [rdViewsN_zero]; exact stepS_ret)
    simpa using this
  · cases s1 with
    | error p =>
      simp only [RC] at hS
      repeat' (first | ((with_reducible apply WL_p); (· exact evk)) | ((with_reducible apply WL_do); (· exact evd)) | ((with_reducible apply WL_no); (· exact evd)) | ((with_reducible apply WC_true); (· exact evk)) | ((with_reducible apply WC_false); (· exact evk)) | (with_reducible first | refine WL_nil ?_ | refine then_normal ?_ | refine blk_normal ?_ | refine WC_seq ?_ | refine WC_reg ?_ | refine WC_block ?_ | refine WC_skip ?_ | refine WC_exit ?_ | refine then_exit ?_ | refine blk_hit ?_ | refine blk_miss (by decide) ?_ | refine WC_ret ?_ | refine then_ret ?_ | refine blk_ret ?_) | ((with_reducible apply WL_load hS); (· exact evk); (· exact inn); (· rfl)) | (first | ((with_reducible apply WL_split); (· exact evk)) | ((with_reducible apply WC_dec); (· exact evk)) | ((with_reducible apply WL_splitB); (· exact evk)) | ((with_reducible apply WC_bool); (· exact evk)) | ((with_reducible intro hh) <;> (try (exfalso; omega)))))
      refine ret1 (v := vv) hS rfl ⟨acc, .error p, L, hrow, rfl, ?_, hs1⟩
      have := hall [] (.error p) rfl
      simpa using this
    | ok a =>
      have hle := hn a rfl
      obtain ⟨n, rfl⟩ : ∃ m, n = m + 1 := ⟨n - 1, by omega⟩
      simp only [RC] at hS
      repeat' (first | ((with_reducible apply WL_p); (· exact evk)) | ((with_reducible apply WL_do); (· exact evd)) | ((with_reducible apply WL_no); (· exact evd)) | ((with_reducible apply WC_true); (· exact evk)) | ((with_reducible apply WC_false); (· exact evk)) | (with_reducible first | refine WL_nil ?_ | refine then_normal ?_ | refine blk_normal ?_ | refine WC_seq ?_ | refine WC_reg ?_ | refine WC_block ?_ | refine WC_skip ?_ | refine WC_exit ?_ | refine then_exit ?_ | refine blk_hit ?_ | refine blk_miss (by decide) ?_ | refine WC_ret ?_ | refine then_ret ?_ | refine blk_ret ?_) | ((with_reducible apply WL_load hS); (· exact evk); (· exact inn); (· rfl)) | (first | ((with_reducible apply WL_split); (· exact evk)) | ((with_reducible apply WC_dec); (· exact evk)) | ((with_reducible apply WL_splitB); (· exact evk)) | ((with_reducible apply WC_bool); (· exact evk)) | ((with_reducible intro hh) <;> (try (exfalso; omega)))))
      have hS : St w0 [g] _ ((g, Blk 123 (RC dv (.ok a))) :: L) := hS
      (refine WL_fld hS (by exact evk) (c106 g above _ l dv hcap _ (rsA hS hR hs1)) ?_); clear hS; (intro nm s2 w h2 hs2 hS)
      repeat' (first | ((with_reducible apply WL_p); (· exact evk)) | (with_reducible first | refine WL_nil ?_ | refine then_normal ?_ | refine blk_normal ?_ | refine WC_seq ?_ | refine WC_reg ?_ | refine WC_block ?_ | refine WC_skip ?_ | refine WC_exit ?_ | refine then_exit ?_ | refine blk_hit ?_ | refine blk_miss (by decide) ?_ | refine WC_ret ?_ | refine then_ret ?_ | refine blk_ret ?_) | ((first | (with_reducible apply WL_newz hS) | ((with_reducible apply WL_newv hS); (· exact evk); (· rfl)) | ((with_reducible apply WL_row hS); (· exact evk))); clear hS; intro bq w hS hbq; (try simp only [List.nil_append, List.cons_append, List.append_assoc] at hS)) | ((with_reducible apply WL_storeN hS); (· exact evk); (· exact evk); (· rfl); (· simp [Value.oneCell', S]); (· exact upp); (· simp); (clear hS; intro w hS; (simp only [List.set_cons_succ, List.set_cons_zero, putList, Nat.zero_add, Nat.reduceAdd] at hS))))
      (refine WL_fld hS (by exact evk) (c75 g 1 1099511627776 s2 l dv (by omega) (by omega) _ (rsA hS hR hs2)) ?_); clear hS; (intro c s3 w h3 hs3 hS)
      repeat' (first | ((with_reducible apply WL_p); (· exact evk)) | (with_reducible first | refine WL_nil ?_ | refine then_normal ?_ | refine blk_normal ?_ | refine WC_seq ?_ | refine WC_reg ?_ | refine WC_block ?_ | refine WC_skip ?_ | refine WC_exit ?_ | refine then_exit ?_ | refine blk_hit ?_ | refine blk_miss (by decide) ?_ | refine WC_ret ?_ | refine then_ret ?_ | refine blk_ret ?_) | ((with_reducible apply WL_store hS); (· exact evk); (· exact evk); (· first | rfl | assumption | exact RowIs.one (by assumption)); (· exact upp); (· simp); (clear hS; intro w hS; (simp only [List.set_cons_succ, List.set_cons_zero, putList, Nat.zero_add, Nat.reduceAdd] at hS))))
      (refine WL_fld hS (by exact evk) (c75 g 0 1099511627776 s3 l dv (by omega) (by omega) _ (rsA hS hR hs3)) ?_); clear hS; (intro rc s4 w h4 hs4 hS)
      repeat' (first | ((with_reducible apply WL_p); (· exact evk)) | (with_reducible first | refine WL_nil ?_ | refine then_normal ?_ | refine blk_normal ?_ | refine WC_seq ?_ | refine WC_reg ?_ | refine WC_block ?_ | refine WC_skip ?_ | refine WC_exit ?_ | refine then_exit ?_ | refine blk_hit ?_ | refine blk_miss (by decide) ?_ | refine WC_ret ?_ | refine then_ret ?_ | refine blk_ret ?_) | ((with_reducible apply WL_store hS); (· exact evk); (· exact evk); (· first | rfl | assumption | exact RowIs.one (by assumption)); (· exact upp); (· simp); (clear hS; intro w hS; (simp only [List.set_cons_succ, List.set_cons_zero, putList, Nat.zero_add, Nat.reduceAdd] at hS))))
      (refine WL_fld hS (by exact evk) (c75 g 0 1099511627776 s4 l dv (by omega) (by omega) _ (rsA hS hR hs4)) ?_); clear hS; (intro ve s5 w h5 hs5 hS)
      repeat' (first | ((with_reducible apply WL_p); (· exact evk)) | (with_reducible first | refine WL_nil ?_ | refine then_normal ?_ | refine blk_normal ?_ | refine WC_seq ?_ | refine WC_reg ?_ | refine WC_block ?_ | refine WC_skip ?_ | refine WC_exit ?_ | refine then_exit ?_ | refine blk_hit ?_ | refine blk_miss (by decide) ?_ | refine WC_ret ?_ | refine then_ret ?_ | refine blk_ret ?_) | ((with_reducible apply WL_store hS); (· exact evk); (· exact evk); (· first | rfl | assumption | exact RowIs.one (by assumption)); (· exact upp); (· simp); (clear hS; intro w hS; (simp only [List.set_cons_succ, List.set_cons_zero, putList, Nat.zero_add, Nat.reduceAdd] at hS))))
      (refine WL_fld hS (by exact evk) (c109 g s5 l dv _ (rsA hS hR hs5)) ?_); clear hS; (intro rg s6 w h6 hs6 hS)
      unfold pairV
      repeat' (first | ((with_reducible apply WL_p); (· exact evk)) | (with_reducible first | refine WL_nil ?_ | refine then_normal ?_ | refine blk_normal ?_ | refine WC_seq ?_ | refine WC_reg ?_ | refine WC_block ?_ | refine WC_skip ?_ | refine WC_exit ?_ | refine then_exit ?_ | refine blk_hit ?_ | refine blk_miss (by decide) ?_ | refine WC_ret ?_ | refine then_ret ?_ | refine blk_ret ?_) | ((with_reducible apply WL_storeN hS); (· exact evk); (· exact evk); (· rfl); (· simp [Value.oneCell', S]); (· exact upp); (· simp); (clear hS; intro w hS; (simp only [List.set_cons_succ, List.set_cons_zero, putList, Nat.zero_add, Nat.reduceAdd] at hS))))
      (refine WL_fld hS (by exact evk) (c75 g 0 1099511627776 s6 l dv (by omega) (by omega) _ (rsA hS hR hs6)) ?_); clear hS; (intro hd s7 w h7 hs7 hS)
      repeat' (first | ((with_reducible apply WL_p); (· exact evk)) | (with_reducible first | refine WL_nil ?_ | refine then_normal ?_ | refine blk_normal ?_ | refine WC_seq ?_ | refine WC_reg ?_ | refine WC_block ?_ | refine WC_skip ?_ | refine WC_exit ?_ | refine then_exit ?_ | refine blk_hit ?_ | refine blk_miss (by decide) ?_ | refine WC_ret ?_ | refine then_ret ?_ | refine blk_ret ?_) | ((with_reducible apply WL_store hS); (· exact evk); (· exact evk); (· first | rfl | assumption | exact RowIs.one (by assumption)); (· exact upp); (· simp); (clear hS; intro w hS; (simp only [List.set_cons_succ, List.set_cons_zero, putList, Nat.zero_add, Nat.reduceAdd] at hS))) | ((with_reducible apply WL_loadN hS); (· exact evk); (· exact inn); (· ((simp only [List.drop_succ_cons, List.drop_zero, List.take_succ_cons, List.take_zero]) <;> rfl)); (· rfl)) | ((first | (with_reducible apply WL_newz hS) | ((with_reducible apply WL_newv hS); (· exact evk); (· rfl)) | ((with_reducible apply WL_row hS); (· exact evk))); clear hS; intro bq w hS hbq; (try simp only [List.nil_append, List.cons_append, List.append_assoc] at hS)))
      refine WL_append (M := [(g, Blk 123 (RC dv s7))]) (L := L) (F := _) hS el31 (by exact evk) (by exact evk) hrow (Src.blk hS inn (n := 1) rfl (Vw.ones ⟨nm, c, rc, ve, rg.1, rg.2, hd⟩) Try.underlying31) (by omega) (by omega) ?_
      clear hS
      intro v2 w2 L2 hrow2 hS
      simp only [List.cons_append, List.nil_append] at hS
      repeat' (first | ((with_reducible apply WL_p); (· exact evk)) | (with_reducible first | refine WL_nil ?_ | refine then_normal ?_ | refine blk_normal ?_ | refine WC_seq ?_ | refine WC_reg ?_ | refine WC_block ?_ | refine WC_skip ?_ | refine WC_exit ?_ | refine then_exit ?_ | refine blk_hit ?_ | refine blk_miss (by decide) ?_ | refine WC_ret ?_ | refine then_ret ?_ | refine blk_ret ?_) | ((with_reducible apply WL_load hS); (· exact evk); (· exact inn); (· rfl)))
      refine ⟨(n, nm, acc ++ [⟨nm, c, rc, ve, rg.1, rg.2, hd⟩], s7, v2, L2), by dsimp only; omega, ?_, ?_, ?_, hs7, ?_, hS.sub (List.Sublist.cons_cons _ (List.sublist_append_left _ _))⟩
      · (simp (disch := omega) only [ev_tmp, ev_const, ev_func, ev_global, upd_app, val_move, val_pick, pickV_true, pickV_false, pickV_bool, val_nilck, nilckV_ptr, val_bin, bin_add, bin_sub, bin_mul, bin_eql, bin_neq, bin_lss, bin_leq, bin_gtr, bin_geq, bin_seql, bin_sneq, bin_slss, bin_sleq, bin_sgtr, bin_sgeq, val_beq, beqV_f, beqV_t, val_seq, val_not, notV_bool, val_toInt, toIntV_int, val_off, offV_ptr, val_len, lenV_slice, val_slen, slenV_S, val_ext, extV_tup, val_ifc, val_fn, List.getElem?_cons_zero, List.getElem?_cons_succ, List.map_cons, List.map_nil, eq_self, Bool.false_eq_true, Bool.not_true, Bool.not_false, Option.map_some, Nat.zero_add, isB_bool, isB_undef, Bool.true_beq, Bool.false_beq, beq_self_eq_true, Bool.true_and, Bool.and_true, Bool.false_and, Bool.and_false, Bool.true_or, Bool.or_true, Bool.false_or, Bool.or_false, not_dec, and_dec, or_dec, seqV_f, seqV_t, ceq_i, ceq_s, ceq_nil, val_bld, bldV, cells_int, cells_bool, cells_S, cells_b8, cells_slice, cells_ptr, cells_agg, List.size_toArray, List.length_cons, List.length_nil, place, List.take_succ_cons, List.take_zero, List.drop_succ_cons, List.drop_zero, List.cons_append, List.nil_append, and_self, and_true, true_and, Nat.reduceLeDiff, List.toList_toArray, wr64, wru64, wru8, Nat.reduceEqDiff, ↓reduceIte, Nat.reduceAdd, Has, and_true, Int.natCast_add, Int.cast_ofNat_Int])
        simp
      · intro p _
        simp only [List.length_append, List.length_cons, List.length_nil]
        omega
      · intro ys sf hy
        have := hall _ _ (stepS_viewsN (stepS_view h2 h3 h4 h5 h6 h7) hy)
        simpa using this
      · simpa [Vw.cells] using hrow2
end Go.Proofs.Ytohmgkcdjapinaa.Lw
