/- Part 5 of the texts of this claim: Wt Wu Wv Ww Wx Wy. -/
import Derived.Test.YtohmgkcdjapinaaM04
set_option linter.unusedVariables false
set_option linter.unusedSimpArgs false
namespace Go.Proofs.Ytohmgkcdjapinaa.Lw
abbrev R53_0 : List LOper := [⟨some 2, none, .newz 33 [(.int .i64 0), (S []), (.int .i64 0), (.int .i64 0), (.int .i64 0), (.int .i64 0), (.int .i64 0), (.int .i64 0), (.int .i64 0), (.int .i64 0), (.int .i64 0), (.int .i64 0), (.int .i64 0), (.int .i64 0), (S []), (.int .i64 0), (.int .i64 0), (.int .i64 0), (.int .i64 0), (.slice none 0 0)]⟩]
abbrev R53_1 : List LOper := [⟨some 4, none, .pv (.move (.tmp 0))⟩, ⟨some 5, none, .call 73 [(.tmp 4), (.const (.int .i64 1)), (.const (.int .i64 10))]⟩, ⟨some 6, none, .pv (.bld [(.int .i64 0), (S []), (.int .i64 0), (.int .i64 0), (.int .i64 0), (.int .i64 0), (.int .i64 0), (.int .i64 0), (.int .i64 0), (.int .i64 0), (.int .i64 0), (.int .i64 0), (.int .i64 0), (.int .i64 0), (S []), (.int .i64 0), (.int .i64 0), (.int .i64 0), (.int .i64 0), (.slice none 0 0)] [(0, (1, (.tmp 5)))])⟩, ⟨some 3, none, .newz 33 [(.int .i64 0), (S []), (.int .i64 0), (.int .i64 0), (.int .i64 0), (.int .i64 0), (.int .i64 0), (.int .i64 0), (.int .i64 0), (.int .i64 0), (.int .i64 0), (.int .i64 0), (.int .i64 0), (.int .i64 0), (S []), (.int .i64 0), (.int .i64 0), (.int .i64 0), (.int .i64 0), (.slice none 0 0)]⟩, ⟨none, none, .store 20 (.tmp 3) (.tmp 6)⟩]
abbrev R53_2 : List LOper := [⟨some 7, none, .pv (.off (.tmp 3) 0)⟩, ⟨some 8, none, .load (.tmp 7)⟩]
abbrev R53_3 : List LOper := [⟨some 10, none, .pv (.bin .eql (.tmp 8) (.const (.int .i64 1)))⟩, ⟨some 9, none, .pv (.move (.tmp 10))⟩]
abbrev R53_4 : List LOper := [⟨some 11, none, .pv (.move (.tmp 0))⟩, ⟨some 12, none, .call 56 [(.tmp 11)]⟩, ⟨some 13, none, .pv (.off (.tmp 3) 11)⟩, ⟨none, none, .store 2 (.tmp 13) (.tmp 12)⟩]
abbrev R53_5 : List LOper := [⟨some 14, none, .pv (.move (.tmp 0))⟩, ⟨some 15, none, .call 57 [(.tmp 14)]⟩, ⟨some 16, none, .pv (.off (.tmp 3) 13)⟩, ⟨none, none, .store 4 (.tmp 16) (.tmp 15)⟩]
abbrev R53_6 : List LOper := [⟨some 17, none, .loadN 20 (.tmp 3)⟩, ⟨none, none, .store 20 (.tmp 2) (.tmp 17)⟩]
abbrev R53_7 : List LOper := [⟨some 19, none, .pv (.bin .eql (.tmp 8) (.const (.int .i64 2)))⟩, ⟨some 18, none, .pv (.move (.tmp 19))⟩]
abbrev R53_8 : List LOper := [⟨some 20, none, .pv (.move (.tmp 0))⟩, ⟨some 21, none, .call 56 [(.tmp 20)]⟩, ⟨some 22, none, .pv (.off (.tmp 3) 11)⟩, ⟨none, none, .store 2 (.tmp 22) (.tmp 21)⟩]
abbrev R53_9 : List LOper := [⟨some 23, none, .pv (.move (.tmp 0))⟩, ⟨some 24, none, .call 100 [(.tmp 23), (.const (S []))]⟩, ⟨some 25, none, .pv (.off (.tmp 3) 1)⟩, ⟨none, none, .store 1 (.tmp 25) (.tmp 24)⟩]
abbrev R53_10 : List LOper := [⟨some 26, none, .pv (.move (.tmp 0))⟩, ⟨some 27, none, .call 73 [(.tmp 26), (.const (.int .i64 0)), (.const (.int .i64 255))]⟩, ⟨some 28, none, .pv (.off (.tmp 3) 17)⟩, ⟨none, none, .store 1 (.tmp 28) (.tmp 27)⟩]
abbrev R53_11 : List LOper := [⟨some 29, none, .pv (.off (.tmp 3) 17)⟩, ⟨some 30, none, .load (.tmp 29)⟩, ⟨some 31, none, .call 50 [(.tmp 30)]⟩]
abbrev R53_12 : List LOper := [⟨some 33, none, .pv (.move (.tmp 0))⟩, ⟨some 34, none, .call 101 [(.tmp 33)]⟩, ⟨some 32, none, .pv (.move (.tmp 34))⟩, ⟨some 35, none, .pv (.ext (.tmp 32) 0)⟩, ⟨some 36, none, .pv (.ext (.tmp 32) 1)⟩, ⟨some 37, none, .pv (.off (.tmp 3) 2)⟩, ⟨none, none, .store 1 (.tmp 37) (.tmp 35)⟩, ⟨some 38, none, .pv (.off (.tmp 3) 3)⟩, ⟨none, none, .store 1 (.tmp 38) (.tmp 36)⟩]
abbrev R53_13 : List LOper := [⟨some 39, none, .loadN 20 (.tmp 3)⟩, ⟨none, none, .store 20 (.tmp 2) (.tmp 39)⟩]
abbrev R53_14 : List LOper := [⟨some 41, none, .pv (.bin .eql (.tmp 8) (.const (.int .i64 10)))⟩, ⟨some 40, none, .pv (.move (.tmp 41))⟩]
abbrev R53_15 : List LOper := [⟨some 42, none, .pv (.move (.tmp 0))⟩, ⟨some 43, none, .call 102 [(.tmp 42)]⟩, ⟨some 44, none, .pv (.off (.tmp 3) 19)⟩, ⟨none, none, .store 1 (.tmp 44) (.tmp 43)⟩]
abbrev R53_16 : List LOper := [⟨some 45, none, .loadN 20 (.tmp 3)⟩, ⟨none, none, .store 20 (.tmp 2) (.tmp 45)⟩]
abbrev R53_17 : List LOper := [⟨some 46, none, .pv (.move (.tmp 0))⟩, ⟨some 47, none, .call 100 [(.tmp 46), (.const (S []))]⟩, ⟨some 48, none, .pv (.off (.tmp 3) 1)⟩, ⟨none, none, .store 1 (.tmp 48) (.tmp 47)⟩]
abbrev R53_18 : List LOper := [⟨some 50, none, .pv (.move (.tmp 0))⟩, ⟨some 51, none, .call 101 [(.tmp 50)]⟩, ⟨some 49, none, .pv (.move (.tmp 51))⟩, ⟨some 52, none, .pv (.ext (.tmp 49) 0)⟩, ⟨some 53, none, .pv (.ext (.tmp 49) 1)⟩, ⟨some 54, none, .pv (.off (.tmp 3) 2)⟩, ⟨none, none, .store 1 (.tmp 54) (.tmp 52)⟩, ⟨some 55, none, .pv (.off (.tmp 3) 3)⟩, ⟨none, none, .store 1 (.tmp 55) (.tmp 53)⟩]
abbrev R53_19 : List LOper := [⟨some 56, none, .pv (.off (.tmp 3) 0)⟩, ⟨some 57, none, .load (.tmp 56)⟩]
abbrev R53_20 : List LOper := [⟨some 59, none, .pv (.bin .eql (.tmp 57) (.const (.int .i64 3)))⟩, ⟨some 58, none, .pv (.move (.tmp 59))⟩]
abbrev R53_21 : List LOper := [⟨some 61, none, .pv (.bin .eql (.tmp 57) (.const (.int .i64 7)))⟩, ⟨some 60, none, .pv (.move (.tmp 61))⟩]
abbrev R53_22 : List LOper := [⟨some 63, none, .pv (.bin .eql (.tmp 57) (.const (.int .i64 4)))⟩, ⟨some 62, none, .pv (.move (.tmp 63))⟩]
abbrev R53_23 : List LOper := [⟨some 64, none, .pv (.bin .eql (.tmp 57) (.const (.int .i64 5)))⟩, ⟨some 62, none, .pv (.move (.tmp 64))⟩]
abbrev R53_24 : List LOper := [⟨some 65, none, .pv (.bin .eql (.tmp 57) (.const (.int .i64 6)))⟩, ⟨some 62, none, .pv (.move (.tmp 65))⟩]
abbrev R53_25 : List LOper := [⟨some 66, none, .pv (.move (.tmp 0))⟩, ⟨some 67, none, .call 103 [(.tmp 66)]⟩, ⟨some 68, none, .pv (.off (.tmp 3) 4)⟩, ⟨none, none, .store 2 (.tmp 68) (.tmp 67)⟩]
abbrev R53_26 : List LOper := [⟨some 69, none, .pv (.move (.tmp 0))⟩, ⟨some 70, none, .call 103 [(.tmp 69)]⟩, ⟨some 71, none, .pv (.off (.tmp 3) 4)⟩, ⟨none, none, .store 2 (.tmp 71) (.tmp 70)⟩]
abbrev R53_27 : List LOper := [⟨some 72, none, .pv (.move (.tmp 0))⟩, ⟨some 73, none, .call 103 [(.tmp 72)]⟩, ⟨some 74, none, .pv (.off (.tmp 3) 6)⟩, ⟨none, none, .store 2 (.tmp 74) (.tmp 73)⟩]
abbrev R53_28 : List LOper := [⟨some 75, none, .pv (.move (.tmp 0))⟩, ⟨some 76, none, .call 103 [(.tmp 75)]⟩, ⟨some 77, none, .pv (.off (.tmp 3) 4)⟩, ⟨none, none, .store 2 (.tmp 77) (.tmp 76)⟩]
abbrev R53_29 : List LOper := [⟨some 78, none, .pv (.move (.tmp 0))⟩, ⟨some 79, none, .call 104 [(.tmp 78)]⟩, ⟨some 80, none, .pv (.off (.tmp 3) 8)⟩, ⟨none, none, .store 2 (.tmp 80) (.tmp 79)⟩]
abbrev R53_30 : List LOper := [⟨some 81, none, .pv (.off (.tmp 3) 0)⟩, ⟨some 82, none, .load (.tmp 81)⟩, ⟨some 83, none, .pv (.bin .eql (.tmp 82) (.const (.int .i64 4)))⟩]
abbrev R53_31 : List LOper := [⟨some 84, none, .pv (.move (.tmp 0))⟩, ⟨some 85, none, .call 73 [(.tmp 84), (.const (.int .i64 0)), (.const (.int .i64 1099511627776))]⟩, ⟨some 86, none, .pv (.off (.tmp 3) 10)⟩, ⟨none, none, .store 1 (.tmp 86) (.tmp 85)⟩]
abbrev R53_32 : List LOper := [⟨some 87, none, .loadN 20 (.tmp 3)⟩, ⟨none, none, .store 20 (.tmp 2) (.tmp 87)⟩]
abbrev L53 : LFun := ⟨88, [(.cells 2 20)], (.seq (.reg R53_0) (.seq (.reg R53_1) (.seq (.seq (.reg R53_2) (.block 0 (.seq (.reg R53_3) (.cond (.tmp 9) (.seq (.reg R53_4) (.seq (.reg R53_5) (.seq (.reg R53_6) .ret))) (.seq (.reg R53_7) (.cond (.tmp 18) (.seq (.reg R53_8) (.seq (.reg R53_9) (.seq (.seq (.reg R53_10) (.seq (.reg R53_11) (.cond (.tmp 31) (.reg R53_12) .skip))) (.seq (.reg R53_13) .ret)))) (.seq (.reg R53_14) (.cond (.tmp 40) (.seq (.reg R53_15) (.seq (.reg R53_16) .ret)) .skip)))))))) (.seq (.reg R53_17) (.seq (.reg R53_18) (.seq (.seq (.reg R53_19) (.block 1 (.seq (.block 5 (.seq (.block 4 (.seq (.block 3 (.seq (.block 2 (.seq (.seq (.seq (.reg R53_20) (.cond (.tmp 58) (.exit 2) .skip)) (.seq (.seq (.reg R53_21) (.cond (.tmp 60) (.exit 3) .skip)) (.seq (.seq (.reg R53_22) (.cond (.tmp 62) .skip (.seq (.reg R53_23) (.cond (.tmp 62) .skip (.reg R53_24))))) (.cond (.tmp 62) (.exit 4) .skip)))) (.exit 5))) (.seq (.reg R53_25) (.exit 1)))) (.seq (.seq (.reg R53_26) (.reg R53_27)) (.exit 1)))) (.reg R53_28))) (.seq (.seq (.reg R53_29) (.seq (.reg R53_30) (.cond (.tmp 83) (.reg R53_31) .skip))) (.exit 1))))) (.seq (.reg R53_32) .ret)))))))⟩
theorem low53 : lowFn Try.prog Try.f53 = some L53 := by kernel_rfl
abbrev R52_0 : List LOper := [⟨some 3, none, .pv (.move (.tmp 0))⟩, ⟨some 4, none, .call 53 [(.tmp 3)]⟩, ⟨none, none, .store 20 (.tmp 1) (.tmp 4)⟩]
abbrev L52 : LFun := ⟨5, [], (.reg R52_0)⟩
theorem low52 : lowFn Try.prog Try.f52 = some L52 := by kernel_rfl

abbrev rdCap (l : List UInt8) (a : Nat) := rdPair l 1 1099511627776 0 1099511627776 a
abbrev rdEpoch (l : List UInt8) (a : Nat) := rdPair l 1 1099511627776 0 15 a
abbrev rdRights (l : List UInt8) (a : Nat) := rdPair l 0 1099511627776 0 1099511627776 a
abbrev rdCall (l : List UInt8) (a : Nat) := rdPair l 0 63 1 1099511627776 a
def zeroMs : Ms := ⟨0, [], 0, 0, 0, 0, 0, 0, 0, 0, 0, 0, 0, 0, [], 0, 0, 0, 0⟩
def Ms.withOp (m : Ms) (c : Nat × Nat) (o : OpV) : Ms := { m with cs := c.1, ci := c.2, opk := o.k, opn := o.nm, opa := o.a, opb := o.b }
/-- What comes behind the kind, the name and the cap. -/
def rdRest (l : List UInt8) (m : Ms) (a : Nat) : Except Nat (Ms × Nat) :=
  if m.kind = 3 then bindR (rdEpoch l a) fun e a1 => .ok ({ m with er := e.1, ek := e.2 }, a1) else
  if m.kind = 7 then bindR (rdEpoch l a) fun e a1 => bindR (rdEpoch l a1) fun o a2 => .ok ({ m with er := e.1, ek := e.2, or_ := o.1, ok := o.2 }, a2) else
  if m.kind = 4 then bindR (rdEpoch l a) fun e a1 => bindR (rdRights l a1) fun r a2 => bindR (rdNum l 0 1099511627776 a2) fun h a3 => .ok ({ m with er := e.1, ek := e.2, down := r.1, up := r.2, held := h }, a3) else
  if m.kind = 5 ∨ m.kind = 6 then bindR (rdEpoch l a) fun e a1 => bindR (rdRights l a1) fun r a2 => .ok ({ m with er := e.1, ek := e.2, down := r.1, up := r.2 }, a2) else
  bindR (rdRights l a) fun r a2 => .ok ({ m with down := r.1, up := r.2 }, a2)
def rdMsgK (l : List UInt8) (k a1 : Nat) : Except Nat ((Ms × List Vw) × Nat) :=
  if k = 1 then bindR (rdCall l a1) fun c a2 => bindR (rdOp l a2) fun o a3 => .ok ((⟨k, [], 0, 0, 0, 0, 0, 0, 0, 0, 0, c.1, c.2, o.k, o.nm, o.a, o.b, 0, 0⟩, []), a3) else
  if k = 2 then bindR (rdCall l a1) fun c a2 => bindR (rdName l [] a2) fun nm a3 => bindR (rdNum l 0 255 a3) fun er a4 =>
    if er = 0 ∨ er = 101 then bindR (rdCap l a4) fun cp a5 => .ok ((⟨k, nm, cp.1, cp.2, 0, 0, 0, 0, 0, 0, 0, c.1, c.2, 0, [], 0, 0, er, 0⟩, []), a5)
    else .ok ((⟨k, nm, 0, 0, 0, 0, 0, 0, 0, 0, 0, c.1, c.2, 0, [], 0, 0, er, 0⟩, []), a4) else
  if k = 10 then bindR (rdViews l a1) fun vs a2 => .ok ((⟨k, [], 0, 0, 0, 0, 0, 0, 0, 0, 0, 0, 0, 0, [], 0, 0, 0, 0⟩, vs), a2) else
  bindR (rdName l [] a1) fun nm a2 => bindR (rdCap l a2) fun cp a3 => bindR (rdRest l ⟨k, nm, cp.1, cp.2, 0, 0, 0, 0, 0, 0, 0, 0, 0, 0, [], 0, 0, 0, 0⟩ a3) fun m a4 => .ok ((m, []), a4)
/-- A message and its views. -/
def rdMsg (l : List UInt8) (a : Nat) : Except Nat ((Ms × List Vw) × Nat) := bindR (rdNum l 1 10 a) (rdMsgK l)
theorem rdViewsN_ok {l : List UInt8} : ∀ (n : Nat) (last : List UInt8) (a a' : Nat) (vs : List Vw), a ≤ l.length → rdViewsN l n last a = .ok (vs, a') → a' ≤ l.length ∧ vs.length = n
  | 0, last, a, a', vs, ha, h => by
    injection h with h
    injection h with h1 h2
    subst h1 h2
    exact ⟨ha, rfl⟩
  | n + 1, last, a, a', vs, ha, h => by
    obtain ⟨v, a1, h1, h⟩ := bindR_inv h
    obtain ⟨vs', a2, h2, h⟩ := bindR_inv h
    have q1 := rdView_ok ha h1
    have q2 := rdViewsN_ok n _ a1 a2 vs' q1 h2
    injection h with h
    injection h with h3 h4
    subst h3 h4
    exact ⟨q2.1, by simp [q2.2]⟩
theorem rdViews_ok {l : List UInt8} {a a' : Nat} {vs : List Vw} (ha : a ≤ l.length) (h : rdViews l a = .ok (vs, a')) : a' ≤ l.length ∧ vs.length ≤ 64 := by
  obtain ⟨n, a1, h1, h⟩ := bindR_inv h
  have q1 := rdNum_ok ha h1
  have q2 := rdViewsN_ok n [] a1 a' vs q1.1 h
  exact ⟨q2.1, by omega⟩
theorem bindR_assoc {α β γ : Type} (x : Except Nat (α × Nat)) (f : α → Nat → Except Nat (β × Nat)) (h : β → Nat → Except Nat (γ × Nat)) : bindR (bindR x f) h = bindR x fun y a => bindR (f y a) h := by
  cases x with
  | error p => rfl
  | ok r => rfl
abbrev mkRest (k : Nat) (nm : List UInt8) (cp : Nat × Nat) : Ms := ⟨k, nm, cp.1, cp.2, 0, 0, 0, 0, 0, 0, 0, 0, 0, 0, [], 0, 0, 0, 0⟩
section
variable (l nm : List UInt8) (cp : Nat × Nat) (a : Nat)
abbrev endR (x : Except Nat (Ms × Nat)) : Except Nat ((Ms × List Vw) × Nat) := bindR x fun m a4 => .ok ((m, []), a4)
theorem rest3 : endR (rdRest l (mkRest 3 nm cp) a) = bindR (rdEpoch l a) fun e a1 => .ok (({ mkRest 3 nm cp with er := e.1, ek := e.2 }, []), a1) := by
  rw [endR, show rdRest l (mkRest 3 nm cp) a = bindR (rdEpoch l a) fun e a1 => .ok ({ mkRest 3 nm cp with er := e.1, ek := e.2 }, a1) from rfl, bindR_assoc]; rfl
theorem rest7 : endR (rdRest l (mkRest 7 nm cp) a) = bindR (rdEpoch l a) fun e a1 => bindR (rdEpoch l a1) fun o a2 => .ok (({ mkRest 7 nm cp with er := e.1, ek := e.2, or_ := o.1, ok := o.2 }, []), a2) := by
  rw [endR, show rdRest l (mkRest 7 nm cp) a = bindR (rdEpoch l a) fun e a1 => bindR (rdEpoch l a1) fun o a2 => .ok ({ mkRest 7 nm cp with er := e.1, ek := e.2, or_ := o.1, ok := o.2 }, a2) from rfl]
  simp only [bindR_assoc]; rfl
theorem rest4 : endR (rdRest l (mkRest 4 nm cp) a) = bindR (rdEpoch l a) fun e a1 => bindR (rdRights l a1) fun r a2 => bindR (rdNum l 0 1099511627776 a2) fun h a3 => .ok (({ mkRest 4 nm cp with er := e.1, ek := e.2, down := r.1, up := r.2, held := h }, []), a3) := by
  rw [endR, show rdRest l (mkRest 4 nm cp) a = bindR (rdEpoch l a) fun e a1 => bindR (rdRights l a1) fun r a2 => bindR (rdNum l 0 1099511627776 a2) fun h a3 => .ok ({ mkRest 4 nm cp with er := e.1, ek := e.2, down := r.1, up := r.2, held := h }, a3) from rfl]
  simp only [bindR_assoc]; rfl
theorem rest56 (k : Nat) (h : k = 5 ∨ k = 6) : endR (rdRest l (mkRest k nm cp) a) = bindR (rdEpoch l a) fun e a1 => bindR (rdRights l a1) fun r a2 => .ok (({ mkRest k nm cp with er := e.1, ek := e.2, down := r.1, up := r.2 }, []), a2) := by
  rw [endR, show rdRest l (mkRest k nm cp) a = bindR (rdEpoch l a) fun e a1 => bindR (rdRights l a1) fun r a2 => .ok ({ mkRest k nm cp with er := e.1, ek := e.2, down := r.1, up := r.2 }, a2) from by rcases h with rfl | rfl <;> rfl]
  simp only [bindR_assoc]; rfl
theorem rest89 (k : Nat) (h : k = 8 ∨ k = 9) : endR (rdRest l (mkRest k nm cp) a) = bindR (rdRights l a) fun r a2 => .ok (({ mkRest k nm cp with down := r.1, up := r.2 }, []), a2) := by
  rw [endR, show rdRest l (mkRest k nm cp) a = bindR (rdRights l a) fun r a2 => .ok ({ mkRest k nm cp with down := r.1, up := r.2 }, a2) from by rcases h with rfl | rfl <;> rfl]
  simp only [bindR_assoc]; rfl
end
/-- The message that was read. -/
def MsgR (g : Nat) (dv : Value) (x : Except Nat ((Ms × List Vw) × Nat)) (u : Value) (O' : Blks) : Prop :=
  ∃ m vs a' vv L, x = .ok ((m, vs), a') ∧ RowIs 71 7 vv vs.length (vs.flatMap Vw.cells) L ∧ u = .agg (m.cells vv).toArray ∧ O' = (g, Blk 140 [dv, .int .i64 ((a' : Nat) : Int)]) :: L
set_option maxRecDepth 8000 in
set_option maxHeartbeats 4000000 in
theorem c53 (g a : Nat) (l : List UInt8) (dv : Value) (w0 : World) (h : RdA g a l dv w0) :
    Calls Try.prog 53 #[.pointer (some ⟨g, 0, none⟩)] w0 (RetP w0 [g] (MsgR g dv (rdMsg l a)) (RdP (rdMsg l a))) := by
  obtain ⟨hA, hR, hle, hcap⟩ := h
  refine enterF (args := [.pointer (some ⟨g, 0, none⟩)]) Try.func53 low53 rfl ?_; have hS := St.init hA; dsimp only [L53, envL, Nat.reduceAdd]
  repeat' (first | ((with_reducible apply WL_p); (· exact evk)) | (with_reducible first | refine WL_nil ?_ | refine then_normal ?_ | refine blk_normal ?_ | refine WC_seq ?_ | refine WC_reg ?_ | refine WC_block ?_ | refine WC_skip ?_ | refine WC_exit ?_ | refine then_exit ?_ | refine blk_hit ?_ | refine blk_miss (by decide) ?_ | refine WC_ret ?_ | refine then_ret ?_ | refine blk_ret ?_) | ((first | (with_reducible apply WL_newz hS) | ((with_reducible apply WL_newv hS); (· exact evk); (· rfl)) | ((with_reducible apply WL_row hS); (· exact evk))); clear hS; intro bq w hS hbq; (try simp only [List.nil_append, List.cons_append, List.append_assoc] at hS)))
  refine WL_rd hS (by exact evk) (c73 g a 1 10 l dv (by omega) (by omega) _ (rdA hS hR hle hcap)) (fun q w' hx hS' => ⟨_, ⟨q, bindR_err hx, rfl⟩, hS'.sub (List.nil_sublist _)⟩) ?_
  clear hS
  intro k a1 w x1 hS
  have y1 := rdNum_ok hle x1
  rw [show rdMsg l a = rdMsgK l k a1 from bindR_ok x1]
  repeat' (first | ((with_reducible apply WL_p); (· exact evk)) | (with_reducible first | refine WL_nil ?_ | refine then_normal ?_ | refine blk_normal ?_ | refine WC_seq ?_ | refine WC_reg ?_ | refine WC_block ?_ | refine WC_skip ?_ | refine WC_exit ?_ | refine then_exit ?_ | refine blk_hit ?_ | refine blk_miss (by decide) ?_ | refine WC_ret ?_ | refine then_ret ?_ | refine blk_ret ?_) | ((first | (with_reducible apply WL_newz hS) | ((with_reducible apply WL_newv hS); (· exact evk); (· rfl)) | ((with_reducible apply WL_row hS); (· exact evk))); clear hS; intro bq w hS hbq; (try simp only [List.nil_append, List.cons_append, List.append_assoc] at hS)) | ((with_reducible apply WL_load hS); (· exact evk); (· exact inn); (· rfl)) | ((with_reducible apply WL_storeN hS); (· exact evk); (· exact evk); (· rfl); (· simp [Value.oneCell', S]); (· exact upp); (· simp); (clear hS; intro w hS; (simp only [List.set_cons_succ, List.set_cons_zero, putList, Nat.zero_add, Nat.reduceAdd] at hS))))
  rcases (by omega : k = 1 ∨ k = 2 ∨ k = 10 ∨ (k ≠ 1 ∧ k ≠ 2 ∧ k ≠ 10)) with hk | hk | hk | ⟨hk1, hk2, hk3⟩
  · have hres : rdMsgK l k a1 = bindR (rdCall l a1) fun c a2 => bindR (rdOp l a2) fun o a3 => .ok ((⟨k, [], 0, 0, 0, 0, 0, 0, 0, 0, 0, c.1, c.2, o.k, o.nm, o.a, o.b, 0, 0⟩, []), a3) := if_pos hk
    rw [hres]
    subst hk
    repeat' (first | ((with_reducible apply WL_p); (· exact evk)) | (with_reducible first | refine WL_nil ?_ | refine then_normal ?_ | refine blk_normal ?_ | refine WC_seq ?_ | refine WC_reg ?_ | refine WC_block ?_ | refine WC_skip ?_ | refine WC_exit ?_ | refine then_exit ?_ | refine blk_hit ?_ | refine blk_miss (by decide) ?_ | refine WC_ret ?_ | refine then_ret ?_ | refine blk_ret ?_) | ((with_reducible apply WC_dec); (· exact evk)) | (with_reducible intro hh))
    all_goals (try omega)
    refine WL_rd hS (by exact evk) (c56 g a1 l dv _ (rdA hS hR y1.1 hcap)) (fun q w' hx hS' => ⟨_, ⟨q, bindR_err hx, rfl⟩, hS'.sub (List.nil_sublist _)⟩) ?_
    clear hS
    intro c a2 w x2 hS
    have y2 := rdPair_ok y1.1 x2
    rw [bindR_ok x2]
    unfold pairV
    repeat' (first | ((with_reducible apply WL_p); (· exact evk)) | (with_reducible first | refine WL_nil ?_ | refine then_normal ?_ | refine blk_normal ?_ | refine WC_seq ?_ | refine WC_reg ?_ | refine WC_block ?_ | refine WC_skip ?_ | refine WC_exit ?_ | refine then_exit ?_ | refine blk_hit ?_ | refine blk_miss (by decide) ?_ | refine WC_ret ?_ | refine then_ret ?_ | refine blk_ret ?_) | ((with_reducible apply WL_load hS); (· exact evk); (· exact inn); (· rfl)) | ((with_reducible apply WL_loadN hS); (· exact evk); (· exact inn); (· ((simp only [List.drop_succ_cons, List.drop_zero, List.take_succ_cons, List.take_zero]) <;> rfl)); (· rfl)) | ((with_reducible apply WL_store hS); (· exact evk); (· exact evk); (· first | rfl | assumption | exact RowIs.one (by assumption)); (· exact upp); (· simp); (clear hS; intro w hS; (simp only [List.set_cons_succ, List.set_cons_zero, putList, Nat.zero_add, Nat.reduceAdd] at hS))) | ((with_reducible apply WL_storeN hS); (· exact evk); (· exact evk); (· rfl); (· simp [Value.oneCell', S]); (· exact upp); (· simp); (clear hS; intro w hS; (simp only [List.set_cons_succ, List.set_cons_zero, putList, Nat.zero_add, Nat.reduceAdd] at hS))))
    refine WL_rd hS (by exact evk) (c57 g a2 l dv _ (rdA hS hR y2.1 hcap)) (fun q w' hx hS' => ⟨_, ⟨q, bindR_err hx, rfl⟩, hS'.sub (List.nil_sublist _)⟩) ?_
    clear hS
    intro o a3 w x3 hS
    have y3 := rdOp_ok y2.1 x3
    rw [bindR_ok x3]
    unfold OpV.cells
    repeat' (first | ((with_reducible apply WL_p); (· exact evk)) | (with_reducible first | refine WL_nil ?_ | refine then_normal ?_ | refine blk_normal ?_ | refine WC_seq ?_ | refine WC_reg ?_ | refine WC_block ?_ | refine WC_skip ?_ | refine WC_exit ?_ | refine then_exit ?_ | refine blk_hit ?_ | refine blk_miss (by decide) ?_ | refine WC_ret ?_ | refine then_ret ?_ | refine blk_ret ?_) | ((with_reducible apply WL_load hS); (· exact evk); (· exact inn); (· rfl)) | ((with_reducible apply WL_loadN hS); (· exact evk); (· exact inn); (· ((simp only [List.drop_succ_cons, List.drop_zero, List.take_succ_cons, List.take_zero]) <;> rfl)); (· rfl)) | ((with_reducible apply WL_store hS); (· exact evk); (· exact evk); (· first | rfl | assumption | exact RowIs.one (by assumption)); (· exact upp); (· simp); (clear hS; intro w hS; (simp only [List.set_cons_succ, List.set_cons_zero, putList, Nat.zero_add, Nat.reduceAdd] at hS))) | ((with_reducible apply WL_storeN hS); (· exact evk); (· exact evk); (· rfl); (· simp [Value.oneCell', S]); (· exact upp); (· simp); (clear hS; intro w hS; (simp only [List.set_cons_succ, List.set_cons_zero, putList, Nat.zero_add, Nat.reduceAdd] at hS))))
    exact retcR hS (List.Sublist.cons_cons _ (List.nil_sublist _)) rfl inn rfl ⟨_, [], a3, .slice none 0 0, [], rfl, RowIs.nil 71 7, rfl, rfl⟩
  · have hres : rdMsgK l k a1 = bindR (rdCall l a1) fun c a2 => bindR (rdName l [] a2) fun nm a3 => bindR (rdNum l 0 255 a3) fun er a4 =>
      if er = 0 ∨ er = 101 then bindR (rdCap l a4) fun cp a5 => .ok ((⟨k, nm, cp.1, cp.2, 0, 0, 0, 0, 0, 0, 0, c.1, c.2, 0, [], 0, 0, er, 0⟩, []), a5)
      else .ok ((⟨k, nm, 0, 0, 0, 0, 0, 0, 0, 0, 0, c.1, c.2, 0, [], 0, 0, er, 0⟩, []), a4) := by rw [rdMsgK, if_neg (by omega), if_pos hk]
    rw [hres]
    subst hk
    repeat' (first | ((with_reducible apply WL_p); (· exact evk)) | (with_reducible first | refine WL_nil ?_ | refine then_normal ?_ | refine blk_normal ?_ | refine WC_seq ?_ | refine WC_reg ?_ | refine WC_block ?_ | refine WC_skip ?_ | refine WC_exit ?_ | refine then_exit ?_ | refine blk_hit ?_ | refine blk_miss (by decide) ?_ | refine WC_ret ?_ | refine then_ret ?_ | refine blk_ret ?_) | ((with_reducible apply WC_dec); (· exact evk)) | (with_reducible intro hh))
    all_goals (try omega)
    refine WL_rd hS (by exact evk) (c56 g a1 l dv _ (rdA hS hR y1.1 hcap)) (fun q w' hx hS' => ⟨_, ⟨q, bindR_err hx, rfl⟩, hS'.sub (List.nil_sublist _)⟩) ?_
    clear hS
    intro c a2 w x2 hS
    have y2 := rdPair_ok y1.1 x2
    rw [bindR_ok x2]
    unfold pairV
    repeat' (first | ((with_reducible apply WL_p); (· exact evk)) | ((with_reducible apply WL_do); (· exact evd)) | ((with_reducible apply WL_no); (· exact evd)) | ((with_reducible apply WC_true); (· exact evk)) | ((with_reducible apply WC_false); (· exact evk)) | (with_reducible first | refine WL_nil ?_ | refine then_normal ?_ | refine blk_normal ?_ | refine WC_seq ?_ | refine WC_reg ?_ | refine WC_block ?_ | refine WC_skip ?_ | refine WC_exit ?_ | refine then_exit ?_ | refine blk_hit ?_ | refine blk_miss (by decide) ?_ | refine WC_ret ?_ | refine then_ret ?_ | refine blk_ret ?_) | ((with_reducible apply WL_load hS); (· exact evk); (· exact inn); (· rfl)) | ((with_reducible apply WL_loadN hS); (· exact evk); (· exact inn); (· ((simp only [List.drop_succ_cons, List.drop_zero, List.take_succ_cons, List.take_zero]) <;> rfl)); (· rfl)) | ((with_reducible apply WL_store hS); (· exact evk); (· exact evk); (· first | rfl | assumption | exact RowIs.one (by assumption)); (· exact upp); (· simp); (clear hS; intro w hS; (simp only [List.set_cons_succ, List.set_cons_zero, putList, Nat.zero_add, Nat.reduceAdd] at hS))) | ((with_reducible apply WL_storeN hS); (· exact evk); (· exact evk); (· rfl); (· simp [Value.oneCell', S]); (· exact upp); (· simp); (clear hS; intro w hS; (simp only [List.set_cons_succ, List.set_cons_zero, putList, Nat.zero_add, Nat.reduceAdd] at hS))))
    refine WL_rd hS (by exact evk) (c100 g a2 l [] dv _ (rdA hS hR y2.1 hcap)) (fun q w' hx hS' => ⟨_, ⟨q, bindR_err hx, rfl⟩, hS'.sub (List.nil_sublist _)⟩) ?_
    clear hS
    intro nm a3 w x3 hS
    have y3 := rdName_ok y2.1 x3
    rw [bindR_ok x3]
    repeat' (first | ((with_reducible apply WL_p); (· exact evk)) | ((with_reducible apply WL_do); (· exact evd)) | ((with_reducible apply WL_no); (· exact evd)) | ((with_reducible apply WC_true); (· exact evk)) | ((with_reducible apply WC_false); (· exact evk)) | (with_reducible first | refine WL_nil ?_ | refine then_normal ?_ | refine blk_normal ?_ | refine WC_seq ?_ | refine WC_reg ?_ | refine WC_block ?_ | refine WC_skip ?_ | refine WC_exit ?_ | refine then_exit ?_ | refine blk_hit ?_ | refine blk_miss (by decide) ?_ | refine WC_ret ?_ | refine then_ret ?_ | refine blk_ret ?_) | ((with_reducible apply WL_load hS); (· exact evk); (· exact inn); (· rfl)) | ((with_reducible apply WL_loadN hS); (· exact evk); (· exact inn); (· ((simp only [List.drop_succ_cons, List.drop_zero, List.take_succ_cons, List.take_zero]) <;> rfl)); (· rfl)) | ((with_reducible apply WL_store hS); (· exact evk); (· exact evk); (· first | rfl | assumption | exact RowIs.one (by assumption)); (· exact upp); (· simp); (clear hS; intro w hS; (simp only [List.set_cons_succ, List.set_cons_zero, putList, Nat.zero_add, Nat.reduceAdd] at hS))) | ((with_reducible apply WL_storeN hS); (· exact evk); (· exact evk); (· rfl); (· simp [Value.oneCell', S]); (· exact upp); (· simp); (clear hS; intro w hS; (simp only [List.set_cons_succ, List.set_cons_zero, putList, Nat.zero_add, Nat.reduceAdd] at hS))))
    refine WL_rd hS (by exact evk) (c73 g a3 0 255 l dv (by omega) (by omega) _ (rdA hS hR y3.1 hcap)) (fun q w' hx hS' => ⟨_, ⟨q, bindR_err hx, rfl⟩, hS'.sub (List.nil_sublist _)⟩) ?_
    clear hS
    intro er a4 w x4 hS
    have y4 := rdNum_ok y3.1 x4
    rw [bindR_ok x4]
    repeat' (first | ((with_reducible apply WL_p); (· exact evk)) | (with_reducible first | refine WL_nil ?_ | refine then_normal ?_ | refine blk_normal ?_ | refine WC_seq ?_ | refine WC_reg ?_ | refine WC_block ?_ | refine WC_skip ?_ | refine WC_exit ?_ | refine then_exit ?_ | refine blk_hit ?_ | refine blk_miss (by decide) ?_ | refine WC_ret ?_ | refine then_ret ?_ | refine blk_ret ?_) | ((with_reducible apply WL_load hS); (· exact evk); (· exact inn); (· rfl)) | ((with_reducible apply WL_store hS); (· exact evk); (· exact evk); (· first | rfl | assumption | exact RowIs.one (by assumption)); (· exact upp); (· simp); (clear hS; intro w hS; (simp only [List.set_cons_succ, List.set_cons_zero, putList, Nat.zero_add, Nat.reduceAdd] at hS))) | ((with_reducible apply WL_callq hS); (· exact evk); (· first | exact c50 _ _); (clear hS; intro w hS)) | ((with_reducible apply WC_dec); (· exact evk)) | (with_reducible intro hh))
    · rw [if_pos (by omega)]
      refine WL_rd hS (by exact evk) (c101 g a4 l dv _ (rdA hS hR y4.1 hcap)) (fun q w' hx hS' => ⟨_, ⟨q, bindR_err hx, rfl⟩, hS'.sub (List.nil_sublist _)⟩) ?_
      clear hS
      intro cp a5 w x5 hS
      have y5 := rdPair_ok y4.1 x5
      rw [bindR_ok x5]
      repeat' (first | ((with_reducible apply WL_p); (· exact evk)) | ((with_reducible apply WL_do); (· exact evd)) | ((with_reducible apply WL_no); (· exact evd)) | ((with_reducible apply WC_true); (· exact evk)) | ((with_reducible apply WC_false); (· exact evk)) | (with_reducible first | refine WL_nil ?_ | refine then_normal ?_ | refine blk_normal ?_ | refine WC_seq ?_ | refine WC_reg ?_ | refine WC_block ?_ | refine WC_skip ?_ | refine WC_exit ?_ | refine then_exit ?_ | refine blk_hit ?_ | refine blk_miss (by decide) ?_ | refine WC_ret ?_ | refine then_ret ?_ | refine blk_ret ?_) | ((with_reducible apply WL_load hS); (· exact evk); (· exact inn); (· rfl)) | ((with_reducible apply WL_loadN hS); (· exact evk); (· exact inn); (· ((simp only [List.drop_succ_cons, List.drop_zero, List.take_succ_cons, List.take_zero]) <;> rfl)); (· rfl)) | ((with_reducible apply WL_store hS); (· exact evk); (· exact evk); (· first | rfl | assumption | exact RowIs.one (by assumption)); (· exact upp); (· simp); (clear hS; intro w hS; (simp only [List.set_cons_succ, List.set_cons_zero, putList, Nat.zero_add, Nat.reduceAdd] at hS))) | ((with_reducible apply WL_storeN hS); (· exact evk); (· exact evk); (· rfl); (· simp [Value.oneCell', S]); (· exact upp); (· simp); (clear hS; intro w hS; (simp only [List.set_cons_succ, List.set_cons_zero, putList, Nat.zero_add, Nat.reduceAdd] at hS))))
      exact retcR hS (List.Sublist.cons_cons _ (List.nil_sublist _)) rfl inn rfl ⟨_, [], a5, .slice none 0 0, [], rfl, RowIs.nil 71 7, rfl, rfl⟩
    · rw [if_neg (by omega)]
      repeat' (first | ((with_reducible apply WL_p); (· exact evk)) | ((with_reducible apply WL_do); (· exact evd)) | ((with_reducible apply WL_no); (· exact evd)) | ((with_reducible apply WC_true); (· exact evk)) | ((with_reducible apply WC_false); (· exact evk)) | (with_reducible first | refine WL_nil ?_ | refine then_normal ?_ | refine blk_normal ?_ | refine WC_seq ?_ | refine WC_reg ?_ | refine WC_block ?_ | refine WC_skip ?_ | refine WC_exit ?_ | refine then_exit ?_ | refine blk_hit ?_ | refine blk_miss (by decide) ?_ | refine WC_ret ?_ | refine then_ret ?_ | refine blk_ret ?_) | ((with_reducible apply WL_load hS); (· exact evk); (· exact inn); (· rfl)) | ((with_reducible apply WL_loadN hS); (· exact evk); (· exact inn); (· ((simp only [List.drop_succ_cons, List.drop_zero, List.take_succ_cons, List.take_zero]) <;> rfl)); (· rfl)) | ((with_reducible apply WL_store hS); (· exact evk); (· exact evk); (· first | rfl | assumption | exact RowIs.one (by assumption)); (· exact upp); (· simp); (clear hS; intro w hS; (simp only [List.set_cons_succ, List.set_cons_zero, putList, Nat.zero_add, Nat.reduceAdd] at hS))) | ((with_reducible apply WL_storeN hS); (· exact evk); (· exact evk); (· rfl); (· simp [Value.oneCell', S]); (· exact upp); (· simp); (clear hS; intro w hS; (simp only [List.set_cons_succ, List.set_cons_zero, putList, Nat.zero_add, Nat.reduceAdd] at hS))))
      exact retcR hS (List.Sublist.cons_cons _ (List.nil_sublist _)) rfl inn rfl ⟨_, [], a4, .slice none 0 0, [], rfl, RowIs.nil 71 7, rfl, rfl⟩
  · have hres : rdMsgK l k a1 = bindR (rdViews l a1) fun vs a2 => .ok ((⟨k, [], 0, 0, 0, 0, 0, 0, 0, 0, 0, 0, 0, 0, [], 0, 0, 0, 0⟩, vs), a2) := by rw [rdMsgK, if_neg (by omega), if_neg (by omega), if_pos hk]
    rw [hres]
    subst hk
    repeat' (first | ((with_reducible apply WL_p); (· exact evk)) | (with_reducible first | refine WL_nil ?_ | refine then_normal ?_ | refine blk_normal ?_ | refine WC_seq ?_ | refine WC_reg ?_ | refine WC_block ?_ | refine WC_skip ?_ | refine WC_exit ?_ | refine then_exit ?_ | refine blk_hit ?_ | refine blk_miss (by decide) ?_ | refine WC_ret ?_ | refine then_ret ?_ | refine blk_ret ?_) | ((with_reducible apply WC_dec); (· exact evk)) | (with_reducible intro hh))
    all_goals (try omega)
    refine WL_callp (Oc := [(g, Blk 140 [dv, .int .i64 (a1 : Int)])]) hS (by exact evk) (c102 g a1 l dv _ (rdA hS hR y1.1 hcap)) ?_ ?_
    · rintro ch O' w' ⟨q, hq, rfl⟩ hS'
      exact ⟨_, ⟨q, bindR_err hq, rfl⟩, hS'.sub (List.nil_sublist _)⟩
    rintro u O' w ⟨vs, a2, b2, hb, rfl, rfl⟩ hS'
    clear hS
    rw [bindR_ok hb]
    have hS := hS'
    clear hS'
    simp only [List.cons_append, List.nil_append] at hS
    repeat' (first | ((with_reducible apply WL_p); (· exact evk)) | ((with_reducible apply WL_do); (· exact evd)) | ((with_reducible apply WL_no); (· exact evd)) | ((with_reducible apply WC_true); (· exact evk)) | ((with_reducible apply WC_false); (· exact evk)) | (with_reducible first | refine WL_nil ?_ | refine then_normal ?_ | refine blk_normal ?_ | refine WC_seq ?_ | refine WC_reg ?_ | refine WC_block ?_ | refine WC_skip ?_ | refine WC_exit ?_ | refine then_exit ?_ | refine blk_hit ?_ | refine blk_miss (by decide) ?_ | refine WC_ret ?_ | refine then_ret ?_ | refine blk_ret ?_) | ((with_reducible apply WL_load hS); (· exact evk); (· exact inn); (· rfl)) | ((with_reducible apply WL_loadN hS); (· exact evk); (· exact inn); (· ((simp only [List.drop_succ_cons, List.drop_zero, List.take_succ_cons, List.take_zero]) <;> rfl)); (· rfl)) | ((with_reducible apply WL_store hS); (· exact evk); (· exact evk); (· first | rfl | assumption | exact RowIs.one (by assumption)); (· exact upp); (· simp); (clear hS; intro w hS; (simp only [List.set_cons_succ, List.set_cons_zero, putList, Nat.zero_add, Nat.reduceAdd] at hS))) | ((with_reducible apply WL_storeN hS); (· exact evk); (· exact evk); (· rfl); (· simp [Value.oneCell', S]); (· exact upp); (· simp); (clear hS; intro w hS; (simp only [List.set_cons_succ, List.set_cons_zero, putList, Nat.zero_add, Nat.reduceAdd] at hS))))
    refine retcR hS (List.Sublist.cons_cons _ (List.Sublist.cons_cons _ (List.nil_sublist _))) rfl inn rfl ⟨_, vs, a2, _, _, rfl, RowIs.mk (flat_len Vw.len vs) ?_, rfl, rfl⟩
    have := (rdViews_ok y1.1 hb).2
    simp only [maxLen]
    omega
  · have hres : rdMsgK l k a1 = bindR (rdName l [] a1) fun nm a2 => bindR (rdCap l a2) fun cp a3 => endR (rdRest l (mkRest k nm cp) a3) := by rw [rdMsgK, if_neg (by omega), if_neg (by omega), if_neg (by omega)]
    rw [hres]
    repeat' (first | ((with_reducible apply WL_p); (· exact evk)) | ((with_reducible apply WL_do); (· exact evd)) | ((with_reducible apply WL_no); (· exact evd)) | ((with_reducible apply WC_true); (· exact evk)) | ((with_reducible apply WC_false); (· exact evk)) | (with_reducible first | refine WL_nil ?_ | refine then_normal ?_ | refine blk_normal ?_ | refine WC_seq ?_ | refine WC_reg ?_ | refine WC_block ?_ | refine WC_skip ?_ | refine WC_exit ?_ | refine then_exit ?_ | refine blk_hit ?_ | refine blk_miss (by decide) ?_ | refine WC_ret ?_ | refine then_ret ?_ | refine blk_ret ?_) | ((with_reducible apply WL_load hS); (· exact evk); (· exact inn); (· rfl)) | ((with_reducible apply WL_loadN hS); (· exact evk); (· exact inn); (· ((simp only [List.drop_succ_cons, List.drop_zero, List.take_succ_cons, List.take_zero]) <;> rfl)); (· rfl)) | ((with_reducible apply WL_store hS); (· exact evk); (· exact evk); (· first | rfl | assumption | exact RowIs.one (by assumption)); (· exact upp); (· simp); (clear hS; intro w hS; (simp only [List.set_cons_succ, List.set_cons_zero, putList, Nat.zero_add, Nat.reduceAdd] at hS))) | ((with_reducible apply WL_storeN hS); (· exact evk); (· exact evk); (· rfl); (· simp [Value.oneCell', S]); (· exact upp); (· simp); (clear hS; intro w hS; (simp only [List.set_cons_succ, List.set_cons_zero, putList, Nat.zero_add, Nat.reduceAdd] at hS))) | ((with_reducible apply WC_dec); (· exact evk)) | (with_reducible intro hh))
    all_goals (try omega)
    refine WL_rd hS (by exact evk) (c100 g a1 l [] dv _ (rdA hS hR y1.1 hcap)) (fun q w' hx hS' => ⟨_, ⟨q, bindR_err hx, rfl⟩, hS'.sub (List.nil_sublist _)⟩) ?_
    clear hS
    intro nm a2 w x2 hS
    have y2 := rdName_ok y1.1 x2
    rw [bindR_ok x2]
    repeat' (first | ((with_reducible apply WL_p); (· exact evk)) | (with_reducible first | refine WL_nil ?_ | refine then_normal ?_ | refine blk_normal ?_ | refine WC_seq ?_ | refine WC_reg ?_ | refine WC_block ?_ | refine WC_skip ?_ | refine WC_exit ?_ | refine then_exit ?_ | refine blk_hit ?_ | refine blk_miss (by decide) ?_ | refine WC_ret ?_ | refine then_ret ?_ | refine blk_ret ?_) | ((with_reducible apply WL_load hS); (· exact evk); (· exact inn); (· rfl)) | ((with_reducible apply WL_store hS); (· exact evk); (· exact evk); (· first | rfl | assumption | exact RowIs.one (by assumption)); (· exact upp); (· simp); (clear hS; intro w hS; (simp only [List.set_cons_succ, List.set_cons_zero, putList, Nat.zero_add, Nat.reduceAdd] at hS))))
    refine WL_rd hS (by exact evk) (c101 g a2 l dv _ (rdA hS hR y2.1 hcap)) (fun q w' hx hS' => ⟨_, ⟨q, bindR_err hx, rfl⟩, hS'.sub (List.nil_sublist _)⟩) ?_
    clear hS
    intro cp a3 w x3 hS
    have y3 := rdPair_ok y2.1 x3
    rw [bindR_ok x3]
    repeat' (first | ((with_reducible apply WL_p); (· exact evk)) | (with_reducible first | refine WL_nil ?_ | refine then_normal ?_ | refine blk_normal ?_ | refine WC_seq ?_ | refine WC_reg ?_ | refine WC_block ?_ | refine WC_skip ?_ | refine WC_exit ?_ | refine then_exit ?_ | refine blk_hit ?_ | refine blk_miss (by decide) ?_ | refine WC_ret ?_ | refine then_ret ?_ | refine blk_ret ?_) | ((with_reducible apply WL_load hS); (· exact evk); (· exact inn); (· rfl)) | ((with_reducible apply WL_store hS); (· exact evk); (· exact evk); (· first | rfl | assumption | exact RowIs.one (by assumption)); (· exact upp); (· simp); (clear hS; intro w hS; (simp only [List.set_cons_succ, List.set_cons_zero, putList, Nat.zero_add, Nat.reduceAdd] at hS))))
    rcases (by omega : k = 3 ∨ k = 7 ∨ k = 4 ∨ (k = 5 ∨ k = 6) ∨ (k = 8 ∨ k = 9)) with hk | hk | hk | hk | hk
    · subst hk
      rw [rest3]
      repeat' (first | ((with_reducible apply WL_p); (· exact evk)) | ((with_reducible apply WL_do); (· exact evd)) | ((with_reducible apply WL_no); (· exact evd)) | ((with_reducible apply WC_true); (· exact evk)) | ((with_reducible apply WC_false); (· exact evk)) | (with_reducible first | refine WL_nil ?_ | refine then_normal ?_ | refine blk_normal ?_ | refine WC_seq ?_ | refine WC_reg ?_ | refine WC_block ?_ | refine WC_skip ?_ | refine WC_exit ?_ | refine then_exit ?_ | refine blk_hit ?_ | refine blk_miss (by decide) ?_ | refine WC_ret ?_ | refine then_ret ?_ | refine blk_ret ?_) | ((with_reducible apply WL_load hS); (· exact evk); (· exact inn); (· rfl)) | ((with_reducible apply WL_loadN hS); (· exact evk); (· exact inn); (· ((simp only [List.drop_succ_cons, List.drop_zero, List.take_succ_cons, List.take_zero]) <;> rfl)); (· rfl)) | ((with_reducible apply WL_store hS); (· exact evk); (· exact evk); (· first | rfl | assumption | exact RowIs.one (by assumption)); (· exact upp); (· simp); (clear hS; intro w hS; (simp only [List.set_cons_succ, List.set_cons_zero, putList, Nat.zero_add, Nat.reduceAdd] at hS))) | ((with_reducible apply WL_storeN hS); (· exact evk); (· exact evk); (· rfl); (· simp [Value.oneCell', S]); (· exact upp); (· simp); (clear hS; intro w hS; (simp only [List.set_cons_succ, List.set_cons_zero, putList, Nat.zero_add, Nat.reduceAdd] at hS))) | ((with_reducible apply WC_dec); (· exact evk)) | (with_reducible intro hh))
      all_goals (try omega)
      refine WL_rd hS (by exact evk) (c103 g a3 l dv _ (rdA hS hR y3.1 hcap)) (fun q w' hx hS' => ⟨_, ⟨q, bindR_err hx, rfl⟩, hS'.sub (List.nil_sublist _)⟩) ?_
      clear hS
      intro ep a4 w x4 hS
      have y4 := rdPair_ok y3.1 x4
      rw [bindR_ok x4]
      unfold pairV
      repeat' (first | ((with_reducible apply WL_p); (· exact evk)) | ((with_reducible apply WL_do); (· exact evd)) | ((with_reducible apply WL_no); (· exact evd)) | ((with_reducible apply WC_true); (· exact evk)) | ((with_reducible apply WC_false); (· exact evk)) | (with_reducible first | refine WL_nil ?_ | refine then_normal ?_ | refine blk_normal ?_ | refine WC_seq ?_ | refine WC_reg ?_ | refine WC_block ?_ | refine WC_skip ?_ | refine WC_exit ?_ | refine then_exit ?_ | refine blk_hit ?_ | refine blk_miss (by decide) ?_ | refine WC_ret ?_ | refine then_ret ?_ | refine blk_ret ?_) | ((with_reducible apply WL_load hS); (· exact evk); (· exact inn); (· rfl)) | ((with_reducible apply WL_loadN hS); (· exact evk); (· exact inn); (· ((simp only [List.drop_succ_cons, List.drop_zero, List.take_succ_cons, List.take_zero]) <;> rfl)); (· rfl)) | ((with_reducible apply WL_store hS); (· exact evk); (· exact evk); (· first | rfl | assumption | exact RowIs.one (by assumption)); (· exact upp); (· simp); (clear hS; intro w hS; (simp only [List.set_cons_succ, List.set_cons_zero, putList, Nat.zero_add, Nat.reduceAdd] at hS))) | ((with_reducible apply WL_storeN hS); (· exact evk); (· exact evk); (· rfl); (· simp [Value.oneCell', S]); (· exact upp); (· simp); (clear hS; intro w hS; (simp only [List.set_cons_succ, List.set_cons_zero, putList, Nat.zero_add, Nat.reduceAdd] at hS))) | ((with_reducible apply WC_dec); (· exact evk)) | (with_reducible intro hh))
      all_goals (try omega)
      exact retcR hS (List.Sublist.cons_cons _ (List.nil_sublist _)) rfl inn rfl ⟨_, [], a4, .slice none 0 0, [], rfl, RowIs.nil 71 7, rfl, rfl⟩
    · subst hk
      rw [rest7]
      repeat' (first | ((with_reducible apply WL_p); (· exact evk)) | ((with_reducible apply WL_do); (· exact evd)) | ((with_reducible apply WL_no); (· exact evd)) | ((with_reducible apply WC_true); (· exact evk)) | ((with_reducible apply WC_false); (· exact evk)) | (with_reducible first | refine WL_nil ?_ | refine then_normal ?_ | refine blk_normal ?_ | refine WC_seq ?_ | refine WC_reg ?_ | refine WC_block ?_ | refine WC_skip ?_ | refine WC_exit ?_ | refine then_exit ?_ | refine blk_hit ?_ | refine blk_miss (by decide) ?_ | refine WC_ret ?_ | refine then_ret ?_ | refine blk_ret ?_) | ((with_reducible apply WL_load hS); (· exact evk); (· exact inn); (· rfl)) | ((with_reducible apply WL_loadN hS); (· exact evk); (· exact inn); (· ((simp only [List.drop_succ_cons, List.drop_zero, List.take_succ_cons, List.take_zero]) <;> rfl)); (· rfl)) | ((with_reducible apply WL_store hS); (· exact evk); (· exact evk); (· first | rfl | assumption | exact RowIs.one (by assumption)); (· exact upp); (· simp); (clear hS; intro w hS; (simp only [List.set_cons_succ, List.set_cons_zero, putList, Nat.zero_add, Nat.reduceAdd] at hS))) | ((with_reducible apply WL_storeN hS); (· exact evk); (· exact evk); (· rfl); (· simp [Value.oneCell', S]); (· exact upp); (· simp); (clear hS; intro w hS; (simp only [List.set_cons_succ, List.set_cons_zero, putList, Nat.zero_add, Nat.reduceAdd] at hS))) | ((with_reducible apply WC_dec); (· exact evk)) | (with_reducible intro hh))
      all_goals (try omega)
      refine WL_rd hS (by exact evk) (c103 g a3 l dv _ (rdA hS hR y3.1 hcap)) (fun q w' hx hS' => ⟨_, ⟨q, bindR_err hx, rfl⟩, hS'.sub (List.nil_sublist _)⟩) ?_
      clear hS
      intro ep a4 w x4 hS
      have y4 := rdPair_ok y3.1 x4
      rw [bindR_ok x4]
      unfold pairV
      repeat' (first | ((with_reducible apply WL_p); (· exact evk)) | ((with_reducible apply WL_do); (· exact evd)) | ((with_reducible apply WL_no); (· exact evd)) | ((with_reducible apply WC_true); (· exact evk)) | ((with_reducible apply WC_false); (· exact evk)) | (with_reducible first | refine WL_nil ?_ | refine then_normal ?_ | refine blk_normal ?_ | refine WC_seq ?_ | refine WC_reg ?_ | refine WC_block ?_ | refine WC_skip ?_ | refine WC_exit ?_ | refine then_exit ?_ | refine blk_hit ?_ | refine blk_miss (by decide) ?_ | refine WC_ret ?_ | refine then_ret ?_ | refine blk_ret ?_) | ((with_reducible apply WL_load hS); (· exact evk); (· exact inn); (· rfl)) | ((with_reducible apply WL_loadN hS); (· exact evk); (· exact inn); (· ((simp only [List.drop_succ_cons, List.drop_zero, List.take_succ_cons, List.take_zero]) <;> rfl)); (· rfl)) | ((with_reducible apply WL_store hS); (· exact evk); (· exact evk); (· first | rfl | assumption | exact RowIs.one (by assumption)); (· exact upp); (· simp); (clear hS; intro w hS; (simp only [List.set_cons_succ, List.set_cons_zero, putList, Nat.zero_add, Nat.reduceAdd] at hS))) | ((with_reducible apply WL_storeN hS); (· exact evk); (· exact evk); (· rfl); (· simp [Value.oneCell', S]); (· exact upp); (· simp); (clear hS; intro w hS; (simp only [List.set_cons_succ, List.set_cons_zero, putList, Nat.zero_add, Nat.reduceAdd] at hS))) | ((with_reducible apply WC_dec); (· exact evk)) | (with_reducible intro hh))
      all_goals (try omega)
      refine WL_rd hS (by exact evk) (c103 g a4 l dv _ (rdA hS hR y4.1 hcap)) (fun q w' hx hS' => ⟨_, ⟨q, bindR_err hx, rfl⟩, hS'.sub (List.nil_sublist _)⟩) ?_
      clear hS
      intro ov a5 w x5 hS
      have y5 := rdPair_ok y4.1 x5
      rw [bindR_ok x5]
      unfold pairV
      repeat' (first | ((with_reducible apply WL_p); (· exact evk)) | ((with_reducible apply WL_do); (· exact evd)) | ((with_reducible apply WL_no); (· exact evd)) | ((with_reducible apply WC_true); (· exact evk)) | ((with_reducible apply WC_false); (· exact evk)) | (with_reducible first | refine WL_nil ?_ | refine then_normal ?_ | refine blk_normal ?_ | refine WC_seq ?_ | refine WC_reg ?_ | refine WC_block ?_ | refine WC_skip ?_ | refine WC_exit ?_ | refine then_exit ?_ | refine blk_hit ?_ | refine blk_miss (by decide) ?_ | refine WC_ret ?_ | refine then_ret ?_ | refine blk_ret ?_) | ((with_reducible apply WL_load hS); (· exact evk); (· exact inn); (· rfl)) | ((with_reducible apply WL_loadN hS); (· exact evk); (· exact inn); (· ((simp only [List.drop_succ_cons, List.drop_zero, List.take_succ_cons, List.take_zero]) <;> rfl)); (· rfl)) | ((with_reducible apply WL_store hS); (· exact evk); (· exact evk); (· first | rfl | assumption | exact RowIs.one (by assumption)); (· exact upp); (· simp); (clear hS; intro w hS; (simp only [List.set_cons_succ, List.set_cons_zero, putList, Nat.zero_add, Nat.reduceAdd] at hS))) | ((with_reducible apply WL_storeN hS); (· exact evk); (· exact evk); (· rfl); (· simp [Value.oneCell', S]); (· exact upp); (· simp); (clear hS; intro w hS; (simp only [List.set_cons_succ, List.set_cons_zero, putList, Nat.zero_add, Nat.reduceAdd] at hS))) | ((with_reducible apply WC_dec); (· exact evk)) | (with_reducible intro hh))
      all_goals (try omega)
      exact retcR hS (List.Sublist.cons_cons _ (List.nil_sublist _)) rfl inn rfl ⟨_, [], a5, .slice none 0 0, [], rfl, RowIs.nil 71 7, rfl, rfl⟩
    · subst hk
      rw [rest4]
      repeat' (first | ((with_reducible apply WL_p); (· exact evk)) | ((with_reducible apply WL_do); (· exact evd)) | ((with_reducible apply WL_no); (· exact evd)) | ((with_reducible apply WC_true); (· exact evk)) | ((with_reducible apply WC_false); (· exact evk)) | (with_reducible first | refine WL_nil ?_ | refine then_normal ?_ | refine blk_normal ?_ | refine WC_seq ?_ | refine WC_reg ?_ | refine WC_block ?_ | refine WC_skip ?_ | refine WC_exit ?_ | refine then_exit ?_ | refine blk_hit ?_ | refine blk_miss (by decide) ?_ | refine WC_ret ?_ | refine then_ret ?_ | refine blk_ret ?_) | ((with_reducible apply WL_load hS); (· exact evk); (· exact inn); (· rfl)) | ((with_reducible apply WL_loadN hS); (· exact evk); (· exact inn); (· ((simp only [List.drop_succ_cons, List.drop_zero, List.take_succ_cons, List.take_zero]) <;> rfl)); (· rfl)) | ((with_reducible apply WL_store hS); (· exact evk); (· exact evk); (· first | rfl | assumption | exact RowIs.one (by assumption)); (· exact upp); (· simp); (clear hS; intro w hS; (simp only [List.set_cons_succ, List.set_cons_zero, putList, Nat.zero_add, Nat.reduceAdd] at hS))) | ((with_reducible apply WL_storeN hS); (· exact evk); (· exact evk); (· rfl); (· simp [Value.oneCell', S]); (· exact upp); (· simp); (clear hS; intro w hS; (simp only [List.set_cons_succ, List.set_cons_zero, putList, Nat.zero_add, Nat.reduceAdd] at hS))) | ((with_reducible apply WC_dec); (· exact evk)) | (with_reducible intro hh))
      all_goals (try omega)
      refine WL_rd hS (by exact evk) (c103 g a3 l dv _ (rdA hS hR y3.1 hcap)) (fun q w' hx hS' => ⟨_, ⟨q, bindR_err hx, rfl⟩, hS'.sub (List.nil_sublist _)⟩) ?_
      clear hS
      intro ep a4 w x4 hS
      have y4 := rdPair_ok y3.1 x4
      rw [bindR_ok x4]
      unfold pairV
      repeat' (first | ((with_reducible apply WL_p); (· exact evk)) | ((with_reducible apply WL_do); (· exact evd)) | ((with_reducible apply WL_no); (· exact evd)) | ((with_reducible apply WC_true); (· exact evk)) | ((with_reducible apply WC_false); (· exact evk)) | (with_reducible first | refine WL_nil ?_ | refine then_normal ?_ | refine blk_normal ?_ | refine WC_seq ?_ | refine WC_reg ?_ | refine WC_block ?_ | refine WC_skip ?_ | refine WC_exit ?_ | refine then_exit ?_ | refine blk_hit ?_ | refine blk_miss (by decide) ?_ | refine WC_ret ?_ | refine then_ret ?_ | refine blk_ret ?_) | ((with_reducible apply WL_load hS); (· exact evk); (· exact inn); (· rfl)) | ((with_reducible apply WL_loadN hS); (· exact evk); (· exact inn); (· ((simp only [List.drop_succ_cons, List.drop_zero, List.take_succ_cons, List.take_zero]) <;> rfl)); (· rfl)) | ((with_reducible apply WL_store hS); (· exact evk); (· exact evk); (· first | rfl | assumption | exact RowIs.one (by assumption)); (· exact upp); (· simp); (clear hS; intro w hS; (simp only [List.set_cons_succ, List.set_cons_zero, putList, Nat.zero_add, Nat.reduceAdd] at hS))) | ((with_reducible apply WL_storeN hS); (· exact evk); (· exact evk); (· rfl); (· simp [Value.oneCell', S]); (· exact upp); (· simp); (clear hS; intro w hS; (simp only [List.set_cons_succ, List.set_cons_zero, putList, Nat.zero_add, Nat.reduceAdd] at hS))) | ((with_reducible apply WC_dec); (· exact evk)) | (with_reducible intro hh))
      all_goals (try omega)
      refine WL_rd hS (by exact evk) (c104 g a4 l dv _ (rdA hS hR y4.1 hcap)) (fun q w' hx hS' => ⟨_, ⟨q, bindR_err hx, rfl⟩, hS'.sub (List.nil_sublist _)⟩) ?_
      clear hS
      intro rg a5 w x5 hS
      have y5 := rdPair_ok y4.1 x5
      rw [bindR_ok x5]
      unfold pairV
      repeat' (first | ((with_reducible apply WL_p); (· exact evk)) | ((with_reducible apply WL_do); (· exact evd)) | ((with_reducible apply WL_no); (· exact evd)) | ((with_reducible apply WC_true); (· exact evk)) | ((with_reducible apply WC_false); (· exact evk)) | (with_reducible first | refine WL_nil ?_ | refine then_normal ?_ | refine blk_normal ?_ | refine WC_seq ?_ | refine WC_reg ?_ | refine WC_block ?_ | refine WC_skip ?_ | refine WC_exit ?_ | refine then_exit ?_ | refine blk_hit ?_ | refine blk_miss (by decide) ?_ | refine WC_ret ?_ | refine then_ret ?_ | refine blk_ret ?_) | ((with_reducible apply WL_load hS); (· exact evk); (· exact inn); (· rfl)) | ((with_reducible apply WL_loadN hS); (· exact evk); (· exact inn); (· ((simp only [List.drop_succ_cons, List.drop_zero, List.take_succ_cons, List.take_zero]) <;> rfl)); (· rfl)) | ((with_reducible apply WL_store hS); (· exact evk); (· exact evk); (· first | rfl | assumption | exact RowIs.one (by assumption)); (· exact upp); (· simp); (clear hS; intro w hS; (simp only [List.set_cons_succ, List.set_cons_zero, putList, Nat.zero_add, Nat.reduceAdd] at hS))) | ((with_reducible apply WL_storeN hS); (· exact evk); (· exact evk); (· rfl); (· simp [Value.oneCell', S]); (· exact upp); (· simp); (clear hS; intro w hS; (simp only [List.set_cons_succ, List.set_cons_zero, putList, Nat.zero_add, Nat.reduceAdd] at hS))) | ((with_reducible apply WC_dec); (· exact evk)) | (with_reducible intro hh))
      all_goals (try omega)
      refine WL_rd hS (by exact evk) (c73 g a5 0 1099511627776 l dv (by omega) (by omega) _ (rdA hS hR y5.1 hcap)) (fun q w' hx hS' => ⟨_, ⟨q, bindR_err hx, rfl⟩, hS'.sub (List.nil_sublist _)⟩) ?_
      clear hS
      intro hd a6 w x6 hS
      rw [bindR_ok x6]
      repeat' (first | ((with_reducible apply WL_p); (· exact evk)) | ((with_reducible apply WL_do); (· exact evd)) | ((with_reducible apply WL_no); (· exact evd)) | ((with_reducible apply WC_true); (· exact evk)) | ((with_reducible apply WC_false); (· exact evk)) | (with_reducible first | refine WL_nil ?_ | refine then_normal ?_ | refine blk_normal ?_ | refine WC_seq ?_ | refine WC_reg ?_ | refine WC_block ?_ | refine WC_skip ?_ | refine WC_exit ?_ | refine then_exit ?_ | refine blk_hit ?_ | refine blk_miss (by decide) ?_ | refine WC_ret ?_ | refine then_ret ?_ | refine blk_ret ?_) | ((with_reducible apply WL_load hS); (· exact evk); (· exact inn); (· rfl)) | ((with_reducible apply WL_loadN hS); (· exact evk); (· exact inn); (· ((simp only [List.drop_succ_cons, List.drop_zero, List.take_succ_cons, List.take_zero]) <;> rfl)); (· rfl)) | ((with_reducible apply WL_store hS); (· exact evk); (· exact evk); (· first | rfl | assumption | exact RowIs.one (by assumption)); (· exact upp); (· simp); (clear hS; intro w hS; (simp only [List.set_cons_succ, List.set_cons_zero, putList, Nat.zero_add, Nat.reduceAdd] at hS))) | ((with_reducible apply WL_storeN hS); (· exact evk); (· exact evk); (· rfl); (· simp [Value.oneCell', S]); (· exact upp); (· simp); (clear hS; intro w hS; (simp only [List.set_cons_succ, List.set_cons_zero, putList, Nat.zero_add, Nat.reduceAdd] at hS))) | ((with_reducible apply WC_dec); (· exact evk)) | (with_reducible intro hh))
      all_goals (try omega)
      exact retcR hS (List.Sublist.cons_cons _ (List.nil_sublist _)) rfl inn rfl ⟨_, [], a6, .slice none 0 0, [], rfl, RowIs.nil 71 7, rfl, rfl⟩
    · rw [rest56 _ _ _ _ _ (by omega)]
      rcases hk with hk | hk <;> subst hk
      all_goals (
        repeat' (first | ((with_reducible apply WL_p); (· exact evk)) | ((with_reducible apply WL_do); (· exact evd)) | ((with_reducible apply WL_no); (· exact evd)) | ((with_reducible apply WC_true); (· exact evk)) | ((with_reducible apply WC_false); (· exact evk)) | (with_reducible first | refine WL_nil ?_ | refine then_normal ?_ | refine blk_normal ?_ | refine WC_seq ?_ | refine WC_reg ?_ | refine WC_block ?_ | refine WC_skip ?_ | refine WC_exit ?_ | refine then_exit ?_ | refine blk_hit ?_ | refine blk_miss (by decide) ?_ | refine WC_ret ?_ | refine then_ret ?_ | refine blk_ret ?_) | ((with_reducible apply WL_load hS); (· exact evk); (· exact inn); (· rfl)) | ((with_reducible apply WL_loadN hS); (· exact evk); (· exact inn); (· ((simp only [List.drop_succ_cons, List.drop_zero, List.take_succ_cons, List.take_zero]) <;> rfl)); (· rfl)) | ((with_reducible apply WL_store hS); (· exact evk); (· exact evk); (· first | rfl | assumption | exact RowIs.one (by assumption)); (· exact upp); (· simp); (clear hS; intro w hS; (simp only [List.set_cons_succ, List.set_cons_zero, putList, Nat.zero_add, Nat.reduceAdd] at hS))) | ((with_reducible apply WL_storeN hS); (· exact evk); (· exact evk); (· rfl); (· simp [Value.oneCell', S]); (· exact upp); (· simp); (clear hS; intro w hS; (simp only [List.set_cons_succ, List.set_cons_zero, putList, Nat.zero_add, Nat.reduceAdd] at hS))) | ((with_reducible apply WC_dec); (· exact evk)) | (with_reducible intro hh))
        all_goals (try omega)
        refine WL_rd hS (by exact evk) (c103 g a3 l dv _ (rdA hS hR y3.1 hcap)) (fun q w' hx hS' => ⟨_, ⟨q, bindR_err hx, rfl⟩, hS'.sub (List.nil_sublist _)⟩) ?_
        clear hS
        intro ep a4 w x4 hS
        have y4 := rdPair_ok y3.1 x4
        rw [bindR_ok x4]
        unfold pairV
        repeat' (first | ((with_reducible apply WL_p); (· exact evk)) | ((with_reducible apply WL_do); (· exact evd)) | ((with_reducible apply WL_no); (· exact evd)) | ((with_reducible apply WC_true); (· exact evk)) | ((with_reducible apply WC_false); (· exact evk)) | (with_reducible first | refine WL_nil ?_ | refine then_normal ?_ | refine blk_normal ?_ | refine WC_seq ?_ | refine WC_reg ?_ | refine WC_block ?_ | refine WC_skip ?_ | refine WC_exit ?_ | refine then_exit ?_ | refine blk_hit ?_ | refine blk_miss (by decide) ?_ | refine WC_ret ?_ | refine then_ret ?_ | refine blk_ret ?_) | ((with_reducible apply WL_load hS); (· exact evk); (· exact inn); (· rfl)) | ((with_reducible apply WL_loadN hS); (· exact evk); (· exact inn); (· ((simp only [List.drop_succ_cons, List.drop_zero, List.take_succ_cons, List.take_zero]) <;> rfl)); (· rfl)) | ((with_reducible apply WL_store hS); (· exact evk); (· exact evk); (· first | rfl | assumption | exact RowIs.one (by assumption)); (· exact upp); (· simp); (clear hS; intro w hS; (simp only [List.set_cons_succ, List.set_cons_zero, putList, Nat.zero_add, Nat.reduceAdd] at hS))) | ((with_reducible apply WL_storeN hS); (· exact evk); (· exact evk); (· rfl); (· simp [Value.oneCell', S]); (· exact upp); (· simp); (clear hS; intro w hS; (simp only [List.set_cons_succ, List.set_cons_zero, putList, Nat.zero_add, Nat.reduceAdd] at hS))) | ((with_reducible apply WC_dec); (· exact evk)) | (with_reducible intro hh))
        all_goals (try omega)
        refine WL_rd hS (by exact evk) (c104 g a4 l dv _ (rdA hS hR y4.1 hcap)) (fun q w' hx hS' => ⟨_, ⟨q, bindR_err hx, rfl⟩, hS'.sub (List.nil_sublist _)⟩) ?_
        clear hS
        intro rg a5 w x5 hS
        have y5 := rdPair_ok y4.1 x5
        rw [bindR_ok x5]
        unfold pairV
        repeat' (first | ((with_reducible apply WL_p); (· exact evk)) | ((with_reducible apply WL_do); (· exact evd)) | ((with_reducible apply WL_no); (· exact evd)) | ((with_reducible apply WC_true); (· exact evk)) | ((with_reducible apply WC_false); (· exact evk)) | (with_reducible first | refine WL_nil ?_ | refine then_normal ?_ | refine blk_normal ?_ | refine WC_seq ?_ | refine WC_reg ?_ | refine WC_block ?_ | refine WC_skip ?_ | refine WC_exit ?_ | refine then_exit ?_ | refine blk_hit ?_ | refine blk_miss (by decide) ?_ | refine WC_ret ?_ | refine then_ret ?_ | refine blk_ret ?_) | ((with_reducible apply WL_load hS); (· exact evk); (· exact inn); (· rfl)) | ((with_reducible apply WL_loadN hS); (· exact evk); (· exact inn); (· ((simp only [List.drop_succ_cons, List.drop_zero, List.take_succ_cons, List.take_zero]) <;> rfl)); (· rfl)) | ((with_reducible apply WL_store hS); (· exact evk); (· exact evk); (· first | rfl | assumption | exact RowIs.one (by assumption)); (· exact upp); (· simp); (clear hS; intro w hS; (simp only [List.set_cons_succ, List.set_cons_zero, putList, Nat.zero_add, Nat.reduceAdd] at hS))) | ((with_reducible apply WL_storeN hS); (· exact evk); (· exact evk); (· rfl); (· simp [Value.oneCell', S]); (· exact upp); (· simp); (clear hS; intro w hS; (simp only [List.set_cons_succ, List.set_cons_zero, putList, Nat.zero_add, Nat.reduceAdd] at hS))) | ((with_reducible apply WC_dec); (· exact evk)) | (with_reducible intro hh))
        all_goals (try omega)
        exact retcR hS (List.Sublist.cons_cons _ (List.nil_sublist _)) rfl inn rfl ⟨_, [], a5, .slice none 0 0, [], rfl, RowIs.nil 71 7, rfl, rfl⟩)
    · rw [rest89 _ _ _ _ _ (by omega)]
      rcases hk with hk | hk <;> subst hk
      all_goals (
        repeat' (first | ((with_reducible apply WL_p); (· exact evk)) | ((with_reducible apply WL_do); (· exact evd)) | ((with_reducible apply WL_no); (· exact evd)) | ((with_reducible apply WC_true); (· exact evk)) | ((with_reducible apply WC_false); (· exact evk)) | (with_reducible first | refine WL_nil ?_ | refine then_normal ?_ | refine blk_normal ?_ | refine WC_seq ?_ | refine WC_reg ?_ | refine WC_block ?_ | refine WC_skip ?_ | refine WC_exit ?_ | refine then_exit ?_ | refine blk_hit ?_ | refine blk_miss (by decide) ?_ | refine WC_ret ?_ | refine then_ret ?_ | refine blk_ret ?_) | ((with_reducible apply WL_load hS); (· exact evk); (· exact inn); (· rfl)) | ((with_reducible apply WL_loadN hS); (· exact evk); (· exact inn); (· ((simp only [List.drop_succ_cons, List.drop_zero, List.take_succ_cons, List.take_zero]) <;> rfl)); (· rfl)) | ((with_reducible apply WL_store hS); (· exact evk); (· exact evk); (· first | rfl | assumption | exact RowIs.one (by assumption)); (· exact upp); (· simp); (clear hS; intro w hS; (simp only [List.set_cons_succ, List.set_cons_zero, putList, Nat.zero_add, Nat.reduceAdd] at hS))) | ((with_reducible apply WL_storeN hS); (· exact evk); (· exact evk); (· rfl); (· simp [Value.oneCell', S]); (· exact upp); (· simp); (clear hS; intro w hS; (simp only [List.set_cons_succ, List.set_cons_zero, putList, Nat.zero_add, Nat.reduceAdd] at hS))) | ((with_reducible apply WC_dec); (· exact evk)) | (with_reducible intro hh))
        all_goals (try omega)
        refine WL_rd hS (by exact evk) (c104 g a3 l dv _ (rdA hS hR y3.1 hcap)) (fun q w' hx hS' => ⟨_, ⟨q, bindR_err hx, rfl⟩, hS'.sub (List.nil_sublist _)⟩) ?_
        clear hS
        intro rg a5 w x5 hS
        have y5 := rdPair_ok y3.1 x5
        rw [bindR_ok x5]
        unfold pairV
        repeat' (first | ((with_reducible apply WL_p); (· exact evk)) | ((with_reducible apply WL_do); (· exact evd)) | ((with_reducible apply WL_no); (· exact evd)) | ((with_reducible apply WC_true); (· exact evk)) | ((with_reducible apply WC_false); (· exact evk)) | (with_reducible first | refine WL_nil ?_ | refine then_normal ?_ | refine blk_normal ?_ | refine WC_seq ?_ | refine WC_reg ?_ | refine WC_block ?_ | refine WC_skip ?_ | refine WC_exit ?_ | refine then_exit ?_ | refine blk_hit ?_ | refine blk_miss (by decide) ?_ | refine WC_ret ?_ | refine then_ret ?_ | refine blk_ret ?_) | ((with_reducible apply WL_load hS); (· exact evk); (· exact inn); (· rfl)) | ((with_reducible apply WL_loadN hS); (· exact evk); (· exact inn); (· ((simp only [List.drop_succ_cons, List.drop_zero, List.take_succ_cons, List.take_zero]) <;> rfl)); (· rfl)) | ((with_reducible apply WL_store hS); (· exact evk); (· exact evk); (· first | rfl | assumption | exact RowIs.one (by assumption)); (· exact upp); (· simp); (clear hS; intro w hS; (simp only [List.set_cons_succ, List.set_cons_zero, putList, Nat.zero_add, Nat.reduceAdd] at hS))) | ((with_reducible apply WL_storeN hS); (· exact evk); (· exact evk); (· rfl); (· simp [Value.oneCell', S]); (· exact upp); (· simp); (clear hS; intro w hS; (simp only [List.set_cons_succ, List.set_cons_zero, putList, Nat.zero_add, Nat.reduceAdd] at hS))) | ((with_reducible apply WC_dec); (· exact evk)) | (with_reducible intro hh))
        all_goals (try omega)
        exact retcR hS (List.Sublist.cons_cons _ (List.nil_sublist _)) rfl inn rfl ⟨_, [], a5, .slice none 0 0, [], rfl, RowIs.nil 71 7, rfl, rfl⟩)
end Go.Proofs.Ytohmgkcdjapinaa.Lw
namespace Go.Proofs.Ytohmgkcdjapinaa.Lw
section
variable {P : Program} {p : Chain → World → Prop} {Q : Exit → Env → World → Prop} {e : Env} {w : World} {d : Nat} {ops : List LOper}
theorem WL_assertOk {t T ty : TypeId} {x : Operand} {v : Value} {td : TypeDesc} (hx : ev e x = .iface t v) (hT : P.underlying t = some td) (hn : ∀ ms, td ≠ .interface ms) (h : WL P p Q ops (upd e d (.tuple #[v, .bool true])) w) :
    WL P p Q (⟨some d, none, .raw ty (.typeAssert x T t true)⟩ :: ops) e w := by
  simp only [WL, wantedE, if_true, LOp.wp]
  have : (execOp (ev e) (mkOper ty (.typeAssert x T t true))).run P w = .ok (.value (.tuple #[v, .bool true])) w := by
    cases td <;> first | exact absurd rfl (hn _) | simp [execOp, mkOper, hx, Instr.typeAssert, run_underlying hT]
  rw [this]
  exact h
theorem WL_assertNil {t T ty : TypeId} {x : Operand} {z : Value} {td : TypeDesc} (hx : ev e x = .nilIface) (hT : P.underlying t = some td) (hz : ∀ w, (zeroValue t).run P w = .ok z w) (h : WL P p Q ops (upd e d (.tuple #[z, .bool false])) w) :
    WL P p Q (⟨some d, none, .raw ty (.typeAssert x T t true)⟩ :: ops) e w := by
  simp only [WL, wantedE, if_true, LOp.wp]
  have : (execOp (ev e) (mkOper ty (.typeAssert x T t true))).run P w = .ok (.value (.tuple #[z, .bool false])) w := by
    cases td <;> simp [execOp, mkOper, hx, Instr.typeAssert, run_underlying hT, hz]
  rw [this]
  exact h
theorem run_zero {t : TypeId} {z : Value} (h : (P.info? t).map (·.zero) = some (some z)) (w : World) : (zeroValue t).run P w = .ok z w := by
  obtain ⟨i, hi, hz⟩ := Option.map_eq_some_iff.1 h
  simp [zeroValue, typeInfo, hi, hz]
end
abbrev R99_0 : List LOper := [⟨some 5, none, .raw 20 (.call (.mk (.builtin .recover) #[] #[]))⟩, ⟨some 6, none, .raw 138 (.typeAssert (.tmp 5) 20 137 true)⟩, ⟨some 4, none, .pv (.move (.tmp 6))⟩, ⟨some 7, none, .pv (.ext (.tmp 4) 0)⟩, ⟨some 8, none, .pv (.ext (.tmp 4) 1)⟩, ⟨some 2, none, .pv (.move (.tmp 7))⟩, ⟨some 3, none, .pv (.move (.tmp 8))⟩]
abbrev R99_1 : List LOper := [⟨some 9, none, .pv (.move (.tmp 3))⟩]
abbrev R99_2 : List LOper := [⟨some 10, none, .pv (.move (.tmp 2))⟩, ⟨none, none, .store 1 (.tmp 0) (.tmp 10)⟩, ⟨none, none, .store 1 (.tmp 1) (.const (.int .i64 20))⟩]
abbrev L99 : LFun := ⟨11, [], (.seq (.reg R99_0) (.seq (.reg R99_1) (.cond (.tmp 9) (.reg R99_2) .skip)))⟩
theorem low99 : lowFn Try.prog Try.f99 = some L99 := by kernel_rfl
abbrev R51_0 : List LOper := [⟨some 4, none, .newz 3 [(.int .i64 0)]⟩, ⟨some 5, none, .newz 30 [(.int .i64 0)]⟩]
abbrev R51_1 : List LOper := [⟨some 7, none, .pv (.fn 99 [(.tmp 4), (.tmp 5)])⟩, ⟨none, none, .raw 0 (.defer (.mk (.value (.tmp 7)) #[] #[]))⟩]
abbrev R51_2 : List LOper := [⟨some 8, none, .pv (.move (.tmp 0))⟩, ⟨some 9, none, .pv (.bld [(.slice none 0 0), (.int .i64 0)] [(0, (1, (.tmp 8)))])⟩, ⟨some 10, none, .newv 140 (.tmp 9)⟩, ⟨some 6, none, .pv (.move (.tmp 10))⟩]
abbrev R51_3 : List LOper := [⟨some 11, none, .pv (.move (.tmp 1))⟩, ⟨some 12, none, .pv (.move (.tmp 6))⟩, ⟨some 13, none, .callv (.tmp 11) [(.tmp 12)]⟩]
abbrev R51_4 : List LOper := [⟨some 14, none, .pv (.move (.tmp 6))⟩, ⟨some 15, none, .pv (.nilck (.tmp 14))⟩, ⟨some 16, none, .pv (.off (.tmp 15) 1)⟩, ⟨some 17, none, .load (.tmp 16)⟩, ⟨some 18, none, .pv (.move (.tmp 0))⟩, ⟨some 19, none, .pv (.len (.tmp 18))⟩, ⟨some 20, none, .pv (.bin .lss (.tmp 17) (.tmp 19))⟩]
abbrev R51_5 : List LOper := [⟨some 21, none, .pv (.move (.tmp 6))⟩, ⟨some 22, none, .pv (.nilck (.tmp 21))⟩, ⟨some 23, none, .pv (.off (.tmp 22) 1)⟩, ⟨some 24, none, .load (.tmp 23)⟩, ⟨none, none, .store 1 (.tmp 4) (.tmp 24)⟩, ⟨none, none, .store 1 (.tmp 5) (.const (.int .i64 20))⟩]
abbrev R51_6 : List LOper := [⟨none, none, .store 1 (.tmp 4) (.const (.int .i64 0))⟩, ⟨none, none, .store 1 (.tmp 5) (.const (.int .i64 0))⟩]
abbrev L51 : LFun := ⟨25, [(.cell 4), (.cell 5)], (.seq (.reg R51_0) (.seq (.reg R51_1) (.seq (.reg R51_2) (.seq (.reg R51_3) (.seq (.seq (.reg R51_4) (.cond (.tmp 20) (.seq (.reg R51_5) .ret) .skip)) (.seq (.reg R51_6) .ret))))))⟩
theorem low51 : lowFn Try.prog Try.f51 = some L51 := by kernel_rfl

theorem und137 : Try.prog.underlying 137 = some (.int .i64) := by kernel_rfl
theorem zero137 (w : World) : (zeroValue 137).run Try.prog w = .ok (.int .i64 0) w := by
  exact run_zero (by kernel_rfl) w
set_option maxRecDepth 20000 in
theorem c99_panicking (A E : Nat) (x y : Value) (q : Int) (w : World) (hA : At w [(A, Blk 3 [x]), (E, Blk 30 [y])]) :
    CallsD Try.prog 99 #[.pointer (some ⟨A, 0, none⟩), .pointer (some ⟨E, 0, none⟩)] (.panicking [{ v := .iface 137 (.int .i64 q), recovered := false }]) w fun en u' w' =>
      (∃ v, en = .returned v) ∧ u' = .panicking [{ v := .iface 137 (.int .i64 q), recovered := true }] ∧ St w [A, E] w' [(A, Blk 3 [.int .i64 q]), (E, Blk 30 [.int .i64 20])] := by
  refine recF (args := [.pointer (some ⟨A, 0, none⟩), .pointer (some ⟨E, 0, none⟩)]) Try.func99 rfl rfl rfl rfl rfl rfl (ll := R99_0.tail) (lc2 := .seq (.reg R99_1) (.cond (.tmp 9) (.reg R99_2) .skip)) (by kernel_rfl) (by kernel_rfl) (rs := []) (by kernel_rfl) rfl ?_
  have hS := St.init hA
  dsimp only [recM, envL, Nat.reduceAdd, R99_0, List.tail]
  repeat' (first | (with_reducible first | refine WL_nil ?_ | refine then_normal ?_ | refine blk_normal ?_ | refine WC_seq ?_ | refine WC_reg ?_ | refine WC_block ?_ | refine WC_skip ?_ | refine WC_exit ?_ | refine then_exit ?_ | refine blk_hit ?_ | refine blk_miss (by decide) ?_ | refine WC_ret ?_ | refine then_ret ?_ | refine blk_ret ?_))
  refine WL_assertOk rfl und137 (by simp) ?_
  repeat' (first | ((with_reducible apply WL_p); (· exact evk)) | (with_reducible first | refine WL_nil ?_ | refine then_normal ?_ | refine blk_normal ?_ | refine WC_seq ?_ | refine WC_reg ?_ | refine WC_block ?_ | refine WC_skip ?_ | refine WC_exit ?_ | refine then_exit ?_ | refine blk_hit ?_ | refine blk_miss (by decide) ?_ | refine WC_ret ?_ | refine then_ret ?_ | refine blk_ret ?_) | ((with_reducible apply WC_true); (· exact evk)) | ((with_reducible apply WC_false); (· exact evk)) | ((with_reducible apply WL_store hS); (· exact evk); (· exact evk); (· first | rfl | assumption | exact RowIs.one (by assumption)); (· exact upp); (· simp); (clear hS; intro w hS; (simp only [List.set_cons_succ, List.set_cons_zero, putList, Nat.zero_add, Nat.reduceAdd] at hS))))
  exact ⟨[], trivial, ⟨_, rfl⟩, rfl, hS⟩
set_option maxRecDepth 20000 in
theorem c99_idle (A E : Nat) (w : World) :
    CallsD Try.prog 99 #[.pointer (some ⟨A, 0, none⟩), .pointer (some ⟨E, 0, none⟩)] .returning w fun en u' w' => (∃ v, en = .returned v) ∧ u' = .returning ∧ w' = w := by
  refine recF (args := [.pointer (some ⟨A, 0, none⟩), .pointer (some ⟨E, 0, none⟩)]) Try.func99 rfl rfl rfl rfl rfl rfl (ll := R99_0.tail) (lc2 := .seq (.reg R99_1) (.cond (.tmp 9) (.reg R99_2) .skip)) (by kernel_rfl) (by kernel_rfl) (rs := []) (by kernel_rfl) rfl ?_
  dsimp only [recM, envL, Nat.reduceAdd, R99_0, List.tail]
  repeat' (first | (with_reducible first | refine WL_nil ?_ | refine then_normal ?_ | refine blk_normal ?_ | refine WC_seq ?_ | refine WC_reg ?_ | refine WC_block ?_ | refine WC_skip ?_ | refine WC_exit ?_ | refine then_exit ?_ | refine blk_hit ?_ | refine blk_miss (by decide) ?_ | refine WC_ret ?_ | refine then_ret ?_ | refine blk_ret ?_))
  refine WL_assertNil rfl und137 zero137 ?_
  repeat' (first | ((with_reducible apply WL_p); (· exact evk)) | (with_reducible first | refine WL_nil ?_ | refine then_normal ?_ | refine blk_normal ?_ | refine WC_seq ?_ | refine WC_reg ?_ | refine WC_block ?_ | refine WC_skip ?_ | refine WC_exit ?_ | refine then_exit ?_ | refine blk_hit ?_ | refine blk_miss (by decide) ?_ | refine WC_ret ?_ | refine then_ret ?_ | refine blk_ret ?_) | ((with_reducible apply WC_true); (· exact evk)) | ((with_reducible apply WC_false); (· exact evk)))
  exact ⟨[], trivial, ⟨_, rfl⟩, rfl, rfl⟩
end Go.Proofs.Ytohmgkcdjapinaa.Lw
namespace Go.Proofs.Ytohmgkcdjapinaa.Lw
section
variable {P : Program} {p : Chain → World → Prop} {Q : Exit → Env → World → Prop} {e : Env} {w w0 : World} {K : List Nat} {d : Nat} {l : List LOper}
theorem WL_callvp {f : FuncId} {x : Operand} {caps : List Value} {args : List Operand} {argv : List Value} {Oc F : Blks} {R : Value → Blks → Prop} {Rp : Chain → Blks → Prop} (hS : St w0 K w (Oc ++ F)) (hx : ev e x = .func (.func f) #[] caps.toArray) (hb : bodyOk P f = true) (ha : args.map (ev e) = argv)
    (hc : Calls P f (argv ++ caps).toArray w (RetP w (keysOf Oc) R Rp))
    (hp : ∀ ch O' w', Rp ch O' → St w0 K w' (O' ++ F) → p ch w') (h : ∀ v O' w', R v O' → St w0 K w' (O' ++ F) → WL P p Q l (upd e d v) w') : WL P p Q (⟨some d, none, .callv x args⟩ :: l) e w := by
  simp only [WL, wantedE, if_true, LOp.wp, callW]
  refine ⟨f, caps.toArray, hx, hb, ?_⟩
  rw [ha, show argv.toArray ++ caps.toArray = (argv ++ caps).toArray by simp]
  refine Calls.mono hc fun en w' hr => ?_
  cases en with
  | returned u =>
    obtain ⟨O', hR, hS'⟩ := hr
    exact h _ _ _ hR (St.after hS hS')
  | panicked ch =>
    obtain ⟨O', hR, hS'⟩ := hr
    exact hp _ _ _ hR (St.after hS hS')
  | outgrown => exact hr.elim
end
/-- What 'read' answers. -/
def readV (n : Nat) {α : Type} (x : Except Nat (α × Nat)) : Value :=
  match x with
  | .ok (_, a) => if a < n then .tuple #[.int .i64 (a : Int), .int .i64 20] else .tuple #[.int .i64 0, .int .i64 0]
  | .error p => .tuple #[.int .i64 (p : Int), .int .i64 20]
def ReadR (n : Nat) {α : Type} (x : Except Nat (α × Nat)) (R : α → Blks → Prop) (Rb : Blks → Prop) (u : Value) (O' : Blks) : Prop :=
  u = readV n x ∧ match x with
    | .ok (y, _) => R y O'
    | .error _ => Rb O'
def Fields (f : FuncId) (caps : List Value) (B0 : Blks) (l : List UInt8) (dv : Value) {α : Type} (x : Except Nat (α × Nat)) (R : α → Blks → Prop) (Rb : Blks → Prop) : Prop :=
  ∀ (g : Nat) (w : World), At w ((g, Blk 140 [dv, .int .i64 0]) :: B0) → Reads w (g :: keysOf B0) 1 dv l.length (l.map b8) →
    Calls Try.prog f (.pointer (some ⟨g, 0, none⟩) :: caps).toArray w (RetP w (g :: keysOf B0) (RdF g dv x R) (RdE x Rb))
theorem rd_fits {α : Type} {x : Except Nat (α × Nat)} {y : α} {a : Nat} (h : x = .ok (y, a)) : x = .ok (y, a) := h
theorem bodyOk99 : bodyOk Try.prog 99 = true := by kernel_rfl
theorem settle_rec (v : Value) : settle (.panicking [{ v := v, recovered := true }]) = .returning := rfl
abbrev L51c : LC := match L51.body with | .seq _ (.seq _ c) => c | _ => .skip
set_option maxRecDepth 20000 in
set_option maxHeartbeats 1000000 in
theorem c51 {α : Type} (f : FuncId) (caps : List Value) (B0 : Blks) (l : List UInt8) (dv : Value) (x : Except Nat (α × Nat)) (R : α → Blks → Prop) (Rb : Blks → Prop) (w0 : World)
    (hf : Fields f caps B0 l dv x R Rb) (hb : bodyOk Try.prog f = true) (hA : At w0 B0) (hR : Reads w0 (keysOf B0) 1 dv l.length (l.map b8)) :
    Calls Try.prog 51 #[dv, .func (.func f) #[] caps.toArray] w0 (Ret w0 (keysOf B0) (ReadR l.length x R Rb)) := by
  obtain ⟨ad, c, rfl, _⟩ := hR.slc
  refine deferF (args := [.slice ad l.length c, .func (.func f) #[] caps.toArray]) Try.func51 rfl rfl (by kernel_rfl) rfl rfl rfl (caps := [.tmp 4, .tmp 5]) (l1 := .reg R51_0) (l3 := L51c) (sl := [4, 5]) (rs := [.cell 4, .cell 5]) (by kernel_rfl) (by kernel_rfl) (by kernel_rfl) rfl bodyOk99 ?_
  have hS := St.init hA
  dsimp only [envL, Nat.reduceAdd]
  refine WC_reg ?_
  refine WL_newz hS ?_
  clear hS
  intro A w hS hA0
  refine WL_newz hS ?_
  clear hS
  intro E w hS hE0
  refine WL_nil ⟨rfl, [(4, .pointer (some ⟨A, 0, none⟩)), (5, .pointer (some ⟨E, 0, none⟩))], rfl, ?_, ?_⟩
  · intro q hq
    rcases List.mem_cons.1 hq with rfl | hq
    · exact ⟨by simp, rfl⟩
    · obtain rfl := List.mem_singleton.1 hq
      exact ⟨by simp, rfl⟩
  dsimp only [L51c, L51]
  have hcaps : List.map (ev (upd (upd (upd (upd bot 1 (.func (.func f) #[] caps.toArray)) 0 (.slice ad l.length c)) 4 (.pointer (some ⟨A, 0, none⟩))) 5 (.pointer (some ⟨E, 0, none⟩)))) [.tmp 4, .tmp 5] = [.pointer (some ⟨A, 0, none⟩), .pointer (some ⟨E, 0, none⟩)] := rfl
  rw [hcaps]
  have hpan : ∀ (q : Nat) (O' : Blks) (w' : World) (u1 u2 : Value), x = .error q → Rb O' → St w0 (keysOf B0) w' (O' ++ [(A, Blk 3 [u1]), (E, Blk 30 [u2])]) →
      CallsD Try.prog 99 #[.pointer (some ⟨A, 0, none⟩), .pointer (some ⟨E, 0, none⟩)] (.panicking [{ v := .iface 137 (.int .i64 (q : Int)), recovered := false }]) w'
        (retD Try.prog [(4, .pointer (some ⟨A, 0, none⟩)), (5, .pointer (some ⟨E, 0, none⟩))] [.cell 4, .cell 5] (Ret w0 (keysOf B0) (ReadR l.length x R Rb))) := by
    intro q O' w' u1 u2 hx hO hS'
    replace hS' := hS'.perm List.perm_append_comm
    refine (c99_panicking A E u1 u2 q w' hS'.at_left).mono ?_
    rintro en u' w'' ⟨⟨v, rfl⟩, rfl, hS2⟩
    have hS3 := hS'.after (Oc := [(A, Blk 3 [u1]), (E, Blk 30 [u2])]) hS2
    simp only [retD, afterD, settle_rec]
    intro e he
    refine ⟨[.int .i64 (q : Int), .int .i64 20], ⟨⟨⟨A, 0, none⟩, he (4, .pointer (some ⟨A, 0, none⟩)) (by simp), ?_⟩, ⟨⟨E, 0, none⟩, he (5, .pointer (some ⟨E, 0, none⟩)) (by simp), ?_⟩, trivial⟩, O', ⟨?_, ?_⟩, hS3.sub (List.sublist_append_right _ _)⟩
    · exact hS2.cell (T := 3) (cs := [.int .i64 (q : Int)]) (by simp)
    · exact hS2.cell (T := 30) (cs := [.int .i64 20]) (by simp)
    · rw [hx]; rfl
    · rw [hx]; exact hO
  have hret : ∀ (O' : Blks) (w' : World) (u1 u2 : Value), ReadR l.length x R Rb (.tuple #[u1, u2]) O' → St w0 (keysOf B0) w' (O' ++ [(A, Blk 3 [u1]), (E, Blk 30 [u2])]) →
      CallsD Try.prog 99 #[.pointer (some ⟨A, 0, none⟩), .pointer (some ⟨E, 0, none⟩)] .returning w'
        (retD Try.prog [(4, .pointer (some ⟨A, 0, none⟩)), (5, .pointer (some ⟨E, 0, none⟩))] [.cell 4, .cell 5] (Ret w0 (keysOf B0) (ReadR l.length x R Rb))) := by
    intro O' w' u1 u2 hx hS'
    refine (c99_idle A E w').mono ?_
    rintro en u' w'' ⟨⟨v, rfl⟩, rfl, rfl⟩
    simp only [retD, afterD, show settle .returning = .returning from rfl]
    intro e he
    refine ⟨[u1, u2], ⟨⟨⟨A, 0, none⟩, he (4, .pointer (some ⟨A, 0, none⟩)) (by simp), ?_⟩, ⟨⟨E, 0, none⟩, he (5, .pointer (some ⟨E, 0, none⟩)) (by simp), ?_⟩, trivial⟩, O', hx, hS'.sub (List.sublist_append_left _ _)⟩
    · exact hS'.cell (T := 3) (cs := [u1]) (by simp)
    · exact hS'.cell (T := 30) (cs := [u2]) (by simp)
  generalize hp : (fun ch w' => CallsD Try.prog 99 (List.toArray [.pointer (some ⟨A, 0, none⟩), .pointer (some ⟨E, 0, none⟩)]) (FrameMode.panicking ch) w' (retD Try.prog [(4, .pointer (some ⟨A, 0, none⟩)), (5, .pointer (some ⟨E, 0, none⟩))] [.cell 4, .cell 5] (Ret w0 (keysOf B0) (ReadR l.length x R Rb)))) = pp
  repeat' (first | ((with_reducible apply WL_p); (· exact evk)) | (with_reducible first | refine WL_nil ?_ | refine then_normal ?_ | refine blk_normal ?_ | refine WC_seq ?_ | refine WC_reg ?_ | refine WC_block ?_ | refine WC_skip ?_ | refine WC_exit ?_ | refine then_exit ?_ | refine blk_hit ?_ | refine blk_miss (by decide) ?_ | refine WC_ret ?_ | refine then_ret ?_ | refine blk_ret ?_))
  refine WL_newv hS (cs := [.slice ad l.length c, .int .i64 0]) (by exact evk) rfl ?_
  clear hS
  intro g w hS hg
  simp only [List.append_assoc, List.cons_append, List.nil_append] at hS
  replace hS := hS.perm (O' := ((g, Blk 140 [.slice ad l.length c, .int .i64 0]) :: B0) ++ [(A, Blk 3 [.int .i64 0]), (E, Blk 30 [.int .i64 0])]) (by
    rw [show B0 ++ [(A, Blk 3 [Value.int .i64 0]), (E, Blk 30 [Value.int .i64 0]), (g, Blk 140 [.slice ad l.length c, .int .i64 0])] = (B0 ++ [(A, Blk 3 [Value.int .i64 0]), (E, Blk 30 [Value.int .i64 0])]) ++ [(g, Blk 140 [.slice ad l.length c, .int .i64 0])] by simp]
    exact List.perm_append_comm)
  repeat' (first | ((with_reducible apply WL_p); (· exact evk)) | (with_reducible first | refine WL_nil ?_ | refine then_normal ?_ | refine blk_normal ?_ | refine WC_seq ?_ | refine WC_reg ?_ | refine WC_block ?_ | refine WC_skip ?_ | refine WC_exit ?_ | refine then_exit ?_ | refine blk_hit ?_ | refine blk_miss (by decide) ?_ | refine WC_ret ?_ | refine then_ret ?_ | refine blk_ret ?_))
  refine WL_callvp hS (argv := [.pointer (some ⟨g, 0, none⟩)]) (by exact evk) hb (by exact evk) (hf g w hS.at_left ?_) ?_ ?_
  · exact hS.reads hR (Oc := (g, Blk 140 [.slice ad l.length c, .int .i64 0]) :: B0) (fun q hq => List.mem_append_left _ hq)
  · rintro ch O' w' ⟨q, hx, rfl, hO⟩ hS'
    rw [← hp]
    exact hpan q O' w' _ _ hx hO hS'
  · rintro u O' w' ⟨y, a', B, hx, rfl, hRB, rfl⟩ hS'
    clear hS
    have hS := hS'
    clear hS'
    simp only [List.cons_append] at hS
    repeat' (first | ((with_reducible apply WL_p); (· exact evk)) | (with_reducible first | refine WL_nil ?_ | refine then_normal ?_ | refine blk_normal ?_ | refine WC_seq ?_ | refine WC_reg ?_ | refine WC_block ?_ | refine WC_skip ?_ | refine WC_exit ?_ | refine then_exit ?_ | refine blk_hit ?_ | refine blk_miss (by decide) ?_ | refine WC_ret ?_ | refine then_ret ?_ | refine blk_ret ?_) | ((with_reducible apply WL_load hS); (· exact evk); (· exact inn); (· rfl)) | ((with_reducible apply WC_dec); (· exact evk)) | (with_reducible intro hh))
    · repeat' (first | ((with_reducible apply WL_p); (· exact evk)) | ((with_reducible apply WL_load hS); (· exact evk); (· exact inn); (· rfl)) | ((with_reducible apply WL_store hS); (· exact evk); (· exact evk); (· first | rfl | assumption | exact RowIs.one (by assumption)); (· exact upp); (· simp); (clear hS; intro w hS; (simp only [List.set_cons_succ, List.set_cons_zero, putList, Nat.zero_add, Nat.reduceAdd] at hS))) | (with_reducible first | refine WL_nil ?_ | refine then_normal ?_ | refine blk_normal ?_ | refine WC_seq ?_ | refine WC_reg ?_ | refine WC_block ?_ | refine WC_skip ?_ | refine WC_exit ?_ | refine then_exit ?_ | refine blk_hit ?_ | refine blk_miss (by decide) ?_ | refine WC_ret ?_ | refine then_ret ?_ | refine blk_ret ?_))
      exact ⟨.inr rfl, hret B _ _ _ ⟨by rw [hx]; simp only [readV]; rw [if_pos (by omega)], by rw [hx]; exact hRB⟩ (hS.sub (List.sublist_cons_self _ _))⟩
    · repeat' (first | ((with_reducible apply WL_p); (· exact evk)) | ((with_reducible apply WL_load hS); (· exact evk); (· exact inn); (· rfl)) | ((with_reducible apply WL_store hS); (· exact evk); (· exact evk); (· first | rfl | assumption | exact RowIs.one (by assumption)); (· exact upp); (· simp); (clear hS; intro w hS; (simp only [List.set_cons_succ, List.set_cons_zero, putList, Nat.zero_add, Nat.reduceAdd] at hS))) | (with_reducible first | refine WL_nil ?_ | refine then_normal ?_ | refine blk_normal ?_ | refine WC_seq ?_ | refine WC_reg ?_ | refine WC_block ?_ | refine WC_skip ?_ | refine WC_exit ?_ | refine then_exit ?_ | refine blk_hit ?_ | refine blk_miss (by decide) ?_ | refine WC_ret ?_ | refine then_ret ?_ | refine blk_ret ?_))
      exact ⟨.inr rfl, hret B _ _ _ ⟨by rw [hx]; simp only [readV]; rw [if_neg (by omega)], by rw [hx]; exact hRB⟩ (hS.sub (List.sublist_cons_self _ _))⟩
end Go.Proofs.Ytohmgkcdjapinaa.Lw
namespace Go.Proofs.Ytohmgkcdjapinaa.Lw
theorem putList_full (zs vs : List Value) (h : zs.length = vs.length) : putList zs 0 vs = vs := by
  have := putList_end vs [] zs (by omega)
  simp only [List.nil_append, List.length_nil] at this
  rw [this, List.drop_eq_nil_of_le (by omega), List.append_nil]
section
variable {P : Program} {p : Chain → World → Prop} {Q : Exit → Env → World → Prop} {e : Env} {w w0 : World} {K : List Nat} {O : Blks} {d : Nat} {l : List LOper}
theorem WL_storeF {n : Nat} {x y : Operand} {b : Nat} {T : TypeId} {cs vs : List Value} {O' : Blks} (hS : St w0 K w O) (hx : ev e x = .pointer (some ⟨b, 0, none⟩)) (hy : ev e y = .agg vs.toArray) (hn : vs.length = n) (hc : cs.length = n) (h1 : ∀ c ∈ vs, c.oneCell' = true)
    (hu : Upd b (Blk T cs) (Blk T vs) O O') (h : ∀ w', St w0 K w' O' → WL P p Q l e w') : WL P p Q (⟨none, none, .store n x y⟩ :: l) e w :=
  WL_storeN (off := 0) hS hx hy hn h1 (by rw [putList_full cs vs (by omega)]; exact hu) (by omega) h
theorem WL_loadF {n : Nat} {x : Operand} {b : Nat} {T : TypeId} {cs : List Value} (hS : St w0 K w O) (hx : ev e x = .pointer (some ⟨b, 0, none⟩)) (hm : (b, Blk T cs) ∈ O) (hl : cs.length = n)
    (h : WL P p Q l (upd e d (.agg cs.toArray)) w) : WL P p Q (⟨some d, none, .loadN n x⟩ :: l) e w :=
  WL_loadN (off := 0) hS hx hm (by rw [List.drop_zero, ← hl, List.take_length]) hl h
end
theorem Ms.ones (m : Ms) {vv : Value} (h : vv.oneCell' = true) : ∀ c ∈ m.cells vv, c.oneCell' = true := by
  intro c hc
  simp only [Ms.cells, List.mem_cons, List.not_mem_nil, or_false] at hc
  rcases hc with rfl | rfl | rfl | rfl | rfl | rfl | rfl | rfl | rfl | rfl | rfl | rfl | rfl | rfl | rfl | rfl | rfl | rfl | rfl | rfl <;> first | rfl | exact h
theorem Ms.cells_len (m : Ms) (vv : Value) : (m.cells vv).length = 20 := rfl
set_option maxRecDepth 4000 in
theorem c52 (g a mb : Nat) (l : List UInt8) (dv : Value) (zs : List Value) (hz : zs.length = 20) (hle : a ≤ l.length) (hcap : CapOk dv) (w0 : World)
    (hA : At w0 [(g, Blk 140 [dv, .int .i64 (a : Int)]), (mb, Blk 33 zs)]) (hR : Reads w0 [g, mb] 1 dv l.length (l.map b8)) :
    Calls Try.prog 52 #[.pointer (some ⟨g, 0, none⟩), .pointer (some ⟨mb, 0, none⟩)] w0
      (RetP w0 [g, mb] (RdF g dv (rdMsg l a) fun y B => ∃ vv L, RowIs 71 7 vv y.2.length (y.2.flatMap Vw.cells) L ∧ B = (mb, Blk 33 (y.1.cells vv)) :: L)
        (RdE (rdMsg l a) fun O' => O' = [(mb, Blk 33 zs)])) := by
  refine enterF (args := [.pointer (some ⟨g, 0, none⟩), .pointer (some ⟨mb, 0, none⟩)]) Try.func52 low52 rfl ?_; have hS := St.init hA; dsimp only [L52, envL, Nat.reduceAdd]
  repeat' (first | ((with_reducible apply WL_p); (· exact evk)) | (with_reducible first | refine WL_nil ?_ | refine then_normal ?_ | refine blk_normal ?_ | refine WC_seq ?_ | refine WC_reg ?_ | refine WC_block ?_ | refine WC_skip ?_ | refine WC_exit ?_ | refine then_exit ?_ | refine blk_hit ?_ | refine blk_miss (by decide) ?_ | refine WC_ret ?_ | refine then_ret ?_ | refine blk_ret ?_) | ((first | (with_reducible apply WL_newz hS) | ((with_reducible apply WL_newv hS); (· exact evk); (· rfl)) | ((with_reducible apply WL_row hS); (· exact evk))); clear hS; intro bq w hS hbq; (try simp only [List.nil_append, List.cons_append, List.append_assoc] at hS)))
  refine WL_callp (Oc := [(g, Blk 140 [dv, .int .i64 (a : Int)])]) (F := [(mb, Blk 33 zs)]) hS (by exact evk) (c53 g a l dv _ (rdA hS hR hle hcap)) ?_ ?_
  · rintro ch O' w' ⟨q, hq, rfl⟩ hS'
    exact ⟨_, ⟨q, hq, rfl, rfl⟩, hS'.sub (List.sublist_append_right _ _)⟩
  rintro u O' w ⟨m, vs, a', vv, L, hx, hrow, rfl, rfl⟩ hS'
  clear hS
  have hS := hS'
  clear hS'
  simp only [List.cons_append, List.nil_append] at hS
  replace hS := hS.perm (O' := (g, Blk 140 [dv, .int .i64 (a' : Int)]) :: (mb, Blk 33 zs) :: L) (List.Perm.cons _ List.perm_append_comm)
  refine WL_storeF hS (by exact evk) (by exact evk) rfl hz (Ms.ones m hrow.one) (Upd.tail _ (Upd.head _)) ?_
  clear hS
  intro w hS
  repeat' (first | ((with_reducible apply WL_p); (· exact evk)) | (with_reducible first | refine WL_nil ?_ | refine then_normal ?_ | refine blk_normal ?_ | refine WC_seq ?_ | refine WC_reg ?_ | refine WC_block ?_ | refine WC_skip ?_ | refine WC_exit ?_ | refine then_exit ?_ | refine blk_hit ?_ | refine blk_miss (by decide) ?_ | refine WC_ret ?_ | refine then_ret ?_ | refine blk_ret ?_))
  exact ret0nP hS ⟨_, a', _, hx, rfl, ⟨vv, L, hrow, rfl⟩, rfl⟩
/-- What is read, if all is read; else the place. -/
def fin {α : Type} (n : Nat) (x : Except Nat (α × Nat)) : Except Nat α :=
  match x with
  | .ok (y, a) => if a < n then .error a else .ok y
  | .error p => .error p
abbrev R17_0 : List LOper := [⟨some 2, none, .newz 33 [(.int .i64 0), (S []), (.int .i64 0), (.int .i64 0), (.int .i64 0), (.int .i64 0), (.int .i64 0), (.int .i64 0), (.int .i64 0), (.int .i64 0), (.int .i64 0), (.int .i64 0), (.int .i64 0), (.int .i64 0), (S []), (.int .i64 0), (.int .i64 0), (.int .i64 0), (.int .i64 0), (.slice none 0 0)]⟩, ⟨some 3, none, .pv (.move (.const (.int .i64 0)))⟩, ⟨some 4, none, .pv (.move (.const (.int .i64 0)))⟩]
abbrev R17_1 : List LOper := [⟨some 6, none, .pv (.move (.tmp 0))⟩, ⟨some 7, none, .pv (.fn 52 [(.tmp 2)])⟩, ⟨some 8, none, .call 51 [(.tmp 6), (.tmp 7)]⟩, ⟨some 5, none, .pv (.move (.tmp 8))⟩, ⟨some 9, none, .pv (.ext (.tmp 5) 0)⟩, ⟨some 10, none, .pv (.ext (.tmp 5) 1)⟩, ⟨some 3, none, .pv (.move (.tmp 9))⟩, ⟨some 4, none, .pv (.move (.tmp 10))⟩]
abbrev R17_2 : List LOper := [⟨some 11, none, .pv (.move (.tmp 4))⟩, ⟨some 12, none, .pv (.bin .neq (.tmp 11) (.const (.int .i64 0)))⟩]
abbrev R17_3 : List LOper := [⟨some 13, none, .pv (.bld [(.int .i64 0), (S []), (.int .i64 0), (.int .i64 0), (.int .i64 0), (.int .i64 0), (.int .i64 0), (.int .i64 0), (.int .i64 0), (.int .i64 0), (.int .i64 0), (.int .i64 0), (.int .i64 0), (.int .i64 0), (S []), (.int .i64 0), (.int .i64 0), (.int .i64 0), (.int .i64 0), (.slice none 0 0)] [])⟩, ⟨none, none, .store 20 (.tmp 2) (.tmp 13)⟩]
abbrev R17_4 : List LOper := [⟨some 14, none, .loadN 20 (.tmp 2)⟩, ⟨some 15, none, .pv (.move (.tmp 3))⟩, ⟨some 16, none, .pv (.move (.tmp 4))⟩, ⟨none, none, .store 20 (.tmp 2) (.tmp 14)⟩, ⟨some 3, none, .pv (.move (.tmp 15))⟩, ⟨some 4, none, .pv (.move (.tmp 16))⟩]
abbrev L17 : LFun := ⟨17, [(.cells 2 20), (.tmp 3), (.tmp 4)], (.seq (.reg R17_0) (.seq (.seq (.reg R17_1) (.seq (.reg R17_2) (.cond (.tmp 12) (.reg R17_3) .skip))) (.seq (.reg R17_4) .ret)))⟩
theorem low17 : lowFn Try.prog Try.f17 = some L17 := by kernel_rfl

theorem bodyOk52 : bodyOk Try.prog 52 = true := by kernel_rfl
theorem bodyOk83 : bodyOk Try.prog 83 = true := by kernel_rfl
theorem bodyOk72 : bodyOk Try.prog 72 = true := by kernel_rfl
theorem bodyOk55 : bodyOk Try.prog 55 = true := by kernel_rfl
/-- Decode's answer. -/
def DecM (l : List UInt8) (u : Value) (O' : Blks) : Prop :=
  match fin l.length (rdMsg l 0) with
  | .ok (m, vs) => ∃ vv, RowIs 71 7 vv vs.length (vs.flatMap Vw.cells) O' ∧ u = .tuple #[.agg (m.cells vv).toArray, .int .i64 0, .int .i64 0]
  | .error p => u = .tuple #[.agg (zeroMs.cells (.slice none 0 0)).toArray, .int .i64 (p : Int), .int .i64 20]
theorem retc3 {t n s1 s2 b : Nat} {T : TypeId} {cs : List Value} {u1 u2 : Value} {R : Value → Blks → Prop} {w0 w : World} {K : List Nat} {O O' : Blks} {e : Env} (hS : St w0 K w O) (hs : O'.Sublist O) (ht : e t = .pointer (some ⟨b, 0, none⟩)) (hm : (b, Blk T cs) ∈ O) (hn : cs.length = n)
    (h1 : e s1 = u1) (h2 : e s2 = u2) (h : R (.tuple #[.agg cs.toArray, u1, u2]) O') : retQ [.cells t n, .tmp s1, .tmp s2] (Ret w0 K R) .ret e w := by
  refine ⟨[.agg cs.toArray, u1, u2], ⟨⟨_, cs, ht, hn, ?_, rfl⟩, h1.symm, h2.symm, trivial⟩, O', h, hS.sub hs⟩
  have := hS.cells (off := 0) (n := cs.length) hm (by omega)
  simpa using this
set_option maxRecDepth 8000 in
set_option maxHeartbeats 1000000 in
theorem c17 (l : List UInt8) (dv : Value) (hcap : CapOk dv) (w : World) (hR : Reads w [] 1 dv l.length (l.map b8)) :
    Calls Try.prog 17 #[dv] w (Ret w [] (DecM l)) := by
  refine enterF (args := [dv]) Try.func17 low17 rfl ?_; have hS := St.start w; dsimp only [L17, envL, Nat.reduceAdd]
  repeat' (first | ((with_reducible apply WL_p); (· exact evk)) | (with_reducible first | refine WL_nil ?_ | refine then_normal ?_ | refine blk_normal ?_ | refine WC_seq ?_ | refine WC_reg ?_ | refine WC_block ?_ | refine WC_skip ?_ | refine WC_exit ?_ | refine then_exit ?_ | refine blk_hit ?_ | refine blk_miss (by decide) ?_ | refine WC_ret ?_ | refine then_ret ?_ | refine blk_ret ?_) | ((first | (with_reducible apply WL_newz hS) | ((with_reducible apply WL_newv hS); (· exact evk); (· rfl)) | ((with_reducible apply WL_row hS); (· exact evk))); clear hS; intro bq w hS hbq; (try simp only [List.nil_append, List.cons_append, List.append_assoc] at hS)))
  refine WL_call (Oc := [(bq, Blk 33 _)]) (F := []) hS (by exact evk) (c51 (α := Ms × List Vw) 52 [.pointer (some ⟨bq, 0, none⟩)] [(bq, Blk 33 _)] l dv (rdMsg l 0) (fun y B => ∃ vv L, RowIs 71 7 vv y.2.length (y.2.flatMap Vw.cells) L ∧ B = (bq, Blk 33 (y.1.cells vv)) :: L) (fun O' => O' = [(bq, Blk 33 _)]) w
    (fun g w' hA hR' => c52 g 0 bq l dv _ rfl (by omega) hcap w' hA hR') bodyOk52 hS.at (hS.reads hR (Oc := [(bq, Blk 33 _)]) (fun q hq => hq))) ?_
  rintro u O' w ⟨rfl, hO⟩ hS'
  clear hS
  have hS := hS'
  clear hS'
  rw [List.append_nil] at hS
  have hdec : ∀ x, rdMsg l 0 = x → DecM l = fun u O' => match fin l.length x with
    | .ok (m, vs) => ∃ vv, RowIs 71 7 vv vs.length (vs.flatMap Vw.cells) O' ∧ u = .tuple #[.agg (m.cells vv).toArray, .int .i64 0, .int .i64 0]
    | .error p => u = .tuple #[.agg (zeroMs.cells (.slice none 0 0)).toArray, .int .i64 (p : Int), .int .i64 20] := by
    intro x hx
    funext u O'
    rw [← hx]; rfl
  generalize hx : rdMsg l 0 = x at hO
  rw [hdec x hx]
  cases x with
  | error p =>
    simp only [readV, fin] at hO ⊢
    subst hO
    repeat' (first | ((with_reducible apply WL_p); (· exact evk)) | (with_reducible first | refine WL_nil ?_ | refine then_normal ?_ | refine blk_normal ?_ | refine WC_seq ?_ | refine WC_reg ?_ | refine WC_block ?_ | refine WC_skip ?_ | refine WC_exit ?_ | refine then_exit ?_ | refine blk_hit ?_ | refine blk_miss (by decide) ?_ | refine WC_ret ?_ | refine then_ret ?_ | refine blk_ret ?_) | ((with_reducible apply WC_true); (· exact evk)) | ((with_reducible apply WC_false); (· exact evk)) | ((with_reducible apply WL_storeN hS); (· exact evk); (· exact evk); (· rfl); (· simp [Value.oneCell', S]); (· exact upp); (· simp); (clear hS; intro w hS; (simp only [List.set_cons_succ, List.set_cons_zero, putList, Nat.zero_add, Nat.reduceAdd] at hS))) | ((with_reducible apply WL_loadN hS); (· exact evk); (· exact inn); (· ((simp only [List.drop_succ_cons, List.drop_zero, List.take_succ_cons, List.take_zero]) <;> rfl)); (· rfl)))
    exact retc3 hS (List.nil_sublist _) rfl inn rfl rfl rfl rfl
  | ok r =>
    obtain ⟨⟨m, vs⟩, a⟩ := r
    simp only [readV, fin] at hO ⊢
    obtain ⟨vv, L, hrow, rfl⟩ := hO
    have hone := hrow.one
    by_cases ha : a < l.length
    · simp only [if_pos ha]
      repeat' (first | ((with_reducible apply WL_p); (· exact evk)) | (with_reducible first | refine WL_nil ?_ | refine then_normal ?_ | refine blk_normal ?_ | refine WC_seq ?_ | refine WC_reg ?_ | refine WC_block ?_ | refine WC_skip ?_ | refine WC_exit ?_ | refine then_exit ?_ | refine blk_hit ?_ | refine blk_miss (by decide) ?_ | refine WC_ret ?_ | refine then_ret ?_ | refine blk_ret ?_) | ((with_reducible apply WC_true); (· exact evk)) | ((with_reducible apply WC_false); (· exact evk)) | ((with_reducible apply WL_storeN hS); (· exact evk); (· exact evk); (· rfl); (· simp [Value.oneCell', S]); (· exact upp); (· simp); (clear hS; intro w hS; (simp only [List.set_cons_succ, List.set_cons_zero, putList, Nat.zero_add, Nat.reduceAdd] at hS))) | ((with_reducible apply WL_loadN hS); (· exact evk); (· exact inn); (· ((simp only [List.drop_succ_cons, List.drop_zero, List.take_succ_cons, List.take_zero]) <;> rfl)); (· rfl)))
      refine WL_storeF (vs := zeroMs.cells (.slice none 0 0)) hS (by exact evk) rfl rfl rfl (Ms.ones _ rfl) (Upd.head _) ?_
      clear hS
      intro w hS
      repeat' (first | ((with_reducible apply WL_p); (· exact evk)) | (with_reducible first | refine WL_nil ?_ | refine then_normal ?_ | refine blk_normal ?_ | refine WC_seq ?_ | refine WC_reg ?_ | refine WC_block ?_ | refine WC_skip ?_ | refine WC_exit ?_ | refine then_exit ?_ | refine blk_hit ?_ | refine blk_miss (by decide) ?_ | refine WC_ret ?_ | refine then_ret ?_ | refine blk_ret ?_))
      refine WL_loadF hS (by exact evk) inn rfl ?_
      repeat' (first | ((with_reducible apply WL_p); (· exact evk)) | (with_reducible first | refine WL_nil ?_ | refine then_normal ?_ | refine blk_normal ?_ | refine WC_seq ?_ | refine WC_reg ?_ | refine WC_block ?_ | refine WC_skip ?_ | refine WC_exit ?_ | refine then_exit ?_ | refine blk_hit ?_ | refine blk_miss (by decide) ?_ | refine WC_ret ?_ | refine then_ret ?_ | refine blk_ret ?_))
      refine WL_storeF hS (by exact evk) (by exact evk) rfl rfl (Ms.ones _ rfl) (Upd.head _) ?_
      clear hS
      intro w hS
      repeat' (first | ((with_reducible apply WL_p); (· exact evk)) | (with_reducible first | refine WL_nil ?_ | refine then_normal ?_ | refine blk_normal ?_ | refine WC_seq ?_ | refine WC_reg ?_ | refine WC_block ?_ | refine WC_skip ?_ | refine WC_exit ?_ | refine then_exit ?_ | refine blk_hit ?_ | refine blk_miss (by decide) ?_ | refine WC_ret ?_ | refine then_ret ?_ | refine blk_ret ?_))
      exact retc3 hS (List.nil_sublist _) rfl inn rfl rfl rfl rfl
    · simp only [if_neg ha]
      repeat' (first | ((with_reducible apply WL_p); (· exact evk)) | (with_reducible first | refine WL_nil ?_ | refine then_normal ?_ | refine blk_normal ?_ | refine WC_seq ?_ | refine WC_reg ?_ | refine WC_block ?_ | refine WC_skip ?_ | refine WC_exit ?_ | refine then_exit ?_ | refine blk_hit ?_ | refine blk_miss (by decide) ?_ | refine WC_ret ?_ | refine then_ret ?_ | refine blk_ret ?_) | ((with_reducible apply WC_true); (· exact evk)) | ((with_reducible apply WC_false); (· exact evk)))
      refine WL_loadF hS (by exact evk) inn rfl ?_
      repeat' (first | ((with_reducible apply WL_p); (· exact evk)) | (with_reducible first | refine WL_nil ?_ | refine then_normal ?_ | refine blk_normal ?_ | refine WC_seq ?_ | refine WC_reg ?_ | refine WC_block ?_ | refine WC_skip ?_ | refine WC_exit ?_ | refine then_exit ?_ | refine blk_hit ?_ | refine blk_miss (by decide) ?_ | refine WC_ret ?_ | refine then_ret ?_ | refine blk_ret ?_))
      refine WL_storeF hS (by exact evk) (by exact evk) rfl rfl (Ms.ones _ hone) (Upd.head _) ?_
      clear hS
      intro w hS
      repeat' (first | ((with_reducible apply WL_p); (· exact evk)) | (with_reducible first | refine WL_nil ?_ | refine then_normal ?_ | refine blk_normal ?_ | refine WC_seq ?_ | refine WC_reg ?_ | refine WC_block ?_ | refine WC_skip ?_ | refine WC_exit ?_ | refine then_exit ?_ | refine blk_hit ?_ | refine blk_miss (by decide) ?_ | refine WC_ret ?_ | refine then_ret ?_ | refine blk_ret ?_))
      exact retc3 hS (List.sublist_cons_self _ _) rfl inn rfl rfl rfl ⟨vv, hrow, rfl⟩
end Go.Proofs.Ytohmgkcdjapinaa.Lw
namespace Go.Proofs.Ytohmgkcdjapinaa.Lw
abbrev R38_0 : List LOper := [⟨some 2, none, .newz 42 [(.int .i64 0), (.int .i64 0), (.int .i64 0), (.int .i64 0)]⟩, ⟨some 3, none, .pv (.move (.const (.int .i64 0)))⟩, ⟨some 4, none, .pv (.move (.const (.int .i64 0)))⟩]
abbrev R38_1 : List LOper := [⟨some 6, none, .pv (.move (.tmp 0))⟩, ⟨some 7, none, .pv (.fn 83 [(.tmp 2)])⟩, ⟨some 8, none, .call 51 [(.tmp 6), (.tmp 7)]⟩, ⟨some 5, none, .pv (.move (.tmp 8))⟩, ⟨some 9, none, .pv (.ext (.tmp 5) 0)⟩, ⟨some 10, none, .pv (.ext (.tmp 5) 1)⟩, ⟨some 3, none, .pv (.move (.tmp 9))⟩, ⟨some 4, none, .pv (.move (.tmp 10))⟩]
abbrev R38_2 : List LOper := [⟨some 11, none, .pv (.move (.tmp 4))⟩, ⟨some 12, none, .pv (.bin .neq (.tmp 11) (.const (.int .i64 0)))⟩]
abbrev R38_3 : List LOper := [⟨some 13, none, .pv (.bld [(.int .i64 0), (.int .i64 0), (.int .i64 0), (.int .i64 0)] [])⟩, ⟨none, none, .store 4 (.tmp 2) (.tmp 13)⟩]
abbrev R38_4 : List LOper := [⟨some 14, none, .loadN 4 (.tmp 2)⟩, ⟨some 15, none, .pv (.move (.tmp 3))⟩, ⟨some 16, none, .pv (.move (.tmp 4))⟩, ⟨none, none, .store 4 (.tmp 2) (.tmp 14)⟩, ⟨some 3, none, .pv (.move (.tmp 15))⟩, ⟨some 4, none, .pv (.move (.tmp 16))⟩]
abbrev L38 : LFun := ⟨17, [(.cells 2 4), (.tmp 3), (.tmp 4)], (.seq (.reg R38_0) (.seq (.reg R38_1) (.seq (.seq (.reg R38_2) (.cond (.tmp 12) (.reg R38_3) .skip)) (.seq (.reg R38_4) .ret))))⟩
theorem low38 : lowFn Try.prog Try.f38 = some L38 := by kernel_rfl
abbrev R31_0 : List LOper := [⟨some 2, none, .newz 39 [(.int .i64 0), (.int .i64 0), (.int .i64 0), (.int .i64 0), (.slice none 0 0)]⟩, ⟨some 3, none, .pv (.move (.const (.int .i64 0)))⟩, ⟨some 4, none, .pv (.move (.const (.int .i64 0)))⟩]
abbrev R31_1 : List LOper := [⟨some 6, none, .pv (.move (.tmp 0))⟩, ⟨some 7, none, .pv (.fn 72 [(.tmp 2)])⟩, ⟨some 8, none, .call 51 [(.tmp 6), (.tmp 7)]⟩, ⟨some 5, none, .pv (.move (.tmp 8))⟩, ⟨some 9, none, .pv (.ext (.tmp 5) 0)⟩, ⟨some 10, none, .pv (.ext (.tmp 5) 1)⟩, ⟨some 3, none, .pv (.move (.tmp 9))⟩, ⟨some 4, none, .pv (.move (.tmp 10))⟩]
abbrev R31_2 : List LOper := [⟨some 11, none, .pv (.move (.tmp 4))⟩, ⟨some 12, none, .pv (.bin .neq (.tmp 11) (.const (.int .i64 0)))⟩]
abbrev R31_3 : List LOper := [⟨some 13, none, .pv (.bld [(.int .i64 0), (.int .i64 0), (.int .i64 0), (.int .i64 0), (.slice none 0 0)] [])⟩, ⟨none, none, .store 5 (.tmp 2) (.tmp 13)⟩]
abbrev R31_4 : List LOper := [⟨some 14, none, .loadN 5 (.tmp 2)⟩, ⟨some 15, none, .pv (.move (.tmp 3))⟩, ⟨some 16, none, .pv (.move (.tmp 4))⟩, ⟨none, none, .store 5 (.tmp 2) (.tmp 14)⟩, ⟨some 3, none, .pv (.move (.tmp 15))⟩, ⟨some 4, none, .pv (.move (.tmp 16))⟩]
abbrev L31 : LFun := ⟨17, [(.cells 2 5), (.tmp 3), (.tmp 4)], (.seq (.reg R31_0) (.seq (.reg R31_1) (.seq (.seq (.reg R31_2) (.cond (.tmp 12) (.reg R31_3) .skip)) (.seq (.reg R31_4) .ret))))⟩
theorem low31 : lowFn Try.prog Try.f31 = some L31 := by kernel_rfl

def DecP (n : Nat) (x : Except Nat (RepV × Nat)) (u : Value) (O' : Blks) : Prop :=
  match fin n x with
  | .ok r => u = .tuple #[.agg r.cells.toArray, .int .i64 0, .int .i64 0]
  | .error p => u = .tuple #[.agg (RepV.cells ⟨(0, 0), 0, 0⟩).toArray, .int .i64 (p : Int), .int .i64 20]
theorem RepV.ones (r : RepV) : ∀ c ∈ r.cells, c.oneCell' = true := by
  intro c hc
  simp only [RepV.cells, List.mem_cons, List.not_mem_nil, or_false] at hc
  rcases hc with rfl | rfl | rfl | rfl <;> rfl
set_option maxRecDepth 8000 in
set_option maxHeartbeats 1000000 in
theorem c38 (l : List UInt8) (dv : Value) (hcap : CapOk dv) (w : World) (hR : Reads w [] 1 dv l.length (l.map b8)) :
    Calls Try.prog 38 #[dv] w (Ret w [] (DecP l.length (rdRep l 0))) := by
  refine enterF (args := [dv]) Try.func38 low38 rfl ?_; have hS := St.start w; dsimp only [L38, envL, Nat.reduceAdd]
  repeat' (first | ((with_reducible apply WL_p); (· exact evk)) | (with_reducible first | refine WL_nil ?_ | refine then_normal ?_ | refine blk_normal ?_ | refine WC_seq ?_ | refine WC_reg ?_ | refine WC_block ?_ | refine WC_skip ?_ | refine WC_exit ?_ | refine then_exit ?_ | refine blk_hit ?_ | refine blk_miss (by decide) ?_ | refine WC_ret ?_ | refine then_ret ?_ | refine blk_ret ?_) | ((first | (with_reducible apply WL_newz hS) | ((with_reducible apply WL_newv hS); (· exact evk); (· rfl)) | ((with_reducible apply WL_row hS); (· exact evk))); clear hS; intro bq w hS hbq; (try simp only [List.nil_append, List.cons_append, List.append_assoc] at hS)))
  refine WL_call (Oc := [(bq, Blk 42 _)]) (F := []) hS (by exact evk) (c51 (α := RepV) 83 [.pointer (some ⟨bq, 0, none⟩)] [(bq, Blk 42 _)] l dv (rdRep l 0) (fun y B => B = [(bq, Blk 42 y.cells)]) (fun O' => ∃ z1 z2 z3 z4, O' = [(bq, Blk 42 [z1, z2, z3, z4])]) w
    (fun g w' hA hR' => c83 g 0 bq l dv _ _ _ _ (by omega) hcap w' hA hR') bodyOk83 hS.at (hS.reads hR (Oc := [(bq, Blk 42 _)]) (fun q hq => hq))) ?_
  rintro u O' w ⟨rfl, hO⟩ hS'
  clear hS
  have hS := hS'
  clear hS'
  rw [List.append_nil] at hS
  generalize hx : rdRep l 0 = x at hO
  cases x with
  | error p =>
    simp only [readV, DecP, fin] at hO ⊢
    obtain ⟨z1, z2, z3, z4, rfl⟩ := hO
    repeat' (first | ((with_reducible apply WL_p); (· exact evk)) | (with_reducible first | refine WL_nil ?_ | refine then_normal ?_ | refine blk_normal ?_ | refine WC_seq ?_ | refine WC_reg ?_ | refine WC_block ?_ | refine WC_skip ?_ | refine WC_exit ?_ | refine then_exit ?_ | refine blk_hit ?_ | refine blk_miss (by decide) ?_ | refine WC_ret ?_ | refine then_ret ?_ | refine blk_ret ?_) | ((with_reducible apply WC_true); (· exact evk)) | ((with_reducible apply WC_false); (· exact evk)) | ((with_reducible apply WL_storeN hS); (· exact evk); (· exact evk); (· rfl); (· simp [Value.oneCell', S]); (· exact upp); (· simp); (clear hS; intro w hS; (simp only [List.set_cons_succ, List.set_cons_zero, putList, Nat.zero_add, Nat.reduceAdd] at hS))) | ((with_reducible apply WL_loadN hS); (· exact evk); (· exact inn); (· ((simp only [List.drop_succ_cons, List.drop_zero, List.take_succ_cons, List.take_zero]) <;> rfl)); (· rfl)))
    exact retc3 hS (List.nil_sublist _) rfl inn rfl rfl rfl rfl
  | ok r =>
    obtain ⟨y, a⟩ := r
    simp only [readV, DecP, fin] at hO ⊢
    subst hO
    by_cases ha : a < l.length
    · simp only [if_pos ha]
      repeat' (first | ((with_reducible apply WL_p); (· exact evk)) | (with_reducible first | refine WL_nil ?_ | refine then_normal ?_ | refine blk_normal ?_ | refine WC_seq ?_ | refine WC_reg ?_ | refine WC_block ?_ | refine WC_skip ?_ | refine WC_exit ?_ | refine then_exit ?_ | refine blk_hit ?_ | refine blk_miss (by decide) ?_ | refine WC_ret ?_ | refine then_ret ?_ | refine blk_ret ?_) | ((with_reducible apply WC_true); (· exact evk)) | ((with_reducible apply WC_false); (· exact evk)))
      refine WL_storeF (vs := RepV.cells ⟨(0, 0), 0, 0⟩) hS (by exact evk) rfl rfl rfl (RepV.ones _) (Upd.head _) ?_
      clear hS
      intro w hS
      repeat' (first | ((with_reducible apply WL_p); (· exact evk)) | (with_reducible first | refine WL_nil ?_ | refine then_normal ?_ | refine blk_normal ?_ | refine WC_seq ?_ | refine WC_reg ?_ | refine WC_block ?_ | refine WC_skip ?_ | refine WC_exit ?_ | refine then_exit ?_ | refine blk_hit ?_ | refine blk_miss (by decide) ?_ | refine WC_ret ?_ | refine then_ret ?_ | refine blk_ret ?_))
      refine WL_loadF hS (by exact evk) inn rfl ?_
      repeat' (first | ((with_reducible apply WL_p); (· exact evk)) | (with_reducible first | refine WL_nil ?_ | refine then_normal ?_ | refine blk_normal ?_ | refine WC_seq ?_ | refine WC_reg ?_ | refine WC_block ?_ | refine WC_skip ?_ | refine WC_exit ?_ | refine then_exit ?_ | refine blk_hit ?_ | refine blk_miss (by decide) ?_ | refine WC_ret ?_ | refine then_ret ?_ | refine blk_ret ?_))
      refine WL_storeF hS (by exact evk) (by exact evk) rfl rfl (RepV.ones _) (Upd.head _) ?_
      clear hS
      intro w hS
      repeat' (first | ((with_reducible apply WL_p); (· exact evk)) | (with_reducible first | refine WL_nil ?_ | refine then_normal ?_ | refine blk_normal ?_ | refine WC_seq ?_ | refine WC_reg ?_ | refine WC_block ?_ | refine WC_skip ?_ | refine WC_exit ?_ | refine then_exit ?_ | refine blk_hit ?_ | refine blk_miss (by decide) ?_ | refine WC_ret ?_ | refine then_ret ?_ | refine blk_ret ?_))
      exact retc3 hS (List.nil_sublist _) rfl inn rfl rfl rfl (by simp only [DecP, fin, if_pos ha]; rfl)
    · simp only [if_neg ha]
      repeat' (first | ((with_reducible apply WL_p); (· exact evk)) | (with_reducible first | refine WL_nil ?_ | refine then_normal ?_ | refine blk_normal ?_ | refine WC_seq ?_ | refine WC_reg ?_ | refine WC_block ?_ | refine WC_skip ?_ | refine WC_exit ?_ | refine then_exit ?_ | refine blk_hit ?_ | refine blk_miss (by decide) ?_ | refine WC_ret ?_ | refine then_ret ?_ | refine blk_ret ?_) | ((with_reducible apply WC_true); (· exact evk)) | ((with_reducible apply WC_false); (· exact evk)))
      refine WL_loadF hS (by exact evk) inn rfl ?_
      repeat' (first | ((with_reducible apply WL_p); (· exact evk)) | (with_reducible first | refine WL_nil ?_ | refine then_normal ?_ | refine blk_normal ?_ | refine WC_seq ?_ | refine WC_reg ?_ | refine WC_block ?_ | refine WC_skip ?_ | refine WC_exit ?_ | refine then_exit ?_ | refine blk_hit ?_ | refine blk_miss (by decide) ?_ | refine WC_ret ?_ | refine then_ret ?_ | refine blk_ret ?_))
      refine WL_storeF hS (by exact evk) (by exact evk) rfl rfl (RepV.ones _) (Upd.head _) ?_
      clear hS
      intro w hS
      repeat' (first | ((with_reducible apply WL_p); (· exact evk)) | (with_reducible first | refine WL_nil ?_ | refine then_normal ?_ | refine blk_normal ?_ | refine WC_seq ?_ | refine WC_reg ?_ | refine WC_block ?_ | refine WC_skip ?_ | refine WC_exit ?_ | refine then_exit ?_ | refine blk_hit ?_ | refine blk_miss (by decide) ?_ | refine WC_ret ?_ | refine then_ret ?_ | refine blk_ret ?_))
      exact retc3 hS (List.sublist_cons_self _ _) rfl inn rfl rfl rfl (by simp only [DecP, fin, if_neg ha]; rfl)
def DecS (n : Nat) (x : Except Nat (SegV × Nat)) (u : Value) (O' : Blks) : Prop :=
  match fin n x with
  | .ok s => ∃ v, RowIs 5 1 v s.ds.length (s.ds.map b8) O' ∧ u = .tuple #[.agg (s.cells v).toArray, .int .i64 0, .int .i64 0]
  | .error p => u = .tuple #[.agg (SegV.cells ⟨0, 0, 0, 0, []⟩ (.slice none 0 0)).toArray, .int .i64 (p : Int), .int .i64 20]
theorem SegV.ones (r : SegV) {v : Value} (h : v.oneCell' = true) : ∀ c ∈ r.cells v, c.oneCell' = true := by
  intro c hc
  simp only [SegV.cells, List.mem_cons, List.not_mem_nil, or_false] at hc
  rcases hc with rfl | rfl | rfl | rfl | rfl <;> first | rfl | exact h
set_option maxRecDepth 8000 in
set_option maxHeartbeats 1000000 in
theorem c31 (l : List UInt8) (dv : Value) (hcap : CapOk dv) (w : World) (hR : Reads w [] 1 dv l.length (l.map b8)) :
    Calls Try.prog 31 #[dv] w (Ret w [] (DecS l.length (rdSeg l 0))) := by
  refine enterF (args := [dv]) Try.func31 low31 rfl ?_; have hS := St.start w; dsimp only [L31, envL, Nat.reduceAdd]
  repeat' (first | ((with_reducible apply WL_p); (· exact evk)) | (with_reducible first | refine WL_nil ?_ | refine then_normal ?_ | refine blk_normal ?_ | refine WC_seq ?_ | refine WC_reg ?_ | refine WC_block ?_ | refine WC_skip ?_ | refine WC_exit ?_ | refine then_exit ?_ | refine blk_hit ?_ | refine blk_miss (by decide) ?_ | refine WC_ret ?_ | refine then_ret ?_ | refine blk_ret ?_) | ((first | (with_reducible apply WL_newz hS) | ((with_reducible apply WL_newv hS); (· exact evk); (· rfl)) | ((with_reducible apply WL_row hS); (· exact evk))); clear hS; intro bq w hS hbq; (try simp only [List.nil_append, List.cons_append, List.append_assoc] at hS)))
  refine WL_call (Oc := [(bq, Blk 39 _)]) (F := []) hS (by exact evk) (c51 (α := SegV) 72 [.pointer (some ⟨bq, 0, none⟩)] [(bq, Blk 39 _)] l dv (rdSeg l 0) (fun y B => ∃ v L, RowIs 5 1 v y.ds.length (y.ds.map b8) L ∧ B = (bq, Blk 39 (y.cells v)) :: L) (fun O' => ∃ z1 z2 z3 z4 z5, O' = [(bq, Blk 39 [z1, z2, z3, z4, z5])]) w
    (fun g w' hA hR' => c72 g 0 bq l dv _ _ _ _ _ (by omega) hcap w' hA hR') bodyOk72 hS.at (hS.reads hR (Oc := [(bq, Blk 39 _)]) (fun q hq => hq))) ?_
  rintro u O' w ⟨rfl, hO⟩ hS'
  clear hS
  have hS := hS'
  clear hS'
  rw [List.append_nil] at hS
  generalize hx : rdSeg l 0 = x at hO
  cases x with
  | error p =>
    simp only [readV, DecS, fin] at hO ⊢
    obtain ⟨z1, z2, z3, z4, z5, rfl⟩ := hO
    repeat' (first | ((with_reducible apply WL_p); (· exact evk)) | (with_reducible first | refine WL_nil ?_ | refine then_normal ?_ | refine blk_normal ?_ | refine WC_seq ?_ | refine WC_reg ?_ | refine WC_block ?_ | refine WC_skip ?_ | refine WC_exit ?_ | refine then_exit ?_ | refine blk_hit ?_ | refine blk_miss (by decide) ?_ | refine WC_ret ?_ | refine then_ret ?_ | refine blk_ret ?_) | ((with_reducible apply WC_true); (· exact evk)) | ((with_reducible apply WC_false); (· exact evk)) | ((with_reducible apply WL_storeN hS); (· exact evk); (· exact evk); (· rfl); (· simp [Value.oneCell', S]); (· exact upp); (· simp); (clear hS; intro w hS; (simp only [List.set_cons_succ, List.set_cons_zero, putList, Nat.zero_add, Nat.reduceAdd] at hS))) | ((with_reducible apply WL_loadN hS); (· exact evk); (· exact inn); (· ((simp only [List.drop_succ_cons, List.drop_zero, List.take_succ_cons, List.take_zero]) <;> rfl)); (· rfl)))
    exact retc3 hS (List.nil_sublist _) rfl inn rfl rfl rfl rfl
  | ok r =>
    obtain ⟨y, a⟩ := r
    simp only [readV, DecS, fin] at hO ⊢
    obtain ⟨v, L, hrow, rfl⟩ := hO
    have hone := hrow.one
    by_cases ha : a < l.length
    · simp only [if_pos ha]
      repeat' (first | ((with_reducible apply WL_p); (· exact evk)) | (with_reducible first | refine WL_nil ?_ | refine then_normal ?_ | refine blk_normal ?_ | refine WC_seq ?_ | refine WC_reg ?_ | refine WC_block ?_ | refine WC_skip ?_ | refine WC_exit ?_ | refine then_exit ?_ | refine blk_hit ?_ | refine blk_miss (by decide) ?_ | refine WC_ret ?_ | refine then_ret ?_ | refine blk_ret ?_) | ((with_reducible apply WC_true); (· exact evk)) | ((with_reducible apply WC_false); (· exact evk)))
      refine WL_storeF (vs := SegV.cells ⟨0, 0, 0, 0, []⟩ (.slice none 0 0)) hS (by exact evk) rfl rfl rfl (SegV.ones _ rfl) (Upd.head _) ?_
      clear hS
      intro w hS
      repeat' (first | ((with_reducible apply WL_p); (· exact evk)) | (with_reducible first | refine WL_nil ?_ | refine then_normal ?_ | refine blk_normal ?_ | refine WC_seq ?_ | refine WC_reg ?_ | refine WC_block ?_ | refine WC_skip ?_ | refine WC_exit ?_ | refine then_exit ?_ | refine blk_hit ?_ | refine blk_miss (by decide) ?_ | refine WC_ret ?_ | refine then_ret ?_ | refine blk_ret ?_))
      refine WL_loadF hS (by exact evk) inn rfl ?_
      repeat' (first | ((with_reducible apply WL_p); (· exact evk)) | (with_reducible first | refine WL_nil ?_ | refine then_normal ?_ | refine blk_normal ?_ | refine WC_seq ?_ | refine WC_reg ?_ | refine WC_block ?_ | refine WC_skip ?_ | refine WC_exit ?_ | refine then_exit ?_ | refine blk_hit ?_ | refine blk_miss (by decide) ?_ | refine WC_ret ?_ | refine then_ret ?_ | refine blk_ret ?_))
      refine WL_storeF hS (by exact evk) (by exact evk) rfl rfl (SegV.ones _ rfl) (Upd.head _) ?_
      clear hS
      intro w hS
      repeat' (first | ((with_reducible apply WL_p); (· exact evk)) | (with_reducible first | refine WL_nil ?_ | refine then_normal ?_ | refine blk_normal ?_ | refine WC_seq ?_ | refine WC_reg ?_ | refine WC_block ?_ | refine WC_skip ?_ | refine WC_exit ?_ | refine then_exit ?_ | refine blk_hit ?_ | refine blk_miss (by decide) ?_ | refine WC_ret ?_ | refine then_ret ?_ | refine blk_ret ?_))
      exact retc3 hS (List.nil_sublist _) rfl inn rfl rfl rfl (by simp only [DecS, fin, if_pos ha]; rfl)
    · simp only [if_neg ha]
      repeat' (first | ((with_reducible apply WL_p); (· exact evk)) | (with_reducible first | refine WL_nil ?_ | refine then_normal ?_ | refine blk_normal ?_ | refine WC_seq ?_ | refine WC_reg ?_ | refine WC_block ?_ | refine WC_skip ?_ | refine WC_exit ?_ | refine then_exit ?_ | refine blk_hit ?_ | refine blk_miss (by decide) ?_ | refine WC_ret ?_ | refine then_ret ?_ | refine blk_ret ?_) | ((with_reducible apply WC_true); (· exact evk)) | ((with_reducible apply WC_false); (· exact evk)))
      refine WL_loadF hS (by exact evk) inn rfl ?_
      repeat' (first | ((with_reducible apply WL_p); (· exact evk)) | (with_reducible first | refine WL_nil ?_ | refine then_normal ?_ | refine blk_normal ?_ | refine WC_seq ?_ | refine WC_reg ?_ | refine WC_block ?_ | refine WC_skip ?_ | refine WC_exit ?_ | refine then_exit ?_ | refine blk_hit ?_ | refine blk_miss (by decide) ?_ | refine WC_ret ?_ | refine then_ret ?_ | refine blk_ret ?_))
      refine WL_storeF hS (by exact evk) (by exact evk) rfl rfl (SegV.ones _ hone) (Upd.head _) ?_
      clear hS
      intro w hS
      repeat' (first | ((with_reducible apply WL_p); (· exact evk)) | (with_reducible first | refine WL_nil ?_ | refine then_normal ?_ | refine blk_normal ?_ | refine WC_seq ?_ | refine WC_reg ?_ | refine WC_block ?_ | refine WC_skip ?_ | refine WC_exit ?_ | refine then_exit ?_ | refine blk_hit ?_ | refine blk_miss (by decide) ?_ | refine WC_ret ?_ | refine then_ret ?_ | refine blk_ret ?_))
      exact retc3 hS (List.sublist_cons_self _ _) rfl inn rfl rfl rfl (by simp only [DecS, fin, if_neg ha]; exact ⟨v, hrow, rfl⟩)
end Go.Proofs.Ytohmgkcdjapinaa.Lw
namespace Go.Proofs.Ytohmgkcdjapinaa.Lw
abbrev R19_0 : List LOper := [⟨some 2, none, .newz 27 [(.int .i64 0), (.int .i64 0)]⟩, ⟨some 3, none, .newz 29 [(.int .i64 0), (S []), (.int .i64 0), (.int .i64 0)]⟩, ⟨some 4, none, .pv (.move (.const (.int .i64 0)))⟩, ⟨some 5, none, .pv (.move (.const (.int .i64 0)))⟩]
abbrev R19_1 : List LOper := [⟨some 7, none, .pv (.move (.tmp 0))⟩, ⟨some 8, none, .pv (.fn 55 [(.tmp 2), (.tmp 3)])⟩, ⟨some 9, none, .call 51 [(.tmp 7), (.tmp 8)]⟩, ⟨some 6, none, .pv (.move (.tmp 9))⟩, ⟨some 10, none, .pv (.ext (.tmp 6) 0)⟩, ⟨some 11, none, .pv (.ext (.tmp 6) 1)⟩, ⟨some 4, none, .pv (.move (.tmp 10))⟩, ⟨some 5, none, .pv (.move (.tmp 11))⟩]
abbrev R19_2 : List LOper := [⟨some 12, none, .pv (.move (.tmp 5))⟩, ⟨some 13, none, .pv (.bin .neq (.tmp 12) (.const (.int .i64 0)))⟩]
abbrev R19_3 : List LOper := [⟨some 14, none, .pv (.bld [(.int .i64 0), (.int .i64 0)] [])⟩, ⟨some 15, none, .pv (.bld [(.int .i64 0), (S []), (.int .i64 0), (.int .i64 0)] [])⟩, ⟨none, none, .store 2 (.tmp 2) (.tmp 14)⟩, ⟨none, none, .store 4 (.tmp 3) (.tmp 15)⟩]
abbrev L19 : LFun := ⟨20, [(.cells 2 2), (.cells 3 4), (.tmp 4), (.tmp 5)], (.seq (.reg R19_0) (.seq (.reg R19_1) (.seq (.seq (.reg R19_2) (.cond (.tmp 13) (.reg R19_3) .skip)) (.seq (.dreg (.still ⟨some 16, none, .loadN 2 (.tmp 2)⟩ (.still ⟨some 17, none, .loadN 4 (.tmp 3)⟩ (.still ⟨some 18, none, .pv (.move (.tmp 4))⟩ (.still ⟨some 19, none, .pv (.move (.tmp 5))⟩ (.eff ⟨none, none, .store 2 (.tmp 2) (.tmp 16)⟩ (.eff ⟨none, none, .store 4 (.tmp 3) (.tmp 17)⟩ (.still ⟨some 4, none, .pv (.move (.tmp 18))⟩ (.still ⟨some 5, none, .pv (.move (.tmp 19))⟩ .nil))))))))) .ret))))⟩
theorem low19 : lowFn Try.prog Try.f19 = some L19 := by kernel_rfl

def DecQ (n : Nat) (x : Except Nat (((Nat × Nat) × OpV) × Nat)) (u : Value) (O' : Blks) : Prop :=
  match fin n x with
  | .ok (c, o) => u = .tuple #[.agg (pairC c).toArray, .agg o.cells.toArray, .int .i64 0, .int .i64 0]
  | .error p => u = .tuple #[.agg (pairC (0, 0)).toArray, .agg (OpV.cells ⟨0, [], 0, 0⟩).toArray, .int .i64 (p : Int), .int .i64 20]
theorem OpV.ones (r : OpV) : ∀ c ∈ r.cells, c.oneCell' = true := by
  intro c hc
  simp only [OpV.cells, List.mem_cons, List.not_mem_nil, or_false] at hc
  rcases hc with rfl | rfl | rfl | rfl <;> rfl
theorem pairC_ones (r : Nat × Nat) : ∀ c ∈ pairC r, c.oneCell' = true := by
  intro c hc
  simp only [pairC, List.mem_cons, List.not_mem_nil, or_false] at hc
  rcases hc with rfl | rfl <;> rfl
theorem retc4 {t n s1 s2 b t2 n2 b2 : Nat} {T T2 : TypeId} {cs cs2 : List Value} {u1 u2 : Value} {R : Value → Blks → Prop} {w0 w : World} {K : List Nat} {O : Blks} {e : Env} (hS : St w0 K w O) (ht : e t = .pointer (some ⟨b, 0, none⟩)) (hm : (b, Blk T cs) ∈ O) (hn : cs.length = n)
    (ht2 : e t2 = .pointer (some ⟨b2, 0, none⟩)) (hm2 : (b2, Blk T2 cs2) ∈ O) (hn2 : cs2.length = n2) (h1 : e s1 = u1) (h2 : e s2 = u2) (h : R (.tuple #[.agg cs.toArray, .agg cs2.toArray, u1, u2]) []) : retQ [.cells t n, .cells t2 n2, .tmp s1, .tmp s2] (Ret w0 K R) .ret e w := by
  refine ⟨[.agg cs.toArray, .agg cs2.toArray, u1, u2], ⟨⟨_, cs, ht, hn, ?_, rfl⟩, ⟨_, cs2, ht2, hn2, ?_, rfl⟩, h1.symm, h2.symm, trivial⟩, [], h, hS.sub (List.nil_sublist _)⟩
  · have := hS.cells (off := 0) (n := cs.length) hm (by omega)
    simpa using this
  · have := hS.cells (off := 0) (n := cs2.length) hm2 (by omega)
    simpa using this
section
variable {P : Program} {p : Chain → World → Prop} {Q : Exit → Env → World → Prop} {e : Env} {w w0 : World} {K : List Nat} {H : Blks} {d : Nat} {t : DT}
theorem WD_loadF {n : Nat} {x : Operand} {b : Nat} {T : TypeId} {cs : List Value} (hD : SH w0 K H w) (hx : ev e x = .pointer (some ⟨b, 0, none⟩)) (hm : (b, Blk T cs) ∈ H) (hl : cs.length = n)
    (h : WD P p (SH w0 K H) Q t (upd e d (.agg cs.toArray)) w) : WD P p (SH w0 K H) Q (.still ⟨some d, none, .loadN n x⟩ t) e w :=
  WD_loadN hD (off := 0) hx hm (by rw [List.drop_zero, ← hl, List.take_length]) hl h
end
theorem wd19 {p : Chain → World → Prop} {Q : Exit → Env → World → Prop} {e : Env} {w w0 : World} {K : List Nat} {b2 b3 : Nat} {c2 c3 : List Value} (hS : St w0 K w [(b2, Blk 27 c2), (b3, Blk 29 c3)]) (h2 : c2.length = 2) (h3 : c3.length = 4) (o2 : ∀ c ∈ c2, c.oneCell' = true) (o3 : ∀ c ∈ c3, c.oneCell' = true)
    {k4 k5 : Value} (e2 : e 2 = .pointer (some ⟨b2, 0, none⟩)) (e3 : e 3 = .pointer (some ⟨b3, 0, none⟩)) (e4 : e 4 = k4) (e5 : e 5 = k5)
    (hQ : ∀ e' w', e' 2 = .pointer (some ⟨b2, 0, none⟩) → e' 3 = .pointer (some ⟨b3, 0, none⟩) → e' 4 = k4 → e' 5 = k5 → St w0 K w' [(b2, Blk 27 c2), (b3, Blk 29 c3)] → Q .normal e' w') :
    WC Try.prog p (match L19.body with | .seq _ (.seq _ (.seq _ (.seq d _))) => d | _ => .skip) Q e w := by
  dsimp only [L19]
  refine WC_drO hS fun w hS hD => ?_
  have hD0 := hD
  refine WD_loadF hD e2 inn h2 ?_
  refine WD_loadF hD (by rw [ev_tmp, upd_app, if_neg (by decide), e3]) inn h3 ?_
  repeat' (first | ((with_reducible apply WD_p hD); (· exact evk)) | ((with_reducible apply WD_do hD); (· exact evd)) | ((with_reducible apply WD_no hD); (· exact evd)) | ((with_reducible apply WDe_do); (· exact evd)) | ((with_reducible apply WDe_no hD); (· exact evd)) | ((with_reducible apply WD_load hD); (· exact evk); (· exact inn); (· rfl)) | ((with_reducible apply WD_loadN hD); (· exact evk); (· exact inn); (· ((simp only [List.drop_succ_cons, List.drop_zero, List.take_succ_cons, List.take_zero]) <;> rfl)); (· rfl)) | ((with_reducible apply WD_go); (· exact hS.sh (by repeat (first | exact AllIn.nil | (apply AllIn.cons; (· exact inn))))); (clear hD; intro hD)) | (with_reducible apply WD_nil) | (with_reducible apply WD_eff))
  refine WD_eff ?_
  refine WL_storeF hS (vs := c2) (by rw [ev_tmp]; simp only [upd_app]; exact e2) (by rw [ev_tmp]; simp only [upd_app]; rfl) h2 h2 o2 (Upd.head _) ?_
  clear hS
  intro w hS
  refine WD_go (hS.sh (AllIn.cons inn (AllIn.cons inn AllIn.nil))) fun hD => ?_
  refine WD_eff ?_
  refine WL_storeF hS (vs := c3) (by rw [ev_tmp]; simp only [upd_app]; exact e3) (by rw [ev_tmp]; simp only [upd_app]; rfl) h3 h3 o3 (Upd.tail _ (Upd.head _)) ?_
  clear hS
  intro w hS
  refine WD_go (hS.sh (AllIn.cons inn (AllIn.cons inn AllIn.nil))) fun hD => ?_
  repeat' (first | ((with_reducible apply WD_p hD); (· exact evk)) | ((with_reducible apply WD_do hD); (· exact evd)) | ((with_reducible apply WD_no hD); (· exact evd)) | ((with_reducible apply WDe_do); (· exact evd)) | ((with_reducible apply WDe_no hD); (· exact evd)) | ((with_reducible apply WD_load hD); (· exact evk); (· exact inn); (· rfl)) | ((with_reducible apply WD_loadN hD); (· exact evk); (· exact inn); (· ((simp only [List.drop_succ_cons, List.drop_zero, List.take_succ_cons, List.take_zero]) <;> rfl)); (· rfl)) | ((with_reducible apply WD_go); (· exact hS.sh (by repeat (first | exact AllIn.nil | (apply AllIn.cons; (· exact inn))))); (clear hD; intro hD)) | (with_reducible apply WD_nil) | (with_reducible apply WD_eff))
  refine hQ _ _ ?_ ?_ ?_ ?_ hS
  all_goals simp only [upd_app, ev_tmp]
  · exact e2
  · exact e3
  · exact e4
  · exact e5
set_option maxRecDepth 8000 in
set_option maxHeartbeats 1000000 in
theorem c19 (l : List UInt8) (dv : Value) (hcap : CapOk dv) (w : World) (hR : Reads w [] 1 dv l.length (l.map b8)) :
    Calls Try.prog 19 #[dv] w (Ret w [] (DecQ l.length (rdReq l 0))) := by
  refine enterF (args := [dv]) Try.func19 low19 rfl ?_; have hS := St.start w; dsimp only [L19, envL, Nat.reduceAdd]
  refine WC_seq (WC_reg ?_)
  refine WL_newz hS ?_
  clear hS
  intro cb w hS hcb
  refine WL_newz hS ?_
  clear hS
  intro ob w hS hob
  simp only [List.nil_append, List.cons_append] at hS
  repeat' (first | ((with_reducible apply WL_p); (· exact evk)) | (with_reducible first | refine WL_nil ?_ | refine then_normal ?_ | refine blk_normal ?_ | refine WC_seq ?_ | refine WC_reg ?_ | refine WC_block ?_ | refine WC_skip ?_ | refine WC_exit ?_ | refine then_exit ?_ | refine blk_hit ?_ | refine blk_miss (by decide) ?_ | refine WC_ret ?_ | refine then_ret ?_ | refine blk_ret ?_))
  refine WL_call (Oc := [(cb, Blk 27 _), (ob, Blk 29 _)]) (F := []) hS (by exact evk) (c51 (α := (Nat × Nat) × OpV) 55 [.pointer (some ⟨cb, 0, none⟩), .pointer (some ⟨ob, 0, none⟩)] [(cb, Blk 27 _), (ob, Blk 29 _)] l dv (rdReq l 0) (fun y B => B = [(cb, Blk 27 (pairC y.1)), (ob, Blk 29 y.2.cells)]) (fun O' => ∃ x1 x2 y1 y2 y3 y4, O' = [(cb, Blk 27 [x1, x2]), (ob, Blk 29 [y1, y2, y3, y4])]) w
    (fun g w' hA hR' => c55 g 0 cb ob l dv _ _ _ _ _ _ (by omega) hcap w' hA hR') bodyOk55 hS.at (hS.reads hR (Oc := [(cb, Blk 27 _), (ob, Blk 29 _)]) (fun q hq => hq))) ?_
  rintro u O' w ⟨rfl, hO⟩ hS'
  clear hS
  have hS := hS'
  clear hS'
  rw [List.append_nil] at hS
  generalize hx : rdReq l 0 = x at hO
  cases x with
  | error p =>
    simp only [readV] at hO ⊢
    obtain ⟨x1, x2, y1, y2, y3, y4, rfl⟩ := hO
    repeat' (first | ((with_reducible apply WL_p); (· exact evk)) | (with_reducible first | refine WL_nil ?_ | refine then_normal ?_ | refine blk_normal ?_ | refine WC_seq ?_ | refine WC_reg ?_ | refine WC_block ?_ | refine WC_skip ?_ | refine WC_exit ?_ | refine then_exit ?_ | refine blk_hit ?_ | refine blk_miss (by decide) ?_ | refine WC_ret ?_ | refine then_ret ?_ | refine blk_ret ?_) | ((with_reducible apply WC_true); (· exact evk)) | ((with_reducible apply WC_false); (· exact evk)) | ((with_reducible apply WL_storeN hS); (· exact evk); (· exact evk); (· rfl); (· simp [Value.oneCell', S]); (· exact upp); (· simp); (clear hS; intro w hS; (simp only [List.set_cons_succ, List.set_cons_zero, putList, Nat.zero_add, Nat.reduceAdd] at hS))) | ((with_reducible apply WL_loadN hS); (· exact evk); (· exact inn); (· ((simp only [List.drop_succ_cons, List.drop_zero, List.take_succ_cons, List.take_zero]) <;> rfl)); (· rfl)))
    refine wd19 (c2 := pairC (0, 0)) (c3 := OpV.cells ⟨0, [], 0, 0⟩) hS rfl rfl (pairC_ones _) (OpV.ones _) rfl rfl rfl rfl ?_
    intro e' w' h2 h3 h4 h5 hS
    repeat' (first | (with_reducible first | refine WL_nil ?_ | refine then_normal ?_ | refine blk_normal ?_ | refine WC_seq ?_ | refine WC_reg ?_ | refine WC_block ?_ | refine WC_skip ?_ | refine WC_exit ?_ | refine then_exit ?_ | refine blk_hit ?_ | refine blk_miss (by decide) ?_ | refine WC_ret ?_ | refine then_ret ?_ | refine blk_ret ?_))
    exact retc4 hS h2 inn rfl h3 inn rfl h4 h5 rfl
  | ok r =>
    obtain ⟨⟨c, o⟩, a⟩ := r
    simp only [readV] at hO ⊢
    subst hO
    by_cases ha : a < l.length
    · simp only [if_pos ha]
      repeat' (first | ((with_reducible apply WL_p); (· exact evk)) | (with_reducible first | refine WL_nil ?_ | refine then_normal ?_ | refine blk_normal ?_ | refine WC_seq ?_ | refine WC_reg ?_ | refine WC_block ?_ | refine WC_skip ?_ | refine WC_exit ?_ | refine then_exit ?_ | refine blk_hit ?_ | refine blk_miss (by decide) ?_ | refine WC_ret ?_ | refine then_ret ?_ | refine blk_ret ?_) | ((with_reducible apply WC_true); (· exact evk)) | ((with_reducible apply WC_false); (· exact evk)))
      refine WL_storeF (vs := pairC (0, 0)) hS (by exact evk) rfl rfl rfl (pairC_ones _) (Upd.head _) ?_
      clear hS
      intro w hS
      refine WL_storeF (vs := OpV.cells ⟨0, [], 0, 0⟩) hS (by exact evk) rfl rfl rfl (OpV.ones _) (Upd.tail _ (Upd.head _)) ?_
      clear hS
      intro w hS
      repeat' (first | ((with_reducible apply WL_p); (· exact evk)) | (with_reducible first | refine WL_nil ?_ | refine then_normal ?_ | refine blk_normal ?_ | refine WC_seq ?_ | refine WC_reg ?_ | refine WC_block ?_ | refine WC_skip ?_ | refine WC_exit ?_ | refine then_exit ?_ | refine blk_hit ?_ | refine blk_miss (by decide) ?_ | refine WC_ret ?_ | refine then_ret ?_ | refine blk_ret ?_))
      refine wd19 (c2 := pairC (0, 0)) (c3 := OpV.cells ⟨0, [], 0, 0⟩) hS rfl rfl (pairC_ones _) (OpV.ones _) rfl rfl rfl rfl ?_
      intro e' w' h2 h3 h4 h5 hS
      repeat' (first | (with_reducible first | refine WL_nil ?_ | refine then_normal ?_ | refine blk_normal ?_ | refine WC_seq ?_ | refine WC_reg ?_ | refine WC_block ?_ | refine WC_skip ?_ | refine WC_exit ?_ | refine then_exit ?_ | refine blk_hit ?_ | refine blk_miss (by decide) ?_ | refine WC_ret ?_ | refine then_ret ?_ | refine blk_ret ?_))
      exact retc4 hS h2 inn rfl h3 inn rfl h4 h5 (by simp only [DecQ, fin, if_pos ha]; rfl)
    · simp only [if_neg ha]
      repeat' (first | ((with_reducible apply WL_p); (· exact evk)) | (with_reducible first | refine WL_nil ?_ | refine then_normal ?_ | refine blk_normal ?_ | refine WC_seq ?_ | refine WC_reg ?_ | refine WC_block ?_ | refine WC_skip ?_ | refine WC_exit ?_ | refine then_exit ?_ | refine blk_hit ?_ | refine blk_miss (by decide) ?_ | refine WC_ret ?_ | refine then_ret ?_ | refine blk_ret ?_) | ((with_reducible apply WC_true); (· exact evk)) | ((with_reducible apply WC_false); (· exact evk)))
      refine wd19 hS rfl rfl (pairC_ones _) (OpV.ones _) rfl rfl rfl rfl ?_
      intro e' w' h2 h3 h4 h5 hS
      repeat' (first | (with_reducible first | refine WL_nil ?_ | refine then_normal ?_ | refine blk_normal ?_ | refine WC_seq ?_ | refine WC_reg ?_ | refine WC_block ?_ | refine WC_skip ?_ | refine WC_exit ?_ | refine then_exit ?_ | refine blk_hit ?_ | refine blk_miss (by decide) ?_ | refine WC_ret ?_ | refine then_ret ?_ | refine blk_ret ?_))
      exact retc4 hS h2 inn rfl h3 inn rfl h4 h5 (by simp only [DecQ, fin, if_neg ha]; rfl)
end Go.Proofs.Ytohmgkcdjapinaa.Lw
