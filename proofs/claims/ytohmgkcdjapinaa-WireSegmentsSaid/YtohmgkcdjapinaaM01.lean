/- Part 1 of the texts of this claim: LwA LwB LwC LwD LwE LwF LwG LwH LwI. -/
import Derived.WalkKit
import Derived.OrdersHeld
import Derived.KernelRfl
import Derived.WalkLawsBesides
set_option linter.unusedVariables false
set_option linter.unusedSimpArgs false
namespace Go.Proofs.Ytohmgkcdjapinaa.Lw

/-! ### 1. Frames -/
abbrev Env := Nat → Value
def upd (e : Env) (d : Nat) (v : Value) : Env := fun t => if t = d then v else e t
def bot : Env := fun _ => undef
def ev (e : Env) : Operand → Value
  | .tmp t => e t
  | .const v => v
  | .global g => .pointer (some ⟨g, 0, none⟩)
  | .func f => .func (.func f) #[] #[]
def updO (e : Env) (d : Option Nat) (v : Value) : Env := match d with | some d => upd e d v | none => e
theorem upd_app (e : Env) (d t : Nat) (v : Value) : upd e d v t = if t = d then v else e t := rfl
theorem upd_self {e : Env} {d : Nat} {v : Value} (h : e d = v) : upd e d v = e := by
  funext t
  unfold upd
  split
  · rename_i h'; rw [h', h]
  · rfl

/-! ### 2. Values of operations that look at no memory -/
inductive CK where
  | i | b | s
def leafEq : CK → Value → Value → Option Bool
  | .i, .int k a, .int k' b => if k = k' then some (a == b) else none
  | .s, .string a, .string b => some (a.toList == b.toList)
  | .b, .bool a, .bool b => some (a == b)
  | _, _, _ => none
def cellsEq : List CK → List Value → List Value → Option Bool
  | [], [], [] => some true
  | k :: ks, x :: xs, y :: ys => (leafEq k x y).bind fun b => (cellsEq ks xs ys).map (b && ·)
  | _, _, _ => none
def bitV (op : BinOp) (k : IntKind) (a b : Int) : Option Int :=
  match op with
  | .and => some (k.wrap (BitVec.ofInt k.bits a &&& BitVec.ofInt k.bits b).toNat)
  | .or => some (k.wrap (BitVec.ofInt k.bits a ||| BitVec.ofInt k.bits b).toNat)
  | .xor => some (k.wrap (BitVec.ofInt k.bits a ^^^ BitVec.ofInt k.bits b).toNat)
  | .andNot => some (k.wrap (BitVec.ofInt k.bits a &&& ~~~ (BitVec.ofInt k.bits b)).toNat)
  | _ => none
def intV (op : BinOp) (k : IntKind) (a b : Int) : Option Value :=
  match op with
  | .add => some (.int k (k.wrap (a + b)))
  | .sub => some (.int k (k.wrap (a - b)))
  | .mul => some (.int k (k.wrap (a * b)))
  | .quo => if b = 0 then none else some (.int k (k.wrap (a.tdiv b)))
  | .rem => if b = 0 then none else some (.int k (a.tmod b))
  | .eql => some (.bool (a == b))
  | .neq => some (.bool (a != b))
  | .lss => some (.bool (decide (a < b)))
  | .leq => some (.bool (decide (a ≤ b)))
  | .gtr => some (.bool (decide (a > b)))
  | .geq => some (.bool (decide (a ≥ b)))
  | op => (bitV op k a b).map (.int k)
def strV (op : BinOp) (a b : ByteArray) : Option Value :=
  match op with
  | .add => if ((a.size + b.size : Nat) : Int) > IntKind.i64.max then none else some (.string (a ++ b))
  | .eql => some (.bool (a.toList == b.toList))
  | .neq => some (.bool !(a.toList == b.toList))
  | .lss => some (.bool (Op.bytesLess a.toList b.toList))
  | .leq => some (.bool (Op.bytesLess a.toList b.toList || a.toList == b.toList))
  | .gtr => some (.bool !(Op.bytesLess a.toList b.toList || a.toList == b.toList))
  | .geq => some (.bool !(Op.bytesLess a.toList b.toList))
  | _ => none
def binV (op : BinOp) (x y : Value) : Option Value :=
  match x, y with
  | .int k a, .int k' b =>
    match op with
    | .shl => if b < 0 then none else some (.int k (k.wrap (a * 2 ^ (min b.toNat k.bits))))
    | .shr => if b < 0 then none else some (.int k (a.fdiv (2 ^ (min b.toNat k.bits))))
    | op => if k = k' then intV op k a b else none
  | .string a, .string b => strV op a b
  | _, _ => none

/-- Places in a struct's value: its cells, a part from 'off' on turned. -/
def place (cs : List Value) (off : Nat) (vs : List Value) : List Value := cs.take off ++ vs ++ cs.drop (off + vs.length)

inductive PV where
  | move (x : Operand)
  | pick (c a b : Operand)
  | nilck (x : Operand)
  | bin (op : BinOp) (x y : Operand)
  | beq (neg : Bool) (x y : Operand)
  | seq (neg : Bool) (ks : List CK) (x y : Operand)
  | not (x : Operand)
  | toInt (k : IntKind) (x : Operand)
  | off (x : Operand) (k : Nat)
  | idx (sz : Nat) (x i : Operand)
  | sidx (x i : Operand)
  | len (x : Operand)
  | slen (x : Operand)
  | ext (x : Operand) (i : Nat)
  | ifc (T : TypeId) (x : Operand)
  | fn (f : FuncId) (caps : List Operand)
  | slc (sz : Nat) (x : Operand) (lo hi : Option Operand)
  | sslc (x : Operand) (lo hi : Option Operand)
  | bld (zero : List Value) (parts : List (Nat × Nat × Operand))

def bldV (e : Env) : List Value → List (Nat × Nat × Operand) → Option (List Value)
  | cs, [] => some cs
  | cs, (off, n, x) :: rest =>
    if (ev e x).cells.size = n ∧ off + n ≤ cs.length then bldV e (place cs off (ev e x).cells.toList) rest else none
def bndV (e : Env) (o : Option Operand) (dflt lim : Nat) : Option Nat :=
  match o with
  | none => some dflt
  | some x => match ev e x with
    | .int _ i => if 0 ≤ i ∧ i ≤ lim then some i.toNat else none
    | _ => none
def PV.val (e : Env) : PV → Option Value
  | .move x => some (ev e x)
  | .pick c a b => match ev e c with | .bool t => some (if t then ev e a else ev e b) | _ => none
  | .nilck x => match ev e x with | .pointer (some a) => some (.pointer (some a)) | _ => none
  | .bin op x y => binV op (ev e x) (ev e y)
  | .beq neg x y => match ev e x, ev e y with | .bool a, .bool b => some (.bool (if neg then a != b else a == b)) | _, _ => none
  | .seq neg ks x y => match ev e x, ev e y with | .agg a, .agg b => (cellsEq ks a.toList b.toList).map fun t => .bool (if neg then !t else t) | _, _ => none
  | .not x => match ev e x with | .bool t => some (.bool !t) | _ => none
  | .toInt k x => match ev e x with | .int _ n => some (.int k (k.wrap n)) | _ => none
  | .off x k => match ev e x with | .pointer (some a) => some (.pointer (some (a.add k))) | _ => none
  | .idx sz x i => match ev e x, ev e i with
    | .slice (some a) n _, .int _ j => if 0 ≤ j ∧ j < n then some (.pointer (some (a.add (j.toNat * sz)))) else none
    | _, _ => none
  | .sidx x i => match ev e x, ev e i with
    | .string s, .int _ j => if h : 0 ≤ j ∧ j.toNat < s.size then some (.int .u8 (s[j.toNat]'h.2).toNat) else none
    | _, _ => none
  | .len x => match ev e x with | .slice _ n _ => some (.int .i64 n) | _ => none
  | .slen x => match ev e x with | .string s => some (.int .i64 s.size) | _ => none
  | .ext x i => match ev e x with | .tuple vs => vs[i]? | _ => none
  | .ifc T x => some (.iface T (ev e x))
  | .fn f caps => some (.func (.func f) #[] (caps.map (ev e)).toArray)
  | .slc sz x lo hi => match ev e x with
    | .slice a n c => (bndV e hi n c).bind fun h => (bndV e lo 0 h).map fun l => .slice (if c = l then a else a.map (·.add (l * sz))) (h - l) (c - l)
    | _ => none
  | .sslc x lo hi => match ev e x with
    | .string s => (bndV e hi s.size s.size).bind fun h => (bndV e lo 0 h).map fun l => .string (s.extract l h)
    | _ => none
  | .bld zero parts => (bldV e zero parts).map fun cs => .agg cs.toArray

/-! ### 3. Operations -/
inductive LOp where
  | pv (p : PV)
  | load (x : Operand)
  | loadN (n : Nat) (x : Operand)
  | store (n : Nat) (x v : Operand)
  | newv (T : TypeId) (x : Operand)
  | newz (T : TypeId) (cs : List Value)
  | row (T : TypeId) (len : Nat) (zero : List Value) (parts : List (Nat × Nat × Operand))
  | call (f : FuncId) (args : List Operand)
  | callv (x : Operand) (args : List Operand)
  | panic (x : Operand)
  | raw (t : TypeId) (op : Op)

structure LOper where
  dst : Option Nat
  guard : Option (Nat × Bool)
  op : LOp

/-- 'a' and the cells behind it hold 'vs'. -/
def Cells (w : World) (a : Addr) (vs : List Value) : Prop := ∀ i, i < vs.length → w.cell? (a.add i) = vs[i]?
def Writable (w : World) (a : Addr) (n : Nat) : Prop := ∀ i, i < n → (∃ v, w.cell? (a.add i) = some v) ∧ w.frozen? (a.add i) = false
def putAll (w : World) (a : Addr) : Nat → List Value → World
  | _, [] => w
  | i, v :: vs => putAll (w.setCell (a.add i) v) a (i + 1) vs

abbrev Chain := List PanicEntry
def callW (P : Program) (f : FuncId) (args : Array Value) (w : World) (p : Chain → World → Prop) (next : Value → World → Prop) : Prop :=
  Calls P f args w fun
    | .returned v, w' => next v w'
    | .panicked ch, w' => p ch w'
    | .outgrown, _ => False

def mkOper (t : TypeId) (op : Op) : Oper := { dst := none, op := op, type := t, pos := "", after := #[], guard := none }

def LOp.wp (P : Program) (p : Chain → World → Prop) (e : Env) (w : World) (next : Value → World → Prop) : LOp → Prop
  | .pv q => ∃ v, q.val e = some v ∧ next v w
  | .load x => ∃ a v, ev e x = .pointer (some a) ∧ w.cell? a = some v ∧ next v w
  | .loadN n x => ∃ a vs, ev e x = .pointer (some a) ∧ vs.length = n ∧ Cells w a vs ∧ next (.agg vs.toArray) w
  | .store n x v => ∃ a, ev e x = .pointer (some a) ∧ (ev e v).cells.size = n ∧ (∀ c ∈ (ev e v).cells.toList, c.oneCell' = true) ∧ Writable w a n ∧ next undef (putAll w a 0 (ev e v).cells.toList)
  | .newv T x => next (.pointer (some ⟨w.heap.size, 0, none⟩)) (w.alloc (.cells (ev e x).cells T))
  | .newz T cs => next (.pointer (some ⟨w.heap.size, 0, none⟩)) (w.alloc (.cells cs.toArray T))
  | .row T len zero parts => ∃ cs, bldV e zero parts = some cs ∧ next (.slice (some ⟨w.heap.size, 0, none⟩) len len) (w.alloc (.cells cs.toArray T))
  | .call f args => callW P f (args.map (ev e)).toArray w p next
  | .callv x args => ∃ f caps, ev e x = .func (.func f) #[] caps ∧ (P.funcs[f]?).any (fun fn => fn.body.isSome && fn.name != "runtime.NumGoroutine") = true ∧ callW P f ((args.map (ev e)).toArray ++ caps) w p next
  | .panic x => ∃ t v, ev e x = .iface t v ∧ p [{ v := .iface t v, recovered := false }] w
  | .raw t op => match (execOp (ev e) (mkOper t op)).run P w with
    | .ok (.value v) w' => next v w'
    | .ok .skip w' => next undef w'
    | _ => False

theorem LOp.wp_mono {P : Program} {p p' : Chain → World → Prop} {e : Env} {w : World} {n n' : Value → World → Prop} {o : LOp}
    (hp : ∀ c w, p c w → p' c w) (hn : ∀ v w, n v w → n' v w) (h : o.wp P p e w n) : o.wp P p' e w n' := by
  have hc : ∀ f args, callW P f args w p n → callW P f args w p' n' := fun f args hh => Calls.mono hh fun en w' hr => by
    cases en with
    | returned v => exact hn _ _ hr
    | panicked ch => exact hp _ _ hr
    | outgrown => exact hr
  cases o with
  | pv q => obtain ⟨v, h1, h2⟩ := h; exact ⟨v, h1, hn _ _ h2⟩
  | load x => obtain ⟨a, v, h1, h2, h3⟩ := h; exact ⟨a, v, h1, h2, hn _ _ h3⟩
  | loadN n x => obtain ⟨a, v, h1, h2, h3, h4⟩ := h; exact ⟨a, v, h1, h2, h3, hn _ _ h4⟩
  | store n x v => obtain ⟨a, h1, h2, h3, h4, h5⟩ := h; exact ⟨a, h1, h2, h3, h4, hn _ _ h5⟩
  | newv T x => exact hn _ _ h
  | newz T x => exact hn _ _ h
  | row T l z ps => obtain ⟨cs, h1, h2⟩ := h; exact ⟨cs, h1, hn _ _ h2⟩
  | call f args => exact hc _ _ h
  | callv x args => obtain ⟨f, caps, h1, h2, h3⟩ := h; exact ⟨f, caps, h1, h2, hc _ _ h3⟩
  | panic x => obtain ⟨t, v, h1, h2⟩ := h; exact ⟨t, v, h1, hp _ _ h2⟩
  | raw t op =>
    simp only [LOp.wp] at h ⊢
    split at h
    · exact hn _ _ h
    · exact hn _ _ h
    · exact h.elim

/-- Is the operation to be done? -/
def wantedE (e : Env) (g : Option (Nat × Bool)) : Bool :=
  match g with
  | none => true
  | some (t, want) => match e t with | .bool b => b == want | _ => false

def WL (P : Program) (p : Chain → World → Prop) (Q : Exit → Env → World → Prop) : List LOper → Env → World → Prop
  | [], e, w => Q .normal e w
  | o :: l, e, w => if wantedE e o.guard then o.op.wp P p e w (fun v w' => WL P p Q l (updO e o.dst v) w') else WL P p Q l (updO e o.dst undef) w

/-! ### 4. Code -/
/-- A region that draws its order: 'still': taken first; 'eff': taken where none of the others may come ahead of it; 'alt': either may come. -/
inductive DT where
  | nil
  | still (o : LOper) (t : DT)
  | eff (o : LOper) (t : DT)
  | alt (t u : DT)
inductive LC where
  | skip
  | reg (l : List LOper)
  | dreg (t : DT)
  | seq (a b : LC)
  | cond (c : Operand) (a b : LC)
  | block (id : Nat) (b : LC)
  | loop (b : LC)
  | exit (id : Nat)
  | ret

/-- In a region that draws its order: an operation that yields its value in every world that meets S. -/
def stillV (S : World → Prop) (e : Env) (next : Value → Prop) : LOp → Prop
  | .pv q => ∃ v, q.val e = some v ∧ next v
  | .load x => ∃ a v, ev e x = .pointer (some a) ∧ (∀ w, S w → w.cell? a = some v) ∧ next v
  | .loadN n x => ∃ a vs, ev e x = .pointer (some a) ∧ vs.length = n ∧ (∀ w, S w → Cells w a vs) ∧ next (.agg vs.toArray)
  | _ => False
def WD (P : Program) (p : Chain → World → Prop) (S : World → Prop) (Q : Exit → Env → World → Prop) : DT → Env → World → Prop
  | .nil, e, w => Q .normal e w
  | .still o t, e, w => S w ∧ if wantedE e o.guard then stillV S e (fun v => WD P p S Q t (updO e o.dst v) w) o.op else WD P p S Q t (updO e o.dst undef) w
  | .eff o t, e, w => if wantedE e o.guard then o.op.wp P p e w (fun v w' => S w' ∧ WD P p S Q t (updO e o.dst v) w') else S w ∧ WD P p S Q t (updO e o.dst undef) w
  | .alt t u, e, w => WD P p S Q t e w ∧ WD P p S Q u e w

def thenW (next : Env → World → Prop) (Q : Exit → Env → World → Prop) : Exit → Env → World → Prop
  | .normal, e, w => next e w
  | x, e, w => Q x e w
def inBlockW (id : Nat) (Q : Exit → Env → World → Prop) : Exit → Env → World → Prop
  | .exit id', e, w => if id' = id then Q .normal e w else Q (.exit id') e w
  | x, e, w => Q x e w

def WC (P : Program) (p : Chain → World → Prop) : LC → (Exit → Env → World → Prop) → Env → World → Prop
  | .skip, Q, e, w => Q .normal e w
  | .reg l, Q, e, w => WL P p Q l e w
  | .dreg t, Q, e, w => ∃ S : World → Prop, WD P p S Q t e { w with drawn := w.drawn + 1 }
  | .seq a b, Q, e, w => WC P p a (thenW (WC P p b Q) Q) e w
  | .cond c a b, Q, e, w => ∃ t, ev e c = .bool t ∧ (t = true → WC P p a Q e w) ∧ (t = false → WC P p b Q e w)
  | .block id b, Q, e, w => WC P p b (inBlockW id Q) e w
  | .loop b, Q, e, w => ∃ (I : Env → World → Prop) (μ : Env → World → Nat), I e w ∧ ∀ e w, I e w → WC P p b (thenW (fun e' w' => I e' w' ∧ μ e' w' < μ e w) Q) e w
  | .exit id, Q, e, w => Q (.exit id) e w
  | .ret, Q, e, w => Q .ret e w

end Go.Proofs.Ytohmgkcdjapinaa.Lw
namespace Go.Proofs.Ytohmgkcdjapinaa.Lw

/-! ### 1. Equality of structs of plain cells -/
def flatFs (P : Program) (flat : TypeId → Option (List CK)) : Nat → List Field → Option (List CK)
  | _, [] => some []
  | off, f :: fs =>
    if f.name == "_" || f.offset != off then none else
    match flat f.type, (P.info? f.type).map (·.size) with
    | some ks, some m => if ks.length = m ∧ m ≠ 0 then (flatFs P flat (off + m) fs).map (ks ++ ·) else none
    | _, _ => none
def flatTy (P : Program) : Nat → TypeId → Option (List CK)
  | 0, _ => none
  | d + 1, t =>
    match P.underlying t with
    | some (.int _) => some [.i]
    | some .bool => some [.b]
    | some .string => some [.s]
    | some (.struct fs) => if P.stoodInHeld t then none else flatFs P (flatTy P d) 0 fs.toList
    | _ => none
/-- The value of a type out of its cells. -/
def valOf (P : Program) (t : TypeId) (cs : List Value) : Value :=
  match P.underlying t with
  | some (.struct _) => .agg cs.toArray
  | _ => cs.headD undef

theorem cellsEq_len : ∀ (ks : List CK) (xs ys : List Value) (r : Bool), cellsEq ks xs ys = some r → xs.length = ks.length ∧ ys.length = ks.length
  | [], [], [], _, _ => ⟨rfl, rfl⟩
  | k :: ks, x :: xs, y :: ys, r, h => by
    simp only [cellsEq, Option.bind_eq_some_iff, Option.map_eq_some_iff] at h
    obtain ⟨_, _, v, hv, _⟩ := h
    have := cellsEq_len ks xs ys v hv
    simp [this.1, this.2]
  | [], _ :: _, _, _, h => by simp [cellsEq] at h
  | [], [], _ :: _, _, h => by simp [cellsEq] at h
  | _ :: _, [], _, _, h => by simp [cellsEq] at h
  | _ :: _, _ :: _, [], _, h => by simp [cellsEq] at h
theorem cellsEq_append : ∀ (ks ks' : List CK) (xs ys : List Value) (r : Bool), cellsEq (ks ++ ks') xs ys = some r →
    ∃ s t, cellsEq ks (xs.take ks.length) (ys.take ks.length) = some s ∧ cellsEq ks' (xs.drop ks.length) (ys.drop ks.length) = some t ∧ r = (s && t)
  | [], ks', xs, ys, r, h => ⟨true, r, rfl, by simpa using h, by simp⟩
  | k :: ks, ks', x :: xs, y :: ys, r, h => by
    simp only [List.cons_append, cellsEq, Option.bind_eq_some_iff, Option.map_eq_some_iff] at h
    obtain ⟨u, hu, v, hv, rfl⟩ := h
    obtain ⟨s, t, h1, h2, rfl⟩ := cellsEq_append ks ks' xs ys v hv
    exact ⟨u && s, t, by simp [cellsEq, hu, h1], by simpa using h2, by simp [Bool.and_assoc]⟩
  | k :: ks, ks', [], _, r, h => by simp [cellsEq] at h
  | k :: ks, ks', _ :: _, [], r, h => by simp [cellsEq] at h

def aggD : TypeDesc → Bool
  | .struct _ | .array _ _ => true
  | _ => false
theorem run_isAgg (P : Program) (t : TypeId) (w : World) (d : TypeDesc) (h : P.underlying t = some d) :
    (isAgg t).run P w = .ok (aggD d) w := by
  simp only [isAgg, Sem.run_bind, run_underlying h, Result.andThen_ok]
  cases d <;> rfl
theorem run_part (P : Program) (t : TypeId) (w : World) (cs : Array Value) (off n : Nat) (d : TypeDesc) (hd : P.underlying t = some d) (hflat : (∃ k, d = .int k) ∨ d = .bool ∨ d = .string ∨ ∃ fs, d = .struct fs)
    (hs : (P.info? t).map (·.size) = some n) (h1 : (∀ fs, d ≠ .struct fs) → n = 1) (hl : off + n ≤ cs.size) :
    (part t cs off).run P w = .ok (valOf P t ((cs.toList.drop off).take n)) w := by
  simp only [part, Sem.run_bind, run_isAgg P t w d hd, Result.andThen_ok]
  obtain ⟨i, hi, rfl⟩ := Option.map_eq_some_iff.1 hs
  have one : ∀ (_ : ∀ fs, d ≠ .struct fs), (match cs[off]? with | some v => (pure v : Sem Value) | none => stuck "part: no such cell").run P w = .ok (((cs.toList.drop off).take i.size).headD undef) w := by
    intro hne
    have := h1 hne
    have ho : off < cs.size := by omega
    rw [Array.getElem?_eq_getElem ho, this]
    simp only [Sem.run_pure]
    congr 1
    rw [List.drop_eq_getElem_cons (by simpa using ho)]
    simp
  rcases hflat with ⟨k, rfl⟩ | rfl | rfl | ⟨fs, rfl⟩
  · simp only [aggD, Bool.false_eq_true, if_false, valOf, hd]; exact one (by simp)
  · simp only [aggD, Bool.false_eq_true, if_false, valOf, hd]; exact one (by simp)
  · simp only [aggD, Bool.false_eq_true, if_false, valOf, hd]; exact one (by simp)
  · simp only [aggD, if_true, valOf, hd]
    simp [sizeOf, typeInfo, hi, run_program]
    rw [← Array.toArray_toList (xs := cs)]
    simp only [List.extract_toArray, List.extract_eq_take_drop]
    simp

theorem leaf_run {P : Program} {t : TypeId} {x y : Value} {b : Bool} {k : CK} (hk : (k = .i ∧ ∃ n, P.underlying t = some (.int n)) ∨ (k = .b ∧ P.underlying t = some .bool) ∨ (k = .s ∧ P.underlying t = some .string))
    (h : leafEq k x y = some b) (m : Nat) (w : World) : (Op.equalIn (m + 1) t x y).run P w = .ok b w := by
  unfold leafEq at h
  split at h
  · rcases hk with ⟨_, n, hd⟩ | ⟨h', _⟩ | ⟨h', _⟩
    · split at h
      · rename_i hk
        subst hk
        obtain rfl := Option.some.inj h
        exact run_equalIn_int w m t _ _ _ _ hd
      · cases h
    · cases h'
    · cases h'
  · rcases hk with ⟨h', _⟩ | ⟨h', _⟩ | ⟨_, hd⟩
    · cases h'
    · cases h'
    · obtain rfl := Option.some.inj h
      exact run_equalIn_string w m t _ _ hd
  · rcases hk with ⟨h', _⟩ | ⟨_, hd⟩ | ⟨h', _⟩
    · cases h'
    · obtain rfl := Option.some.inj h
      exact run_equalIn_bool' w m t _ _ hd
    · cases h'
  · cases h

theorem flat_run (P : Program) : ∀ (d : Nat) (t : TypeId) (ks : List CK), flatTy P d t = some ks →
    ((∃ n, P.underlying t = some (.int n)) ∨ P.underlying t = some .bool ∨ P.underlying t = some .string ∨ ∃ fs, P.underlying t = some (.struct fs)) ∧
    ((∀ fs, P.underlying t ≠ some (.struct fs)) → ks.length = 1) ∧
    ∀ (m : Nat) (w : World) (xs ys : List Value) (b : Bool), d ≤ m → cellsEq ks xs ys = some b →
      (Op.equalIn m t (valOf P t xs) (valOf P t ys)).run P w = .ok b w := by
  intro d
  induction d with
  | zero => intro t ks h; simp [flatTy] at h
  | succ d ih =>
    intro t ks h
    simp only [flatTy] at h
    split at h
    · rename_i k hk
      obtain rfl := Option.some.inj h
      refine ⟨.inl ⟨_, hk⟩, fun _ => rfl, fun m w xs ys b hm hc => ?_⟩
      obtain ⟨m, rfl⟩ : ∃ m', m = m' + 1 := ⟨m - 1, by omega⟩
      obtain ⟨h1, h2⟩ := cellsEq_len _ _ _ _ hc
      match xs, ys, h1, h2 with
      | [x], [y], _, _ =>
        simp only [valOf, hk, List.headD_cons]
        simp only [cellsEq, Option.bind_eq_some_iff, Option.map_some, Bool.and_true, Option.some.injEq, exists_eq_right] at hc
        exact leaf_run (.inl ⟨rfl, _, hk⟩) hc m w
    · rename_i hk
      obtain rfl := Option.some.inj h
      refine ⟨.inr (.inl hk), fun _ => rfl, fun m w xs ys b hm hc => ?_⟩
      obtain ⟨m, rfl⟩ : ∃ m', m = m' + 1 := ⟨m - 1, by omega⟩
      obtain ⟨h1, h2⟩ := cellsEq_len _ _ _ _ hc
      match xs, ys, h1, h2 with
      | [x], [y], _, _ =>
        simp only [valOf, hk, List.headD_cons]
        simp only [cellsEq, Option.bind_eq_some_iff, Option.map_some, Bool.and_true, Option.some.injEq, exists_eq_right] at hc
        exact leaf_run (.inr (.inl ⟨rfl, hk⟩)) hc m w
    · rename_i hk
      obtain rfl := Option.some.inj h
      refine ⟨.inr (.inr (.inl hk)), fun _ => rfl, fun m w xs ys b hm hc => ?_⟩
      obtain ⟨m, rfl⟩ : ∃ m', m = m' + 1 := ⟨m - 1, by omega⟩
      obtain ⟨h1, h2⟩ := cellsEq_len _ _ _ _ hc
      match xs, ys, h1, h2 with
      | [x], [y], _, _ =>
        simp only [valOf, hk, List.headD_cons]
        simp only [cellsEq, Option.bind_eq_some_iff, Option.map_some, Bool.and_true, Option.some.injEq, exists_eq_right] at hc
        exact leaf_run (.inr (.inr ⟨rfl, hk⟩)) hc m w
    · rename_i fs hk
      split at h
      · simp at h
      rename_i hst
      refine ⟨.inr (.inr (.inr ⟨_, hk⟩)), fun hne => absurd hk (hne _), fun m w xs ys b hm hc => ?_⟩
      obtain ⟨m, rfl⟩ : ∃ m', m = m' + 1 := ⟨m - 1, by omega⟩
      simp only [valOf, hk]
      have hf : P.fieldsOf t = fs := by simp [Program.fieldsOf, hk]
      rw [run_equalIn_struct w m t _ _ (by rw [hf]; exact hk) (by simpa using hst), hf]
      have key : ∀ (l : List Field) (off : Nat) (ks : List CK) (b : Bool), flatFs P (flatTy P d) off l = some ks → cellsEq ks (xs.drop off) (ys.drop off) = some b →
          (Op.eqFields m xs.toArray ys.toArray l).run P w = .ok b w := by
        intro l
        induction l with
        | nil =>
          intro off ks b hl hce
          simp only [flatFs, Option.some.injEq] at hl
          subst hl
          have h0 := cellsEq_len _ _ _ _ hce
          rw [List.eq_nil_of_length_eq_zero h0.1, List.eq_nil_of_length_eq_zero h0.2] at hce
          simp only [cellsEq, Option.some.injEq] at hce
          subst hce
          simp [Op.eqFields]
        | cons f l ihl =>
          intro off ks b hl hce
          simp only [flatFs] at hl
          split at hl
          · simp at hl
          rename_i hno
          simp only [Bool.or_eq_true, beq_iff_eq, bne_iff_ne, ne_eq, not_or, Decidable.not_not] at hno
          obtain ⟨hname, hoff⟩ := hno
          split at hl
          · rename_i ks1 sz hk1 hsz
            split at hl
            · rename_i hlen
              obtain ⟨ks2, hks2, rfl⟩ := Option.map_eq_some_iff.1 hl
              obtain ⟨s, t', hc1, hc2, rfl⟩ := cellsEq_append _ _ _ _ _ hce
              obtain ⟨hshape, hone, hrun⟩ := ih f.type ks1 hk1
              obtain ⟨l1, l2⟩ := cellsEq_len _ _ _ _ hc1
              simp only [List.length_take, List.length_drop] at l1 l2
              obtain ⟨hl1, hl2⟩ := hlen
              have hd : ∃ d', P.underlying f.type = some d' ∧ ((∃ k, d' = .int k) ∨ d' = .bool ∨ d' = .string ∨ ∃ fs, d' = .struct fs) := by
                rcases hshape with ⟨n, hh⟩ | hh | hh | ⟨fs', hh⟩
                · exact ⟨_, hh, .inl ⟨_, rfl⟩⟩
                · exact ⟨_, hh, .inr (.inl rfl)⟩
                · exact ⟨_, hh, .inr (.inr (.inl rfl))⟩
                · exact ⟨_, hh, .inr (.inr (.inr ⟨_, rfl⟩))⟩
              obtain ⟨d', hd', hfl⟩ := hd
              have hn1 : (∀ fs, d' ≠ .struct fs) → sz = 1 := fun hne => by
                have := hone (fun fs hh => hne fs (by rw [hd'] at hh; exact Option.some.inj hh))
                omega
              have hpx := run_part P f.type w xs.toArray f.offset sz d' hd' hfl hsz hn1 (by simp; omega)
              have hpy := run_part P f.type w ys.toArray f.offset sz d' hd' hfl hsz hn1 (by simp; omega)
              have hr1 := hrun m w _ _ s (by omega) hc1
              have hr2 := ihl (off + sz) ks2 t' hks2 (by simpa [hl1, Nat.add_comm] using hc2)
              rw [Op.eqFields, if_pos hname]
              simp only [Sem.run_bind, hpx, hpy, Result.andThen_ok]
              rw [hoff, ← hl1]
              simp only [hr1, Result.andThen_ok]
              cases s
              · simp
              · simpa using hr2
            · simp at hl
          · simp at hl
      exact key fs.toList 0 ks b h (by simpa using hc)
    · simp at h
end Go.Proofs.Ytohmgkcdjapinaa.Lw
namespace Go.Proofs.Ytohmgkcdjapinaa.Lw

def bodyOk (P : Program) (f : FuncId) : Bool := (P.funcs[f]?).any (fun fn => fn.body.isSome && fn.name != "runtime.NumGoroutine")
def isBin : BinOp → Bool
  | .eql | .neq => false
  | _ => true
def lowBin (P : Program) (op : BinOp) (T : TypeId) (x y : Operand) : Option PV :=
  if isBin op then some (.bin op x y) else
  match P.underlying T with
  | some (.int _) | some .string => some (.bin op x y)
  | some .bool => some (.beq (match op with | .neq => true | _ => false) x y)
  | some (.struct _) =>
    match flatTy P 8 T with
    | some ks => if P.eqGuardType P.depth T then none else some (.seq (match op with | .neq => true | _ => false) ks x y)
    | none => none
  | _ => none
def partsOf (P : Program) (fs : Array Field) : List (Nat × Operand) → Option (List (Nat × Nat × Operand))
  | [] => some []
  | (j, x) :: r => match fs[j]? with
    | some f => match (P.info? f.type).map (·.size) with
      | some n => (partsOf P fs r).map ((f.offset, n, x) :: ·)
      | none => none
    | none => none
def sizesOk (P : Program) (fs : Array Field) : Bool := fs.all fun f => (P.info? f.type).isSome
def rowZero (zero : Array Value) (n : Nat) : List Value := (List.range n).map (zero[· % zero.size]!)

def lowOp (P : Program) (t : TypeId) (op : Op) : Option LOp :=
  match op with
  | .move x | .assign x => some (.pv (.move x))
  | .pick c a b => some (.pv (.pick c a b))
  | .alloc T => ((P.info? T).bind (·.zero)).map fun z => .newz T z.cells.toList
  | .box T x => some (.newv T x)
  | .build T ps =>
    match P.underlying T, (P.info? T).bind (·.zero) with
    | some (.struct fs), some z => if sizesOk P fs then (partsOf P fs ps.toList).map fun ps => .pv (.bld z.cells.toList ps) else none
    | _, _ => none
  | .buildSlice T len ps =>
    match P.underlying T with
    | some (.slice el) =>
      match P.info? el with
      | some i => match i.zero with
        | some z => if len * i.size > 2 ^ 24 ∨ len * i.size = 0 then none else some (.row el len (rowZero z.cells (len * i.size)) (ps.toList.map fun (j, x) => (j * i.size, i.size, x)))
        | none => none
      | none => none
    | _ => none
  | .load T x =>
    match P.underlying T with
    | some (.struct _) | some (.array ..) => ((P.info? T).map (·.size)).map fun n => .loadN n x
    | some _ => some (.load x)
    | none => none
  | .store T x v => ((P.info? T).map (·.size)).map fun n => .store n x v
  | .nilCheck x => some (.pv (.nilck x))
  | .binOp op T x y _ => match lowBin P op T x y with
    | some q => some (.pv q)
    | none => some (.raw t (.binOp op T x y 0))
  | .unOp .not _ x => some (.pv (.not x))
  | .convert src dst x =>
    match P.underlying src, P.underlying dst with
    | some (.int _), some (.int k) => some (.pv (.toInt k x))
    | some _, some _ => some (.raw t (.convert src dst x))
    | _, _ => none
  | .makeInterface T x => match P.underlying T with
    | some (.interface _) => none
    | some _ => some (.pv (.ifc T x))
    | none => none
  | .makeFunc (.func f) first caps => if first.size = 0 then some (.pv (.fn f caps.toList)) else none
  | .slice T x lo hi mx =>
    match mx, P.underlying T with
    | none, some (.slice el) => ((P.info? el).map (·.size)).map fun n => .pv (.slc n x lo hi)
    | none, some .string => some (.pv (.sslc x lo hi))
    | _, _ => some (.raw t (.slice T x lo hi mx))
  | .fieldAddr T x j =>
    match P.underlying T with
    | some (.struct fs) => match fs[j]? with
      | some f => match (P.info? f.type).map (·.size) with
        | some n => if n = 0 then none else some (.pv (.off x f.offset))
        | none => none
      | none => none
    | _ => none
  | .indexAddr T x i =>
    match P.underlying T with
    | some (.slice el) => ((P.info? el).map (·.size)).map fun n => .pv (.idx n x i)
    | _ => some (.raw t (.indexAddr T x i))
  | .index T x i =>
    match P.underlying T with
    | some .string => some (.pv (.sidx x i))
    | _ => some (.raw t (.index T x i))
  | .extract x i => some (.pv (.ext x i))
  | .call { callee := .builtin .len, args := args, argTypes := ts } =>
    match args.toList, ts.toList with
    | [x], [T] => match P.underlying T with
      | some .string => some (.pv (.slen x))
      | some (.slice _) => some (.pv (.len x))
      | _ => some (.raw t (.call { callee := .builtin .len, args := args, argTypes := ts }))
    | _, _ => none
  | .call { callee := .value f, args := args, argTypes := ts } =>
    match f with
    | .func f => if bodyOk P f then some (.call f args.toList) else none
    | x => some (.callv x args.toList)
  | .panic x => some (.panic x)
  | op => some (.raw t op)

theorem execOp_mk (ρ : Operand → Value) (o : Oper) : execOp ρ o = execOp ρ (mkOper o.type o.op) := by
  cases o; rfl

/-! ### The pure ones -/
theorem run_bnd (P : Program) (e : Env) (w : World) (o : Operand) (y : Nat) (code : BoundsCode) (h : Nat) (hb : bndV e (some o) 0 y = some h) : (Instr.sliceBound (ev e o) y code).run P w = .ok h w := by
  simp only [bndV] at hb
  split at hb
  · rename_i k i hi
    split at hb
    · rename_i hc
      obtain rfl := Option.some.inj hb
      simp [Instr.sliceBound, hi, asIntOf, hc]
    · cases hb
  · cases hb
theorem bndV_some (e : Env) (o : Operand) (a b y : Nat) : bndV e (some o) a y = bndV e (some o) b y := rfl

theorem run_bounds (P : Program) (e : Env) (w : World) (sl : Bool) (n c : Nat) (lo hi : Option Operand) (h l : Nat) (hh : bndV e hi n c = some h) (hl : bndV e lo 0 h = some l) :
    (Instr.sliceBounds sl n c (lo.map (ev e)) (hi.map (ev e)) none).run P w = .ok (l, h, c) w := by
  cases hi with
  | none =>
    simp only [bndV, Option.some.injEq] at hh
    subst hh
    cases lo with
    | none => simp only [bndV, Option.some.injEq] at hl; subst hl; simp [Instr.sliceBounds]
    | some lo => simp [Instr.sliceBounds, run_bnd P e w lo _ _ _ hl]
  | some hi =>
    rw [bndV_some e hi n 0] at hh
    cases lo with
    | none => simp only [bndV, Option.some.injEq] at hl; subst hl; simp [Instr.sliceBounds, run_bnd P e w hi _ _ _ hh]
    | some lo => simp [Instr.sliceBounds, run_bnd P e w hi _ _ _ hh, run_bnd P e w lo _ _ _ hl]

theorem run_bin (P : Program) (op : BinOp) (T : TypeId) (w : World) (x y : Operand) (a b v : Value) (h : binV op a b = some v) :
    (do eqGuard op T x y a b; binOp op T a b : Sem Value).run P w = .ok v w := by
  unfold binV at h
  split at h
  · rename_i k a k' b
    have hg : ∀ w : World, (eqGuard op T x y (.int k a) (.int k' b)).run P w = .ok () w := by intro w; cases op <;> simp [eqGuard]
    simp only [Sem.run_bind, hg, Result.andThen_ok]
    split at h
    · split at h
      · cases h
      · rename_i hb
        obtain rfl := Option.some.inj h
        simp [binOp, Op.shift, hb]
    · split at h
      · cases h
      · rename_i hb
        obtain rfl := Option.some.inj h
        simp [binOp, Op.shift, hb]
    · split at h
      · rename_i hk
        subst hk
        cases op <;> simp_all [binOp, intV, bitV, Op.intArith, Op.intDiv, Op.intBits, Op.intCmp]
      · cases h
  · rename_i a b
    have hg : ∀ w : World, (eqGuard op T x y (.string a) (.string b)).run P w = .ok () w := by intro w; cases op <;> simp [eqGuard]
    simp only [Sem.run_bind, hg, Result.andThen_ok]
    cases op <;> simp_all [strV, binOp, Op.stringOp]
  · cases h

end Go.Proofs.Ytohmgkcdjapinaa.Lw
namespace Go.Proofs.Ytohmgkcdjapinaa.Lw

/-- May an operation be taken first: does it look at memory at most by plain loads? -/
def stillOp : LOp → Bool
  | .pv _ | .load _ | .loadN .. => true
  | _ => false
def Ends (P : Program) (p : Chain → World → Prop) (next : Value → World → Prop) (b : Bool) : Result Next → Prop
  | .ok (.value v) w' => next v w'
  | .ok .skip w' => b = false ∧ next undef w'
  | .ok (.enter f args) w' => b = false ∧ callW P f args w' p next
  | .halt (.panic v) w' => p [{ v := v, recovered := false }] w'
  | _ => False

section
variable {P : Program} {p : Chain → World → Prop} {next : Value → World → Prop} {e : Env} {w : World}

theorem Ends.value {b : Bool} {s : Sem Value} {v : Value} {w' : World} (hs : s.run P w = .ok v w') (h : next v w') :
    Ends P p next b ((do pure (.value (← s)) : Sem Next).run P w) := by
  simp only [Sem.run_bind, hs, Result.andThen_ok, Sem.run_pure]
  exact h
theorem Ends.unit {b : Bool} (hb : b = false) {s : Sem Unit} {w' : World} (hs : s.run P w = .ok () w') (h : next undef w') :
    Ends P p next b ((do s; pure .skip : Sem Next).run P w) := by
  simp only [Sem.run_bind, hs, Result.andThen_ok, Sem.run_pure]
  exact ⟨hb, h⟩

theorem info_size {T : TypeId} {n : Nat} (h : (P.info? T).map (·.size) = some n) : ∀ w, (sizeOf T).run P w = .ok n w := by
  obtain ⟨i, hi, rfl⟩ := Option.map_eq_some_iff.1 h
  intro w
  simp [sizeOf, typeInfo, run_program, hi]
theorem info_zero {T : TypeId} {z : Value} (h : (P.info? T).bind (·.zero) = some z) : ∀ w, (zeroValue T).run P w = .ok z w := by
  obtain ⟨i, hi, hz⟩ := Option.bind_eq_some_iff.1 h
  intro w
  simp [zeroValue, typeInfo, run_program, hi, hz]

theorem run_loadCellsFrom (a : Addr) : ∀ (n i : Nat) (acc : Array Value) (vs : List Value), vs.length = i + n → (∀ j, i ≤ j → j < vs.length → w.cell? (a.add j) = vs[j]?) →
    (loadCellsFrom a i n acc).run P w = .ok (acc ++ (vs.drop i).toArray) w
  | 0, i, acc, vs, hl, h => by simp [loadCellsFrom, List.drop_eq_nil_of_le (show vs.length ≤ i by omega)]
  | n + 1, i, acc, vs, hl, h => by
    have hi : i < vs.length := by omega
    have hc := h i (Nat.le_refl _) hi
    rw [List.getElem?_eq_getElem hi] at hc
    simp only [loadCellsFrom, Sem.run_bind, run_load, hc, Result.andThen_ok]
    rw [run_loadCellsFrom a n (i + 1) (acc.push vs[i]) vs (by omega) (fun j h1 h2 => h j (by omega) h2)]
    rw [List.drop_eq_getElem_cons hi]
    simp
theorem run_loadCells' {a : Addr} {vs : List Value} (h : Cells w a vs) : (loadCells a vs.length).run P w = .ok vs.toArray w := by
  have := run_loadCellsFrom (P := P) (w := w) a vs.length 0 #[] vs (by omega) (fun j _ hj => h j hj)
  simpa [loadCells] using this

theorem addr_add_ne {a : Addr} {i j : Nat} (h : i ≠ j) : a.add i ≠ a.add j := by
  intro he
  have := congrArg Addr.off he
  unfold Addr.add at this
  split at this <;> split at this <;> simp_all <;> omega
theorem writable_set {a : Addr} {i : Nat} {v : Value} {n : Nat} (h : ∀ j, i < j → j < n → (∃ u, w.cell? (a.add j) = some u) ∧ w.frozen? (a.add j) = false) :
    ∀ j, i < j → j < n → (∃ u, (w.setCell (a.add i) v).cell? (a.add j) = some u) ∧ (w.setCell (a.add i) v).frozen? (a.add j) = false := by
  intro j h1 h2
  obtain ⟨⟨u, hu⟩, hf⟩ := h j h1 h2
  refine ⟨⟨u, ?_⟩, by simpa using hf⟩
  rw [World.cell?_setCell_other _ _ _ _ (addr_add_ne (Nat.ne_of_lt h1))]
  exact hu
theorem run_storeCells' (a : Addr) : ∀ (vs : List Value) (i : Nat) (w : World), (∀ c ∈ vs, c.oneCell' = true) → (∀ j, i ≤ j → j < i + vs.length → (∃ u, w.cell? (a.add j) = some u) ∧ w.frozen? (a.add j) = false) →
    (storeCells a vs i).run P w = .ok () (putAll w a i vs)
  | [], i, w, _, _ => by simp [storeCells, putAll]
  | v :: vs, i, w, ho, h => by
    obtain ⟨⟨u, hu⟩, hf⟩ := h i (Nat.le_refl _) (by simp)
    simp only [storeCells, Sem.run_bind, run_store P w (a.add i) v .plain (ho v (by simp)), hu, hf, Bool.false_eq_true, if_false, Result.andThen_ok, putAll]
    refine run_storeCells' a vs (i + 1) _ (fun c hc => ho c (by simp [hc])) fun j h1 h2 => ?_
    exact writable_set (n := i + (vs.length + 1)) (fun j h3 h4 => h j (by omega) (by simpa using h4)) j (by omega) (by omega)

def Fits (pl : Nat → Option (Nat × Nat)) : List (Nat × Operand) → List (Nat × Nat × Operand) → Prop
  | [], [] => True
  | (j, x) :: ps, (off, n, y) :: qs => pl j = some (off, n) ∧ x = y ∧ Fits pl ps qs
  | _, _ => False
theorem fill_bld (P : Program) (e : Env) (pl : Nat → Option (Nat × Nat)) : ∀ (ps : List (Nat × Operand)) (qs : List (Nat × Nat × Operand)) (cs : Array Value) (r : List Value),
    Fits pl ps qs → bldV e cs.toList qs = some r →
    Instr.fill pl cs (ps.map fun (i, x) => (i, ev e x)) = some r.toArray
  | [], [], cs, r, _, hb => by
    simp only [bldV, Option.some.injEq] at hb
    subst hb
    simp [Instr.fill]
  | [], _ :: _, _, _, h, _ => h.elim
  | _ :: _, [], _, _, h, _ => h.elim
  | (j, x) :: ps, (off, n, y) :: qs, cs, r, ⟨h1, h2, ht⟩, hb => by
    subst h2
    simp only [bldV] at hb
    split at hb
    · rename_i hc
      obtain ⟨hn, hle⟩ := hc
      simp only [List.map_cons, Instr.fill, h1]
      have hle' : off + n ≤ cs.size := by simpa using hle
      rw [if_neg (by simp [hn]; omega)]
      refine fill_bld P e pl ps qs _ r ht ?_
      rw [← hb]
      congr 1
      -- the fold places the cells
      generalize hv : (ev e x).cells = vs at *
      subst hn
      have key : ∀ (l : List Value) (k : Nat) (cs : Array Value), off + k + l.length ≤ cs.size →
          ((l.zipIdx k).foldl (fun cs cj => cs.setIfInBounds (off + cj.2) cj.1) cs).toList = cs.toList.take (off + k) ++ l ++ cs.toList.drop (off + k + l.length) := by
        intro l
        induction l with
        | nil => intro k cs _; simp
        | cons v l ih =>
          intro k cs hk
          simp only [List.length_cons] at hk
          simp only [List.zipIdx_cons, List.foldl_cons]
          rw [ih (k + 1) _ (by simp; omega)]
          simp only [Array.toList_setIfInBounds]
          rw [List.take_set, List.drop_set_of_lt (by omega)]
          have h3 : List.take (off + (k + 1)) cs.toList = List.take (off + k) cs.toList ++ [cs.toList[off + k]'(by simp; omega)] := by
            rw [show off + (k + 1) = (off + k) + 1 by omega, List.take_succ_eq_append_getElem (by simp; omega)]
          rw [h3, List.set_append_right _ _ (by simp; omega)]
          simp [Nat.min_eq_left (show off + k ≤ cs.size by omega)]
          rw [show off + (k + 1) + l.length = off + k + (l.length + 1) by omega]
      have := key vs.toList 0 cs (by simpa using hle')
      simp only [Nat.add_zero] at this
      rw [← Array.foldl_toList, Array.toList_zipIdx, this]
      simp [place]
    · cases hb
end

section
variable {P : Program} {p : Chain → World → Prop} {next : Value → World → Prop} {e : Env} {w : World}

theorem pv_bin {op : BinOp} {T : TypeId} {x y : Operand} {q : PV} (hq : lowBin P op T x y = some q) {v : Value} (hv : q.val e = some v) :
    (do eqGuard op T x y (ev e x) (ev e y); binOp op T (ev e x) (ev e y) : Sem Value).run P w = .ok v w := by
  unfold lowBin at hq
  split at hq
  · obtain rfl := Option.some.inj hq
    exact run_bin P op T w x y _ _ v hv
  rename_i hb
  split at hq
  · obtain rfl := Option.some.inj hq
    exact run_bin P op T w x y _ _ v hv
  · obtain rfl := Option.some.inj hq
    exact run_bin P op T w x y _ _ v hv
  · rename_i hT
    obtain rfl := Option.some.inj hq
    simp only [PV.val] at hv
    split at hv
    · rename_i a b ha hb'
      obtain rfl := Option.some.inj hv
      rw [ha, hb']
      have hg : ∀ w : World, (eqGuard op T x y (.bool a) (.bool b)).run P w = .ok () w := by intro w; cases op <;> simp [eqGuard]
      simp only [Sem.run_bind, hg, Result.andThen_ok]
      cases op <;> simp [isBin] at hb
      · simp only [binOp, Op.equal, Op.maxDepth, Sem.run_bind, run_equalIn_bool' w 9999 T a b hT, Result.andThen_ok, Sem.run_pure]
        simp
      · simp only [binOp, Op.equal, Op.maxDepth, Sem.run_bind, run_equalIn_bool' w 9999 T a b hT, Result.andThen_ok, Sem.run_pure]
        simp [bne]
    · cases hv
  · rename_i fs hT
    split at hq
    · rename_i ks hks
      split at hq
      · cases hq
      rename_i hgt
      obtain rfl := Option.some.inj hq
      simp only [PV.val] at hv
      split at hv
      · rename_i a b ha hb'
        rw [ha, hb']
        obtain ⟨r, hr, rfl⟩ := Option.map_eq_some_iff.1 hv
        simp only [Sem.run_bind, run_eqGuard_agg w op T x y _ _ (by simpa using hgt), Result.andThen_ok]
        have := (flat_run P 8 T ks hks).2.2 10000 w a.toList b.toList r (by omega) hr
        simp only [valOf, hT, Array.toArray_toList] at this
        cases op <;> simp [isBin] at hb
        · simp only [run_eql_struct, this, Result.andThen_ok]
          simp
        · simp only [run_neq_struct, this, Result.andThen_ok]
          simp
      · cases hv
    · cases hq
  · cases hq

theorem fits_parts {fs : Array Field} : ∀ (ps : List (Nat × Operand)) (qs : List (Nat × Nat × Operand)), partsOf P fs ps = some qs →
    Fits (fun (i : Nat) => ((fs[i]?).bind fun (f : Field) => (P.info? f.type).map fun i => (f.offset, i.size))) ps qs
  | [], qs, h => by simp only [partsOf, Option.some.injEq] at h; subst h; trivial
  | (j, x) :: ps, qs, h => by
    simp only [partsOf] at h
    split at h
    · rename_i f hf
      split at h
      · rename_i n hn
        obtain ⟨qs', h', rfl⟩ := Option.map_eq_some_iff.1 h
        obtain ⟨i, hi, rfl⟩ := Option.map_eq_some_iff.1 hn
        exact ⟨by simp [hf, hi], rfl, fits_parts ps qs' h'⟩
      · cases h
    · cases h
theorem run_places (w : World) (fs : Array Field) (h : sizesOk P fs = true) :
    ∃ pl : Array (Nat × Nat), (fs.mapM (fun (f : Field) => (do pure (f.offset, ← sizeOf f.type) : Sem (Nat × Nat)))).run P w = .ok pl w ∧
      ∀ i : Nat, pl[i]? = ((fs[i]?).bind fun (f : Field) => (P.info? f.type).map fun i => (f.offset, i.size)) := by
  rw [Array.mapM_eq_mapM_toList]
  obtain ⟨l⟩ := fs
  replace h : l.all (fun f => (P.info? f.type).isSome) = true := by simpa [sizesOk] using h
  have key : ∃ pl : List (Nat × Nat), (l.mapM (fun (f : Field) => (do pure (f.offset, ← sizeOf f.type) : Sem (Nat × Nat)))).run P w = .ok pl w ∧
      ∀ i : Nat, pl[i]? = ((l[i]?).bind fun (f : Field) => (P.info? f.type).map fun i => (f.offset, i.size)) := by
    induction l with
    | nil => exact ⟨[], by simp, by simp⟩
    | cons f l ih =>
      simp only [List.all_cons, Bool.and_eq_true] at h
      obtain ⟨pl, h1, h2⟩ := ih h.2
      obtain ⟨i, hi⟩ := Option.isSome_iff_exists.1 h.1
      refine ⟨(f.offset, i.size) :: pl, ?_, ?_⟩
      · simp only [List.mapM_cons, Sem.run_bind, info_size (P := P) (T := f.type) (n := i.size) (by simp [hi]), Result.andThen_ok, Sem.run_pure, h1]
      · intro j
        cases j with
        | zero => simp [hi]
        | succ j => simpa using h2 j
  obtain ⟨pl, h1, h2⟩ := key
  refine ⟨pl.toArray, ?_, by simpa using h2⟩
  simp only [Sem.run_map, h1, Result.andThen_ok]
end
end Go.Proofs.Ytohmgkcdjapinaa.Lw
namespace Go.Proofs.Ytohmgkcdjapinaa.Lw

section
variable {P : Program} {p : Chain → World → Prop} {next : Value → World → Prop} {e : Env} {w : World}

theorem Ends.of_raw {b : Bool} (hb : b = false) {t : TypeId} {op : Op} (h : (LOp.raw t op).wp P p e w next) : Ends P p next b ((execOp (ev e) (mkOper t op)).run P w) := by
  simp only [LOp.wp] at h
  split at h
  · rename_i he; rw [he]; exact h
  · rename_i he; rw [he]; exact ⟨hb, h⟩
  · exact h.elim

theorem sound_raw {b : Bool} {t : TypeId} {op : Op} {lo : LOp} (hb : b = true → stillOp lo = true) (hl : some (LOp.raw t op) = some lo) (h : lo.wp P p e w next) : Ends P p next b ((execOp (ev e) (mkOper t op)).run P w) := by
  obtain rfl := Option.some.inj hl
  exact Ends.of_raw (by cases b with | false => rfl | true => cases hb rfl) h

theorem map_toArray (f : Operand → Value) (a : Array Operand) : (a.toList.map f).toArray = a.map f := by
  rw [← Array.toList_map, Array.toArray_toList]

theorem run_callFunc {f : FuncId} (hb : bodyOk P f = true) (args : Array Value) : (callFunc f args).run P w = .ok (.enter f args) w := by
  unfold bodyOk at hb
  cases hf : P.funcs[f]? with
  | none => simp [hf] at hb
  | some fn =>
    simp only [hf, Option.any_some, Bool.and_eq_true, bne_iff_ne, ne_eq] at hb
    obtain ⟨h1, h2⟩ := hb
    have h3 : fn.body ≠ none := by intro hh; simp [hh] at h1
    simp [callFunc, run_program, hf, h2, h3]

theorem sound_call {b : Bool} {f : Operand} {args : Array Operand} {ts : Array TypeId} {t : TypeId} {lo : LOp} (hb : b = true → stillOp lo = true)
    (hl : (match f with | .func f => if bodyOk P f then some (LOp.call f args.toList) else none | x => some (.callv x args.toList)) = some lo) (h : lo.wp P p e w next) :
    Ends P p next b ((execOp (ev e) (mkOper t (.call { callee := .value f, args := args, argTypes := ts }))).run P w) := by
  have key : ∀ x, (∀ f', x ≠ Operand.func f') → some (LOp.callv x args.toList) = some lo → Ends P p next b ((execOp (ev e) (mkOper t (.call { callee := .value x, args := args, argTypes := ts }))).run P w) := by
    intro x _ hx
    obtain rfl := Option.some.inj hx
    have hb' : b = false := by cases b with | false => rfl | true => cases hb rfl
    obtain ⟨g, caps, h1, h2, h3⟩ := h
    simp only [execOp, mkOper, resolve, h1, Deferred.ofValue, Sem.run_bind, Sem.run_pure, Result.andThen_ok, invoke]
    rw [run_callFunc h2]
    exact ⟨hb', by simpa [map_toArray] using h3⟩
  cases f with
  | func f =>
    simp only at hl
    split at hl
    · rename_i hbo
      obtain rfl := Option.some.inj hl
      have hb' : b = false := by cases b with | false => rfl | true => cases hb rfl
      simp only [execOp, mkOper, resolve, ev, Deferred.ofValue, Sem.run_bind, Sem.run_pure, Result.andThen_ok, invoke]
      rw [run_callFunc hbo]
      exact ⟨hb', by simpa [map_toArray, LOp.wp] using h⟩
    · cases hl
  | tmp t => exact key _ (by simp) hl
  | const v => exact key _ (by simp) hl
  | global g => exact key _ (by simp) hl

theorem sound_len {b : Bool} {T : TypeId} {x : Operand} {t : TypeId} {v : Value} {el : TypeId} (hT : P.underlying T = some (.slice el)) (hv : (PV.len x).val e = some v) (hn : next v w) :
    Ends P p next b ((execOp (ev e) (mkOper t (.call { callee := .builtin .len, args := #[x], argTypes := #[T] }))).run P w) := by
  simp only [PV.val] at hv
  split at hv
  · rename_i a n c hx
    obtain rfl := Option.some.inj hv
    simp [execOp, mkOper, resolve, invoke, builtin, Builtin.len_, run_underlying hT, hx, goInt, Ends]
    exact hn
  · cases hv
theorem sound_slen {b : Bool} {T : TypeId} {x : Operand} {t : TypeId} {v : Value} (hT : P.underlying T = some .string) (hv : (PV.slen x).val e = some v) (hn : next v w) :
    Ends P p next b ((execOp (ev e) (mkOper t (.call { callee := .builtin .len, args := #[x], argTypes := #[T] }))).run P w) := by
  simp only [PV.val] at hv
  split at hv
  · rename_i s hx
    obtain rfl := Option.some.inj hv
    simp [execOp, mkOper, resolve, invoke, builtin, Builtin.len_, run_underlying hT, hx, goInt, Ends]
    exact hn
  · cases hv
end

section
variable {P : Program} {p : Chain → World → Prop} {next : Value → World → Prop} {e : Env} {w : World}

theorem sound_op {b : Bool} {t : TypeId} {op : Op} {lo : LOp} (hb : b = true → stillOp lo = true) (hl : lowOp P t op = some lo) (h : lo.wp P p e w next) :
    Ends P p next b ((execOp (ev e) (mkOper t op)).run P w) := by
  unfold lowOp at hl
  split at hl
  · -- move
    obtain rfl := Option.some.inj hl
    obtain ⟨v, hv, hn⟩ := h
    obtain rfl := Option.some.inj hv
    simpa [execOp, mkOper, Ends] using hn
  · obtain rfl := Option.some.inj hl
    obtain ⟨v, hv, hn⟩ := h
    obtain rfl := Option.some.inj hv
    simpa [execOp, mkOper, Ends] using hn
  · -- pick
    obtain rfl := Option.some.inj hl
    obtain ⟨v, hv, hn⟩ := h
    simp only [PV.val] at hv
    split at hv
    · rename_i bb hbb
      obtain rfl := Option.some.inj hv
      simpa [execOp, mkOper, Ends, hbb, asBool] using hn
    · cases hv
  · -- alloc
    obtain ⟨z, hz, rfl⟩ := Option.map_eq_some_iff.1 hl
    refine Ends.value (w' := w.alloc (.cells z.cells _)) ?_ (by simpa [LOp.wp] using h)
    simp [Instr.alloc, info_zero hz, newVar, newRow]
  · -- box
    obtain rfl := Option.some.inj hl
    refine Ends.value (w' := w.alloc (.cells _ _)) ?_ h
    simp [Instr.box, newVar, newRow]
  · -- build
    rename_i T ps
    split at hl
    · rename_i fs z hT hz
      split at hl
      · rename_i hsz
        obtain ⟨qs, hq, rfl⟩ := Option.map_eq_some_iff.1 hl
        obtain ⟨v, hv, hn⟩ := h
        obtain ⟨cs, hcs, rfl⟩ := Option.map_eq_some_iff.1 hv
        obtain ⟨pl, hp1, hp2⟩ := run_places w fs hsz
        refine Ends.value (w' := w) ?_ hn
        have hf := fill_bld P e (pl[·]?) ps.toList qs z.cells cs (by have := fits_parts ps.toList qs hq; simpa only [← hp2] using this) hcs
        simp only [Instr.build, Sem.run_bind, info_zero hz, Result.andThen_ok, run_underlying hT, hp1]
        simp only [Array.toList_map, hf]
        rfl
      · cases hl
    · cases hl
  · -- buildSlice
    rename_i T len ps
    split at hl
    · rename_i el hT
      split at hl
      · rename_i i hi
        split at hl
        · rename_i z hz
          split at hl
          · cases hl
          rename_i hbd
          obtain rfl := Option.some.inj hl
          obtain ⟨cs, hcs, hn⟩ := h
          have h1 : ¬ (len * i.size > 2 ^ 24) := fun hh => hbd (.inl hh)
          have h2 : ¬ (len * i.size = 0) := fun hh => hbd (.inr hh)
          refine Ends.value (w' := w.alloc (.cells cs.toArray el)) ?_ hn
          have hfits : ∀ l : List (Nat × Operand), Fits (fun j => some (j * i.size, i.size)) l (l.map fun (j, x) => (j * i.size, i.size, x)) := by
            intro l
            induction l with
            | nil => trivial
            | cons a l ih => exact ⟨rfl, rfl, ih⟩
          have hf := fill_bld P e (fun j => some (j * i.size, i.size)) ps.toList _ ((Array.range (len * i.size)).map (z.cells[· % z.cells.size]!)) cs (hfits _) (by simpa [rowZero, Array.toList_range] using hcs)
          simp only [Instr.buildSlice, Sem.run_bind, run_underlying hT, Result.andThen_ok, info_size (P := P) (T := el) (n := i.size) (by simp [hi]), if_neg h1, if_neg h2]
          simp only [Sem.run_bind, info_zero (P := P) (T := el) (z := z) (by simp [hi, hz]), Result.andThen_ok, Sem.run_pure, Array.toList_map, hf]
          simp [newRow]
        · cases hl
      · cases hl
    · cases hl
  · -- load
    rename_i T x
    have agg : ∀ d, P.underlying T = some d → aggD d = true → ((P.info? T).map (·.size)).map (fun n => LOp.loadN n x) = some lo →
        Ends P p next b ((execOp (ev e) (mkOper t (.load T x))).run P w) := by
      intro d hT hd hl
      obtain ⟨n, hn, rfl⟩ := Option.map_eq_some_iff.1 hl
      obtain ⟨a, vs, h1, rfl, h3, h4⟩ := h
      refine Ends.value (w' := w) ?_ h4
      simp only [Instr.loadAt, h1, Instr.sureAddr, Sem.run_bind, Sem.run_pure, Result.andThen_ok, loadVar, run_isAgg P T w d hT, hd, if_true, info_size hn, run_loadCells' h3]
    split at hl
    · rename_i hT; exact agg _ hT rfl hl
    · rename_i hT; exact agg _ hT rfl hl
    · rename_i d hns hna hT
      obtain rfl := Option.some.inj hl
      obtain ⟨a, v, h1, h2, h3⟩ := h
      refine Ends.value (w' := w) ?_ h3
      have hd : aggD d = false := by
        cases d <;> first | rfl | exact (hns _ rfl).elim | exact (hna _ _ rfl).elim
      simp only [Instr.loadAt, h1, Instr.sureAddr, Sem.run_bind, Sem.run_pure, Result.andThen_ok, loadVar, run_isAgg P T w _ hT, hd, Bool.false_eq_true, if_false, run_load, h2]
    · cases hl
  · -- store
    obtain ⟨n, hn, rfl⟩ := Option.map_eq_some_iff.1 hl
    obtain ⟨a, h1, h2, h3, h4, h5⟩ := h
    refine Ends.unit (by cases b with | false => rfl | true => cases hb rfl) (w' := putAll w a 0 _) ?_ h5
    simp only [Instr.storeAt, h1, Instr.sureAddr, Sem.run_bind, Sem.run_pure, Result.andThen_ok, storeVar, info_size hn, h2, ne_eq, not_true_eq_false, if_false]
    refine run_storeCells' a _ 0 w h3 fun j _ hj => h4 j (by simpa [h2] using hj)
  · -- nilCheck
    obtain rfl := Option.some.inj hl
    obtain ⟨v, hv, hn⟩ := h
    simp only [PV.val] at hv
    split at hv
    · rename_i a ha
      obtain rfl := Option.some.inj hv
      simpa [execOp, mkOper, Ends, ha] using hn
    · cases hv
  · -- binOp
    rename_i op T x y _
    split at hl
    · rename_i q hq
      obtain rfl := Option.some.inj hl
      obtain ⟨v, hv, hn⟩ := h
      exact Ends.value (pv_bin hq hv) hn
    · obtain rfl := Option.some.inj hl
      have := Ends.of_raw (b := b) (by cases b with | false => rfl | true => cases hb rfl) h
      simpa [execOp, mkOper] using this
  · -- not
    obtain rfl := Option.some.inj hl
    obtain ⟨v, hv, hn⟩ := h
    simp only [PV.val] at hv
    split at hv
    · rename_i bb hbb
      obtain rfl := Option.some.inj hv
      refine Ends.value (w' := w) ?_ hn
      simp [Op.unary, hbb]
    · cases hv
  · -- convert
    rename_i src dst x
    split at hl
    · rename_i k1 k hs hd
      obtain rfl := Option.some.inj hl
      obtain ⟨v, hv, hn⟩ := h
      simp only [PV.val] at hv
      split at hv
      · rename_i k2 n hx
        obtain rfl := Option.some.inj hv
        refine Ends.value (w' := w) ?_ hn
        simp [convert, run_underlying hs, run_underlying hd, hx, Conv.intToInt]
      · cases hv
    · exact sound_raw hb hl h
    · cases hl
  · -- makeInterface
    split at hl
    · cases hl
    · rename_i d hd hT
      obtain rfl := Option.some.inj hl
      obtain ⟨v, hv, hn⟩ := h
      obtain rfl := Option.some.inj hv
      refine Ends.value (w' := w) ?_ hn
      simp only [Instr.makeInterface, Sem.run_bind, run_underlying hT, Result.andThen_ok]
      cases d <;> first | rfl | simp at hd
    · cases hl
  · -- makeFunc
    rename_i f first caps
    split at hl
    · rename_i h0
      obtain rfl := Option.some.inj hl
      obtain ⟨v, hv, hn⟩ := h
      obtain rfl := Option.some.inj hv
      refine Ends.value (w' := w) ?_ hn
      have : first = #[] := by simpa using h0
      simp only [Instr.makeFunc, this, map_toArray]
      simp
    · cases hl
  · -- slice
    rename_i T x lo' hi mx
    split at hl
    · rename_i el hT
      obtain ⟨n, hn', rfl⟩ := Option.map_eq_some_iff.1 hl
      obtain ⟨v, hv, hn⟩ := h
      simp only [PV.val] at hv
      split at hv
      · rename_i a m c hx
        obtain ⟨hh, h1, h2⟩ := Option.bind_eq_some_iff.1 hv
        obtain ⟨l, h3, rfl⟩ := Option.map_eq_some_iff.1 h2
        refine Ends.value (w' := w) ?_ hn
        simp only [Instr.sliceAt, Sem.run_bind, run_underlying hT, Result.andThen_ok, Instr.slice, hx, Option.map_none, run_bounds P e w true m c lo' hi hh l h1 h3, info_size hn', Sem.run_pure]
      · cases hv
    · rename_i hT
      obtain rfl := Option.some.inj hl
      obtain ⟨v, hv, hn⟩ := h
      simp only [PV.val] at hv
      split at hv
      · rename_i s hx
        obtain ⟨hh, h1, h2⟩ := Option.bind_eq_some_iff.1 hv
        obtain ⟨l, h3, rfl⟩ := Option.map_eq_some_iff.1 h2
        refine Ends.value (w' := w) ?_ hn
        simp only [Instr.sliceAt, Sem.run_bind, run_underlying hT, Result.andThen_ok, Instr.slice, hx, Option.map_none, Option.isSome_none, Bool.false_eq_true, if_false, run_bounds P e w false s.size s.size lo' hi hh l h1 h3, Sem.run_pure]
      · cases hv
    · exact sound_raw hb hl h
  · -- fieldAddr
    rename_i T x j
    split at hl
    · rename_i fs hT
      split at hl
      · rename_i f hf
        split at hl
        · rename_i n hn'
          split at hl
          · cases hl
          rename_i h0
          obtain rfl := Option.some.inj hl
          obtain ⟨v, hv, hn⟩ := h
          simp only [PV.val] at hv
          split at hv
          · rename_i a hx
            obtain rfl := Option.some.inj hv
            refine Ends.value (w' := w) ?_ hn
            simp only [Instr.fieldAt, Sem.run_bind, run_underlying hT, Result.andThen_ok, hf, hx, Instr.sureAddr, Sem.run_pure, fieldPlace, info_size hn', if_neg h0]
          · cases hv
        · cases hl
      · cases hl
    · cases hl
  · -- indexAddr
    rename_i T x i
    split at hl
    · rename_i el hT
      obtain ⟨n, hn', rfl⟩ := Option.map_eq_some_iff.1 hl
      obtain ⟨v, hv, hn⟩ := h
      simp only [PV.val] at hv
      split at hv
      · rename_i a m c k j hx hi
        split at hv
        · rename_i hbd
          obtain rfl := Option.some.inj hv
          refine Ends.value (w' := w) ?_ hn
          simp [Instr.indexAt, hi, asIntOf, run_underlying hT, hx, hbd, info_size hn']
        · cases hv
      · cases hv
    · exact sound_raw hb hl h
  · -- index
    rename_i T x i
    split at hl
    · rename_i hT
      obtain rfl := Option.some.inj hl
      obtain ⟨v, hv, hn⟩ := h
      simp only [PV.val] at hv
      split at hv
      · rename_i s k j hx hi
        split at hv
        · rename_i hbd
          obtain rfl := Option.some.inj hv
          refine Ends.value (w' := w) ?_ hn
          have : s[j.toNat]? = some (s[j.toNat]'hbd.2) := by simp [hbd.2]
          simp [Instr.index, hi, asIntOf, run_underlying hT, hx, hbd.1, this]
        · cases hv
      · cases hv
    · exact sound_raw hb hl h
  · -- extract
    obtain rfl := Option.some.inj hl
    obtain ⟨v, hv, hn⟩ := h
    simp only [PV.val] at hv
    split at hv
    · rename_i vs hx
      refine Ends.value (w' := w) ?_ hn
      simp [Instr.extract, hx, hv]
    · cases hv
  · -- len
    rename_i args ts
    split at hl
    · rename_i x T ha ht
      have ha' : args = #[x] := by rw [← Array.toArray_toList (xs := args), ha]
      have ht' : ts = #[T] := by rw [← Array.toArray_toList (xs := ts), ht]
      subst ha' ht'
      split at hl
      · rename_i hT
        obtain rfl := Option.some.inj hl
        obtain ⟨v, hv, hn⟩ := h
        exact sound_slen hT hv hn
      · rename_i el hT
        obtain rfl := Option.some.inj hl
        obtain ⟨v, hv, hn⟩ := h
        exact sound_len hT hv hn
      · exact sound_raw hb hl h
    · cases hl
  · exact sound_call hb hl h
  · -- panic
    obtain rfl := Option.some.inj hl
    obtain ⟨T, v, h1, h2⟩ := h
    simp only [execOp, mkOper, Instr.panic, h1, Sem.run_bind, run_goPanic, Result.andThen_halt]
    exact h2
  · exact sound_raw hb hl h
end
end Go.Proofs.Ytohmgkcdjapinaa.Lw
namespace Go.Proofs.Ytohmgkcdjapinaa.Lw

/-! ### 1. Regions -/
def slotOf (ops : Array Oper) (j : Nat) : Option Nat := (ops[j]?).bind (·.dst)
/-- How many slots there are, and which of them are kept as they are. -/
structure Dim where
  n : Nat
  prot : List Nat
  loads : Bool := true
def stillIn (n : Dim) (o : LOp) : Bool := if n.loads then stillOp o else match o with | .pv _ => true | _ => false
def notIn (d : Nat) : List Nat → Bool
  | [] => true
  | p :: l => !(Nat.beq d p) && notIn d l
theorem notIn_spec {d : Nat} : ∀ {l : List Nat}, notIn d l = true → ∀ p ∈ l, p ≠ d
  | p :: l, h, q, hq => by
    simp only [notIn, Bool.and_eq_true, Bool.not_eq_true'] at h
    rcases List.mem_cons.1 hq with rfl | hq
    · rintro rfl; simp at h
    · exact notIn_spec h.2 q hq
def dstOk (n : Dim) (d : Option Nat) : Bool := match d with | some d => Nat.blt d n.n && notIn d n.prot | none => true
def lowOper (P : Program) (n : Dim) (ops : Array Oper) (o : Oper) : Option LOper :=
  if dstOk n o.dst then
    match lowOp P o.type o.op with
    | none => none
    | some lo =>
      match o.guard with
      | none => some ⟨o.dst, none, lo⟩
      | some (j, b) => match slotOf ops j with
        | some t => if Nat.blt t n.n then some ⟨o.dst, some (t, b), lo⟩ else none
        | none => none
  else none
def lowList (P : Program) (n : Dim) (ops : Array Oper) : List Oper → Option (List LOper)
  | [] => some []
  | o :: l => match lowOper P n ops o with
    | none => none
    | some lo => match lowList P n ops l with
      | none => none
      | some r => some (lo :: r)

/-- The order in which a region that draws is walked: still operations first; where none may come up, each of the others that may. -/
def alts (g : Nat → Option DT) : List Nat → Option DT
  | [] => none
  | [i] => g i
  | i :: r => match g i, alts g r with
    | some a, some b => some (.alt a b)
    | _, _ => none
def orderGo (P : Program) (n : Dim) (ops : Array Oper) : Nat → Array Bool → Option DT
  | 0, listed => if Region.ready .any ops listed = [] then some .nil else none
  | fuel + 1, listed =>
    let rs := Region.ready .any ops listed
    if rs = [] then some .nil else
    match rs.find? (fun i => Region.free .any ops listed i && ((ops[i]?).bind (fun o => (lowOp P o.type o.op).map (stillIn n))).getD false) with
    | some i => match ops[i]? with
      | some o => match lowOper P n ops o, orderGo P n ops fuel (listed.setIfInBounds i true) with
        | some lo, some r => some (.still lo r)
        | _, _ => none
      | none => none
    | none => alts (fun i => match ops[i]? with
        | some o => match lowOper P n ops o, orderGo P n ops fuel (listed.setIfInBounds i true) with
          | some lo, some r => some (.eff lo r)
          | _, _ => none
        | none => none) rs
def order (P : Program) (n : Dim) (ops : Array Oper) : Option DT :=
  if Region.noSelect ops then orderGo P n ops ops.size (Array.replicate ops.size false) else none

def lowC (P : Program) (n : Dim) : Code → Option LC
  | .skip => some .skip
  | .region _ ops draw =>
    if draw then (if P.follows .mixedOrders then (order P n ops).map .dreg else none)
    else (lowList P n ops ops.toList).map .reg
  | .seq a b => match lowC P n a, lowC P n b with
    | some a, some b => some (.seq a b)
    | _, _ => none
  | .cond c a b => match lowC P n a, lowC P n b with
    | some a, some b => some (.cond c a b)
    | _, _ => none
  | .block id a => (lowC P n a).map (.block id)
  | .loop a => (lowC P n a).map .loop
  | .exit id => some (.exit id)
  | .ret => some .ret
  | _ => none

/-! ### 2. Frames of the model and ours -/
structure Kp where
  ds : List Deferred
  prot : List (Nat × Value)
def Kept (K : Kp) (a : Act) : Prop := ∀ q ∈ K.prot, a.tmps.getD q.1 undef = q.2
structure Rep (n : Dim) (a : Act) (e : Env) (ds : Kp) : Prop where
  size : a.tmps.size = n.n
  val : ∀ t, a.tmps.getD t undef = e t
  defs : a.defers = ds.ds
  keys : ∀ q ∈ ds.prot, q.1 ∈ n.prot
  prot : Kept ds a
theorem Rep.eval {n : Dim} {a : Act} {e : Env} {ds : Kp} (h : Rep n a e ds) : a.eval = ev e := by
  funext x
  cases x with
  | tmp t => exact h.val t
  | _ => rfl
theorem kept_put {n : Dim} {a : Act} {ds : Kp} {d : Nat} (hk : ∀ q ∈ ds.prot, q.1 ∈ n.prot) (hd : notIn d n.prot = true) (v : Value) : Kept ds (a.put (some d) v) ↔ Kept ds a := by
  have key : ∀ q ∈ ds.prot, (a.put (some d) v).tmps.getD q.1 undef = a.tmps.getD q.1 undef := by
    intro q hq
    have := notIn_spec hd _ (hk q hq)
    simp [Act.put, Array.getD_eq_getD_getElem?, Array.getElem?_setIfInBounds_ne (Ne.symm this)]
  exact ⟨fun h q hq => by rw [← key q hq]; exact h q hq, fun h q hq => by rw [key q hq]; exact h q hq⟩
theorem Rep.put {n : Dim} {a : Act} {e : Env} {ds : Kp} (h : Rep n a e ds) (d : Option Nat) (hd : dstOk n d = true) (v : Value) : Rep n (a.put d v) (updO e d v) ds := by
  cases d with
  | none => exact h
  | some d =>
    simp only [dstOk, Bool.and_eq_true] at hd
    have hd' : d < a.tmps.size := by rw [h.size]; simpa using hd.1
    refine ⟨by simp [Act.put, h.size], fun t => ?_, h.defs, h.keys, (kept_put h.keys hd.2 v).2 h.prot⟩
    simp only [Act.put, updO, upd]
    by_cases ht : t = d
    · subst ht
      simp [Array.getD_eq_getD_getElem?, hd']
    · rw [if_neg ht, ← h.val t]
      simp [Array.getD_eq_getD_getElem?, Array.getElem?_setIfInBounds_ne (Ne.symm ht)]

/-- What a post on frames of ours says of the model's. -/
def liftQ (n : Dim) (ds : Kp) (p : Chain → World → Prop) (Q : Exit → Env → World → Prop) : Exit → Act → World → Prop
  | .panic ch, a, w => (a.defers = ds.ds ∧ Kept ds a) ∧ p ch w
  | .outgrown, _, _ => False
  | x, a, w => ∃ e, Rep n a e ds ∧ Q x e w

section
variable {P : Program} {p : Chain → World → Prop} {n : Dim} {ds : Kp} {Q : Exit → Env → World → Prop}

theorem wanted_low {ops : Array Oper} {o : Oper} {lo : LOper} (hlo : lowOper P n ops o = some lo) {a : Act} {e : Env} (h : Rep n a e ds) :
    Region.wanted o (yielded ops a.tmps) = wantedE e lo.guard ∧ lo.dst = o.dst ∧ dstOk n o.dst = true ∧ lowOp P o.type o.op = some lo.op := by
  unfold lowOper at hlo
  split at hlo
  · rename_i hd
    split at hlo
    · cases hlo
    rename_i l hl
    split at hlo
    · rename_i hg
      obtain rfl := Option.some.inj hlo
      exact ⟨by simp [Region.wanted, hg, wantedE], rfl, hd, hl⟩
    · rename_i j b hg
      split at hlo
      · rename_i t ht
        split at hlo
        · rename_i htn
          obtain rfl := Option.some.inj hlo
          refine ⟨?_, rfl, hd, hl⟩
          have htn' : t < a.tmps.size := by rw [h.size]; simpa using htn
          have hv := h.val t
          simp only [Array.getD_eq_getD_getElem?, Array.getElem?_eq_getElem htn', Option.getD_some] at hv
          simp only [Region.wanted, hg, wantedE, yielded]
          have ht' : (ops[j]?).bind (·.dst) = some t := ht
          rw [ht']
          simp only [Option.bind_some, Array.getElem?_eq_getElem htn', hv]
          cases e t <;> simp
        · cases hlo
      · cases hlo
  · cases hlo

theorem upon_of_ends {o : Oper} {a : Act} {w : World} {next : Value → World → Prop} {nextA : Act → World → Prop} {QA : Exit → Act → World → Prop}
    (h : Ends P p next false ((execOp a.eval (mkOper o.type o.op)).run P w)) (hn : ∀ v w', next v w' → nextA (a.put o.dst v) w') (hp : ∀ ch w', p ch w' → QA (.panic ch) a w') :
    o.upon P a nextA QA ((execOp a.eval o).run P w) := by
  rw [execOp_mk]
  generalize (execOp a.eval (mkOper o.type o.op)).run P w = r at h
  unfold Ends at h
  split at h
  · exact hn _ _ h
  · exact hn _ _ h.2
  · refine Calls.mono h.2 fun en w'' hr => ?_
    cases en with
    | returned v => exact hn _ _ hr
    | panicked ch => exact hp _ _ hr
    | outgrown => exact hr.elim
  · exact hp _ _ h
  · exact h.elim

theorem WL_sound {ops : Array Oper} : ∀ (l : List Oper) (ll : List LOper), lowList P n ops l = some ll → ∀ (e : Env) (w : World) (a : Act), Rep n a e ds → WL P p Q ll e w →
    wpList P ops (liftQ n ds p Q) l a w
  | [], ll, hl, e, w, a, hr, h => by
    simp only [lowList, Option.some.injEq] at hl
    subst hl
    exact ⟨e, hr, h⟩
  | o :: l, ll, hl, e, w, a, hr, h => by
    simp only [lowList] at hl
    split at hl
    · cases hl
    rename_i lo hlo
    split at hl
    · cases hl
    rename_i r hr2
    obtain rfl := Option.some.inj hl
    obtain ⟨hw, hd, hdn, hop⟩ := wanted_low hlo hr
    simp only [WL] at h
    unfold wpList
    rw [hw]
    split
    · rename_i hwt
      rw [if_pos hwt] at h
      refine .inl ?_
      unfold Oper.wp
      refine upon_of_ends (next := fun v w' => WL P p Q r (updO e lo.dst v) w') (p := p) ?_ (fun v w' hv => ?_) (fun ch w' hc => ⟨⟨hr.defs, hr.prot⟩, hc⟩)
      · rw [hr.eval]; exact sound_op (by simp) hop h
      · rw [hd] at hv
        exact WL_sound l r hr2 _ _ _ (hr.put o.dst hdn v) hv
    · rename_i hwt
      rw [if_neg hwt] at h
      rw [hd] at h
      exact WL_sound l r hr2 _ _ _ (hr.put o.dst hdn undef) h

/-! ### 3. A region that draws -/
theorem still_run {t : TypeId} {op : Op} {lo : LOp} (hs : stillOp lo = true) (hl : lowOp P t op = some lo) {e : Env} {w : World} {v : Value} (h : lo.wp P (fun _ _ => False) e w (fun v' w' => v' = v ∧ w' = w)) :
    (execOp (ev e) (mkOper t op)).run P w = .ok (.value v) w := by
  have := sound_op (b := true) (fun _ => hs) hl h
  unfold Ends at this
  split at this
  · rename_i he; obtain ⟨rfl, rfl⟩ := this; exact he
  · exact absurd this.1 (by simp)
  · exact absurd this.1 (by simp)
  · exact this.elim
  · exact this.elim

theorem stillV_wp {S : World → Prop} {e : Env} {next : Value → Prop} {lo : LOp} (h : stillV S e next lo) :
    stillOp lo = true ∧ ∃ v, next v ∧ ∀ w, S w → lo.wp P (fun _ _ => False) e w (fun v' w' => v' = v ∧ w' = w) := by
  cases lo with
  | pv q => obtain ⟨v, h1, h2⟩ := h; exact ⟨rfl, v, h2, fun w _ => ⟨v, h1, rfl, rfl⟩⟩
  | load x => obtain ⟨a, v, h1, h2, h3⟩ := h; exact ⟨rfl, v, h3, fun w hw => ⟨a, v, h1, h2 w hw, rfl, rfl⟩⟩
  | loadN k x => obtain ⟨a, vs, h1, h2, h3, h4⟩ := h; exact ⟨rfl, _, h4, fun w hw => ⟨a, vs, h1, h2, h3 w hw, rfl, rfl⟩⟩
  | _ => exact h.elim

theorem liftQ_panic_put {c : Chain} {a : Act} {d : Option Tmp} {v : Value} {w : World} (hk : ∀ q ∈ ds.prot, q.1 ∈ n.prot) (hd : dstOk n d = true) (h : liftQ n ds p Q (.panic c) (a.put d v) w) : liftQ n ds p Q (.panic c) a w := by
  cases d with
  | none => exact h
  | some d =>
    simp only [dstOk, Bool.and_eq_true] at hd
    exact ⟨⟨h.1.1, (kept_put hk hd.2 v).1 h.1.2⟩, h.2⟩

theorem alts_spec {S : World → Prop} {e : Env} {w : World} {g : Nat → Option DT} : ∀ (rs : List Nat) (t : DT), alts g rs = some t → WD P p S Q t e w → ∀ i ∈ rs, ∃ u, g i = some u ∧ WD P p S Q u e w
  | [], _, h, _ => by simp [alts] at h
  | [i], t, h, hw => fun j hj => by
    obtain rfl := List.mem_singleton.1 hj
    exact ⟨t, h, hw⟩
  | i :: k :: r, t, h, hw => fun j hj => by
    simp only [alts] at h
    split at h
    · rename_i a b ha hb
      obtain rfl := Option.some.inj h
      rcases List.mem_cons.1 hj with rfl | hj
      · exact ⟨a, ha, hw.1⟩
      · exact alts_spec (k :: r) b hb hw.2 j hj
    · cases h

theorem WD_sound {S : World → Prop} {ops : Array Oper} (hs : Region.noSelect ops = true) : ∀ (fuel : Nat) (listed : Array Bool) (t : DT), orderGo P n ops fuel listed = some t →
    ∀ (e : Env) (w : World) (a : Act), Rep n a e ds → WD P p S Q t e w → wpAnyH P .any ops (liftQ n ds p Q) S fuel listed a w
  | 0, listed, l, hl, e, w, a, hr, h => by
    simp only [orderGo] at hl
    split at hl
    · rename_i h0
      obtain rfl := Option.some.inj hl
      exact wpAnyH_done h0 ⟨e, hr, h⟩ 0
    · cases hl
  | fuel + 1, listed, l, hl, e, w, a, hr, h => by
    simp only [orderGo] at hl
    split at hl
    · rename_i h0
      obtain rfl := Option.some.inj hl
      exact wpAnyH_done h0 ⟨e, hr, h⟩ _
    rename_i hne
    split at hl
    · rename_i i hfind
      have hmem := List.mem_of_find?_eq_some hfind
      have hp := List.find?_some hfind
      simp only [Bool.and_eq_true] at hp
      split at hl
      · rename_i o ho
        split at hl
        · rename_i lo r hlo hgo
          obtain rfl := Option.some.inj hl
          obtain ⟨hw, hd, hdn, hop⟩ := wanted_low hlo hr
          simp only [WD] at h
          obtain ⟨hSw, h⟩ := h
          split at h
          · rename_i hwt
            obtain ⟨hst, v, hv, hrun⟩ := stillV_wp (P := P) h
            refine wpAnyH_take (v := v) ho hs hp.1 (by simpa using hmem) (fun c a w hq => liftQ_panic_put hr.keys hdn hq) (.inl ⟨by rw [hw]; exact hwt, fun w' hw' => ?_⟩) hSw (WD_sound hs fuel _ r hgo _ _ _ (hr.put o.dst hdn v) (by rw [hd] at hv; exact hv))
            rw [execOp_mk, hr.eval]
            exact still_run hst hop (hrun w' hw')
          · rename_i hwt
            refine wpAnyH_take (v := undef) ho hs hp.1 (by simpa using hmem) (fun c a w hq => liftQ_panic_put hr.keys hdn hq) (.inr ⟨by rw [hw]; simpa using hwt, rfl⟩) hSw (WD_sound hs fuel _ r hgo _ _ _ (hr.put o.dst hdn undef) (by rw [hd] at h; exact h))
        · cases hl
      · cases hl
    · refine wpAnyH_all rfl hne fun i hi => ?_
      obtain ⟨u, hu, h⟩ := alts_spec _ _ hl h i hi
      split at hu
      · rename_i o ho
        split at hu
        · rename_i lo r hlo hgo
          obtain rfl := Option.some.inj hu
          obtain ⟨hw, hd, hdn, hop⟩ := wanted_low hlo hr
          simp only [WD] at h
          unfold wpOp
          simp only [ho]
          rw [hw]
          split
          · rename_i hwt
            rw [if_pos hwt] at h
            refine .inl ?_
            unfold Oper.wp
            refine upon_of_ends (next := fun v w' => S w' ∧ WD P p S Q r (updO e lo.dst v) w') (p := p) ?_ (fun v w' hv => ⟨hv.1, ?_⟩) (fun ch w' hc => ⟨⟨hr.defs, hr.prot⟩, hc⟩)
            · rw [hr.eval]; exact sound_op (by simp) hop h
            · have hv2 := hv.2
              rw [hd] at hv2
              exact WD_sound hs fuel _ r hgo _ _ _ (hr.put o.dst hdn v) hv2
          · rename_i hwt
            rw [if_neg hwt] at h
            rw [hd] at h
            exact ⟨h.1, WD_sound hs fuel _ r hgo _ _ _ (hr.put o.dst hdn undef) h.2⟩
        · cases hu
      · cases hu

/-! ### 4. Code -/
theorem liftQ_then {x : Exit} {a : Act} {w : World} {next : Env → World → Prop} {nextA : Act → World → Prop} (hn : ∀ e a w, Rep n a e ds → next e w → nextA a w)
    (h : liftQ n ds p (thenW next Q) x a w) : Exit.then nextA (liftQ n ds p Q) x a w := by
  cases x with
  | normal => obtain ⟨e, hr, h⟩ := h; exact hn _ _ _ hr h
  | _ => exact h
theorem liftQ_block {id : Nat} {x : Exit} {a : Act} {w : World} (h : liftQ n ds p (inBlockW id Q) x a w) : Exit.inBlock id (liftQ n ds p Q) x a w := by
  cases x with
  | exit id' =>
    obtain ⟨e, hr, h⟩ := h
    simp only [inBlockW] at h
    simp only [Exit.inBlock]
    split
    · rename_i he; rw [if_pos he] at h; exact ⟨e, hr, h⟩
    · rename_i he; rw [if_neg he] at h; exact ⟨e, hr, h⟩
  | _ => exact h

theorem WC_sound : ∀ (c : Code) (lc : LC), lowC P n c = some lc → ∀ (Q : Exit → Env → World → Prop) (e : Env) (w : World) (a : Act), Rep n a e ds → WC P p lc Q e w →
    c.wp P (liftQ n ds p Q) a w := by
  intro c
  induction c with
  | skip =>
    intro lc hl Q e w a hr h
    simp only [lowC, Option.some.injEq] at hl
    subst hl
    exact wp_skip ⟨e, hr, h⟩
  | region id ops draw =>
    intro lc hl Q e w a hr h
    simp only [lowC] at hl
    split at hl
    · rename_i hd
      subst hd
      split at hl
      · rename_i hm
        obtain ⟨l, ho, rfl⟩ := Option.map_eq_some_iff.1 hl
        unfold order at ho
        split at ho
        · rename_i hns
          obtain ⟨S, h⟩ := h
          exact wp_region_held (S := S) hm (WD_sound hns _ _ _ ho e _ a hr h)
        · cases ho
      · cases hl
    · rename_i hd
      have : draw = false := by simpa using hd
      subst this
      obtain ⟨l, hl', rfl⟩ := Option.map_eq_some_iff.1 hl
      exact wp_region_list (WL_sound _ _ hl' e w a hr h)
  | seq x y ihx ihy =>
    intro lc hl Q e w a hr h
    simp only [lowC] at hl
    split at hl
    · rename_i lx ly hx hy
      obtain rfl := Option.some.inj hl
      refine wp_seq (Code.wp_mono ?_ (ihx lx hx _ e w a hr h))
      intro ex a' w' hq
      exact liftQ_then (fun e a w hr h => ihy ly hy Q e w a hr h) hq
    · cases hl
  | cond c x y ihx ihy =>
    intro lc hl Q e w a hr h
    simp only [lowC] at hl
    split at hl
    · rename_i lx ly hx hy
      obtain rfl := Option.some.inj hl
      obtain ⟨t, ht, h1, h2⟩ := h
      refine wp_cond (t := t) (by rw [hr.eval]; exact ht) ?_
      cases t with
      | true => exact ihx lx hx Q e w a hr (h1 rfl)
      | false => exact ihy ly hy Q e w a hr (h2 rfl)
    · cases hl
  | block id x ih =>
    intro lc hl Q e w a hr h
    simp only [lowC] at hl
    obtain ⟨lx, hx, rfl⟩ := Option.map_eq_some_iff.1 hl
    exact wp_block (Code.wp_mono (fun ex a' w' hq => liftQ_block hq) (ih lx hx _ e w a hr h))
  | loop x ih =>
    intro lc hl Q e w a hr h
    simp only [lowC] at hl
    obtain ⟨lx, hx, rfl⟩ := Option.map_eq_some_iff.1 hl
    obtain ⟨I, μ, h0, hround⟩ := h
    refine wp_loop (fun a w => Rep n a (fun t => a.tmps.getD t undef) ds ∧ I (fun t => a.tmps.getD t undef) w) (fun a w => μ (fun t => a.tmps.getD t undef) w) ?_ ?_
    · have he : (fun t => a.tmps.getD t undef) = e := funext hr.val
      rw [he]
      exact ⟨hr, h0⟩
    · intro a w ⟨hr, hI⟩
      refine Code.wp_mono ?_ (ih lx hx _ _ w a hr (hround _ w hI))
      intro ex a' w' hq
      refine liftQ_then (fun e a' w' hr' hn => ?_) hq
      have he : (fun t => a'.tmps.getD t undef) = e := funext hr'.val
      rw [he]
      exact ⟨⟨hr', hn.1⟩, hn.2⟩
  | exit id =>
    intro lc hl Q e w a hr h
    simp only [lowC, Option.some.injEq] at hl
    subst hl
    exact wp_exit ⟨e, hr, h⟩
  | ret =>
    intro lc hl Q e w a hr h
    simp only [lowC, Option.some.injEq] at hl
    subst hl
    exact wp_ret ⟨e, hr, h⟩
  | _ => intro lc hl; simp [lowC] at hl
end
end Go.Proofs.Ytohmgkcdjapinaa.Lw
namespace Go.Proofs.Ytohmgkcdjapinaa.Lw

/-- A string out of its bytes. -/
def S (l : List UInt8) : Value := .string ⟨l.toArray⟩

inductive LRes where
  | tmp (t : Nat)
  | cell (t : Nat)
  | cells (t n : Nat)
def lowRes1 (P : Program) : ResultVar → Option LRes
  | .tmp t => some (.tmp t)
  | .cell t T => match P.underlying T with
    | some d => if aggD d then ((P.info? T).map (·.size)).map (.cells t) else some (.cell t)
    | none => none
def lowRes (P : Program) : List ResultVar → Option (List LRes)
  | [] => some []
  | r :: l => match lowRes1 P r, lowRes P l with
    | some r, some l => some (r :: l)
    | _, _ => none
structure LFun where
  n : Nat
  res : List LRes
  body : LC
def lowFnG (b : Bool) (P : Program) (fn : Func) : Option LFun :=
  match fn.body with
  | some c => match lowC P ⟨fn.ntmps, [], b⟩ c, lowRes P fn.results.toList with
    | some lc, some rs => some ⟨fn.ntmps, rs, lc⟩
    | _, _ => none
  | none => none
abbrev lowFn := lowFnG true

def res1 (e : Env) (w : World) (v : Value) : LRes → Prop
  | .tmp t => v = e t
  | .cell t => ∃ a, e t = .pointer (some a) ∧ w.cell? a = some v
  | .cells t n => ∃ a vs, e t = .pointer (some a) ∧ vs.length = n ∧ Cells w a vs ∧ v = .agg vs.toArray
def resAll (e : Env) (w : World) : List Value → List LRes → Prop
  | [], [] => True
  | v :: vs, r :: rs => res1 e w v r ∧ resAll e w vs rs
  | _, _ => False
def tupV (vs : List Value) : Value := match vs with | [v] => v | vs => .tuple vs.toArray
/-- What is left to show where a function returns. -/
def retQ (rs : List LRes) (R : Ending → World → Prop) : Exit → Env → World → Prop
  | .normal, e, w | .ret, e, w => ∃ vs, resAll e w vs rs ∧ R (.returned (tupV vs)) w
  | _, _, _ => False
def panQ (R : Ending → World → Prop) : Chain → World → Prop := fun ch w => R (.panicked ch) w

def resOf (tmps : Array Value) : ResultVar → Sem Value
  | .tmp t => pure (tmps.getD t undef)
  | .cell a t => do loadVar t (← asAddr (tmps.getD a undef))
theorem run_res1 (P : Program) (tmps : Array Value) (e : Env) (he : ∀ t, tmps.getD t undef = e t) (w : World) (r : ResultVar) (lr : LRes) (h : lowRes1 P r = some lr) (v : Value) (hv : res1 e w v lr) :
    (resOf tmps r).run P w = .ok v w := by
  cases r with
  | tmp t =>
    simp only [lowRes1, Option.some.injEq] at h
    subst h
    simp only [res1] at hv
    simp [resOf, he, hv]
  | cell t T =>
    simp only [lowRes1] at h
    split at h
    · rename_i d hd
      split at h
      · rename_i ha
        obtain ⟨n, hn, rfl⟩ := Option.map_eq_some_iff.1 h
        obtain ⟨a, vs, h1, rfl, h3, rfl⟩ := hv
        simp only [resOf, he, h1, asAddr, Sem.run_bind, Sem.run_pure, Result.andThen_ok, loadVar, run_isAgg P T w d hd, ha, if_true, info_size hn, run_loadCells' h3]
      · rename_i ha
        obtain rfl := Option.some.inj h
        obtain ⟨a, h1, h2⟩ := hv
        have ha' : aggD d = false := by simpa using ha
        simp only [resOf, he, h1, asAddr, Sem.run_bind, Sem.run_pure, Result.andThen_ok, loadVar, run_isAgg P T w d hd, ha', Bool.false_eq_true, if_false, run_load, h2]
    · cases h
theorem run_results (P : Program) (fn : Func) (tmps : Array Value) (e : Env) (he : ∀ t, tmps.getD t undef = e t) (w : World) (lrs : List LRes) (h : lowRes P fn.results.toList = some lrs) (vs : List Value)
    (hv : resAll e w vs lrs) : (results fn tmps).run P w = .ok (tupV vs) w := by
  have key : ∀ (rs : List ResultVar) (lrs : List LRes) (vs : List Value), lowRes P rs = some lrs → resAll e w vs lrs →
      (rs.mapM (resOf tmps)).run P w = .ok vs w := by
    intro rs
    induction rs with
    | nil =>
      intro lrs vs h hv
      simp only [lowRes, Option.some.injEq] at h
      subst h
      cases vs with
      | nil => simp
      | cons v vs => exact hv.elim
    | cons r rs ih =>
      intro lrs vs h hv
      simp only [lowRes] at h
      split at h
      · rename_i lr lrs' h1 h2
        obtain rfl := Option.some.inj h
        cases vs with
        | nil => exact hv.elim
        | cons v vs =>
          obtain ⟨hv1, hv2⟩ := hv
          simp only [List.mapM_cons, Sem.run_bind, run_res1 P tmps e he w r lr h1 v hv1, Result.andThen_ok, ih lrs' vs h2 hv2, Sem.run_pure]
      · cases h
  have := key fn.results.toList lrs vs h hv
  have hr : results fn tmps = (do let vs ← fn.results.mapM (resOf tmps); pure (if h : vs.size = 1 then vs[0] else .tuple vs)) := by
    unfold results
    congr 1
  rw [hr, Array.mapM_eq_mapM_toList]
  simp only [Sem.run_bind, Sem.run_map, this, Result.andThen_ok, Sem.run_pure]
  cases vs with
  | nil => rfl
  | cons v vs => cases vs <;> rfl

def envL : Nat → List Value → Env
  | _, [] => bot
  | k, a :: l => upd (envL (k + 1) l) k a
theorem envL_get : ∀ (l : List Value) (k t : Nat), envL k l t = if k ≤ t then l.getD (t - k) undef else undef
  | [], k, t => by simp [envL, bot]
  | a :: l, k, t => by
    simp only [envL, upd, envL_get l (k + 1) t]
    by_cases h : t = k
    · subst h; simp
    · rw [if_neg h]
      by_cases h2 : k + 1 ≤ t
      · rw [if_pos h2, if_pos (by omega), show t - k = (t - (k + 1)) + 1 by omega]
        simp
      · rw [if_neg h2, if_neg (by omega)]

theorem rep_enter (b : Bool) (args : List Value) (n : Nat) (h : args.length ≤ n) : Rep ⟨n, [], b⟩ { tmps := args.toArray ++ Array.replicate (n - args.toArray.size) undef, defers := [] } (envL 0 args) ⟨[], []⟩ := by
  refine ⟨by simp; omega, fun t => ?_, rfl, by simp, by intro q hq; cases hq⟩
  rw [envL_get]
  simp only [Nat.zero_le, if_true, Nat.sub_zero]
  simp only [Array.getD_eq_getD_getElem?, List.getD_eq_getElem?_getD, Array.getElem?_append, List.size_toArray]
  split
  · simp
  · rename_i h1
    rw [List.getElem?_eq_none (by omega)]
    by_cases h2 : t - args.length < n - args.length
    · simp [h2]
    · simp [h2]

theorem enterF {b : Bool} {P : Program} {f : FuncId} {fn : Func} {lf : LFun} {args : List Value} {w : World} {R : Ending → World → Prop} (hf : P.funcs[f]? = some fn) (hl : lowFnG b P fn = some lf) (hn : Nat.ble args.length lf.n = true)
    (h : WC P (panQ R) lf.body (retQ lf.res R) (envL 0 args) w) : Calls P f args.toArray w R := by
  unfold lowFnG at hl
  split at hl
  · rename_i c hb
    split at hl
    · rename_i lc rs hc hr
      obtain rfl := Option.some.inj hl
      refine calls_of_wp hf hb (Code.wp_mono ?_ (WC_sound (ds := ⟨[], []⟩) c lc hc _ _ w _ (rep_enter b args fn.ntmps (by simpa using hn)) h))
      intro x a w hq
      cases x with
      | normal =>
        obtain ⟨e, hrep, vs, hvs, hR⟩ := hq
        exact ⟨hrep.defs, _, run_results P fn a.tmps e hrep.val w rs hr vs hvs, hR⟩
      | ret =>
        obtain ⟨e, hrep, vs, hvs, hR⟩ := hq
        exact ⟨hrep.defs, _, run_results P fn a.tmps e hrep.val w rs hr vs hvs, hR⟩
      | panic ch => exact ⟨hq.1.1, hq.2⟩
      | exit id => obtain ⟨_, _, hh⟩ := hq; exact hh.elim
      | goto l => obtain ⟨_, _, hh⟩ := hq; exact hh.elim
      | outgrown => exact hq.elim
    · cases hl
  · cases hl
end Go.Proofs.Ytohmgkcdjapinaa.Lw
namespace Go.Proofs.Ytohmgkcdjapinaa.Lw

/-! ### 1. Memory as a list of blocks -/
abbrev Blks := List (Nat × Obj)
def Blk (T : TypeId) (cs : List Value) : Obj := .cells cs.toArray T (0, 0)
abbrev keysOf (O : Blks) : List Nat := O.map (·.1)

/-- 'w' holds the blocks O; of what was there in w0 only the blocks K may have turned. -/
structure St (w0 : World) (K : List Nat) (w : World) (O : Blks) : Prop where
  os : w.os = w0.os
  tape : w.tape = w0.tape
  output : w.output = w0.output
  size : w0.heap.size ≤ w.heap.size
  rest : ∀ b, b < w0.heap.size → b ∉ K → w.heap[b]? = w0.heap[b]?
  hold : ∀ q ∈ O, w.heap[q.1]? = some q.2
  keys : ∀ q ∈ O, q.1 ∈ K ∨ w0.heap.size ≤ q.1
  nodup : (keysOf O).Nodup

structure At (w : World) (O : Blks) : Prop where
  hold : ∀ q ∈ O, w.heap[q.1]? = some q.2
  nodup : (keysOf O).Nodup

theorem St.init {w : World} {O : Blks} (h : At w O) : St w (keysOf O) w O :=
  ⟨rfl, rfl, rfl, Nat.le_refl _, fun _ _ _ => rfl, h.hold, fun q hq => .inl (List.mem_map_of_mem hq), h.nodup⟩
theorem At.nil (w : World) : At w [] := ⟨fun _ h => by simp at h, by simp [keysOf]⟩
theorem St.start (w : World) : St w [] w [] := St.init (At.nil w)

section
variable {w0 w : World} {K : List Nat} {O : Blks}
theorem St.lt (h : St w0 K w O) {q : Nat × Obj} (hq : q ∈ O) : q.1 < w.heap.size := (Array.getElem?_eq_some_iff.1 (h.hold q hq)).1
theorem St.perm (h : St w0 K w O) {O' : Blks} (hp : O.Perm O') : St w0 K w O' :=
  ⟨h.os, h.tape, h.output, h.size, h.rest, fun q hq => h.hold q (hp.mem_iff.2 hq), fun q hq => h.keys q (hp.mem_iff.2 hq), (hp.map (·.1)).nodup_iff.1 h.nodup⟩
theorem St.sub (h : St w0 K w O) {O' : Blks} (hs : O'.Sublist O) : St w0 K w O' :=
  ⟨h.os, h.tape, h.output, h.size, h.rest, fun q hq => h.hold q (hs.subset hq), fun q hq => h.keys q (hs.subset hq), (hs.map (·.1)).nodup h.nodup⟩
theorem St.at (h : St w0 K w O) : At w O := ⟨h.hold, h.nodup⟩
theorem St.at_left {F : Blks} (h : St w0 K w (O ++ F)) : At w O := (h.sub (List.sublist_append_left _ _)).at
theorem St.drew (h : St w0 K w O) (n : Nat) : St w0 K { w with drawn := n } O := ⟨h.os, h.tape, h.output, h.size, h.rest, h.hold, h.keys, h.nodup⟩

/-- Behind a call that was handed the blocks Oc. -/
theorem St.after {Oc F O' : Blks} {w' : World} (h : St w0 K w (Oc ++ F)) (h' : St w (keysOf Oc) w' O') : St w0 K w' (O' ++ F) := by
  have hF : ∀ q ∈ F, q.1 ∉ keysOf Oc := by
    intro q hq hm
    have := h.nodup
    simp only [keysOf, List.map_append, List.nodup_append] at this
    exact this.2.2 _ hm _ (List.mem_map_of_mem hq) rfl
  have hK : ∀ b, b < w0.heap.size → b ∉ K → b ∉ keysOf Oc := by
    intro b hb hk hm
    obtain ⟨q, hq, rfl⟩ := List.mem_map.1 hm
    rcases h.keys q (List.mem_append_left _ hq) with hh | hh
    · exact hk hh
    · omega
  refine ⟨h'.os.trans h.os, h'.tape.trans h.tape, h'.output.trans h.output, Nat.le_trans h.size h'.size, fun b hb hk => ?_, fun q hq => ?_, fun q hq => ?_, ?_⟩
  · rw [h'.rest b (Nat.lt_of_lt_of_le hb h.size) (hK b hb hk), h.rest b hb hk]
  · rcases List.mem_append.1 hq with hq | hq
    · exact h'.hold q hq
    · rw [h'.rest q.1 (h.lt (List.mem_append_right _ hq)) (hF q hq)]
      exact h.hold q (List.mem_append_right _ hq)
  · rcases List.mem_append.1 hq with hq | hq
    · rcases h'.keys q hq with hh | hh
      · obtain ⟨r, hr, hrq⟩ := List.mem_map.1 hh
        rw [← hrq]
        exact h.keys r (List.mem_append_left _ hr)
      · exact .inr (Nat.le_trans h.size hh)
    · exact h.keys q (List.mem_append_right _ hq)
  · simp only [keysOf, List.map_append, List.nodup_append]
    refine ⟨h'.nodup, ?_, ?_⟩
    · have := h.nodup
      simp only [keysOf, List.map_append, List.nodup_append] at this
      exact this.2.1
    · rintro a ha b hb rfl
      obtain ⟨q, hq, rfl⟩ := List.mem_map.1 ha
      obtain ⟨r, hr, hrq⟩ := List.mem_map.1 hb
      rcases h'.keys q hq with hh | hh
      · exact hF r hr (by rw [hrq]; exact hh)
      · have := h.lt (List.mem_append_right Oc hr)
        omega

/-- A new block. -/
theorem St.new (h : St w0 K w O) (o : Obj) : St w0 K (w.alloc o) (O ++ [(w.heap.size, o)]) := by
  refine ⟨h.os, h.tape, h.output, by have := h.size; simp; omega, fun b hb hk => ?_, fun q hq => ?_, fun q hq => ?_, ?_⟩
  · rw [heap_alloc_old w o (Nat.lt_of_lt_of_le hb h.size)]; exact h.rest b hb hk
  · rcases List.mem_append.1 hq with hq | hq
    · rw [heap_alloc_old w o (h.lt hq)]; exact h.hold q hq
    · obtain rfl := List.mem_singleton.1 hq
      exact heap_alloc_new w o
  · rcases List.mem_append.1 hq with hq | hq
    · exact h.keys q hq
    · obtain rfl := List.mem_singleton.1 hq
      exact .inr h.size
  · simp only [keysOf, List.map_append, List.nodup_append]
    refine ⟨h.nodup, by simp, ?_⟩
    rintro a ha b hb rfl
    obtain ⟨q, hq, rfl⟩ := List.mem_map.1 ha
    have := h.lt hq
    simp at hb
    omega

/-- One block of the list turned. -/
inductive Upd (b : Nat) (o o' : Obj) : Blks → Blks → Prop
  | head (l : Blks) : Upd b o o' ((b, o) :: l) ((b, o') :: l)
  | tail (q : Nat × Obj) {l l' : Blks} (h : Upd b o o' l l') : Upd b o o' (q :: l) (q :: l')
  | app (m : Blks) {l l' : Blks} (h : Upd b o o' l l') : Upd b o o' (m ++ l) (m ++ l')
theorem Upd.spec {b : Nat} {o o' : Obj} {l l' : Blks} (h : Upd b o o' l l') : ∃ x y, l = x ++ (b, o) :: y ∧ l' = x ++ (b, o') :: y := by
  induction h with
  | head l => exact ⟨[], l, rfl, rfl⟩
  | tail q h ih => obtain ⟨x, y, rfl, rfl⟩ := ih; exact ⟨q :: x, y, rfl, rfl⟩
  | app m h ih => obtain ⟨x, y, rfl, rfl⟩ := ih; exact ⟨m ++ x, y, by simp, by simp⟩
theorem Upd.mem {b : Nat} {o o' : Obj} {l l' : Blks} (h : Upd b o o' l l') : (b, o) ∈ l := by
  obtain ⟨x, y, rfl, _⟩ := h.spec; simp

/-- Only block b has turned. -/
theorem St.turn (h : St w0 K w O) {b : Nat} {o o' : Obj} {O' : Blks} (hu : Upd b o o' O O') {w' : World} (hos : w'.os = w.os) (ht : w'.tape = w.tape) (hout : w'.output = w.output) (hsz : w'.heap.size = w.heap.size)
    (hb : w'.heap[b]? = some o') (hne : ∀ k, k ≠ b → w'.heap[k]? = w.heap[k]?) : St w0 K w' O' := by
  obtain ⟨x, y, rfl, rfl⟩ := hu.spec
  have hnd := h.nodup
  have hk : keysOf (x ++ (b, o') :: y) = keysOf (x ++ (b, o) :: y) := by simp [keysOf]
  have hkeys := h.keys (b, o) (by simp)
  refine ⟨hos.trans h.os, ht.trans h.tape, hout.trans h.output, by rw [hsz]; exact h.size, fun k hk0 hkK => ?_, fun q hq => ?_, fun q hq => ?_, by rw [hk]; exact hnd⟩
  · have : k ≠ b := by
      rintro rfl
      rcases hkeys with hh | hh
      · exact hkK hh
      · simp only at hh; omega
    rw [hne k this]
    exact h.rest k hk0 hkK
  · by_cases hqb : q = (b, o')
    · subst hqb; exact hb
    · have hmem : q ∈ x ∨ q ∈ y := by
        rcases List.mem_append.1 hq with hh | hh
        · exact .inl hh
        · rcases List.mem_cons.1 hh with hh | hh
          · exact absurd hh hqb
          · exact .inr hh
      have hqk : q.1 ≠ b := by
        intro he
        simp only [keysOf, List.map_append, List.map_cons, List.nodup_append, List.nodup_cons] at hnd
        rcases hmem with hh | hh
        · exact hnd.2.2 q.1 (List.mem_map_of_mem hh) b (by simp) he
        · exact hnd.2.1.1 (by rw [← he]; exact List.mem_map_of_mem hh)
      rw [hne _ hqk]
      exact h.hold q (by rcases hmem with hh | hh <;> simp [hh])
  · have : q.1 ∈ keysOf (x ++ (b, o) :: y) := by rw [← hk]; exact List.mem_map_of_mem hq
    obtain ⟨r, hr, hrq⟩ := List.mem_map.1 this
    rw [← hrq]
    exact h.keys r hr

theorem add_none (b o k : Nat) : (⟨b, o, none⟩ : Addr).add k = ⟨b, o + k, none⟩ := by unfold Addr.add; split <;> simp_all
theorem cell_blk {b off : Nat} {T : TypeId} {cs : List Value} (h : w.heap[b]? = some (Blk T cs)) : w.cell? ⟨b, off, none⟩ = cs[off]? := by
  simp [World.cell?, h, Blk]
theorem frozen_blk {b off : Nat} {T : TypeId} {cs : List Value} (h : w.heap[b]? = some (Blk T cs)) : w.frozen? ⟨b, off, none⟩ = false := by
  simp [World.frozen?, h, Blk]
theorem St.cell (h : St w0 K w O) {b off : Nat} {T : TypeId} {cs : List Value} (hm : (b, Blk T cs) ∈ O) : w.cell? ⟨b, off, none⟩ = cs[off]? := cell_blk (h.hold _ hm)
theorem St.cells (h : St w0 K w O) {b off n : Nat} {T : TypeId} {cs : List Value} (hm : (b, Blk T cs) ∈ O) (hn : off + n ≤ cs.length) : Cells w ⟨b, off, none⟩ ((cs.drop off).take n) := by
  intro i hi
  rw [add_none, h.cell hm]
  simp only [List.length_take, List.length_drop] at hi
  rw [List.getElem?_take_of_lt (by omega), List.getElem?_drop]

def putList (cs : List Value) (off : Nat) (vs : List Value) : List Value := match vs with
  | [] => cs
  | v :: vs => putList (cs.set off v) (off + 1) vs
theorem putList_length (vs : List Value) : ∀ (cs : List Value) (off : Nat), (putList cs off vs).length = cs.length := by
  induction vs with
  | nil => intro cs off; rfl
  | cons v vs ih => intro cs off; simp [putList, ih]

theorem St.setCell (h : St w0 K w O) {b off : Nat} {T : TypeId} {cs : List Value} {O' : Blks} (v : Value) (hu : Upd b (Blk T cs) (Blk T (cs.set off v)) O O') : St w0 K (w.setCell ⟨b, off, none⟩ v) O' := by
  refine h.turn hu rfl rfl rfl (by simp) ?_ ?_
  · have := h.hold _ hu.mem
    simp only at this
    simp only [World.setCell, Array.getElem?_modify, ↓reduceIte, this, Option.map_some, Blk]
    simp
  · intro k hk
    simp only [World.setCell, Array.getElem?_modify]
    rw [if_neg (Ne.symm hk)]
theorem Upd.trans' {b : Nat} {o o1 o2 : Obj} {l l1 : Blks} (h : Upd b o o1 l l1) : ∃ l2, Upd b o1 o2 l1 l2 ∧ Upd b o o2 l l2 := by
  induction h with
  | head l => exact ⟨_, .head l, .head l⟩
  | tail q h ih => obtain ⟨l2, h1, h2⟩ := ih; exact ⟨_, .tail q h1, .tail q h2⟩
  | app m h ih => obtain ⟨l2, h1, h2⟩ := ih; exact ⟨_, .app m h1, .app m h2⟩
theorem Upd.fun {b : Nat} {o o' o2 : Obj} {l l' : Blks} (h : Upd b o o' l l') : ∀ l2, (∃ x y, l = x ++ (b, o) :: y ∧ l2 = x ++ (b, o2) :: y ∧ l' = x ++ (b, o') :: y) → Upd b o o2 l l2 := by
  intro l2 ⟨x, y, h1, h2, _⟩
  subst h1 h2
  exact .app x (.head y)
theorem Upd.of (b : Nat) (o o' : Obj) (x y : Blks) : Upd b o o' (x ++ (b, o) :: y) (x ++ (b, o') :: y) := .app x (.head y)

theorem St.putAll (vs : List Value) : ∀ {w : World} {O : Blks} (h : St w0 K w O) {b off k : Nat} {T : TypeId} {cs : List Value} {O' : Blks} (hu : Upd b (Blk T cs) (Blk T (putList cs (off + k) vs)) O O'),
    St w0 K (putAll w ⟨b, off, none⟩ k vs) O' := by
  induction vs with
  | nil =>
    intro w O h b off k T cs O' hu
    obtain ⟨x, y, rfl, rfl⟩ := hu.spec
    exact h
  | cons v vs ih =>
    intro w O h b off k T cs O' hu
    obtain ⟨x, y, rfl, rfl⟩ := hu.spec
    simp only [Lw.putAll, putList]
    rw [add_none]
    have h1 := h.setCell v (Upd.of b (Blk T cs) (Blk T (cs.set (off + k) v)) x y)
    exact ih h1 (k := k + 1) (Upd.of b _ _ x y)
theorem St.writable (h : St w0 K w O) {b off n : Nat} {T : TypeId} {cs : List Value} (hm : (b, Blk T cs) ∈ O) (hn : off + n ≤ cs.length) : Writable w ⟨b, off, none⟩ n := by
  intro i hi
  rw [add_none]
  refine ⟨⟨cs[off + i]'(by omega), ?_⟩, frozen_blk (h.hold _ hm)⟩
  rw [h.cell hm, List.getElem?_eq_getElem]
end
end Go.Proofs.Ytohmgkcdjapinaa.Lw
namespace Go.Proofs.Ytohmgkcdjapinaa.Lw

/-! ### 1. Posts -/
/-- It returns: of the value and of the blocks that were handed in R tells. -/
def Ret (w : World) (K : List Nat) (R : Value → Blks → Prop) : Ending → World → Prop
  | .returned v, w' => ∃ O', R v O' ∧ St w K w' O'
  | _, _ => False
/-- It returns, or panics. -/
def RetP (w : World) (K : List Nat) (R : Value → Blks → Prop) (Rp : Chain → Blks → Prop) : Ending → World → Prop
  | .returned v, w' => ∃ O', R v O' ∧ St w K w' O'
  | .panicked ch, w' => ∃ O', Rp ch O' ∧ St w K w' O'
  | .outgrown, _ => False
/-- A call that answers v and turns nothing that was there. -/
def Quiet (P : Program) (f : FuncId) (args : Array Value) (w : World) (v : Value) : Prop := Calls P f args w (Ret w [] fun u O' => u = v ∧ O' = [])

section
variable {P : Program} {p : Chain → World → Prop} {Q : Exit → Env → World → Prop} {e : Env} {w : World}

/-! ### 2. Control -/
theorem WC_skip (h : Q .normal e w) : WC P p .skip Q e w := h
theorem WC_reg {l : List LOper} (h : WL P p Q l e w) : WC P p (.reg l) Q e w := h
theorem WC_seq {a b : LC} (h : WC P p a (thenW (WC P p b Q) Q) e w) : WC P p (.seq a b) Q e w := h
theorem WC_block {id : Nat} {b : LC} (h : WC P p b (inBlockW id Q) e w) : WC P p (.block id b) Q e w := h
theorem WC_exit {id : Nat} (h : Q (.exit id) e w) : WC P p (.exit id) Q e w := h
theorem WC_ret (h : Q .ret e w) : WC P p .ret Q e w := h
theorem WC_true {c : Operand} {a b : LC} (hc : ev e c = .bool true) (h : WC P p a Q e w) : WC P p (.cond c a b) Q e w := ⟨true, hc, fun _ => h, fun h => (by cases h)⟩
theorem WC_false {c : Operand} {a b : LC} (hc : ev e c = .bool false) (h : WC P p b Q e w) : WC P p (.cond c a b) Q e w := ⟨false, hc, fun h => (by cases h), fun _ => h⟩
theorem WC_dec {c : Operand} {a b : LC} {q : Prop} {_ : Decidable q} (hc : ev e c = .bool (decide q)) (h1 : q → WC P p a Q e w) (h2 : ¬ q → WC P p b Q e w) : WC P p (.cond c a b) Q e w :=
  ⟨decide q, hc, fun h => h1 (of_decide_eq_true h), fun h => h2 (of_decide_eq_false h)⟩
theorem WC_not {c : Operand} {a b : LC} {q : Prop} {_ : Decidable q} (hc : ev e c = .bool (!decide q)) (h1 : ¬ q → WC P p a Q e w) (h2 : q → WC P p b Q e w) : WC P p (.cond c a b) Q e w :=
  ⟨!decide q, hc, fun h => h1 (by simpa using h), fun h => h2 (by simpa using h)⟩
theorem WC_beq {c : Operand} {a b : LC} {x y : Int} (hc : ev e c = .bool (x == y)) (h1 : x = y → WC P p a Q e w) (h2 : x ≠ y → WC P p b Q e w) : WC P p (.cond c a b) Q e w :=
  ⟨x == y, hc, fun h => h1 (by simpa using h), fun h => h2 (by simpa using h)⟩
theorem WC_bne {c : Operand} {a b : LC} {x y : Int} (hc : ev e c = .bool (x != y)) (h1 : x ≠ y → WC P p a Q e w) (h2 : x = y → WC P p b Q e w) : WC P p (.cond c a b) Q e w :=
  ⟨x != y, hc, fun h => h1 (by simpa using h), fun h => h2 (by simpa using h)⟩
theorem WC_bool {c : Operand} {a b : LC} {t : Bool} (hc : ev e c = .bool t) (h1 : t = true → WC P p a Q e w) (h2 : t = false → WC P p b Q e w) : WC P p (.cond c a b) Q e w := ⟨t, hc, h1, h2⟩
theorem WC_loop {b : LC} (I : Env → World → Prop) (μ : Env → World → Nat) (h0 : I e w) (h : ∀ e w, I e w → WC P p b (thenW (fun e' w' => I e' w' ∧ μ e' w' < μ e w) Q) e w) : WC P p (.loop b) Q e w := ⟨I, μ, h0, h⟩
theorem WC_mono : ∀ (c : LC) (Q Q' : Exit → Env → World → Prop) (e : Env) (w : World), (∀ x e w, Q x e w → Q' x e w) → WC P p c Q e w → WC P p c Q' e w := by
    intro c
    induction c with
    | skip => intro Q Q' e w hq h; exact hq _ _ _ h
    | reg l =>
      intro Q Q' e w hq h
      simp only [WC] at h ⊢
      induction l generalizing e w with
      | nil => exact hq _ _ _ h
      | cons o l ih =>
        simp only [WL] at h ⊢
        split
        · rename_i hw
          rw [if_pos hw] at h
          exact LOp.wp_mono (fun _ _ h => h) (fun v w' h => ih _ _ h) h
        · rename_i hw
          rw [if_neg hw] at h
          exact ih _ _ h
    | dreg t =>
      intro Q Q' e w hq h
      simp only [WC] at h ⊢
      obtain ⟨S, h⟩ := h
      refine ⟨S, ?_⟩
      generalize ({ w with drawn := w.drawn + 1 } : World) = w at h
      induction t generalizing e w with
      | nil => exact hq _ _ _ h
      | still o t ih =>
        simp only [WD] at h ⊢
        obtain ⟨hs, h⟩ := h
        refine ⟨hs, ?_⟩
        split
        · rename_i hw
          rw [if_pos hw] at h
          cases ho : o.op with
          | pv q => rw [ho] at h; obtain ⟨v, h1, h2⟩ := h; exact ⟨v, h1, ih _ _ h2⟩
          | load x => rw [ho] at h; obtain ⟨a, v, h1, h2, h3⟩ := h; exact ⟨a, v, h1, h2, ih _ _ h3⟩
          | loadN k x => rw [ho] at h; obtain ⟨a, v, h1, h2, h3, h4⟩ := h; exact ⟨a, v, h1, h2, h3, ih _ _ h4⟩
          | _ => rw [ho] at h; exact h.elim
        · rename_i hw
          rw [if_neg hw] at h
          exact ih _ _ h
      | eff o t ih =>
        simp only [WD] at h ⊢
        split
        · rename_i hw
          rw [if_pos hw] at h
          exact LOp.wp_mono (fun _ _ h => h) (fun v w' h => ⟨h.1, ih _ _ h.2⟩) h
        · rename_i hw
          rw [if_neg hw] at h
          exact ⟨h.1, ih _ _ h.2⟩
      | alt t u iht ihu => exact ⟨iht _ _ h.1, ihu _ _ h.2⟩
    | seq a b iha ihb =>
      intro Q Q' e w hq h
      refine iha _ _ e w (fun x e w hx => ?_) h
      cases x with
      | normal => exact ihb _ _ e w hq hx
      | _ => exact hq _ _ _ hx
    | cond c a b iha ihb =>
      intro Q Q' e w hq h
      obtain ⟨t, h1, h2, h3⟩ := h
      exact ⟨t, h1, fun ht => iha _ _ e w hq (h2 ht), fun ht => ihb _ _ e w hq (h3 ht)⟩
    | block id b ih =>
      intro Q Q' e w hq h
      refine ih _ _ e w (fun x e w hx => ?_) h
      cases x with
      | exit id' =>
        simp only [inBlockW] at hx ⊢
        split
        · rename_i hh; rw [if_pos hh] at hx; exact hq _ _ _ hx
        · rename_i hh; rw [if_neg hh] at hx; exact hq _ _ _ hx
      | _ => exact hq _ _ _ hx
    | loop b ih =>
      intro Q Q' e w hq h
      obtain ⟨I, μ, h0, hr⟩ := h
      refine ⟨I, μ, h0, fun e w hI => ih _ _ e w (fun x e w hx => ?_) (hr e w hI)⟩
      cases x with
      | normal => exact hx
      | _ => exact hq _ _ _ hx
    | exit id => intro Q Q' e w hq h; exact hq _ _ _ h
    | ret => intro Q Q' e w hq h; exact hq _ _ _ h
theorem WC_cut {a b : LC} (M : Env → World → Prop) (h1 : WC P p a (thenW M Q) e w) (h2 : ∀ e w, M e w → WC P p b Q e w) : WC P p (.seq a b) Q e w := by
  refine WC_mono a _ _ e w (fun x e w hx => ?_) h1
  cases x with
  | normal => exact h2 e w hx
  | _ => exact hx
theorem WC_dreg {t : DT} (S : World → Prop) (h : WD P p S Q t e { w with drawn := w.drawn + 1 }) : WC P p (.dreg t) Q e w := ⟨S, h⟩
theorem then_normal {next : Env → World → Prop} (h : next e w) : thenW next Q .normal e w := h
theorem then_exit {next : Env → World → Prop} {id : Nat} (h : Q (.exit id) e w) : thenW next Q (.exit id) e w := h
theorem then_ret {next : Env → World → Prop} (h : Q .ret e w) : thenW next Q .ret e w := h
theorem blk_normal {id : Nat} (h : Q .normal e w) : inBlockW id Q .normal e w := h
theorem blk_ret {id : Nat} (h : Q .ret e w) : inBlockW id Q .ret e w := h
theorem blk_hit {id : Nat} (h : Q .normal e w) : inBlockW id Q (.exit id) e w := by simpa [inBlockW] using h
theorem blk_miss {id id' : Nat} (hne : Nat.beq id' id = false) (h : Q (.exit id') e w) : inBlockW id Q (.exit id') e w := by
  have : id' ≠ id := by intro hh; simp [hh] at hne
  simpa [inBlockW, this] using h
theorem WL_nil (h : Q .normal e w) : WL P p Q [] e w := h

/-! ### 3. Values -/
def optW (o : Option Value) (k : Value → Prop) : Prop := match o with | some v => k v | none => False
@[congr] theorem optW_congr {o o' : Option Value} (h : o = o') (k : Value → Prop) : optW o k = optW o' k := by rw [h]
theorem optW_some (v : Value) (k : Value → Prop) : optW (some v) k = k v := rfl
def iteW (b : Bool) (x y : Prop) : Prop := if b then x else y
@[congr] theorem iteW_congr {b b' : Bool} (h : b = b') (x y : Prop) : iteW b x y = iteW b' x y := by rw [h]
theorem iteW_true (x y : Prop) : iteW true x y = x := by simp [iteW]
theorem iteW_false (x y : Prop) : iteW false x y = y := by simp [iteW]
variable {l : List LOper}
theorem WL_pv (d : Option Nat) (q : PV) (l : List LOper) : WL P p Q (⟨d, none, .pv q⟩ :: l) e w = optW (q.val e) (fun v => WL P p Q l (updO e d v) w) := by
  simp only [WL, wantedE, if_true, LOp.wp, optW]
  cases q.val e <;> simp
theorem WL_p {d : Nat} {q : PV} {v : Value} (hv : q.val e = some v) (h : WL P p Q l (upd e d v) w) : WL P p Q (⟨some d, none, .pv q⟩ :: l) e w := by
  rw [WL_pv, hv]; exact h
def isB (v : Value) (t : Bool) : Bool := match v with | .bool b => b == t | _ => false
theorem isB_undef (t : Bool) : isB undef t = false := rfl
theorem isB_bool (b t : Bool) : isB (.bool b) t = (b == t) := rfl
theorem WL_guard (d : Option Nat) (g : Nat) (t : Bool) (o : LOp) (l : List LOper) :
    WL P p Q (⟨d, some (g, t), o⟩ :: l) e w = iteW (isB (e g) t) (WL P p Q (⟨d, none, o⟩ :: l) e w) (WL P p Q l (updO e d undef) w) := by
  simp only [WL, wantedE, iteW, isB, if_true]
  rfl
theorem WL_do {d : Option Nat} {g : Nat} {t : Bool} {o : LOp} (hg : isB (e g) t = true) (h : WL P p Q (⟨d, none, o⟩ :: l) e w) : WL P p Q (⟨d, some (g, t), o⟩ :: l) e w := by
  rw [WL_guard, hg, iteW_true]; exact h
theorem WL_no {d g : Nat} {t : Bool} {o : LOp} (hg : isB (e g) t = false) (h : WL P p Q l (upd e d undef) w) : WL P p Q (⟨some d, some (g, t), o⟩ :: l) e w := by
  rw [WL_guard, hg, iteW_false]; exact h
theorem WL_split {d : Option Nat} {g : Nat} {t : Bool} {o : LOp} {c : Prop} {_ : Decidable c} (hg : e g = .bool (decide c)) (h1 : c → WL P p Q (⟨d, some (g, t), o⟩ :: l) (upd e g (.bool true)) w) (h2 : ¬ c → WL P p Q (⟨d, some (g, t), o⟩ :: l) (upd e g (.bool false)) w) :
    WL P p Q (⟨d, some (g, t), o⟩ :: l) e w := by
  by_cases hc : c
  · have := h1 hc
    rwa [upd_self (by rw [hg, decide_eq_true hc])] at this
  · have := h2 hc
    rwa [upd_self (by rw [hg, decide_eq_false hc])] at this
theorem WL_splitB {d : Option Nat} {g : Nat} {t : Bool} {o : LOp} {c : Bool} (hg : e g = .bool c) (h1 : c = true → WL P p Q (⟨d, some (g, t), o⟩ :: l) (upd e g (.bool true)) w) (h2 : c = false → WL P p Q (⟨d, some (g, t), o⟩ :: l) (upd e g (.bool false)) w) :
    WL P p Q (⟨d, some (g, t), o⟩ :: l) e w := by
  cases c with
  | true => have := h1 rfl; rwa [upd_self hg] at this
  | false => have := h2 rfl; rwa [upd_self hg] at this
theorem updO_some (e : Env) (d : Nat) (v : Value) : updO e (some d) v = upd e d v := rfl
theorem updO_none (e : Env) (v : Value) : updO e none v = e := rfl
theorem ev_tmp (e : Env) (t : Nat) : ev e (.tmp t) = e t := rfl
theorem ev_const (e : Env) (v : Value) : ev e (.const v) = v := rfl
theorem ev_func (e : Env) (f : FuncId) : ev e (.func f) = .func (.func f) #[] #[] := rfl
theorem ev_global (e : Env) (g : Nat) : ev e (.global g) = .pointer (some ⟨g, 0, none⟩) := rfl
section pvs
variable (e : Env)
theorem val_move (x : Operand) : PV.val e (.move x) = some (ev e x) := rfl
def pickV (c a b : Value) : Option Value := match c with | .bool t => some (if t then a else b) | _ => none
theorem pickV_true (a b : Value) : pickV (.bool true) a b = some a := rfl
theorem pickV_false (a b : Value) : pickV (.bool false) a b = some b := rfl
theorem pickV_bool (t a b : Bool) : pickV (.bool t) (.bool a) (.bool b) = some (.bool (if t then a else b)) := by cases t <;> rfl
theorem val_pick (c a b : Operand) : PV.val e (.pick c a b) = pickV (ev e c) (ev e a) (ev e b) := by
  simp only [PV.val, pickV]
  all_goals (cases ev e c <;> rfl)
def nilckV (x : Value) : Option Value := match x with | .pointer (some a) => some (.pointer (some a)) | _ => none
theorem nilckV_ptr (a : Addr) : nilckV (.pointer (some a)) = some (.pointer (some a)) := rfl
theorem val_nilck (x : Operand) : PV.val e (.nilck x) = nilckV (ev e x) := rfl
theorem val_bin (op : BinOp) (x y : Operand) : PV.val e (.bin op x y) = binV op (ev e x) (ev e y) := rfl
def beqV (neg : Bool) (x y : Value) : Option Value := match x, y with | .bool a, .bool b => some (.bool (if neg then a != b else a == b)) | _, _ => none
theorem val_beq (neg : Bool) (x y : Operand) : PV.val e (.beq neg x y) = beqV neg (ev e x) (ev e y) := rfl
theorem beqV_f (a b : Bool) : beqV false (.bool a) (.bool b) = some (.bool (a == b)) := rfl
theorem beqV_t (a b : Bool) : beqV true (.bool a) (.bool b) = some (.bool (a != b)) := rfl
def seqV (neg : Bool) (ks : List CK) (x y : Value) : Option Value := match x, y with | .agg a, .agg b => (cellsEq ks a.toList b.toList).map fun t => .bool (if neg then !t else t) | _, _ => none
theorem val_seq (neg : Bool) (ks : List CK) (x y : Operand) : PV.val e (.seq neg ks x y) = seqV neg ks (ev e x) (ev e y) := rfl
theorem seqV_f (ks : List CK) (a b : List Value) : seqV false ks (.agg a.toArray) (.agg b.toArray) = (cellsEq ks a b).map .bool := by simp [seqV]
theorem seqV_t (ks : List CK) (a b : List Value) : seqV true ks (.agg a.toArray) (.agg b.toArray) = (cellsEq ks a b).map fun t => .bool (!t) := by simp [seqV]
def notV (x : Value) : Option Value := match x with | .bool t => some (.bool !t) | _ => none
theorem notV_bool (t : Bool) : notV (.bool t) = some (.bool !t) := rfl
theorem val_not (x : Operand) : PV.val e (.not x) = notV (ev e x) := rfl
def toIntV (k : IntKind) (x : Value) : Option Value := match x with | .int _ n => some (.int k (k.wrap n)) | _ => none
theorem toIntV_int (k k' : IntKind) (n : Int) : toIntV k (.int k' n) = some (.int k (k.wrap n)) := rfl
theorem val_toInt (k : IntKind) (x : Operand) : PV.val e (.toInt k x) = toIntV k (ev e x) := rfl
def offV (x : Value) (k : Nat) : Option Value := match x with | .pointer (some a) => some (.pointer (some (a.add k))) | _ => none
theorem offV_ptr (b o k : Nat) : offV (.pointer (some ⟨b, o, none⟩)) k = some (.pointer (some ⟨b, o + k, none⟩)) := by simp [offV, add_none]
theorem val_off (x : Operand) (k : Nat) : PV.val e (.off x k) = offV (ev e x) k := rfl
def lenV (x : Value) : Option Value := match x with | .slice _ n _ => some (.int .i64 n) | _ => none
theorem lenV_slice (a : Option Addr) (n c : Nat) : lenV (.slice a n c) = some (.int .i64 n) := rfl
theorem val_len (x : Operand) : PV.val e (.len x) = lenV (ev e x) := rfl
def slenV (x : Value) : Option Value := match x with | .string s => some (.int .i64 s.size) | _ => none
theorem slenV_S (l : List UInt8) : slenV (S l) = some (.int .i64 l.length) := by simp [slenV, S, ByteArray.size]
theorem val_slen (x : Operand) : PV.val e (.slen x) = slenV (ev e x) := rfl
def extV (x : Value) (i : Nat) : Option Value := match x with | .tuple vs => vs[i]? | _ => none
theorem extV_tup (vs : List Value) (i : Nat) : extV (.tuple vs.toArray) i = vs[i]? := by simp [extV]
theorem val_ext (x : Operand) (i : Nat) : PV.val e (.ext x i) = extV (ev e x) i := rfl
theorem val_ifc (T : TypeId) (x : Operand) : PV.val e (.ifc T x) = some (.iface T (ev e x)) := rfl
theorem val_fn (f : FuncId) (caps : List Operand) : PV.val e (.fn f caps) = some (.func (.func f) #[] (caps.map (ev e)).toArray) := rfl
end pvs
theorem binV_int (op : BinOp) (k : IntKind) (a b : Int) (h : op ≠ .shl ∧ op ≠ .shr) : binV op (.int k a) (.int k b) = intV op k a b := by
  cases op <;> simp_all [binV]
section bins
variable (k : IntKind) (a b : Int)
theorem bin_add : binV .add (.int k a) (.int k b) = some (.int k (k.wrap (a + b))) := by simp [binV, intV]
theorem bin_sub : binV .sub (.int k a) (.int k b) = some (.int k (k.wrap (a - b))) := by simp [binV, intV]
theorem bin_mul : binV .mul (.int k a) (.int k b) = some (.int k (k.wrap (a * b))) := by simp [binV, intV]
theorem bin_quo (hb : b ≠ 0) : binV .quo (.int k a) (.int k b) = some (.int k (k.wrap (a.tdiv b))) := by simp [binV, intV, hb]
theorem bin_rem (hb : b ≠ 0) : binV .rem (.int k a) (.int k b) = some (.int k (a.tmod b)) := by simp [binV, intV, hb]
theorem bin_eql : binV .eql (.int k a) (.int k b) = some (.bool (decide (a = b))) := by simp only [binV, intV, if_true]; rfl
theorem bin_neq : binV .neq (.int k a) (.int k b) = some (.bool (decide (a ≠ b))) := by
  simp only [binV, intV, if_true, bne, ne_eq, decide_not]; rfl
theorem bin_lss : binV .lss (.int k a) (.int k b) = some (.bool (decide (a < b))) := by simp [binV, intV]
theorem bin_leq : binV .leq (.int k a) (.int k b) = some (.bool (decide (a ≤ b))) := by simp [binV, intV]
theorem bin_gtr : binV .gtr (.int k a) (.int k b) = some (.bool (decide (b < a))) := by simp [binV, intV]
theorem bin_geq : binV .geq (.int k a) (.int k b) = some (.bool (decide (b ≤ a))) := by simp [binV, intV]
theorem bin_shl (k' : IntKind) (hb : 0 ≤ b) : binV .shl (.int k a) (.int k' b) = some (.int k (k.wrap (a * 2 ^ (min b.toNat k.bits)))) := by simp [binV, Int.not_lt.2 hb]
theorem bin_shr (k' : IntKind) (hb : 0 ≤ b) : binV .shr (.int k a) (.int k' b) = some (.int k (a.fdiv (2 ^ (min b.toNat k.bits)))) := by simp [binV, Int.not_lt.2 hb]
theorem bin_and : binV .and (.int k a) (.int k b) = some (.int k (k.wrap (BitVec.ofInt k.bits a &&& BitVec.ofInt k.bits b).toNat)) := by simp [binV, intV, bitV]
theorem bin_or : binV .or (.int k a) (.int k b) = some (.int k (k.wrap (BitVec.ofInt k.bits a ||| BitVec.ofInt k.bits b).toNat)) := by simp [binV, intV, bitV]
theorem bin_xor : binV .xor (.int k a) (.int k b) = some (.int k (k.wrap (BitVec.ofInt k.bits a ^^^ BitVec.ofInt k.bits b).toNat)) := by simp [binV, intV, bitV]
end bins
theorem toList_mk (l : List UInt8) : (⟨l.toArray⟩ : ByteArray).toList = l := by rw [ByteArray.toList_eq]
theorem bin_seql (a b : List UInt8) : binV .eql (S a) (S b) = some (.bool (decide (a = b))) := by
  have : (a == b) = decide (a = b) := by rw [Bool.eq_iff_iff]; simp
  simp [binV, strV, S, toList_mk, this]
theorem bin_sneq (a b : List UInt8) : binV .neq (S a) (S b) = some (.bool (decide (a ≠ b))) := by
  have : (a == b) = decide (a = b) := by rw [Bool.eq_iff_iff]; simp
  simp [binV, strV, S, toList_mk, this]
theorem beq_dec (a b : List UInt8) : (a == b) = decide (a = b) := by rw [Bool.eq_iff_iff]; simp
theorem bin_slss (a b : List UInt8) : binV .lss (S a) (S b) = some (.bool (decide (Op.bytesLess a b = true))) := by simp [binV, strV, S, toList_mk]
theorem bin_sleq (a b : List UInt8) : binV .leq (S a) (S b) = some (.bool (decide (Op.bytesLess a b = true ∨ a = b))) := by simp [binV, strV, S, toList_mk, beq_dec]
theorem bin_sgtr (a b : List UInt8) : binV .gtr (S a) (S b) = some (.bool (decide (¬ (Op.bytesLess a b = true ∨ a = b)))) := by simp [binV, strV, S, toList_mk, beq_dec]
theorem bin_sgeq (a b : List UInt8) : binV .geq (S a) (S b) = some (.bool (decide (¬ Op.bytesLess a b = true))) := by simp [binV, strV, S, toList_mk]
theorem bin_sadd (a b : List UInt8) (h : a.length + b.length ≤ 9223372036854775807) : binV .add (S a) (S b) = some (S (a ++ b)) := by
  have : ¬ (((⟨a.toArray⟩ : ByteArray).size + (⟨b.toArray⟩ : ByteArray).size : Nat) : Int) > IntKind.i64.max := by
    have : IntKind.i64.max = 9223372036854775807 := rfl
    rw [this]
    simp only [ByteArray.size, List.size_toArray]
    omega
  simp only [binV, S, strV, if_neg this]
  congr 2

theorem ceq_i (ks : List CK) (k : IntKind) (a b : Int) (xs ys : List Value) : cellsEq (.i :: ks) (.int k a :: xs) (.int k b :: ys) = (cellsEq ks xs ys).map (decide (a = b) && ·) := by
  have : (a == b) = decide (a = b) := rfl
  simp [cellsEq, leafEq, this]
theorem ceq_s (ks : List CK) (a b : List UInt8) (xs ys : List Value) : cellsEq (.s :: ks) (S a :: xs) (S b :: ys) = (cellsEq ks xs ys).map (decide (a = b) && ·) := by
  have : (a == b) = decide (a = b) := by rw [Bool.eq_iff_iff]; simp
  simp [cellsEq, leafEq, S, toList_mk, this]
theorem ceq_nil : cellsEq [] [] [] = some true := rfl
theorem val_bld (e : Env) (zero : List Value) (ps : List (Nat × Nat × Operand)) : PV.val e (.bld zero ps) = (bldV e zero ps).map fun cs => .agg cs.toArray := rfl
theorem cells_int (k : IntKind) (n : Int) : (Value.int k n).cells = #[.int k n] := rfl
theorem cells_bool (b : Bool) : (Value.bool b).cells = #[.bool b] := rfl
theorem cells_S (l : List UInt8) : (S l).cells = #[S l] := rfl
theorem cells_slice (a : Option Addr) (n c : Nat) : (Value.slice a n c).cells = #[.slice a n c] := rfl
theorem cells_ptr (a : Option Addr) : (Value.pointer a).cells = #[.pointer a] := rfl
theorem cells_agg (a : Array Value) : (Value.agg a).cells = a := rfl
def b8 (c : UInt8) : Value := .int .u8 (c.toNat : Int)
theorem cells_b8 (c : UInt8) : (b8 c).cells = #[b8 c] := rfl
theorem not_dec (q : Prop) {_ : Decidable q} : (!decide q) = decide (¬ q) := by by_cases h : q <;> simp [h]
theorem and_dec (q r : Prop) {_ : Decidable q} {_ : Decidable r} : (decide q && decide r) = decide (q ∧ r) := by by_cases h : q <;> by_cases h' : r <;> simp [h, h']
theorem or_dec (q r : Prop) {_ : Decidable q} {_ : Decidable r} : (decide q || decide r) = decide (q ∨ r) := by by_cases h : q <;> by_cases h' : r <;> simp [h, h']
theorem val_sidx {e : Env} {x i : Operand} {l : List UInt8} {k : IntKind} {j : Int} (hx : ev e x = S l) (hi : ev e i = .int k j) (h0 : 0 ≤ j) (h1 : j.toNat < l.length) : PV.val e (.sidx x i) = some (.int .u8 (l[j.toNat]'h1).toNat) := by
  simp only [PV.val, hx, hi, S]
  rw [dif_pos ⟨h0, by simpa [ByteArray.size] using h1⟩]
  rfl
theorem WL_sidx {d : Nat} {x i : Operand} {lb : List UInt8} {k : IntKind} {j : Int} (hx : ev e x = S lb) (hi : ev e i = .int k j) (h0 : 0 ≤ j) (h1 : j.toNat < lb.length) (h : WL P p Q l (upd e d (.int .u8 ((lb[j.toNat]'h1).toNat : Int))) w) :
    WL P p Q (⟨some d, none, .pv (.sidx x i)⟩ :: l) e w := by
  exact WL_p (val_sidx hx hi h0 h1) h

def at8 (l : List UInt8) (k : Nat) : UInt8 := l.getD k 0
theorem at8_eq {l : List UInt8} {k : Nat} (h : k < l.length) : at8 l k = l[k] := by simp [at8, List.getD_eq_getElem?_getD, h]
theorem WL_sidxN {d : Nat} {x i : Operand} {lb : List UInt8} {kd : IntKind} {k : Nat} (hx : ev e x = S lb) (hi : ev e i = .int kd (k : Int)) (h1 : k < lb.length) (h : WL P p Q l (upd e d (.int .u8 ((at8 lb k).toNat : Int))) w) :
    WL P p Q (⟨some d, none, .pv (.sidx x i)⟩ :: l) e w := by
  refine WL_sidx hx hi (by omega) (by simpa using h1) ?_
  rw [at8_eq h1] at h
  simpa using h

/-! ### 4. Memory -/
variable {w0 : World} {K : List Nat} {O : Blks} {d : Nat}
theorem WL_load {x : Operand} {b off : Nat} {T : TypeId} {cs : List Value} {v : Value} (hS : St w0 K w O) (hx : ev e x = .pointer (some ⟨b, off, none⟩)) (hm : (b, Blk T cs) ∈ O) (hv : cs[off]? = some v)
    (h : WL P p Q l (upd e d v) w) : WL P p Q (⟨some d, none, .load x⟩ :: l) e w := by
  simp only [WL, wantedE, if_true, LOp.wp]
  exact ⟨_, v, hx, by rw [hS.cell hm, hv], h⟩
theorem WL_loadC {x : Operand} {a : Addr} {v : Value} (hx : ev e x = .pointer (some a)) (hc : w.cell? a = some v) (h : WL P p Q l (upd e d v) w) : WL P p Q (⟨some d, none, .load x⟩ :: l) e w := by
  simp only [WL, wantedE, if_true, LOp.wp]
  exact ⟨_, v, hx, hc, h⟩
theorem WL_loadN {n : Nat} {x : Operand} {b off : Nat} {T : TypeId} {cs vs : List Value} (hS : St w0 K w O) (hx : ev e x = .pointer (some ⟨b, off, none⟩)) (hm : (b, Blk T cs) ∈ O) (hv : (cs.drop off).take n = vs) (hl : vs.length = n)
    (h : WL P p Q l (upd e d (.agg vs.toArray)) w) : WL P p Q (⟨some d, none, .loadN n x⟩ :: l) e w := by
  simp only [WL, wantedE, if_true, LOp.wp]
  refine ⟨_, vs, hx, hl, ?_, h⟩
  subst hv
  intro i hi
  rw [add_none, hS.cell hm]
  have hi' := hi
  rw [hl] at hi'
  rw [List.getElem?_take_of_lt hi', List.getElem?_drop]
theorem WL_loadNC {n : Nat} {x : Operand} {a : Addr} {vs : List Value} (hx : ev e x = .pointer (some a)) (hl : vs.length = n) (hc : Cells w a vs) (h : WL P p Q l (upd e d (.agg vs.toArray)) w) : WL P p Q (⟨some d, none, .loadN n x⟩ :: l) e w := by
  simp only [WL, wantedE, if_true, LOp.wp]
  exact ⟨_, vs, hx, hl, hc, h⟩
theorem cells_one {v : Value} (h : v.oneCell' = true) : v.cells = #[v] := by cases v <;> first | rfl | cases h
theorem WL_store {x y : Operand} {b off : Nat} {T : TypeId} {cs : List Value} {v : Value} {O' : Blks} (hS : St w0 K w O) (hx : ev e x = .pointer (some ⟨b, off, none⟩)) (hy : ev e y = v) (h1 : v.oneCell' = true)
    (hu : Upd b (Blk T cs) (Blk T (cs.set off v)) O O') (hl : off < cs.length) (h : ∀ w', St w0 K w' O' → WL P p Q l e w') : WL P p Q (⟨none, none, .store 1 x y⟩ :: l) e w := by
  simp only [WL, wantedE, if_true, LOp.wp]
  refine ⟨_, hx, by rw [hy, cells_one h1]; rfl, by rw [hy, cells_one h1]; simpa using h1, hS.writable hu.mem (by omega), ?_⟩
  rw [hy, cells_one h1]
  refine h _ ?_
  exact hS.putAll [v] (k := 0) hu
theorem WL_storeN {n : Nat} {x y : Operand} {b off : Nat} {T : TypeId} {cs vs : List Value} {O' : Blks} (hS : St w0 K w O) (hx : ev e x = .pointer (some ⟨b, off, none⟩)) (hy : ev e y = .agg vs.toArray) (hn : vs.length = n) (h1 : ∀ c ∈ vs, c.oneCell' = true)
    (hu : Upd b (Blk T cs) (Blk T (putList cs off vs)) O O') (hl : off + n ≤ cs.length) (h : ∀ w', St w0 K w' O' → WL P p Q l e w') : WL P p Q (⟨none, none, .store n x y⟩ :: l) e w := by
  simp only [WL, wantedE, if_true, LOp.wp]
  refine ⟨_, hx, by rw [hy]; simpa [Value.cells] using hn, by rw [hy]; simpa [Value.cells] using h1, hS.writable hu.mem hl, ?_⟩
  rw [hy]
  refine h _ ?_
  simp only [Value.cells]
  exact hS.putAll vs (k := 0) hu
theorem WL_newz {T : TypeId} {cs : List Value} (hS : St w0 K w O) (h : ∀ b w', St w0 K w' (O ++ [(b, Blk T cs)]) → w0.heap.size ≤ b → WL P p Q l (upd e d (.pointer (some ⟨b, 0, none⟩))) w') :
    WL P p Q (⟨some d, none, .newz T cs⟩ :: l) e w := by
  simp only [WL, wantedE, if_true, LOp.wp]
  exact h _ _ (hS.new _) hS.size
theorem WL_newv {T : TypeId} {x : Operand} {v : Value} {cs : List Value} (hS : St w0 K w O) (hx : ev e x = v) (hc : v.cells = cs.toArray) (h : ∀ b w', St w0 K w' (O ++ [(b, Blk T cs)]) → w0.heap.size ≤ b → WL P p Q l (upd e d (.pointer (some ⟨b, 0, none⟩))) w') :
    WL P p Q (⟨some d, none, .newv T x⟩ :: l) e w := by
  simp only [WL, wantedE, if_true, LOp.wp]
  rw [hx, hc]
  exact h _ _ (hS.new _) hS.size
theorem WL_row {T : TypeId} {len : Nat} {zero : List Value} {parts : List (Nat × Nat × Operand)} {cs : List Value} (hS : St w0 K w O) (hb : bldV e zero parts = some cs) (h : ∀ b w', St w0 K w' (O ++ [(b, Blk T cs)]) → w0.heap.size ≤ b → WL P p Q l (upd e d (.slice (some ⟨b, 0, none⟩) len len)) w') :
    WL P p Q (⟨some d, none, .row T len zero parts⟩ :: l) e w := by
  simp only [WL, wantedE, if_true, LOp.wp]
  exact ⟨cs, hb, h _ _ (hS.new _) hS.size⟩
theorem WL_panic {x : Operand} {t : TypeId} {v : Value} (hx : ev e x = .iface t v) (h : p [{ v := .iface t v, recovered := false }] w) : WL P p Q (⟨none, none, .panic x⟩ :: l) e w := by
  simp only [WL, wantedE, if_true, LOp.wp]
  exact ⟨t, v, hx, h⟩

/-! ### 5. Calls -/
theorem WL_callq {f : FuncId} {args : List Operand} {argv : List Value} {v : Value} (hS : St w0 K w O) (ha : args.map (ev e) = argv) (hc : Quiet P f argv.toArray w v) (h : ∀ w', St w0 K w' O → WL P p Q l (upd e d v) w') :
    WL P p Q (⟨some d, none, .call f args⟩ :: l) e w := by
  simp only [WL, wantedE, if_true, LOp.wp, callW]
  rw [ha]
  refine Calls.mono hc fun en w' hr => ?_
  cases en with
  | returned u =>
    obtain ⟨O', ⟨rfl, rfl⟩, hS'⟩ := hr
    exact h _ (St.after (Oc := []) hS hS')
  | panicked ch => exact hr.elim
  | outgrown => exact hr.elim
theorem WL_call {f : FuncId} {args : List Operand} {argv : List Value} {Oc F : Blks} {R : Value → Blks → Prop} (hS : St w0 K w (Oc ++ F)) (ha : args.map (ev e) = argv) (hc : Calls P f argv.toArray w (Ret w (keysOf Oc) R))
    (h : ∀ v O' w', R v O' → St w0 K w' (O' ++ F) → WL P p Q l (upd e d v) w') : WL P p Q (⟨some d, none, .call f args⟩ :: l) e w := by
  simp only [WL, wantedE, if_true, LOp.wp, callW]
  rw [ha]
  refine Calls.mono hc fun en w' hr => ?_
  cases en with
  | returned u =>
    obtain ⟨O', hR, hS'⟩ := hr
    exact h _ _ _ hR (St.after hS hS')
  | panicked ch => exact hr.elim
  | outgrown => exact hr.elim
theorem WL_callp {f : FuncId} {args : List Operand} {argv : List Value} {Oc F : Blks} {R : Value → Blks → Prop} {Rp : Chain → Blks → Prop} (hS : St w0 K w (Oc ++ F)) (ha : args.map (ev e) = argv) (hc : Calls P f argv.toArray w (RetP w (keysOf Oc) R Rp))
    (hp : ∀ ch O' w', Rp ch O' → St w0 K w' (O' ++ F) → p ch w') (h : ∀ v O' w', R v O' → St w0 K w' (O' ++ F) → WL P p Q l (upd e d v) w') : WL P p Q (⟨some d, none, .call f args⟩ :: l) e w := by
  simp only [WL, wantedE, if_true, LOp.wp, callW]
  rw [ha]
  refine Calls.mono hc fun en w' hr => ?_
  cases en with
  | returned u =>
    obtain ⟨O', hR, hS'⟩ := hr
    exact h _ _ _ hR (St.after hS hS')
  | panicked ch =>
    obtain ⟨O', hR, hS'⟩ := hr
    exact hp _ _ _ hR (St.after hS hS')
  | outgrown => exact hr.elim
end

theorem take_succ8 (l : List UInt8) (k : Nat) (h : k < l.length) : l.take (k + 1) = l.take k ++ [at8 l k] := by
  rw [List.take_succ_eq_append_getElem h, at8_eq h]
theorem at8_mem {l : List UInt8} {k : Nat} (h : k < l.length) : at8 l k ∈ l := by rw [at8_eq h]; exact List.getElem_mem h

/-! ### 7. Loops -/
def patch (e : Env) : List (Nat × Value) → Env
  | [] => e
  | (t, v) :: L => upd (patch e L) t v
def Has (e : Env) : List (Nat × Value) → Prop
  | [] => True
  | (t, v) :: L => e t = v ∧ Has e L
theorem Has.patch_eq {e : Env} : ∀ {L : List (Nat × Value)}, Has e L → patch e L = e
  | [], _ => rfl
  | (t, v) :: L, h => by
    simp only [patch, Has.patch_eq h.2]
    exact upd_self h.1
theorem least_nat {q : Nat → Prop} (h : ∃ n, q n) : ∃ m, q m ∧ ∀ k, q k → m ≤ k := by
  obtain ⟨n, hn⟩ := h
  induction n using Nat.strongRecOn with
  | _ n ih =>
    by_cases hh : ∃ k, k < n ∧ q k
    · obtain ⟨k, hk, hq⟩ := hh
      exact ih k hk hq
    · refine ⟨n, hn, fun k hk => ?_⟩
      rcases Nat.lt_or_ge k n with h' | h'
      · exact absurd ⟨k, h', hk⟩ hh
      · exact h'
noncomputable def leastN (q : Nat → Prop) : Nat := @dite _ (∃ n, q n) (Classical.propDecidable _) (fun h => Classical.choose (least_nat h)) (fun _ => 0)
theorem leastN_spec {q : Nat → Prop} (h : ∃ n, q n) : q (leastN q) ∧ ∀ k, q k → leastN q ≤ k := by
  unfold leastN
  rw [dif_pos h]
  exact Classical.choose_spec (least_nat h)
theorem WC_loopH {P : Program} {p : Chain → World → Prop} {Q : Exit → Env → World → Prop} {e : Env} {w : World} {b : LC} {α : Type} (L : α → List (Nat × Value)) (J : α → World → Prop) (μ : α → Nat) (a0 : α) (h0 : Has e (L a0)) (j0 : J a0 w)
    (h : ∀ a e w, J a w → WC P p b (thenW (fun e' w' => ∃ a', μ a' < μ a ∧ Has e' (L a') ∧ J a' w') Q) (patch e (L a)) w) : WC P p (.loop b) Q e w := by
  refine WC_loop (fun e w => ∃ a, Has e (L a) ∧ J a w) (fun e w => leastN (fun m => ∃ a, μ a = m ∧ Has e (L a) ∧ J a w)) ⟨a0, h0, j0⟩ ?_
  intro e w ⟨a1, hH1, hJ1⟩
  obtain ⟨⟨a, ha, hH, hJ⟩, hmin⟩ := leastN_spec (q := fun m => ∃ a, μ a = m ∧ Has e (L a) ∧ J a w) ⟨_, a1, rfl, hH1, hJ1⟩
  have hw := h a e w hJ
  rw [hH.patch_eq] at hw
  have key : ∀ (e' : Env) (w' : World), (∃ a', μ a' < μ a ∧ Has e' (L a') ∧ J a' w') →
      (∃ a, Has e' (L a) ∧ J a w') ∧ leastN (fun m => ∃ a, μ a = m ∧ Has e' (L a) ∧ J a w') < leastN (fun m => ∃ a, μ a = m ∧ Has e (L a) ∧ J a w) := by
    intro e' w' ⟨a', hlt, h1, h2⟩
    refine ⟨⟨a', h1, h2⟩, ?_⟩
    have := (leastN_spec (q := fun m => ∃ a, μ a = m ∧ Has e' (L a) ∧ J a w') ⟨_, a', rfl, h1, h2⟩).2 _ ⟨a', rfl, h1, h2⟩
    omega
  exact WC_mono _ _ _ _ _ (fun x e w hx => by cases x <;> first | exact key e w hx | exact hx) hw

/-! ### 6. Returns -/
section
variable {P : Program} {e : Env} {w w0 : World} {K : List Nat} {O : Blks}
theorem retq {t : Nat} {v v' : Value} (hS : St w0 [] w O) (hv : e t = v') (h : v' = v) : retQ [.tmp t] (Ret w0 [] fun u O' => u = v ∧ O' = []) .ret e w :=
  ⟨[v'], ⟨hv.symm, trivial⟩, [], ⟨h, rfl⟩, hS.sub (List.nil_sublist _)⟩
theorem ret1 {t : Nat} {v : Value} {R : Value → Blks → Prop} (hS : St w0 K w O) (hv : e t = v) (h : R v O) : retQ [.tmp t] (Ret w0 K R) .ret e w :=
  ⟨[v], ⟨hv.symm, trivial⟩, O, h, hS⟩
theorem ret1P {t : Nat} {v : Value} {R : Value → Blks → Prop} {Rp : Chain → Blks → Prop} (hS : St w0 K w O) (hv : e t = v) (h : R v O) : retQ [.tmp t] (RetP w0 K R Rp) .ret e w :=
  ⟨[v], ⟨hv.symm, trivial⟩, O, h, hS⟩
theorem ret2 {s t : Nat} {u v : Value} {R : Value → Blks → Prop} (hS : St w0 K w O) (hu : e s = u) (hv : e t = v) (h : R (.tuple #[u, v]) O) : retQ [.tmp s, .tmp t] (Ret w0 K R) .ret e w :=
  ⟨[u, v], ⟨hu.symm, hv.symm, trivial⟩, O, h, hS⟩
theorem ret2P {s t : Nat} {u v : Value} {R : Value → Blks → Prop} {Rp : Chain → Blks → Prop} (hS : St w0 K w O) (hu : e s = u) (hv : e t = v) (h : R (.tuple #[u, v]) O) : retQ [.tmp s, .tmp t] (RetP w0 K R Rp) .ret e w :=
  ⟨[u, v], ⟨hu.symm, hv.symm, trivial⟩, O, h, hS⟩
theorem ret0n {R : Value → Blks → Prop} (hS : St w0 K w O) (h : R (.tuple #[]) O) : retQ [] (Ret w0 K R) .normal e w := ⟨[], trivial, O, h, hS⟩
theorem ret0 {R : Value → Blks → Prop} (hS : St w0 K w O) (h : R (.tuple #[]) O) : retQ [] (Ret w0 K R) .ret e w := ⟨[], trivial, O, h, hS⟩
theorem retcP {t n b : Nat} {T : TypeId} {cs : List Value} {R : Value → Blks → Prop} {Rp : Chain → Blks → Prop} (hS : St w0 K w O) (ht : e t = .pointer (some ⟨b, 0, none⟩)) (hm : (b, Blk T cs) ∈ O) (hn : cs.length = n) (h : R (.agg cs.toArray) O) :
    retQ [.cells t n] (RetP w0 K R Rp) .ret e w := by
  refine ⟨[.agg cs.toArray], ⟨⟨_, cs, ht, hn, ?_, rfl⟩, trivial⟩, O, h, hS⟩
  have := hS.cells (off := 0) (n := cs.length) hm (by omega)
  simpa using this
end
theorem wr64 {x : Int} (h1 : -9223372036854775808 ≤ x) (h2 : x ≤ 9223372036854775807) : IntKind.i64.wrap x = x := by
  rw [IntKind.wrap_i64]; omega
theorem wru64 {x : Int} (h1 : 0 ≤ x) (h2 : x ≤ 18446744073709551615) : IntKind.u64.wrap x = x := by
  rw [IntKind.wrap_u64]; omega
theorem wru8 {x : Int} (h1 : 0 ≤ x) (h2 : x ≤ 255) : IntKind.u8.wrap x = x := by
  rw [IntKind.wrap_u8]; omega
/-! ### Closers: what an operand holds; what a list has -/
theorem evk {p : Prop} (h : p := by ((simp (disch := omega) only [ev_tmp, ev_const, ev_func, ev_global, upd_app, val_move, val_pick, pickV_true, pickV_false, pickV_bool, val_nilck, nilckV_ptr, val_bin, bin_add, bin_sub, bin_mul, bin_eql, bin_neq, bin_lss, bin_leq, bin_gtr, bin_geq, bin_seql, bin_sneq, bin_slss, bin_sleq, bin_sgtr, bin_sgeq, val_beq, beqV_f, beqV_t, val_seq, val_not, notV_bool, val_toInt, toIntV_int, val_off, offV_ptr, val_len, lenV_slice, val_slen, slenV_S, val_ext, extV_tup, val_ifc, val_fn, List.getElem?_cons_zero, List.getElem?_cons_succ, List.map_cons, List.map_nil, eq_self, Bool.false_eq_true, Bool.not_true, Bool.not_false, Option.map_some, Nat.zero_add, isB_bool, isB_undef, Bool.true_beq, Bool.false_beq, beq_self_eq_true, Bool.true_and, Bool.and_true, Bool.false_and, Bool.and_false, Bool.true_or, Bool.or_true, Bool.false_or, Bool.or_false, not_dec, and_dec, or_dec, seqV_f, seqV_t, ceq_i, ceq_s, ceq_nil, val_bld, bldV, cells_int, cells_bool, cells_S, cells_b8, cells_slice, cells_ptr, cells_agg, List.size_toArray, List.length_cons, List.length_nil, place, List.take_succ_cons, List.take_zero, List.drop_succ_cons, List.drop_zero, List.cons_append, List.nil_append, and_self, and_true, true_and, Nat.reduceLeDiff, List.toList_toArray, wr64, wru64, wru8, Nat.reduceEqDiff, ↓reduceIte, Nat.reduceAdd]) <;> rfl)) : p := h
theorem evd {p : Prop} (h : p := by ((simp (disch := omega) only [ev_tmp, ev_const, ev_func, ev_global, upd_app, val_move, val_pick, pickV_true, pickV_false, pickV_bool, val_nilck, nilckV_ptr, val_bin, bin_add, bin_sub, bin_mul, bin_eql, bin_neq, bin_lss, bin_leq, bin_gtr, bin_geq, bin_seql, bin_sneq, bin_slss, bin_sleq, bin_sgtr, bin_sgeq, val_beq, beqV_f, beqV_t, val_seq, val_not, notV_bool, val_toInt, toIntV_int, val_off, offV_ptr, val_len, lenV_slice, val_slen, slenV_S, val_ext, extV_tup, val_ifc, val_fn, List.getElem?_cons_zero, List.getElem?_cons_succ, List.map_cons, List.map_nil, eq_self, Bool.false_eq_true, Bool.not_true, Bool.not_false, Option.map_some, Nat.zero_add, isB_bool, isB_undef, Bool.true_beq, Bool.false_beq, beq_self_eq_true, Bool.true_and, Bool.and_true, Bool.false_and, Bool.and_false, Bool.true_or, Bool.or_true, Bool.false_or, Bool.or_false, not_dec, and_dec, or_dec, seqV_f, seqV_t, ceq_i, ceq_s, ceq_nil, val_bld, bldV, cells_int, cells_bool, cells_S, cells_b8, cells_slice, cells_ptr, cells_agg, List.size_toArray, List.length_cons, List.length_nil, place, List.take_succ_cons, List.take_zero, List.drop_succ_cons, List.drop_zero, List.cons_append, List.nil_append, and_self, and_true, true_and, Nat.reduceLeDiff, List.toList_toArray, wr64, wru64, wru8, Nat.reduceEqDiff, ↓reduceIte, Nat.reduceAdd]) <;> fail)) : p := h
theorem inn {p : Prop} (h : p := by ((repeat (first | exact List.Mem.head _ | refine List.mem_append_right _ ?_ | refine List.Mem.tail _ ?_)) <;> fail)) : p := h
theorem upp {p : Prop} (h : p := by ((repeat (first | exact Upd.head _ | apply Upd.app | apply Upd.tail)) <;> fail)) : p := h
end Go.Proofs.Ytohmgkcdjapinaa.Lw
