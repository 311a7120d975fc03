/- Part 2 of the texts of this claim: LwJ LwK LwL LwM LwN LwO LwP Wa Wb Wc Wd. -/
import Derived.Test.YtohmgkcdjapinaaM01
import Derived.Laws.MakeOwn
import Derived.Defers
import Derived.Recover
import Derived.ChangeArms
import Derived.WideKeyArgs
import Derived.ChangeSame
import Derived.SizedLaws
import Derived.ProofKit
import Derived.Test.YtohmgkcdjapinaaProg
set_option linter.unusedVariables false
set_option linter.unusedSimpArgs false
namespace Go.Proofs.Ytohmgkcdjapinaa.Lw

/-! ### 1. Slices that are read -/
/-- The slice v of n elements of sz cells each holds cs; its block is none of K. -/
structure Reads (w : World) (K : List Nat) (sz : Nat) (v : Value) (n : Nat) (cs : List Value) : Prop where
  len : cs.length = n * sz
  fits : n ≤ 140737488351232
  slc : ∃ A c, v = .slice A n c ∧ (0 < n * sz → ∃ b o, A = some ⟨b, o, none⟩ ∧ b ∉ K ∧ ∀ j, j < n * sz → w.cell? ⟨b, o + j, none⟩ = cs[j]?)

section
variable {w0 w : World} {K : List Nat} {O : Blks}
theorem heap_cell {w w' : World} {a : Addr} (h : w'.heap[a.block]? = w.heap[a.block]?) : w'.cell? a = w.cell? a := by simp [World.cell?, h]
theorem St.keep (h : St w0 K w O) {b o : Nat} {v : Value} (hK : b ∉ K) (hc : w0.cell? ⟨b, o, none⟩ = some v) : w.cell? ⟨b, o, none⟩ = some v := by
  rw [heap_cell (w := w0) (a := ⟨b, o, none⟩) (h.rest b (World.block_lt_of_cell? w0 ⟨b, o, none⟩ hc) hK)]; exact hc
/-- What was read at the begin is read now, by a callee that is handed Oc too. -/
theorem St.reads (h : St w0 K w O) {sz n : Nat} {v : Value} {cs : List Value} (hr : Reads w0 K sz v n cs) {Oc : Blks} (hs : ∀ q ∈ Oc, q ∈ O) : Reads w (keysOf Oc) sz v n cs := by
  obtain ⟨A, c, rfl, hA⟩ := hr.slc
  refine ⟨hr.len, hr.fits, A, c, rfl, fun hp => ?_⟩
  obtain ⟨b, o, rfl, hb, hc⟩ := hA hp
  have h0 := hc 0 hp
  have hlen := hr.len
  rw [List.getElem?_eq_getElem (by omega)] at h0
  have hlt := World.block_lt_of_cell? w0 ⟨b, o + 0, none⟩ h0
  refine ⟨b, o, rfl, fun hm => ?_, fun j hj => ?_⟩
  · obtain ⟨q, hq, hqb⟩ := List.mem_map.1 hm
    rcases h.keys q (hs q hq) with hh | hh
    · exact hb (hqb ▸ hh)
    · have : q.1 = b := hqb
      simp only at hlt
      omega
  · have := hc j hj
    rw [List.getElem?_eq_getElem (by omega)] at this ⊢
    exact h.keep hb this
theorem St.reads0 (h : St w0 K w O) {sz n : Nat} {v : Value} {cs : List Value} (hr : Reads w0 K sz v n cs) : Reads w [] sz v n cs := h.reads (Oc := []) hr (by simp)
/-- A block of one's own is lent. -/
theorem St.lend {Oc F : Blks} (h : St w0 K w (Oc ++ F)) {b c n sz T : Nat} {xs sp : List Value} (hm : (b, Blk T (xs ++ sp)) ∈ F) (hl : xs.length = n * sz) (hn : n ≤ 140737488351232) : Reads w (keysOf Oc) sz (.slice (some ⟨b, 0, none⟩) n c) n xs := by
  refine ⟨hl, hn, _, c, rfl, fun hp => ⟨b, 0, rfl, fun hk => ?_, fun j hj => ?_⟩⟩
  · have := h.nodup
    simp only [keysOf, List.map_append, List.nodup_append] at this
    exact this.2.2 b hk b (List.mem_map_of_mem hm) rfl
  · rw [h.cell (List.mem_append_right _ hm), Nat.zero_add, List.getElem?_append_left (by omega)]
theorem Reads.nilOf {sz : Nat} (w : World) (K : List Nat) (c : Nat) (A : Option Addr) : Reads w K sz (.slice A 0 c) 0 [] := ⟨by simp, by omega, A, c, rfl, fun h => by omega⟩
end

section
variable {P : Program} {p : Chain → World → Prop} {Q : Exit → Env → World → Prop} {e : Env} {w w0 : World} {K : List Nat} {O : Blks} {l : List LOper} {d : Nat}
/-- The address of an element of a slice that is read. -/
theorem WL_idxR {sz n : Nat} {x i : Operand} {v : Value} {cs : List Value} {kd : IntKind} {k : Nat} (hr : Reads w0 K sz v n cs) (hx : ev e x = v) (hi : ev e i = .int kd (k : Int)) (hsz : 0 < sz) (hk : k < n)
    (h : ∀ b o, b ∉ K → (∀ j, j < sz → w0.cell? ⟨b, o + j, none⟩ = cs[k * sz + j]?) → WL P p Q l (upd e d (.pointer (some ⟨b, o, none⟩))) w) :
    WL P p Q (⟨some d, none, .pv (.idx sz x i)⟩ :: l) e w := by
  obtain ⟨A, c, rfl, hA⟩ := hr.slc
  have hkn : k * sz + sz ≤ n * sz := by
    have : (k + 1) * sz ≤ n * sz := Nat.mul_le_mul_right sz hk
    rw [Nat.add_mul, Nat.one_mul] at this
    exact this
  obtain ⟨b, o, rfl, hb, hc⟩ := hA (by omega)
  refine WL_p (v := .pointer (some ⟨b, o + k * sz, none⟩)) ?_ (h b (o + k * sz) hb fun j hj => ?_)
  · simp only [PV.val, hx, hi]
    rw [if_pos ⟨by omega, by omega⟩, add_none]
    simp
  · rw [Nat.add_assoc]
    exact hc _ (by omega)
theorem WL_loadR {x : Operand} {b o : Nat} {v : Value} (hS : St w0 K w O) (hx : ev e x = .pointer (some ⟨b, o, none⟩)) (hb : b ∉ K) (hc : w0.cell? ⟨b, o, none⟩ = some v) (h : WL P p Q l (upd e d v) w) :
    WL P p Q (⟨some d, none, .load x⟩ :: l) e w := by
  simp only [WL, wantedE, if_true, LOp.wp]
  exact ⟨_, v, hx, hS.keep hb hc, h⟩
theorem WL_loadNR {n : Nat} {x : Operand} {b o : Nat} {vs : List Value} (hS : St w0 K w O) (hx : ev e x = .pointer (some ⟨b, o, none⟩)) (hb : b ∉ K) (hc : ∀ j, j < n → w0.cell? ⟨b, o + j, none⟩ = vs[j]?) (hl : vs.length = n)
    (h : WL P p Q l (upd e d (.agg vs.toArray)) w) : WL P p Q (⟨some d, none, .loadN n x⟩ :: l) e w := by
  simp only [WL, wantedE, if_true, LOp.wp]
  refine ⟨_, vs, hx, hl, fun i hi => ?_, h⟩
  rw [add_none]
  have := hc i (by omega)
  rw [List.getElem?_eq_getElem hi] at this ⊢
  exact hS.keep hb this
end

/-- A slice of structs that is read: the cells of its elements are f's. -/
def RdL {α : Type} (w : World) (K : List Nat) (sz : Nat) (v : Value) (xs : List α) (f : α → List Value) : Prop := Reads w K sz v xs.length (xs.flatMap f) ∧ ∀ x, (f x).length = sz
theorem flat_get {α : Type} {f : α → List Value} {sz : Nat} (hf : ∀ x, (f x).length = sz) : ∀ (xs : List α) (k j : Nat) (x : α), xs[k]? = some x → j < sz → (xs.flatMap f)[k * sz + j]? = (f x)[j]?
  | [], k, j, x, h, _ => by simp at h
  | y :: ys, 0, j, x, h, hj => by
    simp only [List.getElem?_cons_zero, Option.some.injEq] at h
    subst h
    simp only [Nat.zero_mul, Nat.zero_add, List.flatMap_cons]
    rw [List.getElem?_append_left (by rw [hf]; exact hj)]
  | y :: ys, k + 1, j, x, h, hj => by
    simp only [List.getElem?_cons_succ] at h
    simp only [List.flatMap_cons]
    rw [List.getElem?_append_right (by rw [hf, Nat.add_mul]; omega), hf]
    have : (k + 1) * sz + j - sz = k * sz + j := by rw [Nat.add_mul]; omega
    rw [this]
    exact flat_get hf ys k j x h hj
theorem St.rdL {α : Type} {w0 w : World} {K : List Nat} {O : Blks} (h : St w0 K w O) {sz : Nat} {v : Value} {xs : List α} {f : α → List Value} (hr : RdL w0 K sz v xs f) {Oc : Blks} (hs : ∀ q ∈ Oc, q ∈ O) : RdL w (keysOf Oc) sz v xs f := ⟨h.reads hr.1 hs, hr.2⟩
theorem St.rdL0 {α : Type} {w0 w : World} {K : List Nat} {O : Blks} (h : St w0 K w O) {sz : Nat} {v : Value} {xs : List α} {f : α → List Value} (hr : RdL w0 K sz v xs f) : RdL w [] sz v xs f := ⟨h.reads0 hr.1, hr.2⟩
def i64s (n : Int) : List Value := [.int .i64 n]
theorem St.lendL {w0 w : World} {K : List Nat} {Oc F : Blks} (h : St w0 K w (Oc ++ F)) {b c T : Nat} (ns : List Int) (hm : (b, Blk T (ns.flatMap i64s)) ∈ F) (hn : ns.length ≤ 140737488351232) :
    RdL w (keysOf Oc) 1 (.slice (some ⟨b, 0, none⟩) ns.length c) ns i64s := by
  refine ⟨h.lend (T := T) (sp := []) (by simpa using hm) ?_ hn, fun _ => rfl⟩
  clear hm hn
  induction ns with
  | nil => rfl
  | cons n ns ih => simp only [List.flatMap_cons, List.length_append, ih, i64s, List.length_cons, List.length_nil]; omega
section
variable {P : Program} {p : Chain → World → Prop} {Q : Exit → Env → World → Prop} {e : Env} {w w0 : World} {K : List Nat} {O : Blks} {l : List LOper} {d : Nat}
theorem WL_idxS {α : Type} {sz k : Nat} {x i : Operand} {v : Value} {xs : List α} {f : α → List Value} {kd : IntKind} {y : α} (hr : RdL w0 K sz v xs f) (hx : ev e x = v) (hi : ev e i = .int kd (k : Int)) (hsz : 0 < sz) (hk : xs[k]? = some y)
    (h : ∀ b o, b ∉ K → (∀ j, j < sz → w0.cell? ⟨b, o + j, none⟩ = (f y)[j]?) → WL P p Q l (upd e d (.pointer (some ⟨b, o, none⟩))) w) :
    WL P p Q (⟨some d, none, .pv (.idx sz x i)⟩ :: l) e w := by
  refine WL_idxR hr.1 hx hi hsz ?_ fun b o hb hc => h b o hb fun j hj => ?_
  · rcases Nat.lt_or_ge k xs.length with hh | hh
    · exact hh
    · rw [List.getElem?_eq_none hh] at hk; cases hk
  · rw [hc j hj]; exact flat_get hr.2 xs k j y hk hj
end

/-! ### 2. Rows of one's own -/
/-- v is a slice of n elements (cells xs) at the head of a block of its own, L; or nil. -/
def RowIs (T sz : Nat) (v : Value) (n : Nat) (xs : List Value) (L : Blks) : Prop :=
  xs.length = n * sz ∧ ((v = .slice none 0 0 ∧ n = 0 ∧ L = []) ∨
    ∃ b cap sp, v = .slice (some ⟨b, 0, none⟩) n cap ∧ L = [(b, Blk T (xs ++ sp))] ∧ xs.length + sp.length = cap * sz ∧ n ≤ cap ∧ cap ≤ maxLen)
theorem RowIs.nil (T sz : Nat) : RowIs T sz (.slice none 0 0) 0 [] [] := ⟨by simp, .inl ⟨rfl, rfl, rfl⟩⟩
theorem RowIs.mk {T sz b n : Nat} {xs : List Value} (hl : xs.length = n * sz) (hn : n ≤ maxLen) : RowIs T sz (.slice (some ⟨b, 0, none⟩) n n) n xs [(b, Blk T xs)] :=
  ⟨hl, .inr ⟨b, n, [], rfl, by simp, by simpa using hl, Nat.le_refl _, hn⟩⟩
theorem RowIs.one {T sz n : Nat} {v : Value} {xs : List Value} {L : Blks} (h : RowIs T sz v n xs L) : v.oneCell' = true := by
  obtain ⟨_, ⟨rfl, _⟩ | ⟨_, _, _, rfl, _⟩⟩ := h <;> rfl
theorem RowIs.cells {T sz n : Nat} {v : Value} {xs : List Value} {L : Blks} (h : RowIs T sz v n xs L) : v.cells = #[v] := by
  obtain ⟨_, ⟨rfl, _⟩ | ⟨_, _, _, rfl, _⟩⟩ := h <;> rfl
theorem RowIs.reads {T sz n : Nat} {v : Value} {xs : List Value} {L Oc F : Blks} {w0 w : World} {K : List Nat} (h : RowIs T sz v n xs L) (hS : St w0 K w (Oc ++ F)) (hm : ∀ q ∈ L, q ∈ F) (hn : n ≤ 140737488351232) : Reads w (keysOf Oc) sz v n xs := by
  obtain ⟨hl, ⟨rfl, rfl, rfl⟩ | ⟨b, cap, sp, rfl, rfl, h1, h2, h3⟩⟩ := h
  · have : xs = [] := List.eq_nil_of_length_eq_zero (by simpa using hl)
    subst this
    exact Reads.nilOf _ _ _ _
  · exact hS.lend (hm (b, Blk T (xs ++ sp)) (by simp)) hl hn

/-- What an append takes from. -/
structure Src (P : Program) (w : World) (t2 sz : Nat) (x : Value) (m : Nat) (news : List Value) : Prop where
  len : news.length = m * sz
  one : ∀ u ∈ news, u.oneCell' = true
  ty : (∃ el, P.underlying t2 = some (.slice el)) ∨ P.underlying t2 = some .string
  run : ∀ w', w'.heap = w.heap → (Builtin.lenOf x).run P w' = .ok m w' ∧ (Builtin.firstCells sz m x).run P w' = .ok news.toArray w'

theorem Src.of_reads {P : Program} {w : World} {K : List Nat} {t2 sz : Nat} {el : TypeId} {v : Value} {n : Nat} {cs : List Value} (hr : Reads w K sz v n cs) (h1 : ∀ u ∈ cs, u.oneCell' = true) (ht : P.underlying t2 = some (.slice el)) : Src P w t2 sz v n cs := by
  obtain ⟨A, c, rfl, hA⟩ := hr.slc
  refine ⟨hr.len, h1, .inl ⟨_, ht⟩, fun w' hw' => ⟨rfl, ?_⟩⟩
  rcases Nat.eq_zero_or_pos (n * sz) with h0 | h0
  · have : cs = [] := List.eq_nil_of_length_eq_zero (by rw [hr.len, h0])
    subst this
    cases A with
    | none => rfl
    | some a => simp [Builtin.firstCells, h0, loadCells, loadCellsFrom]
  · obtain ⟨b, o, rfl, _, hc⟩ := hA h0
    have hcs : Cells w' ⟨b, o, none⟩ cs := by
      intro i hi
      rw [add_none, heap_cell (w := w) (by rw [hw'])]
      exact hc i (by rw [← hr.len]; exact hi)
    have := run_loadCells' (P := P) hcs
    simp only [Builtin.firstCells]
    rw [← hr.len]
    exact this
theorem bytes_len (l : List UInt8) (f : UInt8 → Value) : (l.map f).length = l.length * 1 := by simp
theorem b8_one (l : List UInt8) : ∀ u ∈ l.map b8, u.oneCell' = true := by
  intro u hu
  obtain ⟨c, _, rfl⟩ := List.mem_map.1 hu
  rfl
theorem Src.str {P : Program} {w : World} {t2 : Nat} (l : List UInt8) (ht : P.underlying t2 = some .string) : Src P w t2 1 (S l) l.length (l.map b8) := by
  refine ⟨by simp, b8_one l, .inr ht, fun w' _ => ⟨by simp [Builtin.lenOf, S, ByteArray.size], ?_⟩⟩
  simp only [Builtin.firstCells, S, Sem.run_pure]
  congr 1
  apply Array.ext'
  have : ((⟨l.toArray⟩ : ByteArray).extract 0 l.length).data.toList = l := by
    rw [ByteArray.data_extract]
    simp
  simp only [Array.toList_map, this]
  rfl

theorem Src.blk {P : Program} {w0 w : World} {K : List Nat} {O : Blks} {t2 sz : Nat} {el : TypeId} {b n c T : Nat} {xs : List Value} (hS : St w0 K w O) (hm : (b, Blk T xs) ∈ O) (hl : xs.length = n * sz) (h1 : ∀ u ∈ xs, u.oneCell' = true) (ht : P.underlying t2 = some (.slice el)) :
    Src P w t2 sz (.slice (some ⟨b, 0, none⟩) n c) n xs := by
  refine ⟨hl, h1, .inl ⟨_, ht⟩, fun w' hw' => ⟨rfl, ?_⟩⟩
  have hcs : Cells w' ⟨b, 0, none⟩ xs := by
    intro j hj
    rw [add_none, heap_cell (w := w) (by rw [hw']), hS.cell hm, Nat.zero_add]
  have := run_loadCells' (P := P) hcs
  simp only [Builtin.firstCells]
  rw [← hl]
  exact this
/-- A slice type's element: its number, how many cells and bytes it takes. -/
def ElInfo (P : Program) (t T sz bytes : Nat) : Prop := ∃ (i : TypeInfo) (z : Value), P.underlying t = some (.slice T) ∧ P.info? T = some i ∧ i.zero = some z ∧ i.size = sz ∧ i.bytes = bytes ∧ z.cells.size = sz
theorem ElInfo.of {P : Program} {t T sz bytes : Nat} {z : Value} (h1 : P.underlying t = some (.slice T)) (h2 : (P.info? T).map (fun i => (i.zero, i.size, i.bytes)) = some (some z, sz, bytes)) (h3 : z.cells.size = sz) : ElInfo P t T sz bytes := by
  obtain ⟨i, hi, he⟩ := Option.map_eq_some_iff.1 h2
  simp only [Prod.mk.injEq] at he
  exact ⟨i, z, h1, hi, he.1, he.2.1, he.2.2, h3⟩

theorem run_app_grow {P : Program} {w : World} {t t2 ty T sz bytes : Nat} (hi : ElInfo P t T sz bytes) {base : Option Addr} {n c : Nat} {x : Value} {m : Nat} {olds news : List Value} (hsrc : Src P w t2 sz x m news)
    (hold : ∀ w', w'.heap = w.heap → (Builtin.firstCells sz n (.slice base n c)).run P w' = .ok olds.toArray w') (hg : c < n + m) (h63 : n + m ≤ 140737488355328) (hb : (n + m) * bytes ≤ 140737488355328) :
    ∃ cap sp, n + m ≤ cap ∧ cap ≤ maxLen ∧ sp.length = (cap - (n + m)) * sz ∧
      (Builtin.append_ #[t, t2] ty #[.slice base n c, x]).run P w = .ok (.slice (some ⟨w.heap.size, 0, none⟩) (n + m) cap) ((w.drew).alloc (.cells ((olds ++ news) ++ sp).toArray T)) := by
  obtain ⟨i, z, hty, hinfo, hz, rfl, rfl, hzc⟩ := hi
  have hty2 := hsrc.ty
  have hn : ¬ (n + m ≤ c) := by omega
  have hge := grownCap_ge w (n + m) c T
  have hcm : grownCap w (n + m) c T ≤ maxLen := grownCap_le_maxLen w (n + m) c T (by unfold maxLen; omega)
  have h48 : ¬ (281474976710656 < Builtin.nextslicecap (n + m) c * i.bytes) := by
    have := growslice_fits (need := n + m) (old := c) (bytes := i.bytes) (by omega) hb
    omega
  have h63' : ¬ (9223372036854775807 < ((n : Int) + (m : Int))) := by omega
  have hl := (hsrc.run w rfl).1
  have hf1 := hold w.drew rfl
  have hf2 := (hsrc.run w.drew rfl).2
  refine ⟨grownCap w (n + m) c T, (Builtin.zeroCells z.cells (grownCap w (n + m) c T - (n + m))).toList, hge, hcm, by simp [Builtin.zeroCells, hzc], ?_⟩
  have harr : ∀ Z : Array Value, ((olds ++ news) ++ Z.toList).toArray = olds.toArray ++ (news.toArray ++ Z) := by
    intro Z
    apply Array.ext'
    simp
  rw [harr]
  rcases hty2 with ⟨el, hd2⟩ | hd2 <;>
    simp [Builtin.append_, run_underlying hty, run_underlying hd2, sizeOf, typeInfo, zeroValue, hinfo, hz, hl, hn, h63', h48, Question.forced, hf1, hf2, newRow, grownCap]

theorem run_app_room {P : Program} {w : World} {t t2 ty T sz bytes : Nat} (hi : ElInfo P t T sz bytes) {b n c : Nat} {x : Value} {m : Nat} {news : List Value} (hsrc : Src P w t2 sz x m news) (hg : n + m ≤ c)
    (hw : Writable w ⟨b, n * sz, none⟩ (m * sz)) :
    (Builtin.append_ #[t, t2] ty #[.slice (some ⟨b, 0, none⟩) n c, x]).run P w = .ok (.slice (some ⟨b, 0, none⟩) (n + m) c) (putAll w ⟨b, n * sz, none⟩ 0 news) := by
  obtain ⟨i, z, hty, hinfo, hz, rfl, rfl, hzc⟩ := hi
  have hty2 := hsrc.ty
  have hl := (hsrc.run w rfl).1
  have hf2 := (hsrc.run w rfl).2
  have hst := run_storeCells' (P := P) ⟨b, n * i.size, none⟩ news 0 w hsrc.one (fun j _ hj => hw j (by rw [← hsrc.len]; simpa using hj))
  have hadd : (⟨b, 0, none⟩ : Addr).add (n * i.size) = ⟨b, n * i.size, none⟩ := by rw [add_none, Nat.zero_add]
  rcases hty2 with ⟨el, hd2⟩ | hd2 <;>
    simp [Builtin.append_, run_underlying hty, run_underlying hd2, sizeOf, typeInfo, hinfo, hl, hg, hf2, hadd, hst]

theorem run_app_nil {P : Program} {w : World} {t t2 ty T sz bytes : Nat} (hi : ElInfo P t T sz bytes) {x : Value} {news : List Value} (hsrc : Src P w t2 sz x 0 news) (c : Nat) :
    (Builtin.append_ #[t, t2] ty #[.slice none 0 c, x]).run P w = .ok (.slice none 0 c) w := by
  obtain ⟨i, z, hty, hinfo, hz, rfl, rfl, hzc⟩ := hi
  have hty2 := hsrc.ty
  have hl := (hsrc.run w rfl).1
  have hf2 := (hsrc.run w rfl).2
  rcases hty2 with ⟨el, hd2⟩ | hd2 <;>
    simp [Builtin.append_, run_underlying hty, run_underlying hd2, sizeOf, typeInfo, hinfo, hl, hf2]

/-! ### 3. Append to a row of one's own -/
theorem putList_end (vs : List Value) : ∀ (xs sp : List Value), vs.length ≤ sp.length → putList (xs ++ sp) xs.length vs = (xs ++ vs) ++ sp.drop vs.length := by
  induction vs with
  | nil => intro xs sp _; simp [putList]
  | cons v vs ih =>
    intro xs sp h
    cases sp with
    | nil => simp at h
    | cons s sp =>
      simp only [putList]
      have h1 : (xs ++ s :: sp).set xs.length v = (xs ++ [v]) ++ sp := by
        rw [List.set_append_right _ _ (Nat.le_refl _)]
        simp
      rw [h1]
      have := ih (xs ++ [v]) sp (by simpa using h)
      rw [List.length_append] at this
      simp only [List.length_singleton] at this
      rw [this]
      simp
theorem St.append {P : Program} {w0 w : World} {K : List Nat} {M L F : Blks} {t t2 ty T sz bytes n m : Nat} {v x : Value} {xs news : List Value} (hi : ElInfo P t T sz bytes) (hS : St w0 K w (M ++ (L ++ F))) (hr : RowIs T sz v n xs L)
    (hsrc : Src P w t2 sz x m news) (h63 : n + m ≤ 140737488355328) (hb : (n + m) * bytes ≤ 140737488355328) :
    ∃ v' w' L', (Builtin.append_ #[t, t2] ty #[v, x]).run P w = .ok v' w' ∧ RowIs T sz v' (n + m) (xs ++ news) L' ∧ St w0 K w' (M ++ (L' ++ F)) := by
  obtain ⟨hl, hv⟩ := hr
  have hlen : (xs ++ news).length = (n + m) * sz := by rw [List.length_append, hl, hsrc.len, Nat.add_mul]
  have grown : ∀ (base : Option Addr) (c : Nat), v = .slice base n c → c < n + m → (∀ w', w'.heap = w.heap → (Builtin.firstCells sz n (.slice base n c)).run P w' = .ok xs.toArray w') →
      ∃ v' w' L', (Builtin.append_ #[t, t2] ty #[v, x]).run P w = .ok v' w' ∧ RowIs T sz v' (n + m) (xs ++ news) L' ∧ St w0 K w' (M ++ (L' ++ F)) := by
    intro base c hv hg hold
    subst hv
    obtain ⟨cap, sp, h1, h2, h3, h4⟩ := run_app_grow (ty := ty) hi hsrc hold hg h63 hb
    refine ⟨_, _, [(w.heap.size, Blk T ((xs ++ news) ++ sp))], h4, ⟨hlen, .inr ⟨_, cap, sp, rfl, rfl, ?_, h1, h2⟩⟩, ?_⟩
    · rw [hlen, h3, ← Nat.add_mul]; congr 1; omega
    · have hsub : St w0 K w (M ++ F) := hS.sub (List.Sublist.append (List.Sublist.refl _) (List.sublist_append_right _ _))
      have hd : St w0 K w.drew (M ++ F) := hsub.drew _
      have hnew := hd.new (Blk T ((xs ++ news) ++ sp))
      refine hnew.perm ?_
      simp only [List.append_assoc]
      refine List.Perm.append (List.Perm.refl _) ?_
      exact List.perm_append_comm
  rcases hv with ⟨rfl, rfl, rfl⟩ | ⟨b, cap, sp, rfl, rfl, h1, h2, h3⟩
  · have hx0 : xs = [] := List.eq_nil_of_length_eq_zero (by simpa using hl)
    subst hx0
    rcases Nat.eq_zero_or_pos m with rfl | hm
    · have hn0 : news = [] := List.eq_nil_of_length_eq_zero (by simpa using hsrc.len)
      subst hn0
      exact ⟨_, _, [], run_app_nil hi hsrc 0, RowIs.nil T sz, hS⟩
    · exact grown none 0 rfl (by omega) (fun w' _ => rfl)
  · by_cases hroom : n + m ≤ cap
    · have hsp : news.length ≤ sp.length := by
        have : (n + m) * sz ≤ cap * sz := Nat.mul_le_mul_right sz hroom
        rw [Nat.add_mul, ← hl, ← hsrc.len] at this
        omega
      have hmem : (b, Blk T (xs ++ sp)) ∈ M ++ ([(b, Blk T (xs ++ sp))] ++ F) := by simp
      have hwr : Writable w ⟨b, n * sz, none⟩ (m * sz) := hS.writable hmem (by rw [List.length_append, ← hl, ← hsrc.len]; omega)
      refine ⟨_, _, [(b, Blk T ((xs ++ news) ++ sp.drop news.length))], run_app_room hi hsrc hroom hwr, ⟨hlen, .inr ⟨b, cap, sp.drop news.length, rfl, rfl, ?_, hroom, h3⟩⟩, ?_⟩
      · simp only [List.length_append, List.length_drop]; omega
      · refine hS.putAll news (k := 0) (off := n * sz) (T := T) (cs := xs ++ sp) ?_
        rw [Nat.add_zero, ← hl, putList_end news xs sp hsp]
        exact Upd.app M (Upd.head F)
    · refine grown (some ⟨b, 0, none⟩) cap rfl (by omega) fun w' hw' => ?_
      have hmem : (b, Blk T (xs ++ sp)) ∈ M ++ ([(b, Blk T (xs ++ sp))] ++ F) := by simp
      have hcs : Cells w' ⟨b, 0, none⟩ xs := by
        intro j hj
        rw [add_none, heap_cell (w := w) (by rw [hw']), hS.cell hmem, Nat.zero_add, List.getElem?_append_left hj]
      have := run_loadCells' (P := P) hcs
      simp only [Builtin.firstCells]
      rw [← hl]
      exact this

section
variable {P : Program} {p : Chain → World → Prop} {Q : Exit → Env → World → Prop} {e : Env} {w w0 : World} {K : List Nat} {l : List LOper} {d : Nat}
theorem WL_append {M L F : Blks} {t t2 ty T sz bytes n m : Nat} {v x : Value} {xs news : List Value} {s y : Operand} (hS : St w0 K w (M ++ (L ++ F))) (hi : ElInfo P t T sz bytes) (hs : ev e s = v) (hy : ev e y = x) (hr : RowIs T sz v n xs L)
    (hsrc : Src P w t2 sz x m news) (h63 : n + m ≤ 140737488355328) (hb : (n + m) * bytes ≤ 140737488355328)
    (h : ∀ v' w' L', RowIs T sz v' (n + m) (xs ++ news) L' → St w0 K w' (M ++ (L' ++ F)) → WL P p Q l (upd e d v') w') :
    WL P p Q (⟨some d, none, .raw ty (.call (.mk (.builtin .append) #[s, y] #[t, t2]))⟩ :: l) e w := by
  obtain ⟨v', w', L', h1, h2, h3⟩ := St.append (ty := ty) hi hS hr hsrc h63 hb
  simp only [WL, wantedE, if_true, LOp.wp]
  have : (execOp (ev e) (mkOper ty (.call (.mk (.builtin .append) #[s, y] #[t, t2])))).run P w = .ok (.value v') w' := by
    simp only [execOp, mkOper, resolve, invoke, builtin, Sem.run_bind, Sem.run_pure, Result.andThen_ok, List.map_toArray, List.map_cons, List.map_nil, hs, hy, h1]
  rw [this]
  exact h v' w' L' h2 h3
end
end Go.Proofs.Ytohmgkcdjapinaa.Lw
namespace Go.Proofs.Ytohmgkcdjapinaa.Lw

def SH (w0 : World) (K : List Nat) (H : Blks) (w : World) : Prop := ∃ O, St w0 K w O ∧ ∀ q ∈ H, q ∈ O
inductive AllIn (O : Blks) : Blks → Prop
  | nil : AllIn O []
  | cons {q : Nat × Obj} {H : Blks} (h : q ∈ O) (r : AllIn O H) : AllIn O (q :: H)
theorem AllIn.all {O H : Blks} (h : AllIn O H) : ∀ q ∈ H, q ∈ O := by
  induction h with
  | nil => intro q hq; cases hq
  | cons h r ih =>
    intro q hq
    rcases List.mem_cons.1 hq with rfl | hq
    · exact h
    · exact ih q hq
theorem St.sh {w0 w : World} {K : List Nat} {O H : Blks} (hS : St w0 K w O) (hH : AllIn O H) : SH w0 K H w := ⟨O, hS, hH.all⟩

section
variable {P : Program} {p : Chain → World → Prop} {Q : Exit → Env → World → Prop} {e : Env} {w0 w : World} {K : List Nat} {O H : Blks} {t : DT} {d : Nat}
theorem WC_dr (H : Blks) (hS : St w0 K w O) (h : ∀ w', St w0 K w' O → WD P p (SH w0 K H) Q t e w') : WC P p (.dreg t) Q e w :=
  WC_dreg _ (h _ (hS.drew _))
theorem WC_drO (hS : St w0 K w O) (h : ∀ w', St w0 K w' O → SH w0 K O w' → WD P p (SH w0 K O) Q t e w') : WC P p (.dreg t) Q e w :=
  WC_dreg _ (h _ (hS.drew _) ⟨O, hS.drew _, fun _ h => h⟩)
theorem WC_drA {q : Nat × Obj} {L F : Blks} (hS : St w0 K w (q :: L ++ F)) (h : ∀ w', St w0 K w' (q :: L ++ F) → SH w0 K (q :: F) w' → WD P p (SH w0 K (q :: F)) Q t e w') : WC P p (.dreg t) Q e w :=
  WC_dreg _ (h _ (hS.drew _) ⟨_, hS.drew _, fun x hx => by
    rcases List.mem_cons.1 hx with rfl | hx
    · exact List.mem_append_left _ (List.mem_cons_self)
    · exact List.mem_append_right _ hx⟩)
variable (hD : SH w0 K H w)
include hD
theorem WD_pv {q : PV} (h : WL P p (fun _ e' _ => WD P p (SH w0 K H) Q t e' w) [⟨some d, none, .pv q⟩] e w) : WD P p (SH w0 K H) Q (.still ⟨some d, none, .pv q⟩ t) e w := by
  simp only [WL, wantedE, if_true, LOp.wp] at h
  obtain ⟨v, h1, h2⟩ := h
  refine ⟨hD, ?_⟩
  simp only [wantedE, if_true]
  exact ⟨v, h1, h2⟩
theorem WD_p {q : PV} {v : Value} (hv : q.val e = some v) (h : WD P p (SH w0 K H) Q t (upd e d v) w) : WD P p (SH w0 K H) Q (.still ⟨some d, none, .pv q⟩ t) e w := by
  refine ⟨hD, ?_⟩
  simp only [wantedE, if_true]
  exact ⟨v, hv, h⟩
theorem WD_do {d : Option Nat} {g : Nat} {b : Bool} {o : LOp} (hg : isB (e g) b = true) (h : WD P p (SH w0 K H) Q (.still ⟨d, none, o⟩ t) e w) : WD P p (SH w0 K H) Q (.still ⟨d, some (g, b), o⟩ t) e w := by
  simp only [WD] at h ⊢
  refine ⟨hD, ?_⟩
  have : wantedE e (some (g, b)) = true := hg
  rw [this]
  simpa [wantedE] using h.2
theorem WD_no {g : Nat} {b : Bool} {o : LOp} (hg : isB (e g) b = false) (h : WD P p (SH w0 K H) Q t (upd e d undef) w) : WD P p (SH w0 K H) Q (.still ⟨some d, some (g, b), o⟩ t) e w := by
  simp only [WD]
  refine ⟨hD, ?_⟩
  have : wantedE e (some (g, b)) = false := hg
  rw [this]
  exact h
omit hD in
theorem WDe_do {d : Option Nat} {g : Nat} {b : Bool} {o : LOp} (hg : isB (e g) b = true) (h : WD P p (SH w0 K H) Q (.eff ⟨d, none, o⟩ t) e w) : WD P p (SH w0 K H) Q (.eff ⟨d, some (g, b), o⟩ t) e w := by
  simp only [WD] at h ⊢
  have : wantedE e (some (g, b)) = true := hg
  rw [this]
  simpa [wantedE] using h
theorem WDe_no {g : Nat} {b : Bool} {o : LOp} (hg : isB (e g) b = false) (h : WD P p (SH w0 K H) Q t (upd e d undef) w) : WD P p (SH w0 K H) Q (.eff ⟨some d, some (g, b), o⟩ t) e w := by
  simp only [WD]
  have : wantedE e (some (g, b)) = false := hg
  rw [this]
  exact ⟨hD, h⟩
omit hD in
theorem WD_split {c : Prop} {_ : Decidable c} {g : Nat} {b : Bool} {d : Option Nat} {o : LOp} (hg : e g = .bool (decide c)) (h1 : c → WD P p (SH w0 K H) Q (.still ⟨d, some (g, b), o⟩ t) (upd e g (.bool true)) w)
    (h2 : ¬ c → WD P p (SH w0 K H) Q (.still ⟨d, some (g, b), o⟩ t) (upd e g (.bool false)) w) : WD P p (SH w0 K H) Q (.still ⟨d, some (g, b), o⟩ t) e w := by
  by_cases hc : c
  · have := h1 hc
    rwa [upd_self (by rw [hg, decide_eq_true hc])] at this
  · have := h2 hc
    rwa [upd_self (by rw [hg, decide_eq_false hc])] at this
omit hD in
theorem WD_splitB {c : Bool} {g : Nat} {b : Bool} {d : Option Nat} {o : LOp} (hg : e g = .bool c) (h1 : c = true → WD P p (SH w0 K H) Q (.still ⟨d, some (g, b), o⟩ t) (upd e g (.bool true)) w)
    (h2 : c = false → WD P p (SH w0 K H) Q (.still ⟨d, some (g, b), o⟩ t) (upd e g (.bool false)) w) : WD P p (SH w0 K H) Q (.still ⟨d, some (g, b), o⟩ t) e w := by
  cases c with
  | true => have := h1 rfl; rwa [upd_self hg] at this
  | false => have := h2 rfl; rwa [upd_self hg] at this
theorem WD_load {x : Operand} {b off : Nat} {T : TypeId} {cs : List Value} {v : Value} (hx : ev e x = .pointer (some ⟨b, off, none⟩)) (hm : (b, Blk T cs) ∈ H) (hv : cs[off]? = some v)
    (h : WD P p (SH w0 K H) Q t (upd e d v) w) : WD P p (SH w0 K H) Q (.still ⟨some d, none, .load x⟩ t) e w := by
  refine ⟨hD, ?_⟩
  simp only [wantedE, if_true]
  refine ⟨_, v, hx, fun w1 ⟨O1, h1, h2⟩ => ?_, h⟩
  rw [h1.cell (h2 _ hm), hv]
theorem WD_loadN {n : Nat} {x : Operand} {b off : Nat} {T : TypeId} {cs vs : List Value} (hx : ev e x = .pointer (some ⟨b, off, none⟩)) (hm : (b, Blk T cs) ∈ H) (hv : (cs.drop off).take n = vs) (hl : vs.length = n)
    (h : WD P p (SH w0 K H) Q t (upd e d (.agg vs.toArray)) w) : WD P p (SH w0 K H) Q (.still ⟨some d, none, .loadN n x⟩ t) e w := by
  refine ⟨hD, ?_⟩
  simp only [wantedE, if_true]
  refine ⟨_, vs, hx, hl, fun w1 ⟨O1, h1, h2⟩ => ?_, h⟩
  have := h1
  subst hv
  intro i hi
  rw [add_none, h1.cell (h2 _ hm)]
  have hi' := hi
  rw [List.length_take, List.length_drop] at hi'
  rw [List.getElem?_take, List.getElem?_drop, if_pos (by omega)]
theorem WD_loadR {x : Operand} {b o : Nat} {v : Value} (hx : ev e x = .pointer (some ⟨b, o, none⟩)) (hb : b ∉ K) (hc : w0.cell? ⟨b, o, none⟩ = some v) (h : WD P p (SH w0 K H) Q t (upd e d v) w) :
    WD P p (SH w0 K H) Q (.still ⟨some d, none, .load x⟩ t) e w := by
  refine ⟨hD, ?_⟩
  simp only [wantedE, if_true]
  exact ⟨_, v, hx, fun w1 ⟨O1, h1, h2⟩ => h1.keep hb hc, h⟩
theorem WD_loadNR {n : Nat} {x : Operand} {b o : Nat} {vs : List Value} (hx : ev e x = .pointer (some ⟨b, o, none⟩)) (hb : b ∉ K) (hc : ∀ j, j < n → w0.cell? ⟨b, o + j, none⟩ = vs[j]?) (hl : vs.length = n)
    (h : WD P p (SH w0 K H) Q t (upd e d (.agg vs.toArray)) w) : WD P p (SH w0 K H) Q (.still ⟨some d, none, .loadN n x⟩ t) e w := by
  refine ⟨hD, ?_⟩
  simp only [wantedE, if_true]
  refine ⟨_, vs, hx, hl, fun w1 ⟨O1, h1, h2⟩ i hi => ?_, h⟩
  rw [add_none]
  have := hc i (by omega)
  rw [List.getElem?_eq_getElem hi] at this ⊢
  exact h1.keep hb this
omit hD in
/-- An operation that may turn the world: as in a plain region; then the blocks H are still held. -/
theorem WD_eff {d : Option Nat} {o : LOp} (h : WL P p (fun _ e' w' => SH w0 K H w' ∧ WD P p (SH w0 K H) Q t e' w') [⟨d, none, o⟩] e w) : WD P p (SH w0 K H) Q (.eff ⟨d, none, o⟩ t) e w := by
  simp only [WD, wantedE, if_true]
  simpa only [WL, wantedE, if_true] using h
omit hD in
theorem WD_go (hD : SH w0 K H w) (h : SH w0 K H w → WD P p (SH w0 K H) Q t e w) : WL P p (fun _ e' w' => SH w0 K H w' ∧ WD P p (SH w0 K H) Q t e' w') [] e w := ⟨hD, h hD⟩
omit hD in
theorem WD_nil {S : World → Prop} (h : Q .normal e w) : WD P p S Q .nil e w := h
omit hD in
theorem WD_alt {S : World → Prop} {u : DT} (h1 : WD P p S Q t e w) (h2 : WD P p S Q u e w) : WD P p S Q (.alt t u) e w := ⟨h1, h2⟩
end
end Go.Proofs.Ytohmgkcdjapinaa.Lw
namespace Go.Proofs.Ytohmgkcdjapinaa.Lw

theorem flat_len {α : Type} {f : α → List Value} {sz : Nat} (hf : ∀ x, (f x).length = sz) : ∀ xs : List α, (xs.flatMap f).length = xs.length * sz
  | [] => by simp
  | x :: xs => by rw [List.flatMap_cons, List.length_append, hf, flat_len hf xs, List.length_cons, Nat.add_mul, Nat.one_mul, Nat.add_comm]
theorem made_eq {α : Type} {f : α → List Value} {x : α} {sz : Nat} (hf : ∀ x, (f x).length = sz) (hz : 0 < sz) (n : Nat) : madeCells (f x).toArray (n * sz) = ((List.replicate n x).flatMap f).toArray := by
  apply Array.ext
  · rw [size_madeCells, List.size_toArray, flat_len hf, List.length_replicate]
  · intro j h1 h2
    rw [size_madeCells] at h1
    have hk : j / sz < n := (Nat.div_lt_iff_lt_mul hz).2 h1
    have hr : j % sz < sz := Nat.mod_lt _ hz
    have hj : j = j / sz * sz + j % sz := by rw [Nat.mul_comm]; exact (Nat.div_add_mod j sz).symm
    have hx : (List.replicate n x)[j / sz]? = some x := by rw [List.getElem?_replicate, if_pos hk]
    have key := flat_get hf (List.replicate n x) (j / sz) (j % sz) x hx hr
    rw [← hj] at key
    have hrl : j % sz < (f x).length := by rw [hf]; exact hr
    rw [List.getElem?_eq_getElem hrl, List.getElem?_eq_getElem (by simpa using h2)] at key
    simp only [madeCells, Array.getElem_map, Array.getElem_range, List.getElem_toArray, List.size_toArray, hf]
    rw [Option.some.inj key]
    simp [hrl]
section
variable {P : Program} {p : Chain → World → Prop} {Q : Exit → Env → World → Prop} {e : Env} {w0 w : World} {K : List Nat} {O : Blks} {d : Nat} {ops : List LOper}
theorem WL_make {α : Type} {f : α → List Value} {z : α} {t T ty sz bytes n : Nat} {zv : Value} {x : Operand} (hS : St w0 K w O) (hu : P.underlying t = some (.slice T)) (hi : (P.info? T).map (fun i => (i.zero, i.size, i.bytes)) = some (some zv, sz, bytes))
    (hz : zv.cells = (f z).toArray) (hf : ∀ x, (f x).length = sz) (hsz : 0 < sz) (hx : ev e x = .int .i64 (n : Int)) (hb : (bytes : Int) * (n : Int) ≤ 281474976710656) (hn : n ≤ 140737488351232)
    (h : ∀ b w', St w0 K w' (O ++ [(b, Blk T ((List.replicate n z).flatMap f))]) → w0.heap.size ≤ b → WL P p Q ops (upd e d (.slice (some ⟨b, 0, none⟩) n n)) w') : WL P p Q (⟨some d, none, .raw ty (.makeSlice t x x)⟩ :: ops) e w := by
  obtain ⟨i, hi, he⟩ := Option.map_eq_some_iff.1 hi
  simp only [Prod.mk.injEq] at he
  obtain ⟨h1, h2, h3⟩ := he
  simp only [WL, wantedE, if_true, LOp.wp]
  have hr := run_make (P := P) w t T i zv hu hi h1 .i64 .i64 (n : Int) (n : Int) (by omega) (by omega) (by rw [h3]; exact hb) (by omega)
  simp only [Int.toNat_natCast] at hr
  rw [h2, hz, made_eq hf hsz] at hr
  have : (execOp (ev e) (mkOper ty (.makeSlice t x x))).run P w = .ok (.value (.slice (some ⟨w.heap.size, 0, none⟩) n n)) (w.alloc (.cells ((List.replicate n z).flatMap f).toArray T)) := by
    simp only [execOp, mkOper, hx, Sem.run_bind, hr, Result.andThen_ok, Sem.run_pure]
  rw [this]
  exact h _ _ (hS.new _) hS.size
end
end Go.Proofs.Ytohmgkcdjapinaa.Lw
namespace Go.Proofs.Ytohmgkcdjapinaa.Lw

/-- What 'recover' answers in a deferred call of a frame in that mode, and the mode behind it. -/
def recM : FrameMode → Value × FrameMode
  | .panicking ({ v, recovered := false, goexit := false } :: older) => (v, .panicking ({ v, recovered := true } :: older))
  | u => (.nilIface, u)

section
variable {P : Program}
theorem wpOpsS_of_list {ops : Array Oper} {Q : Exit → Act → List Frame → World → Prop} {Q0 : Exit → Act → World → Prop} {cs : List Frame} (hN : ∀ a w, ¬ Q0 .outgrown a w) (hQ : ∀ x a w, Q0 x a w → Q x a cs w) : ∀ (l : List Oper) (k : Nat), (∀ j, l[j]? = ops[k + j]?) → ∀ a w,
    wpList P ops Q0 l a w → wpOpsS P ops Q (List.range' k l.length) a cs w
  | [], k, _, a, w, h => hQ _ _ _ h
  | o :: l, k, hk, a, w, h => by
    have h0 : ops[k]? = some o := by simpa using (hk 0).symm
    have ih := wpOpsS_of_list hN hQ l (k + 1) (fun j => by have := hk (j + 1); simpa [Nat.add_assoc, Nat.add_comm 1 j] using this)
    simp only [List.length_cons, List.range'_succ, wpOpsS, h0]
    simp only [wpList] at h
    split
    · rename_i hw
      rw [if_pos hw] at h
      rcases h with h | ⟨_, a', w', h⟩
      · unfold Oper.wp at h
        generalize (execOp a.eval o).run P w = r at h
        have key : o.upon P a (fun a' w' => wpOpsS P ops Q (List.range' (k + 1) l.length) a' cs w') (fun e a' w' => Q e a' cs w') r := by
          cases r with
          | ok n w' =>
            cases n with
            | value v => exact ih _ _ h
            | skip => exact ih _ _ h
            | defer d => exact ih _ _ h
            | enter f args =>
              refine Calls.mono h fun en w'' hr => ?_
              cases en with
              | returned v => exact ih _ _ hr
              | panicked ch => exact hQ _ _ _ hr
              | outgrown => obtain ⟨a', w', hr⟩ := hr; exact absurd hr (hN a' w')
            | row row args => exact Rows.mono h fun v w'' hr => ih _ _ hr
            | _ => exact h.elim
          | halt x w' =>
            cases x with
            | panic v => exact hQ _ _ _ h
            | _ => exact h.elim
        cases r with
        | ok n w' =>
          cases n with
          | recover => exact h.elim
          | _ => exact key
        | halt x w' => exact key
      · exact absurd h (hN a' w')
    · rename_i hw
      rw [if_neg hw] at h
      exact ih _ _ h

/-- A closure that begins with 'recover', entered as a deferred call. -/
theorem recF {f : FuncId} {fn : Func} {id d : Nat} {ops : Array Oper} {o : Oper} {rest : List Oper} {c2 : Code} {ll : List LOper} {lc2 : LC} {rs : List LRes} {args : List Value} {u : FrameMode} {w : World} {R : Ending → FrameMode → World → Prop}
    (hf : P.funcs[f]? = some fn) (hb : fn.body = some (.seq (.region id ops false) c2)) (hops : ops.toList = o :: rest) (hop : o.op = .call (.mk (.builtin .recover) #[] #[])) (hod : o.dst = some d) (hog : o.guard = none)
    (hd : dstOk ⟨fn.ntmps, [], true⟩ (some d) = true) (hl : lowList P ⟨fn.ntmps, [], true⟩ ops rest = some ll) (hc : lowC P ⟨fn.ntmps, [], true⟩ c2 = some lc2) (hrs : lowRes P fn.results.toList = some rs) (hn : Nat.ble args.length fn.ntmps = true)
    (h : WC P (fun _ _ => False) (.seq (.reg ll) lc2) (retQ rs fun en w' => R en (recM u).2 w') (upd (envL 0 args) d (recM u).1) w) : CallsD P f args.toArray u w R := by
  refine callsD_of_wpS hf hb fun c₀ cs hu => ?_
  have hrec : (match recoverD (c₀ :: cs) with
      | some (v, cs') => (v, cs')
      | none => (Value.nilIface, c₀ :: cs)) = ((recM u).1, { c₀ with mode := (recM u).2 } :: cs) := by
    subst hu
    simp only [recoverD, recM]
    split <;> rename_i heq <;> split at heq <;> simp_all
    all_goals (first | (obtain ⟨rfl, rfl⟩ := heq; rfl) | (cases c₀; simp_all))
  let Q : Exit → Act → List Frame → World → Prop := bodyPostS P fn c₀ cs R
  have hrep := (rep_enter true args fn.ntmps (by simpa using hn)).put (some d) hd (recM u).1
  have hQ : ∀ x a w, liftQ ⟨fn.ntmps, [], true⟩ ⟨[], []⟩ (fun _ _ => False) (retQ rs fun en w' => R en (recM u).2 w') x a w → Q x a ({ c₀ with mode := (recM u).2 } :: cs) w := by
    intro x a w hq
    cases x with
    | normal =>
      obtain ⟨e, hrep, vs, hvs, hR⟩ := hq
      exact ⟨hrep.defs, _, rfl, _, run_results P fn a.tmps e hrep.val w rs hrs vs hvs, hR⟩
    | ret =>
      obtain ⟨e, hrep, vs, hvs, hR⟩ := hq
      exact ⟨hrep.defs, _, rfl, _, run_results P fn a.tmps e hrep.val w rs hrs vs hvs, hR⟩
    | panic ch => exact hq.2.elim
    | exit id => obtain ⟨_, _, hh⟩ := hq; exact hh.elim
    | goto l => obtain ⟨_, _, hh⟩ := hq; exact hh.elim
    | outgrown => exact hq.elim
  apply wpS_seq
  apply wpS_region
  have hsize : ops.size = rest.length + 1 := by rw [← Array.length_toList, hops]; rfl
  rw [List.range_eq_range', hsize, List.range'_succ]
  have h0 : ops[0]? = some o := by rw [← Array.getElem?_toList, hops]; rfl
  simp only [wpOpsS, h0]
  have hwant : ∀ ys, Region.wanted o ys = true := fun ys => by simp [Region.wanted, hog]
  rw [hwant, if_pos rfl]
  have hrun : ∀ ev w, (execOp ev o).run P w = .ok .recover w := by
    intro ev w
    rw [execOp_mk, hop]
    rfl
  rw [hrun]
  simp only
  have hgo : wpOpsS P ops (Exit.thenS (c2.wpS P Q) Q) (List.range' (0 + 1) rest.length) ({ tmps := args.toArray ++ Array.replicate (fn.ntmps - args.toArray.size) undef, defers := [] : Act }.put o.dst (recM u).1) ({ c₀ with mode := (recM u).2 } :: cs) w := by
    have hw := WL_sound (p := fun _ _ => False) _ _ hl _ _ _ hrep (show WL P _ _ ll _ w from h)
    rw [hod]
    refine wpOpsS_of_list (fun a w hq => hq.elim) (fun x a w hq => ?_) rest 1 (fun j => ?_) _ _ hw
    · have := liftQ_then (nextA := fun a w => c2.wpS P Q a ({ c₀ with mode := (recM u).2 } :: cs) w) (fun e a w hr h => wpS_of_wp (Code.wp_mono (fun x a w h => hQ x a w h) (WC_sound c2 lc2 hc _ e w a hr h))) hq
      cases x with
      | normal => exact this
      | exit i => exact hQ (.exit i) a w this
      | goto l => exact hQ (.goto l) a w this
      | ret => exact hQ .ret a w this
      | panic ch => exact hQ (.panic ch) a w this
      | outgrown => exact hQ .outgrown a w this
    · rw [← Array.getElem?_toList, hops, Nat.add_comm]; rfl
  revert hgo
  generalize recoverD (c₀ :: cs) = rr at hrec
  cases rr with
  | none =>
    simp only at hrec
    simp only [Prod.mk.injEq] at hrec
    rw [← hrec.1, ← hrec.2]
    exact fun h => h
  | some vc =>
    obtain ⟨v, cs'⟩ := vc
    simp only [Prod.mk.injEq] at hrec
    obtain ⟨h1, h2⟩ := hrec
    subst h1 h2
    exact fun h => h
/-- What is left to show behind a deferred call. -/
def afterD (prot : List (Nat × Value)) (rs : List LRes) (R : Ending → World → Prop) (u : FrameMode) (w : World) : Prop :=
  match settle u with
  | .returning => ∀ e : Env, (∀ q ∈ prot, e q.1 = q.2) → ∃ vs, resAll e w vs rs ∧ R (.returned (tupV vs)) w
  | .panicking ch => R (.panicked ch) w
  | .run => False
def retD (P : Program) (prot : List (Nat × Value)) (rs : List LRes) (R : Ending → World → Prop) (en : Ending) (u : FrameMode) (w : World) : Prop :=
  match en with
  | .returned _ => afterD prot rs R u w
  | _ => False
/-- A function that lays some slots, defers a closure, and goes on. -/
theorem deferF {f g : FuncId} {fn : Func} {id t : Nat} {ops : Array Oper} {o1 o2 : Oper} {caps : List Operand} {c1 c3 : Code} {l1 l3 : LC} {rs : List LRes} {sl : List Nat} {args : List Value} {w : World} {R : Ending → World → Prop}
    (hf : P.funcs[f]? = some fn) (hb : fn.body = some (.seq c1 (.seq (.region id ops false) c3))) (hops : ops.toList = [o1, o2])
    (h1 : lowOper P ⟨fn.ntmps, [], true⟩ ops o1 = some ⟨some t, none, .pv (.fn g caps)⟩) (h2 : o2.op = .defer (.mk (.value (.tmp t)) #[] #[])) (h2g : o2.guard = none) (h2d : o2.dst = none)
    (hl1 : lowC P ⟨fn.ntmps, [], true⟩ c1 = some l1) (hl3 : lowC P ⟨fn.ntmps, sl, true⟩ c3 = some l3) (hrs : lowRes P fn.results.toList = some rs) (hn : Nat.ble args.length fn.ntmps = true)
    (hg : bodyOk P g = true)
    (h : WC P (fun _ _ => False) l1 (fun x e w => x = .normal ∧ ∃ prot : List (Nat × Value), prot.map (·.1) = sl ∧ (∀ q ∈ prot, q.1 ≠ t ∧ e q.1 = q.2) ∧
      WC P (fun ch w' => CallsD P g (caps.map (ev e)).toArray (.panicking ch) w' (retD P prot rs R)) l3 (fun x _ w' => (x = .normal ∨ x = .ret) ∧ CallsD P g (caps.map (ev e)).toArray .returning w' (retD P prot rs R))
        (upd e t (.func (.func g) #[] (caps.map (ev e)).toArray)) w) (envL 0 args) w) : Calls P f args.toArray w R := by
  refine calls_of_wp_defers hf hb (wp_seq (Code.wp_mono ?_ (WC_sound (ds := ⟨[], []⟩) c1 l1 hl1 _ _ w _ (rep_enter true args fn.ntmps (by simpa using hn)) h)))
  intro x a w hq
  cases x with
  | normal =>
    obtain ⟨e, hrep, _, prot, hsl, hprot, hw⟩ := hq
    refine wp_seq (wp_region_list ?_)
    rw [hops]
    obtain ⟨hwt, hd1, hdn, hop⟩ := wanted_low h1 hrep
    have hput := hrep.put o1.dst hdn (.func (.func g) #[] (caps.map (ev e)).toArray)
    rw [← hd1] at hput
    have key : ∀ (ds : List Deferred) tm (en : Ending) u' w'', ds = [] → (∀ q ∈ prot, tm.getD q.1 undef = q.2) → retD P prot rs R en u' w'' → (match en with
        | .returned _ => Leaves P fn tm R [] (settle u') w''
        | .panicked chain => Leaves P fn tm R [] (raised u' chain) w''
        | .outgrown => R .outgrown w'') := by
      intro ds tm en u' w'' _ htm hr
      cases en with
      | returned v =>
        simp only [retD, afterD] at hr ⊢
        split at hr
        · rename_i hs
          rw [hs]
          obtain ⟨vs, hvs, hR⟩ := hr (fun t => tm.getD t undef) htm
          exact ⟨_, run_results P fn tm _ (fun _ => rfl) w'' rs hrs vs hvs, hR⟩
        · rename_i hs
          rw [hs]
          exact hr
        · exact hr.elim
      | panicked ch => exact hr.elim
      | outgrown => exact hr.elim
    have hinv : ∀ w, (invoke (.fn (.func g) (caps.map (ev e)).toArray) #[]).run P w = .ok (.enter g (caps.map (ev e)).toArray) w := by
      intro w
      simp only [invoke, Array.empty_append]
      exact run_callFunc hg _
    simp only [wpList]
    rw [hwt, if_pos (show wantedE e none = true from rfl)]
    refine .inl ?_
    unfold Oper.wp
    refine upon_of_ends (p := fun _ _ => False) (next := fun v w' => v = .func (.func g) #[] (caps.map (ev e)).toArray ∧ w' = w) ?_ ?_ (fun _ _ h => h.elim)
    · rw [hrep.eval]
      exact sound_op (by simp) hop ⟨_, rfl, rfl, rfl⟩
    · rintro v w' ⟨rfl, rfl⟩
      have hput := hrep.put o1.dst hdn (.func (.func g) #[] (caps.map (ev e)).toArray)
      rw [← hd1] at hput ⊢
      simp only [updO] at hput
      rw [show ∀ ys, Region.wanted o2 ys = true from fun ys => by simp [Region.wanted, h2g]]
      rw [if_pos rfl]
      refine .inl ?_
      have hrun : (execOp (a.put (some t) (.func (.func g) #[] (caps.map (ev e)).toArray)).eval o2).run P w' = .ok (.defer { target := .fn (.func g) (caps.map (ev e)).toArray, args := #[] }) w' := by
        rw [execOp_mk, h2, hput.eval]
        simp only [execOp, mkOper, resolve, ev, upd, if_true, Deferred.ofValue, Sem.run_bind, Sem.run_pure, Result.andThen_ok, Array.map_empty, Array.empty_append]
      refine (show o2.upon P (a.put (some t) (.func (.func g) #[] (caps.map (ev e)).toArray)) _ _ ((execOp (a.put (some t) (.func (.func g) #[] (caps.map (ev e)).toArray)).eval o2).run P w') from ?_)
      rw [hrun]
      simp only [Oper.upon, h2d, Act.put]
      have hpr : ∀ q ∈ prot, upd e t (.func (.func g) #[] (caps.map (ev e)).toArray) q.1 = q.2 := by
        intro q hq
        rw [upd_app, if_neg (hprot q hq).1, (hprot q hq).2]
      have hd0 := hput.defs
      refine Code.wp_mono ?_ (WC_sound (n := ⟨fn.ntmps, sl, true⟩) (ds := ⟨[{ target := .fn (.func g) (caps.map (ev e)).toArray, args := #[] }], prot⟩) c3 l3 hl3 _ _ w' _ ?_ hw)
      · have hend : ∀ (e' : Env) (a' : Act) (w'' : World), Rep ⟨fn.ntmps, sl, true⟩ a' e' ⟨[{ target := .fn (.func g) (caps.map (ev e)).toArray, args := #[] }], prot⟩ → CallsD P g (caps.map (ev e)).toArray .returning w'' (retD P prot rs R) → Leaves P fn a'.tmps R a'.defers .returning w'' := by
          intro e' a' w'' hr' hc
          rw [hr'.defs]
          exact leaves_cons (by simp) (hinv w'') (hc.mono fun en u' w3 h3 => by cases en <;> first | exact key [] a'.tmps (.returned _) u' w3 rfl hr'.prot h3 | exact h3.elim)
        intro x a' w'' hq
        cases x with
        | normal => obtain ⟨e', hr', _, hc⟩ := hq; exact hend e' a' w'' hr' hc
        | ret => obtain ⟨e', hr', _, hc⟩ := hq; exact hend e' a' w'' hr' hc
        | panic ch =>
          obtain ⟨⟨hd', hk'⟩, hc⟩ := hq
          show Leaves P fn a'.tmps R a'.defers (.panicking ch) w''
          rw [hd']
          exact leaves_cons (by simp) (hinv w'') (hc.mono fun en u' w3 h3 => by cases en <;> first | exact key [] a'.tmps (.returned _) u' w3 rfl hk' h3 | exact h3.elim)
        | exit id => obtain ⟨_, _, hh, _⟩ := hq; rcases hh with hh | hh <;> cases hh
        | goto l => obtain ⟨_, _, hh, _⟩ := hq; rcases hh with hh | hh <;> cases hh
        | outgrown => exact hq.elim
      · refine ⟨hput.size, hput.val, ?_, ?_, ?_⟩
        · simp [Act.put, hrep.defs]
        · intro q hq
          rw [← hsl]
          exact List.mem_map_of_mem hq
        · intro q hq
          rw [← hpr q hq]
          exact hput.val q.1
  | ret => obtain ⟨_, _, hh, _⟩ := hq; cases hh
  | panic ch => exact hq.2.elim
  | exit id => obtain ⟨_, _, hh, _⟩ := hq; cases hh
  | goto l => obtain ⟨_, _, hh, _⟩ := hq; cases hh
  | outgrown => exact hq.elim
end
end Go.Proofs.Ytohmgkcdjapinaa.Lw
namespace Go.Proofs.Ytohmgkcdjapinaa.Lw

inductive Td where
  | int (k : IntKind)
  | bool
  | str
  | slice (bytes : Nat) (e : Td)
  | struct (fs : List Td)
mutual
def Td.size : Td → Nat
  | .struct fs => Td.sizes fs
  | _ => 1
def Td.sizes : List Td → Nat
  | [] => 0
  | T :: r => T.size + Td.sizes r
end
def tdFields (P : Program) (r : TypeId → Option Td) : Nat → List Field → Option (List Td)
  | _, [] => some []
  | off, f :: l => match r f.type with
    | none => none
    | some T => if Nat.beq f.offset off && Nat.beq (P.cellsOf f.type) T.size then (match tdFields P r (off + T.size) l with | some Ts => some (T :: Ts) | none => none) else none
def tdOf (P : Program) : Nat → TypeId → Option Td
  | 0, _ => none
  | n + 1, t => match P.underlying t with
    | some .bool => some .bool
    | some (.int k) => some (.int k)
    | some .string => some .str
    | some (.slice e) => match tdOf P n e with
      | some T => if Nat.beq (P.cellsOf e) T.size then some (.slice (P.bytesOf e) T) else none
      | none => none
    | some (.struct fs) => match tdFields P (tdOf P n) 0 fs.toList with
      | some Ts => if Nat.beq (P.cellsOf t) (Td.sizes Ts) then some (.struct Ts) else none
      | none => none
    | _ => none
mutual
def Sem (w : World) : Td → List Value → Prop
  | .int k, cs => ∃ n, cs = [.int k n] ∧ (Lit.int k n).wf = true
  | .bool, cs => ∃ b, cs = [.bool b]
  | .str, cs => ∃ l : List UInt8, cs = [S l] ∧ l.length ≤ 140737488351232
  | .slice bytes e, cs => ∃ A len cap, cs = [.slice A len cap] ∧ len ≤ cap ∧ len * bytes ≤ 140737488351232 ∧
      ∀ i, i < len → ∃ cs', cs'.length = e.size ∧ Sem w e cs' ∧ ∃ a, A = some a ∧ ∀ j, j < e.size → w.cell? (a.add (i * e.size + j)) = cs'[j]?
  | .struct fs, cs => SemAll w fs cs
def SemAll (w : World) : List Td → List Value → Prop
  | [], cs => cs = []
  | T :: r, cs => ∃ c1 c2, cs = c1 ++ c2 ∧ c1.length = T.size ∧ Sem w T c1 ∧ SemAll w r c2
end

theorem fits_all {l : List Nat} (h : l.all (· ≤ reachBytes) = true) {n : Nat} (hn : n ∈ l) : n ≤ 140737488351232 := by
  have := List.all_eq_true.1 h n hn
  have h2 := of_decide_eq_true this
  exact h2
theorem all_left {l r : List Nat} (h : (l ++ r).all (· ≤ reachBytes) = true) : l.all (· ≤ reachBytes) = true := by
  rw [List.all_append, Bool.and_eq_true] at h; exact h.1
theorem all_right {l r : List Nat} (h : (l ++ r).all (· ≤ reachBytes) = true) : r.all (· ≤ reachBytes) = true := by
  rw [List.all_append, Bool.and_eq_true] at h; exact h.2
theorem add_add (a : Addr) (i j : Nat) (h : a.spot = none) : (a.add i).add j = a.add (i + j) := by
  obtain ⟨b, o, s⟩ := a
  simp only at h
  subst h
  rw [add_none, add_none, add_none, Nat.add_assoc]
theorem cells_get {w : World} {a : Addr} {n : Nat} {cs : List Value} (h : w.cells? 0 a n = some cs) : cs.length = n ∧ ∀ j, j < n → w.cell? (a.add j) = cs[j]? := by
  unfold World.cells? at h
  rw [if_pos (Nat.zero_le _)] at h
  have hl := mapM_some_length h
  rw [List.length_range] at hl
  refine ⟨hl, fun j hj => ?_⟩
  have := mapM_some_get h j j (by rw [List.getElem?_range hj])
  exact this
theorem spot_none {w : World} {a : Addr} {v : Value} (h : w.cell? a = some v) : a.spot = none := by
  unfold World.cell? at h
  split at h
  · split at h
    · cases h
    · rename_i hs
      cases hh : a.spot with
      | none => rfl
      | some x => simp [hh] at hs
  · cases h
theorem weightsAll_get {H : Type} {P : Program} {e : TypeId} : ∀ (l : List (DataW H)) (i : Nat) (d : DataW H), l[i]? = some d → (DataW.weightsAll P e l).all (· ≤ reachBytes) = true → (d.weights P e).all (· ≤ reachBytes) = true
  | [], i, d, h, _ => by simp at h
  | x :: l, 0, d, h, hw => by
    simp only [List.getElem?_cons_zero, Option.some.injEq] at h
    subst h
    simp only [DataW.weightsAll] at hw
    exact all_left hw
  | x :: l, i + 1, d, h, hw => by
    simp only [List.getElem?_cons_succ] at h
    simp only [DataW.weightsAll] at hw
    exact weightsAll_get l i d h (all_right hw)

section
variable {H : Type} {enc : TypeId × Value → H} {P : Program} {w : World}
theorem fields_sem {r : TypeId → Option Td} {g : TypeId → List Value → Option (DataW H × List MemPlace)} (cs : List Value)
    (hr : ∀ t T c d ps, r t = some T → g t c = some (d, ps) → (d.weights P t).all (· ≤ reachBytes) = true → Sem w T c ∧ c.length = T.size) :
    ∀ (fs : List Field) (off : Nat) (Ts : List Td) (xs : List (DataW H × List MemPlace)), tdFields P r off fs = some Ts → (∀ (i : Nat) (f : Field), fs[i]? = some f → g f.type ((cs.drop f.offset).take (P.cellsOf f.type)) = xs[i]?) → xs.length = fs.length →
      (DataW.weightsEach P (fs.map (·.type)) (xs.map (·.1))).all (· ≤ reachBytes) = true → cs.length = off + Td.sizes Ts → SemAll w Ts (cs.drop off)
  | [], off, Ts, xs, hT, hx, hl, hw, hc => by
    simp only [tdFields, Option.some.injEq] at hT
    subst hT
    simp only [Td.sizes, Nat.add_zero] at hc
    simp only [SemAll]
    exact List.drop_eq_nil_of_le (by omega)
  | f :: fs, off, Ts, xs, hT, hx, hl, hw, hc => by
    simp only [tdFields] at hT
    split at hT
    · cases hT
    rename_i T hT1
    split at hT
    · rename_i hoff
      simp only [Bool.and_eq_true] at hoff
      replace hoff : f.offset = off ∧ P.cellsOf f.type = T.size := ⟨Nat.eq_of_beq_eq_true hoff.1, Nat.eq_of_beq_eq_true hoff.2⟩
      split at hT
      · rename_i Ts' hT2
        obtain rfl := Option.some.inj hT
        match xs, hl with
        | x :: xs, hl =>
          have h0 := hx 0 f rfl
          simp only [List.getElem?_cons_zero] at h0
          rw [hoff.1, hoff.2] at h0
          simp only [Td.sizes] at hc
          simp only [List.map_cons, DataW.weightsEach] at hw
          have hs := hr f.type T _ x.1 x.2 hT1 h0 (all_left hw)
          have ih := fields_sem cs hr fs (off + T.size) Ts' xs hT2 (fun i f' hf => by have := hx (i + 1) f' (by simpa using hf); simpa using this) (by simpa using hl) (all_right hw) (by omega)
          refine ⟨(cs.drop off).take T.size, cs.drop (off + T.size), ?_, hs.2, hs.1, ih⟩
          rw [← List.drop_drop, List.take_append_drop]
      · cases hT
    · cases hT
theorem trod_sem : ∀ (n m : Nat) (t : TypeId) (T : Td) (cs : List Value) (d : DataW H) (ps : List MemPlace), tdOf P m t = some T → DataW.trod enc P w 0 (fun _ => true) true n t cs = some (d, ps) →
    (d.weights P t).all (· ≤ reachBytes) = true → Sem w T cs ∧ cs.length = T.size
  | 0, m, t, T, cs, d, ps, hT, h, hw => by simp [DataW.trod] at h
  | n + 1, 0, t, T, cs, d, ps, hT, h, hw => by cases hT
  | n + 1, m + 1, t, T, cs, d, ps, hT, h, hw => by
    simp only [tdOf] at hT
    split at hT
    · rename_i hu
      obtain rfl := Option.some.inj hT
      obtain ⟨b, rfl, _⟩ := DataW.trod_bool hu h
      exact ⟨⟨b, rfl⟩, rfl⟩
    · rename_i k hu
      obtain rfl := Option.some.inj hT
      obtain ⟨x, rfl, _, hwf⟩ := DataW.trod_int hu h
      exact ⟨⟨x, rfl, hwf⟩, rfl⟩
    · rename_i hu
      obtain rfl := Option.some.inj hT
      obtain ⟨s, rfl, hd, _⟩ := DataW.trod_string hu h
      injection hd with hd1 hd2
      subst hd1
      refine ⟨⟨s.data.toList, ?_, ?_⟩, rfl⟩
      · simp [S]
      · exact fits_all hw (by simp [DataW.weights])
    · rename_i e hu
      split at hT
      · rename_i Te hTe
        split at hT
        · rename_i hsz
          replace hsz := Nat.eq_of_beq_eq_true hsz
          obtain rfl := Option.some.inj hT
          rcases DataW.trod_slice hu h with ⟨rfl, hd⟩ | ⟨a, len, cap, elems, rest, n', hn', rfl, hd, _, hlc, _, hlen, hel, hsp, _⟩
          · exact ⟨⟨none, 0, 0, rfl, Nat.le_refl _, by omega, fun i hi => by omega⟩, rfl⟩
          · injection hn' with hn'
            subst hn'
            injection hd with hd1 hd2
            subst hd1
            simp only [DataW.weights, hu] at hw
            simp only [List.length_map] at hw
            have hb := fits_all hw (List.mem_cons_self)
            have hwr : (DataW.weightsAll P e (elems.map (·.1))).all (· ≤ reachBytes) = true := by
              rw [List.all_cons, Bool.and_eq_true] at hw
              exact all_left hw.2
            refine ⟨⟨some a, len, cap, rfl, hlc, ?_, fun i hi => ?_⟩, rfl⟩
            · have : len * P.bytesOf e ≤ (elems.length + rest.length) * P.bytesOf e := Nat.mul_le_mul_right _ (by omega)
              omega
            · have hi1 := hel i hi
              rw [List.getElem?_eq_getElem (by omega)] at hi1
              obtain ⟨cs', hc1, hc2⟩ := Option.bind_eq_some_iff.1 hi1
              have hrec := trod_sem n m e Te cs' (elems[i]'(by omega)).1 (elems[i]'(by omega)).2 hTe hc2 (weightsAll_get _ i _ (by rw [List.getElem?_map, List.getElem?_eq_getElem (by omega)]; rfl) hwr)
              have hg := cells_get hc1
              rw [hsz] at hg
              refine ⟨cs', hrec.2, hrec.1, a, rfl, fun j hj => ?_⟩
              have hj' := hg.2 j hj
              rw [hj'.symm]
              have hs0 : (a.add (i * Te.size)).spot = none := by
                have h0 := hg.2 0 (by omega)
                rw [List.getElem?_eq_getElem (by omega)] at h0
                have := spot_none h0
                unfold Addr.add at this ⊢
                simpa using this
              congr 1
              by_cases hz : i * Te.size = 0
              · rw [hz, Nat.zero_add]
                unfold Addr.add; simp
              · unfold Addr.add at hs0 ⊢
                simp only [hz, if_false]
                split
                · rename_i h1; exact absurd (by omega) hz
                · split
                  · rename_i hj0; subst hj0; simp
                  · simp [Nat.add_assoc]
        · cases hT
      · cases hT
    · rename_i fs hu
      split at hT
      · rename_i Ts hTs
        split at hT
        · rename_i hsz
          replace hsz := Nat.eq_of_beq_eq_true hsz
          obtain rfl := Option.some.inj hT
          obtain ⟨xs, n', hn', hd, hl, hxl, hxs⟩ := DataW.trod_struct hu h
          injection hn' with hn'
          subst hn'
          injection hd with hd1 hd2
          subst hd1
          simp only [DataW.weights, hu] at hw
          have hc : cs.length = 0 + Td.sizes Ts := by rw [hl, hsz, Nat.zero_add]
          have := fields_sem (w := w) (P := P) cs (fun t T c d ps h1 h2 h3 => trod_sem n m t T c d ps h1 h2 h3) fs.toList 0 Ts xs hTs (fun i f hf => hxs i f (by simpa using hf)) (by simpa using hxl) hw hc
          rw [List.drop_zero] at this
          exact ⟨this, by simpa [Td.size] using hc⟩
        · cases hT
      · cases hT
    · cases hT
end
end Go.Proofs.Ytohmgkcdjapinaa.Lw
namespace Go.Proofs.Ytohmgkcdjapinaa.Lw

theorem list_of_idx {α : Type} : ∀ {n : Nat} {p : Nat → α → Prop}, (∀ i, i < n → ∃ x, p i x) → ∃ xs : List α, xs.length = n ∧ ∀ i x, xs[i]? = some x → p i x
  | 0, p, _ => ⟨[], rfl, fun i x h => by simp at h⟩
  | n + 1, p, h => by
    obtain ⟨x, hx⟩ := h 0 (by omega)
    obtain ⟨xs, hl, hp⟩ := list_of_idx (n := n) (p := fun i => p (i + 1)) fun i hi => h (i + 1) (by omega)
    refine ⟨x :: xs, by simp [hl], fun i y hy => ?_⟩
    cases i with
    | zero =>
      simp only [List.getElem?_cons_zero, Option.some.injEq] at hy
      subst hy; exact hx
    | succ i => exact hp i y (by simpa using hy)
theorem sem_slice {α : Type} {w : World} {bytes : Nat} {e : Td} {cs : List Value} {f : α → List Value} {ok : α → Prop} (h : Sem w (.slice bytes e) cs) (hz : 0 < e.size) (hb : 0 < bytes) (hlen : ∀ x, (f x).length = e.size) (hf : ∀ c, Sem w e c → ∃ x, c = f x ∧ ok x) :
    ∃ (v : Value) (xs : List α), cs = [v] ∧ (∃ A c, v = .slice A xs.length c ∧ xs.length ≤ c) ∧ RdL w [] e.size v xs f ∧ (∀ x ∈ xs, ok x) ∧ xs.length * bytes ≤ 140737488351232 := by
  obtain ⟨A, len, cap, rfl, hc, hfit, hel⟩ := h
  obtain ⟨xs, hl, hx⟩ := list_of_idx (p := fun i x => ok x ∧ ∃ a, A = some a ∧ ∀ j, j < e.size → w.cell? (a.add (i * e.size + j)) = (f x)[j]?) fun i hi => by
    obtain ⟨cs', h1, h2, a, h3, h4⟩ := hel i hi
    obtain ⟨x, rfl, hok⟩ := hf cs' h2
    exact ⟨x, hok, a, h3, h4⟩
  subst hl
  have hn : xs.length ≤ xs.length * bytes := Nat.le_mul_of_pos_right _ hb
  refine ⟨_, xs, rfl, ⟨A, cap, rfl, hc⟩, ⟨⟨?_, by omega, A, cap, rfl, fun hp => ?_⟩, hlen⟩, fun x hm => ?_, hfit⟩
  · induction xs with
    | nil => simp
    | cons y ys ih =>
      clear hel hx hc hfit ih hn
      have : ∀ l : List α, (l.flatMap f).length = l.length * e.size := by
        intro l
        induction l with
        | nil => simp
        | cons z zs ih => rw [List.flatMap_cons, List.length_append, hlen, ih, List.length_cons, Nat.add_mul, Nat.one_mul, Nat.add_comm]
      exact this _
  · have hpos : 0 < xs.length := by
      rcases Nat.eq_zero_or_pos xs.length with h0 | h0
      · rw [h0] at hp; omega
      · exact h0
    obtain ⟨x0, hx0⟩ : ∃ x, xs[0]? = some x := ⟨_, List.getElem?_eq_getElem hpos⟩
    obtain ⟨_, a, rfl, ha⟩ := hx 0 x0 hx0
    have hsp : a.spot = none := by
      have := ha 0 hz
      rw [Nat.zero_mul, List.getElem?_eq_getElem (by rw [hlen]; exact hz)] at this
      have := spot_none this
      simpa [Addr.add] using this
    obtain ⟨b, o, s⟩ := a
    simp only at hsp
    subst hsp
    refine ⟨b, o, rfl, by simp, fun j hj => ?_⟩
    have hk : j / e.size < xs.length := (Nat.div_lt_iff_lt_mul hz).2 hj
    have hr : j % e.size < e.size := Nat.mod_lt _ hz
    have hjj : j = j / e.size * e.size + j % e.size := by rw [Nat.mul_comm]; exact (Nat.div_add_mod j e.size).symm
    obtain ⟨x, hxk⟩ : ∃ x, xs[j / e.size]? = some x := ⟨_, List.getElem?_eq_getElem hk⟩
    obtain ⟨_, a', he, ha'⟩ := hx _ x hxk
    obtain rfl := Option.some.inj he
    have := ha' _ hr
    rw [add_none, ← hjj] at this
    rw [this, ← flat_get hlen xs _ _ x hxk hr, ← hjj]
  · obtain ⟨i, hi⟩ := List.mem_iff_getElem?.1 hm
    exact (hx i x hi).1
theorem u8_fits {n : Int} (h : (Lit.int .u8 n).wf = true) : 0 ≤ n ∧ n ≤ 255 := by
  simp only [Lit.wf, IntKind.min, IntKind.max, IntKind.signed, IntKind.bits, Bool.and_eq_true, decide_eq_true_eq] at h
  simpa using h
theorem i64_fits {n : Int} (h : (Lit.int .i64 n).wf = true) : -9223372036854775808 ≤ n ∧ n ≤ 9223372036854775807 := by
  simp only [Lit.wf, IntKind.min, IntKind.max, IntKind.signed, IntKind.bits, Bool.and_eq_true, decide_eq_true_eq] at h
  simpa using h
theorem sem_bytes {w : World} {cs : List Value} (h : Sem w (.slice 1 (.int .u8)) cs) :
    ∃ (v : Value) (l : List UInt8), cs = [v] ∧ (∃ A c, v = .slice A l.length c ∧ l.length ≤ c) ∧ Reads w [] 1 v l.length (l.map b8) ∧ l.length ≤ 140737488351232 := by
  obtain ⟨v, xs, h1, h2, h3, h4, h5⟩ := sem_slice (f := fun c : UInt8 => [b8 c]) (ok := fun _ => True) h (by decide) (by decide) (fun _ => rfl) (by
    rintro c ⟨n, rfl, hn⟩
    have := u8_fits hn
    refine ⟨UInt8.ofNat n.toNat, ?_, trivial⟩
    unfold b8
    congr 2
    simp only [UInt8.toNat_ofNat']
    omega)
  refine ⟨v, xs, h1, h2, ?_, by omega⟩
  have : xs.flatMap (fun c => [b8 c]) = xs.map b8 := by
    clear h1 h2 h3 h4 h5
    induction xs with
    | nil => rfl
    | cons c r ih => rw [List.flatMap_cons, ih]; rfl
  rw [← this]
  exact h3.1

/-! ### A law's row -/
theorem St.same {W W' : World} {O : Blks} (hS : St W [] W' O) {p : MemPlace} (hp : p.block < W.heap.size) : W.sameAt W' p := by
  cases p with
  | cell b off => exact heap_cell (a := ⟨b, off, none⟩) (hS.rest b hp (by simp))
  | map b => exact hS.rest b hp (by simp)
theorem St.kept {W W' : World} {O : Blks} (hS : St W [] W' O) (may : MemPlace → Prop) : W.keptBut W' may := by
  refine ⟨hS.os, hS.output, fun i hi => ?_⟩
  rw [hS.rest i hi (by simp)]
  split
  · rename_i h1 h2; rw [h1] at h2; cases h2; exact ⟨rfl, rfl, rfl, fun _ _ => rfl⟩
  · rename_i h1 h2; rw [h1] at h2; cases h2; exact .inr ⟨rfl, rfl⟩
  · rfl
theorem trodAll_stays {H : Type} {enc : TypeId × Value → H} {P : Program} (hl : laidOutB P = true) {W W' : World} {sp' : Nat → Bool} (hsame : ∀ p : MemPlace, p.block < W.heap.size → W.sameAt W' p) :
    ∀ (ts : List TypeId) (vs : List Value) (ds : List (DataW H)) (ps : List MemPlace), ts.all (fun t => P.readableRec t && Nat.blt t P.types.size) = true → DataW.TrodAll enc P W 0 (fun _ => true) true ts vs ds ps →
      (∀ p ∈ ps, sp' p.block = true) → DataW.TrodAll enc P W' 0 sp' true ts vs ds ps
  | [], [], [], ps, _, h, _ => h
  | t :: ts, v :: vs, d :: ds, ps, ht, ⟨p, q, h1, h2, e⟩, hs => by
    simp only [List.all_cons, Bool.and_eq_true] at ht
    subst e
    have hlt : ∀ x ∈ p, x.block < W.heap.size := by
      obtain ⟨n, hn⟩ := h1
      exact DataW.trod_lt n t _ _ hn
    exact ⟨p, q, WideElems.Trod_stays hl ht.1.1 (Nat.le_of_ble_eq_true ht.1.2) h1 (fun x hx => hsame x (hlt x hx)) (fun x hx => hs x (List.mem_append_left _ hx)),
      trodAll_stays hl hsame ts vs ds q ht.2 h2 fun x hx => hs x (List.mem_append_right _ hx), rfl⟩
theorem trodAll_lt {H : Type} {enc : TypeId × Value → H} {P : Program} {W : World} : ∀ (ts : List TypeId) (vs : List Value) (ds : List (DataW H)) (ps : List MemPlace), DataW.TrodAll enc P W 0 (fun _ => true) true ts vs ds ps → ∀ p ∈ ps, p.block < W.heap.size
  | [], [], [], ps, h, p, hp => by
    simp only [DataW.TrodAll] at h
    subst h; cases hp
  | t :: ts, v :: vs, d :: ds, ps, ⟨p, q, ⟨n, h1⟩, h2, e⟩, x, hx => by
    subst e
    rcases List.mem_append.1 hx with hx | hx
    · exact DataW.trod_lt n t _ _ h1 x hx
    · exact trodAll_lt ts vs ds q h2 x hx
/-- What a law's post asks, behind a call that answers true and turns nothing. -/
theorem law_post {H : Type} {enc : TypeId × Value → H} {P : Program} {fn : Func} {s : ChangeSpec} {tb : TypeId} {apart : Bool} {W W' : World} {args : Array Value} {ds gs : List (DataW H)} {before : List MemPlace} {O : Blks}
    (hl : laidOutB P = true) (hp : fn.params.toList.all (fun t => P.readableRec t && Nat.blt t P.types.size) = true) (hv : s.vars = []) (hfn : ∀ ds : List (DataW H), ds.length = fn.params.size → s.fn H ds = { results := [.lit (.bool true)], args := ds })
    (hres : fn.resultTypes = #[tb]) (hb : P.underlying tb = some .bool) (hW : DataW.Whole enc P fn.params.toList s.vars apart W args.toList ds gs before) (hS : St W [] W' O) : s.post enc P fn apart true false false W args (.bool true) W' := by
  have hW' := hW
  obtain ⟨p, q, hA, hV, rfl, hfz, hnd⟩ := hW
  rw [hv] at hV
  have hV2 : gs = [] ∧ q = [] := by
    cases gs with
    | nil => exact ⟨rfl, hV⟩
    | cons g gs => exact absurd hV (by simp [DataW.TrodVars])
  obtain ⟨rfl, rfl⟩ := hV2
  have hlen : ds.length = fn.params.size := by
    have : ∀ (ts : List TypeId) (vs : List Value) (ds : List (DataW H)) (ps : List MemPlace), DataW.TrodAll enc P W 0 (fun _ => true) true ts vs ds ps → ds.length = ts.length := by
      intro ts
      induction ts with
      | nil => intro vs ds ps h; cases vs <;> cases ds <;> simp_all [DataW.TrodAll]
      | cons t ts ih =>
        intro vs ds ps h
        cases vs with
        | nil => cases ds <;> simp [DataW.TrodAll] at h
        | cons v vs => cases ds with
          | nil => simp [DataW.TrodAll] at h
          | cons d ds => obtain ⟨_, _, _, h2, _⟩ := h; simp [ih _ _ _ h2]
    simpa using this _ _ _ _ hA
  have hf := hfn ds hlen
  rw [← List.append_nil ds] at hf
  refine ⟨ds, [], _, [], p, [], hW', ?_, ?_, ?_, hS.kept _, fun h => by cases h⟩
  · rw [hf, hres]
    exact ⟨[], [], ⟨1, by simp [DataW.trod, hb, Value.cells]⟩, rfl, rfl⟩
  · rw [hf]
    simp only [List.append_nil]
    exact trodAll_stays hl (fun x hx => hS.same hx) _ _ _ _ hp hA (fun x hx => by simpa using trodAll_lt _ _ _ _ hA x hx)
  · rw [hf, hv]
    rfl
end Go.Proofs.Ytohmgkcdjapinaa.Lw
namespace Go.Proofs.Ytohmgkcdjapinaa.Lw
open Go.WideShapes

theorem trod_val {H : Type} {enc : TypeId × Value → H} {P : Program} {w : World} {t : TypeId} {T : Td} {m : Nat} {v : Value} {d : DataW H} {ps : List MemPlace} (hT : tdOf P m t = some T) (h : DataW.Trod enc P w 0 (fun _ => true) true t v d ps) (hw : (d.weights P t).all (· ≤ reachBytes) = true) : Sem w T v.cells.toList := by
  obtain ⟨n, h⟩ := h
  exact (trod_sem n m t T _ d ps hT h hw).1
/-- What a law's walk is given of its arguments: by each parameter, that the value is of its shape, and what its cells read. -/
def Given (P : Program) (w : World) (ts : List TypeId) (vs : List Value) : Prop :=
  vs.length = ts.length ∧ ∀ (j : Nat) (t : TypeId) (v : Value), ts[j]? = some t → vs[j]? = some v →
    (∃ b, Value.okWide P w .any b t v) ∧ ∀ m T, tdOf P m t = some T → Sem w T v.cells.toList
theorem given_of {H : Type} {enc : TypeId × Value → H} {P : Program} {w : World} {b : Nat} : ∀ (ts : List TypeId) (vs : List Value) (ds : List (DataW H)) (ps : List MemPlace), DataW.TrodAll enc P w 0 (fun _ => true) true ts vs ds ps →
    (∀ (j : Nat) t v, ts[j]? = some t → vs[j]? = some v → Value.okWide P w .any b t v) → (∀ (j : Nat) t d, ts[j]? = some t → ds[j]? = some d → (d.weights P t).all (· ≤ reachBytes) = true) → Given P w ts vs
  | [], [], [], ps, _, _, _ => ⟨rfl, fun j t v h => by simp at h⟩
  | t :: ts, v :: vs, d :: ds, ps, ⟨p, q, h1, h2, e⟩, hv, hw => by
    have ih := given_of ts vs ds q h2 (fun j t' v' a b => hv (j + 1) t' v' (by simpa using a) (by simpa using b)) (fun j t' d' a b => hw (j + 1) t' d' (by simpa using a) (by simpa using b))
    refine ⟨by simp [ih.1], fun j t' v' ha hb => ?_⟩
    cases j with
    | zero =>
      simp only [List.getElem?_cons_zero, Option.some.injEq] at ha hb
      subst ha; subst hb
      exact ⟨⟨b, hv 0 _ _ rfl rfl⟩, fun m T hT => trod_val hT h1 (hw 0 _ _ rfl rfl)⟩
    | succ j => exact ih.2 j t' v' (by simpa using ha) (by simpa using hb)
theorem lift {C : Checked} {os : Os} {f : FuncId} {fn : Func} {s : ChangeSpec} {a : Assume} {conds : List PathCond} {apart : Bool} {tb : TypeId} {H : Type} {enc : TypeId × Value → H}
    (own : ownKnob C.prog.godebug = none) (started : os.Started) (noInit : C.prog.inits.idxOf? f = none) (hfn : C.prog.funcs[f]? = some fn)
    (witness : ∃ (w : World) (tape : Tape) (i : Input), w.os = os ∧ (w.forCall tape i).Shaped C.prog ∧ i.vars = [] ∧ Input.okWide C.prog (w.forCall tape i) .any w.heap.size f i ∧
      s.pre6 enc C.prog fn conds apart (w.forCall tape i).memory i.args ∧ a.holds C.prog (lone (Frame.enter C.prog f i.args .normal) [] (w.forCall tape i)))
    (hl : laidOutB C.prog = true) (hp : fn.params.toList.all (fun t => C.prog.readableRec t && Nat.blt t C.prog.types.size) = true) (hv : s.vars = [])
    (hs : ∀ ds : List (DataW H), ds.length = fn.params.size → s.fn H ds = { results := [.lit (.bool true)], args := ds }) (hres : fn.resultTypes = #[tb]) (hb : C.prog.underlying tb = some .bool)
    (walk : ∀ (W : World) (args : Array Value), Given C.prog W fn.params.toList args.toList → Quiet C.prog f args W (.bool true)) :
    ReturnsInHanded a C os f .any (s.pre6 enc C.prog fn conds apart) (s.post enc C.prog fn apart true false false) := by
  refine returnsInHanded_of_change_sized own started noInit hfn witness ?_
  intro W base args ds gs before hval hW _ hwt _
  have hW' := hW
  obtain ⟨p, q, hA, hV, rfl, _, _⟩ := hW
  have hgs : gs = [] := by
    rw [hv] at hV
    cases gs with
    | nil => rfl
    | cons g gs => exact absurd hV (by simp [DataW.TrodVars])
  subst hgs
  have hg : Given C.prog W fn.params.toList args.toList := given_of _ _ _ _ hA (fun j t v h1 h2 => hval j t v (by simpa using h1) (by simpa using h2)) fun j t d h1 h2 => by
    rw [List.all_eq_true]
    intro n hn
    have := List.all_eq_true.1 hwt n (DataW.weights_mem_each (t := t) (d := d) (j := j) (by rw [List.getElem?_append_left (List.getElem?_eq_some_iff.1 h1).1]; exact h1) (by rw [List.append_nil]; exact h2) n hn)
    exact this
  refine (walk W args hg).mono fun e W' h => ?_
  cases e with
  | returned v =>
    obtain ⟨O', ⟨rfl, _⟩, hS⟩ := h
    exact ⟨_, rfl, law_post hl hp hv hs hres hb hW' hS⟩
  | panicked _ => exact absurd h (by simp [Ret])
  | _ => exact absurd h (by simp [Ret])

/-! ### The arguments -/
theorem argSlc {P : Program} {w : World} {b : Nat} {t e : TypeId} {v x : Value} (hu : P.underlying t = some (.slice e)) (h : Value.okWide P w .any b t v) (hx : v.cells.toList = [x]) : v = x := by
  obtain ⟨a, n, c, rfl⟩ := okWide_slice hu h
  simpa [Value.cells] using hx
theorem argAgg {P : Program} {w : World} {b : Nat} {t : TypeId} {fs : Array Field} {v : Value} {cs : List Value} (hu : P.underlying t = some (.struct fs)) (h : Value.okWide P w .any b t v) (hx : v.cells.toList = cs) : v = .agg cs.toArray := by
  obtain ⟨a, rfl, _⟩ := okWide_struct hu h
  subst hx
  simp [Value.cells]
section
variable {P : Program} {w : World} {ts : List TypeId} {vs : List Value} {j m : Nat} {t : TypeId} {v : Value}
theorem given_bytes {e : TypeId} (hg : Given P w ts vs) (ht : ts[j]? = some t) (hv : vs[j]? = some v) (hu : P.underlying t = some (.slice e)) (hT : tdOf P m t = some (.slice 1 (.int .u8))) :
    ∃ l : List UInt8, (∃ A n c, v = .slice A n c ∧ n ≤ c) ∧ Reads w [] 1 v l.length (l.map b8) := by
  obtain ⟨⟨b, h1⟩, h2⟩ := hg.2 j t v ht hv
  obtain ⟨v', l, h3, h4, h5, _⟩ := sem_bytes (h2 m _ hT)
  obtain rfl := argSlc hu h1 h3
  obtain ⟨A, c, h6, h7⟩ := h4
  exact ⟨l, ⟨A, _, c, h6, h7⟩, h5⟩
theorem given_agg {fs : Array Field} {Ts : List Td} (hg : Given P w ts vs) (ht : ts[j]? = some t) (hv : vs[j]? = some v) (hu : P.underlying t = some (.struct fs)) (hT : tdOf P m t = some (.struct Ts)) :
    ∃ cs, v = .agg cs.toArray ∧ SemAll w Ts cs := by
  obtain ⟨⟨b, h1⟩, h2⟩ := hg.2 j t v ht hv
  exact ⟨_, argAgg hu h1 rfl, h2 m _ hT⟩
theorem vals1 {P : Program} {w : World} {t0 : TypeId} {args : Array Value} (hg : Given P w [t0] args.toList) : ∃ v, args = #[v] := by
  have := hg.1
  obtain ⟨l⟩ := args
  match l, this with
  | [v], _ => exact ⟨v, rfl⟩
theorem vals2 {P : Program} {w : World} {t0 t1 : TypeId} {args : Array Value} (hg : Given P w [t0, t1] args.toList) : ∃ v v1, args = #[v, v1] := by
  have := hg.1
  obtain ⟨l⟩ := args
  match l, this with
  | [v, v1], _ => exact ⟨v, v1, rfl⟩
theorem vals3 {P : Program} {w : World} {t0 t1 t2 : TypeId} {args : Array Value} (hg : Given P w [t0, t1, t2] args.toList) : ∃ v v1 v2, args = #[v, v1, v2] := by
  have := hg.1
  obtain ⟨l⟩ := args
  match l, this with
  | [v, v1, v2], _ => exact ⟨v, v1, v2, rfl⟩
theorem vals4 {P : Program} {w : World} {t0 t1 t2 t3 : TypeId} {args : Array Value} (hg : Given P w [t0, t1, t2, t3] args.toList) : ∃ v v1 v2 v3, args = #[v, v1, v2, v3] := by
  have := hg.1
  obtain ⟨l⟩ := args
  match l, this with
  | [v, v1, v2, v3], _ => exact ⟨v, v1, v2, v3, rfl⟩
end
/-! ### The cells of a struct, one by one -/
theorem sem_int {w : World} {k : IntKind} {Ts : List Td} {cs : List Value} (h : SemAll w (.int k :: Ts) cs) : ∃ n cs', cs = .int k n :: cs' ∧ (Lit.int k n).wf = true ∧ SemAll w Ts cs' := by
  obtain ⟨c1, c2, rfl, _, ⟨n, rfl, hn⟩, h2⟩ := h
  exact ⟨n, c2, rfl, hn, h2⟩
theorem sem_i64 {w : World} {Ts : List Td} {cs : List Value} (h : SemAll w (.int .i64 :: Ts) cs) : ∃ n cs', cs = .int .i64 n :: cs' ∧ (-9223372036854775808 ≤ n ∧ n ≤ 9223372036854775807) ∧ SemAll w Ts cs' := by
  obtain ⟨n, cs', rfl, hn, h2⟩ := sem_int h
  exact ⟨n, cs', rfl, i64_fits hn, h2⟩
theorem sem_bool {w : World} {Ts : List Td} {cs : List Value} (h : SemAll w (.bool :: Ts) cs) : ∃ b cs', cs = .bool b :: cs' ∧ SemAll w Ts cs' := by
  obtain ⟨c1, c2, rfl, _, ⟨n, rfl⟩, h2⟩ := h
  exact ⟨n, c2, rfl, h2⟩
theorem sem_str {w : World} {Ts : List Td} {cs : List Value} (h : SemAll w (.str :: Ts) cs) : ∃ l cs', cs = Lw.S l :: cs' ∧ l.length ≤ 140737488351232 ∧ SemAll w Ts cs' := by
  obtain ⟨c1, c2, rfl, _, ⟨n, rfl, hn⟩, h2⟩ := h
  exact ⟨n, c2, rfl, hn, h2⟩
theorem sem_byt {w : World} {Ts : List Td} {cs : List Value} (h : SemAll w (.slice 1 (.int .u8) :: Ts) cs) :
    ∃ (v : Value) (l : List UInt8) (cs' : List Value), cs = v :: cs' ∧ (∃ A n c, v = .slice A n c ∧ n ≤ c) ∧ Reads w [] 1 v l.length (l.map b8) ∧ SemAll w Ts cs' := by
  obtain ⟨c1, c2, rfl, _, h1, h2⟩ := h
  obtain ⟨v', l, rfl, ⟨A, c, h6, h7⟩, h5, _⟩ := sem_bytes h1
  exact ⟨v', l, c2, rfl, ⟨A, _, c, h6, h7⟩, h5, h2⟩
theorem sem_st {w : World} {Us Ts : List Td} {cs : List Value} (h : SemAll w (.struct Us :: Ts) cs) : ∃ c1 cs', cs = c1 ++ cs' ∧ SemAll w Us c1 ∧ SemAll w Ts cs' := by
  obtain ⟨c1, c2, rfl, _, h1, h2⟩ := h
  exact ⟨c1, c2, rfl, h1, h2⟩
theorem sem_end {w : World} {cs : List Value} (h : SemAll w [] cs) : cs = [] := h
end Go.Proofs.Ytohmgkcdjapinaa.Lw
namespace Go.Proofs.Ytohmgkcdjapinaa.Lw
theorem kWa0 {p : Prop} (h : p := by ((simp (disch := omega) only [ev_tmp, ev_const, ev_func, ev_global, upd_app, val_move, val_pick, pickV_true, pickV_false, pickV_bool, val_nilck, nilckV_ptr, val_bin, bin_add, bin_sub, bin_mul, bin_eql, bin_neq, bin_lss, bin_leq, bin_gtr, bin_geq, bin_seql, bin_sneq, bin_slss, bin_sleq, bin_sgtr, bin_sgeq, val_beq, beqV_f, beqV_t, val_seq, val_not, notV_bool, val_toInt, toIntV_int, val_off, offV_ptr, val_len, lenV_slice, val_slen, slenV_S, val_ext, extV_tup, val_ifc, val_fn, List.getElem?_cons_zero, List.getElem?_cons_succ, List.map_cons, List.map_nil, eq_self, Bool.false_eq_true, Bool.not_true, Bool.not_false, Option.map_some, Nat.zero_add, isB_bool, isB_undef, Bool.true_beq, Bool.false_beq, beq_self_eq_true, Bool.true_and, Bool.and_true, Bool.false_and, Bool.and_false, Bool.true_or, Bool.or_true, Bool.false_or, Bool.or_false, not_dec, and_dec, or_dec, seqV_f, seqV_t, ceq_i, ceq_s, ceq_nil, val_bld, bldV, cells_int, cells_bool, cells_S, cells_b8, cells_slice, cells_ptr, cells_agg, List.size_toArray, List.length_cons, List.length_nil, place, List.take_succ_cons, List.take_zero, List.drop_succ_cons, List.drop_zero, List.cons_append, List.nil_append, and_self, and_true, true_and, Nat.reduceLeDiff, List.toList_toArray, wr64, wru64, wru8, Nat.reduceEqDiff, ↓reduceIte, Nat.reduceAdd, Has, and_true, Int.natCast_add, Int.cast_ofNat_Int]))) : p := h
abbrev R54_0 : List LOper := [⟨some 6, none, .pv (.move (.const (.bool false)))⟩]
abbrev R54_1 : List LOper := [⟨some 7, none, .pv (.move (.tmp 0))⟩, ⟨some 8, none, .pv (.move (.tmp 1))⟩, ⟨some 9, none, .pv (.bin .geq (.tmp 7) (.tmp 8))⟩, ⟨some 10, none, .pv (.move (.tmp 9))⟩, ⟨some 11, (some (10, true)), .pv (.move (.tmp 0))⟩, ⟨some 12, (some (10, true)), .pv (.move (.tmp 2))⟩, ⟨some 13, (some (10, true)), .pv (.bin .leq (.tmp 11) (.tmp 12))⟩, ⟨some 14, none, .pv (.pick (.tmp 10) (.tmp 13) (.const (.bool false)))⟩, ⟨some 6, none, .pv (.move (.tmp 14))⟩]
abbrev L54 : LFun := ⟨15, [(.tmp 6)], .seq (.reg R54_0) (.seq (.reg R54_1) .ret)⟩
theorem low54 : lowFn Try.prog Try.f54 = some L54 := by kernel_rfl
abbrev R62_0 : List LOper := [⟨some 2, none, .pv (.move (.const (.bool false)))⟩]
abbrev R62_1 : List LOper := [⟨some 4, none, .pv (.move (.tmp 0))⟩, ⟨some 5, none, .pv (.slen (.tmp 4))⟩, ⟨some 6, none, .pv (.bin .eql (.tmp 5) (.const (.int .i64 0)))⟩, ⟨some 7, none, .pv (.move (.tmp 6))⟩, ⟨some 8, (some (7, false)), .pv (.move (.tmp 0))⟩, ⟨some 9, (some (7, false)), .pv (.slen (.tmp 8))⟩, ⟨some 10, (some (7, false)), .pv (.bin .gtr (.tmp 9) (.const (.int .i64 16)))⟩, ⟨some 11, none, .pv (.pick (.tmp 7) (.const (.bool true)) (.tmp 10))⟩]
abbrev R62_2 : List LOper := [⟨some 2, none, .pv (.move (.const (.bool false)))⟩]
abbrev R62_3 : List LOper := [⟨some 12, none, .pv (.move (.tmp 0))⟩, ⟨some 13, none, .pv (.slen (.tmp 12))⟩, ⟨some 14, none, .pv (.move (.const (.int .i64 0)))⟩]
abbrev R62_4 : List LOper := [⟨some 15, none, .pv (.bin .lss (.tmp 14) (.tmp 13))⟩]
abbrev R62_5 : List LOper := [⟨some 16, none, .pv (.move (.tmp 14))⟩, ⟨some 3, none, .pv (.move (.tmp 16))⟩]
abbrev R62_6 : List LOper := [⟨some 17, none, .pv (.move (.tmp 0))⟩, ⟨some 18, none, .pv (.move (.tmp 3))⟩, ⟨some 19, none, .pv (.sidx (.tmp 17) (.tmp 18))⟩, ⟨some 20, none, .pv (.bin .leq (.tmp 19) (.const (.int .u8 32)))⟩, ⟨some 21, none, .pv (.move (.tmp 20))⟩, ⟨some 22, (some (21, false)), .pv (.move (.tmp 0))⟩, ⟨some 23, (some (21, false)), .pv (.move (.tmp 3))⟩, ⟨some 24, (some (21, false)), .pv (.sidx (.tmp 22) (.tmp 23))⟩, ⟨some 25, (some (21, false)), .pv (.bin .gtr (.tmp 24) (.const (.int .u8 126)))⟩, ⟨some 26, none, .pv (.pick (.tmp 21) (.const (.bool true)) (.tmp 25))⟩]
abbrev R62_7 : List LOper := [⟨some 2, none, .pv (.move (.const (.bool false)))⟩]
abbrev R62_8 : List LOper := [⟨some 27, none, .pv (.bin .add (.tmp 14) (.const (.int .i64 1)))⟩, ⟨some 14, none, .pv (.move (.tmp 27))⟩]
abbrev R62_9 : List LOper := [⟨some 2, none, .pv (.move (.const (.bool true)))⟩]
abbrev L62 : LFun := ⟨28, [(.tmp 2)], .seq (.reg R62_0) (.seq (.seq (.reg R62_1) (.cond (.tmp 11) (.seq (.reg R62_2) .ret) .skip)) (.seq (.seq (.reg R62_3) (.block 0 (.loop (.seq (.reg R62_4) (.seq (.cond (.tmp 15) .skip (.exit 0)) (.seq (.block 1 (.seq (.reg R62_5) (.seq (.reg R62_6) (.cond (.tmp 26) (.seq (.reg R62_7) .ret) .skip)))) (.reg R62_8))))))) (.seq (.reg R62_9) .ret)))⟩
theorem low62 : lowFn Try.prog Try.f62 = some L62 := by kernel_rfl
abbrev R50_0 : List LOper := [⟨some 2, none, .pv (.move (.const (.bool false)))⟩]
abbrev R50_1 : List LOper := [⟨some 3, none, .pv (.move (.tmp 0))⟩, ⟨some 4, none, .pv (.bin .eql (.tmp 3) (.const (.int .i64 0)))⟩, ⟨some 5, none, .pv (.move (.tmp 4))⟩, ⟨some 6, (some (5, false)), .pv (.move (.tmp 0))⟩, ⟨some 7, (some (5, false)), .pv (.bin .eql (.tmp 6) (.const (.int .i64 101)))⟩, ⟨some 8, none, .pv (.pick (.tmp 5) (.const (.bool true)) (.tmp 7))⟩, ⟨some 2, none, .pv (.move (.tmp 8))⟩]
abbrev L50 : LFun := ⟨9, [(.tmp 2)], .seq (.reg R50_0) (.seq (.reg R50_1) .ret)⟩
theorem low50 : lowFn Try.prog Try.f50 = some L50 := by kernel_rfl
abbrev R63_0 : List LOper := [⟨some 1, none, .newv 23 (.tmp 0)⟩, ⟨some 2, none, .pv (.move (.const (.bool false)))⟩]
abbrev R63_1 : List LOper := [⟨some 3, none, .pv (.off (.tmp 1) 0)⟩, ⟨some 4, none, .load (.tmp 3)⟩, ⟨some 5, none, .call 54 [(.tmp 4), (.const (.int .i64 1)), (.const (.int .i64 1099511627776))]⟩, ⟨some 6, none, .pv (.move (.tmp 5))⟩, ⟨some 7, (some (6, true)), .pv (.off (.tmp 1) 1)⟩, ⟨some 8, (some (6, true)), .load (.tmp 7)⟩, ⟨some 9, (some (6, true)), .call 54 [(.tmp 8), (.const (.int .i64 0)), (.const (.int .i64 15))]⟩, ⟨some 10, none, .pv (.pick (.tmp 6) (.tmp 9) (.const (.bool false)))⟩, ⟨some 2, none, .pv (.move (.tmp 10))⟩]
abbrev L63 : LFun := ⟨11, [(.tmp 2)], .seq (.reg R63_0) (.seq (.reg R63_1) .ret)⟩
theorem low63 : lowFn Try.prog Try.f63 = some L63 := by kernel_rfl
abbrev R64_0 : List LOper := [⟨some 1, none, .newv 25 (.tmp 0)⟩, ⟨some 2, none, .pv (.move (.const (.bool false)))⟩]
abbrev R64_1 : List LOper := [⟨some 3, none, .pv (.off (.tmp 1) 0)⟩, ⟨some 4, none, .load (.tmp 3)⟩, ⟨some 5, none, .call 54 [(.tmp 4), (.const (.int .i64 0)), (.const (.int .i64 1099511627776))]⟩, ⟨some 6, none, .pv (.move (.tmp 5))⟩, ⟨some 7, (some (6, true)), .pv (.off (.tmp 1) 1)⟩, ⟨some 8, (some (6, true)), .load (.tmp 7)⟩, ⟨some 9, (some (6, true)), .call 54 [(.tmp 8), (.const (.int .i64 0)), (.const (.int .i64 1099511627776))]⟩, ⟨some 10, none, .pv (.pick (.tmp 6) (.tmp 9) (.const (.bool false)))⟩, ⟨some 2, none, .pv (.move (.tmp 10))⟩]
abbrev L64 : LFun := ⟨11, [(.tmp 2)], .seq (.reg R64_0) (.seq (.reg R64_1) .ret)⟩
theorem low64 : lowFn Try.prog Try.f64 = some L64 := by kernel_rfl
abbrev R58_0 : List LOper := [⟨some 1, none, .newv 27 (.tmp 0)⟩, ⟨some 2, none, .pv (.move (.const (.bool false)))⟩]
abbrev R58_1 : List LOper := [⟨some 3, none, .pv (.off (.tmp 1) 0)⟩, ⟨some 4, none, .load (.tmp 3)⟩, ⟨some 5, none, .call 54 [(.tmp 4), (.const (.int .i64 0)), (.const (.int .i64 63))]⟩, ⟨some 6, none, .pv (.move (.tmp 5))⟩, ⟨some 7, (some (6, true)), .pv (.off (.tmp 1) 1)⟩, ⟨some 8, (some (6, true)), .load (.tmp 7)⟩, ⟨some 9, (some (6, true)), .call 54 [(.tmp 8), (.const (.int .i64 1)), (.const (.int .i64 1099511627776))]⟩, ⟨some 10, none, .pv (.pick (.tmp 6) (.tmp 9) (.const (.bool false)))⟩, ⟨some 2, none, .pv (.move (.tmp 10))⟩]
abbrev L58 : LFun := ⟨11, [(.tmp 2)], .seq (.reg R58_0) (.seq (.reg R58_1) .ret)⟩
theorem low58 : lowFn Try.prog Try.f58 = some L58 := by kernel_rfl
abbrev R61_0 : List LOper := [⟨some 1, none, .newv 29 (.tmp 0)⟩, ⟨some 2, none, .pv (.move (.const (.bool false)))⟩]
abbrev R61_1 : List LOper := [⟨some 3, none, .pv (.off (.tmp 1) 0)⟩, ⟨some 4, none, .load (.tmp 3)⟩, ⟨some 5, none, .call 54 [(.tmp 4), (.const (.int .i64 1)), (.const (.int .i64 11))]⟩, ⟨some 6, none, .pv (.move (.tmp 5))⟩, ⟨some 7, (some (6, true)), .pv (.off (.tmp 1) 1)⟩, ⟨some 8, (some (6, true)), .load (.tmp 7)⟩, ⟨some 9, (some (6, true)), .call 62 [(.tmp 8)]⟩, ⟨some 10, none, .pv (.pick (.tmp 6) (.tmp 9) (.const (.bool false)))⟩, ⟨some 2, none, .pv (.move (.tmp 10))⟩]
abbrev L61 : LFun := ⟨11, [(.tmp 2)], .seq (.reg R61_0) (.seq (.reg R61_1) .ret)⟩
theorem low61 : lowFn Try.prog Try.f61 = some L61 := by kernel_rfl

theorem c54 (n lo hi : Int) (w : World) : Quiet Try.prog 54 #[.int .i64 n, .int .i64 lo, .int .i64 hi] w (.bool (decide (lo ≤ n ∧ n ≤ hi))) := by
  refine enterF (args := [.int .i64 n, .int .i64 lo, .int .i64 hi]) Try.func54 low54 rfl ?_; have hS := St.start w; dsimp only [L54, envL, Nat.reduceAdd]
  repeat' (first | ((with_reducible apply WL_p); (· exact evk)) | ((with_reducible apply WL_do); (· exact evd)) | ((with_reducible apply WL_no); (· exact evd)) | ((with_reducible apply WC_true); (· exact evk)) | ((with_reducible apply WC_false); (· exact evk)) | (with_reducible first | refine WL_nil ?_ | refine then_normal ?_ | refine blk_normal ?_ | refine WC_seq ?_ | refine WC_reg ?_ | refine WC_block ?_ | refine WC_skip ?_ | refine WC_exit ?_ | refine then_exit ?_ | refine blk_hit ?_ | refine blk_miss (by decide) ?_ | refine WC_ret ?_ | refine then_ret ?_ | refine blk_ret ?_) | ((first | (with_reducible apply WL_newz hS) | ((with_reducible apply WL_newv hS); (· exact evk); (· rfl)) | ((with_reducible apply WL_row hS); (· exact evk))); clear hS; intro bq w hS hbq; (try simp only [List.nil_append, List.cons_append, List.append_assoc] at hS)) | ((with_reducible apply WL_load hS); (· exact evk); (· exact inn); (· rfl)) | ((with_reducible apply WL_loadN hS); (· exact evk); (· exact inn); (· ((simp only [List.drop_succ_cons, List.drop_zero, List.take_succ_cons, List.take_zero]) <;> rfl)); (· rfl)) | ((with_reducible apply WL_store hS); (· exact evk); (· exact evk); (· first | rfl | assumption | exact RowIs.one (by assumption)); (· exact upp); (· simp); (clear hS; intro w hS; (simp only [List.set_cons_succ, List.set_cons_zero, putList, Nat.zero_add, Nat.reduceAdd] at hS))) | ((with_reducible apply WL_storeN hS); (· exact evk); (· exact evk); (· rfl); (· simp [Value.oneCell', S]); (· exact upp); (· simp); (clear hS; intro w hS; (simp only [List.set_cons_succ, List.set_cons_zero, putList, Nat.zero_add, Nat.reduceAdd] at hS))) | (first | ((with_reducible apply WL_split); (· exact evk)) | ((with_reducible apply WC_dec); (· exact evk)) | ((with_reducible apply WL_splitB); (· exact evk)) | ((with_reducible apply WC_bool); (· exact evk)) | (with_reducible intro hh)))
  · ((with_reducible apply retq hS); (· exact evk))
    simp [hh]
  · ((with_reducible apply retq hS); (· exact evk))
    simp [hh]
theorem c50 (n : Int) (w : World) : Quiet Try.prog 50 #[.int .i64 n] w (.bool (decide (n = 0 ∨ n = 101))) := by
  refine enterF (args := [.int .i64 n]) Try.func50 low50 rfl ?_; have hS := St.start w; dsimp only [L50, envL, Nat.reduceAdd]
  repeat' (first | ((with_reducible apply WL_p); (· exact evk)) | ((with_reducible apply WL_do); (· exact evd)) | ((with_reducible apply WL_no); (· exact evd)) | ((with_reducible apply WC_true); (· exact evk)) | ((with_reducible apply WC_false); (· exact evk)) | (with_reducible first | refine WL_nil ?_ | refine then_normal ?_ | refine blk_normal ?_ | refine WC_seq ?_ | refine WC_reg ?_ | refine WC_block ?_ | refine WC_skip ?_ | refine WC_exit ?_ | refine then_exit ?_ | refine blk_hit ?_ | refine blk_miss (by decide) ?_ | refine WC_ret ?_ | refine then_ret ?_ | refine blk_ret ?_) | ((first | (with_reducible apply WL_newz hS) | ((with_reducible apply WL_newv hS); (· exact evk); (· rfl)) | ((with_reducible apply WL_row hS); (· exact evk))); clear hS; intro bq w hS hbq; (try simp only [List.nil_append, List.cons_append, List.append_assoc] at hS)) | ((with_reducible apply WL_load hS); (· exact evk); (· exact inn); (· rfl)) | ((with_reducible apply WL_loadN hS); (· exact evk); (· exact inn); (· ((simp only [List.drop_succ_cons, List.drop_zero, List.take_succ_cons, List.take_zero]) <;> rfl)); (· rfl)) | ((with_reducible apply WL_store hS); (· exact evk); (· exact evk); (· first | rfl | assumption | exact RowIs.one (by assumption)); (· exact upp); (· simp); (clear hS; intro w hS; (simp only [List.set_cons_succ, List.set_cons_zero, putList, Nat.zero_add, Nat.reduceAdd] at hS))) | ((with_reducible apply WL_storeN hS); (· exact evk); (· exact evk); (· rfl); (· simp [Value.oneCell', S]); (· exact upp); (· simp); (clear hS; intro w hS; (simp only [List.set_cons_succ, List.set_cons_zero, putList, Nat.zero_add, Nat.reduceAdd] at hS))) | (first | ((with_reducible apply WL_split); (· exact evk)) | ((with_reducible apply WC_dec); (· exact evk)) | ((with_reducible apply WL_splitB); (· exact evk)) | ((with_reducible apply WC_bool); (· exact evk)) | (with_reducible intro hh)))
  · ((with_reducible apply retq hS); (· exact evk))
    simp [hh]
  · ((with_reducible apply retq hS); (· exact evk))
    simp [hh]
def okByte (c : UInt8) : Bool := decide (32 < c.toNat) && decide (c.toNat ≤ 126)
def namedB (l : List UInt8) : Bool := !(decide (l.length = 0)) && decide (l.length ≤ 16) && l.all okByte
theorem all_take_succ (f : UInt8 → Bool) (l : List UInt8) (k : Nat) (hk : k < l.length) : (l.take (k + 1)).all f = ((l.take k).all f && f (at8 l k)) := by
  rw [take_succ8 l k hk, List.all_append]; simp only [List.all_cons, List.all_nil, Bool.and_true]
theorem all_false_of (f : UInt8 → Bool) (l : List UInt8) (k : Nat) (hk : k < l.length) (h : f (at8 l k) = false) : l.all f = false := by
  rw [List.all_eq_false]; exact ⟨_, at8_mem hk, by simpa using h⟩
theorem c62 (l : List UInt8) (hl : l.length ≤ 140737488351232) (w : World) : Quiet Try.prog 62 #[S l] w (.bool (namedB l)) := by
  refine enterF (args := [S l]) Try.func62 low62 rfl ?_; have hS := St.start w; dsimp only [L62, envL, Nat.reduceAdd]
  by_cases h0 : l.length = 0
  · repeat' (first | ((with_reducible apply WL_p); (· exact evk)) | ((with_reducible apply WL_do); (· exact evd)) | ((with_reducible apply WL_no); (· exact evd)) | ((with_reducible apply WC_true); (· exact evk)) | ((with_reducible apply WC_false); (· exact evk)) | (with_reducible first | refine WL_nil ?_ | refine then_normal ?_ | refine blk_normal ?_ | refine WC_seq ?_ | refine WC_reg ?_ | refine WC_block ?_ | refine WC_skip ?_ | refine WC_exit ?_ | refine then_exit ?_ | refine blk_hit ?_ | refine blk_miss (by decide) ?_ | refine WC_ret ?_ | refine then_ret ?_ | refine blk_ret ?_) | ((first | (with_reducible apply WL_newz hS) | ((with_reducible apply WL_newv hS); (· exact evk); (· rfl)) | ((with_reducible apply WL_row hS); (· exact evk))); clear hS; intro bq w hS hbq; (try simp only [List.nil_append, List.cons_append, List.append_assoc] at hS)) | ((with_reducible apply WL_load hS); (· exact evk); (· exact inn); (· rfl)) | ((with_reducible apply WL_loadN hS); (· exact evk); (· exact inn); (· ((simp only [List.drop_succ_cons, List.drop_zero, List.take_succ_cons, List.take_zero]) <;> rfl)); (· rfl)) | ((with_reducible apply WL_store hS); (· exact evk); (· exact evk); (· first | rfl | assumption | exact RowIs.one (by assumption)); (· exact upp); (· simp); (clear hS; intro w hS; (simp only [List.set_cons_succ, List.set_cons_zero, putList, Nat.zero_add, Nat.reduceAdd] at hS))) | ((with_reducible apply WL_storeN hS); (· exact evk); (· exact evk); (· rfl); (· simp [Value.oneCell', S]); (· exact upp); (· simp); (clear hS; intro w hS; (simp only [List.set_cons_succ, List.set_cons_zero, putList, Nat.zero_add, Nat.reduceAdd] at hS))) | (first | ((with_reducible apply WL_split); (· exact evk)) | ((with_reducible apply WC_dec); (· exact evk)) | ((with_reducible apply WL_splitB); (· exact evk)) | ((with_reducible apply WC_bool); (· exact evk)) | (with_reducible intro hh)))
    all_goals (try omega)
    all_goals (((with_reducible apply retq hS); (· exact evk)); simp [namedB, h0])
  by_cases h16 : l.length ≤ 16
  · repeat' (first | ((with_reducible apply WL_p); (· exact evk)) | ((with_reducible apply WL_do); (· exact evd)) | ((with_reducible apply WL_no); (· exact evd)) | ((with_reducible apply WC_true); (· exact evk)) | ((with_reducible apply WC_false); (· exact evk)) | (with_reducible first | refine WL_nil ?_ | refine then_normal ?_ | refine blk_normal ?_ | refine WC_seq ?_ | refine WC_reg ?_ | refine WC_block ?_ | refine WC_skip ?_ | refine WC_exit ?_ | refine then_exit ?_ | refine blk_hit ?_ | refine blk_miss (by decide) ?_ | refine WC_ret ?_ | refine then_ret ?_ | refine blk_ret ?_) | ((first | (with_reducible apply WL_newz hS) | ((with_reducible apply WL_newv hS); (· exact evk); (· rfl)) | ((with_reducible apply WL_row hS); (· exact evk))); clear hS; intro bq w hS hbq; (try simp only [List.nil_append, List.cons_append, List.append_assoc] at hS)) | ((with_reducible apply WL_load hS); (· exact evk); (· exact inn); (· rfl)) | ((with_reducible apply WL_loadN hS); (· exact evk); (· exact inn); (· ((simp only [List.drop_succ_cons, List.drop_zero, List.take_succ_cons, List.take_zero]) <;> rfl)); (· rfl)) | ((with_reducible apply WL_store hS); (· exact evk); (· exact evk); (· first | rfl | assumption | exact RowIs.one (by assumption)); (· exact upp); (· simp); (clear hS; intro w hS; (simp only [List.set_cons_succ, List.set_cons_zero, putList, Nat.zero_add, Nat.reduceAdd] at hS))) | ((with_reducible apply WL_storeN hS); (· exact evk); (· exact evk); (· rfl); (· simp [Value.oneCell', S]); (· exact upp); (· simp); (clear hS; intro w hS; (simp only [List.set_cons_succ, List.set_cons_zero, putList, Nat.zero_add, Nat.reduceAdd] at hS))) | (first | ((with_reducible apply WL_split); (· exact evk)) | ((with_reducible apply WC_dec); (· exact evk)) | ((with_reducible apply WL_splitB); (· exact evk)) | ((with_reducible apply WC_bool); (· exact evk)) | (with_reducible intro hh)))
    all_goals (try omega)
    refine WC_loopH (α := Nat) (fun k => [(0, S l), (13, .int .i64 l.length), (14, .int .i64 k)]) (fun k w' => k ≤ l.length ∧ (l.take k).all okByte = true ∧ St w [] w' []) (fun k => l.length - k) 0 (by exact kWa0) ⟨by omega, by simp, hS⟩ ?_
    intro k e w1 ⟨hk, hall, hS⟩
    dsimp only [patch]
    by_cases hlt : k < l.length
    · have hts := all_take_succ okByte l k hlt
      repeat' (first | ((with_reducible apply WL_p); (· exact evk)) | ((with_reducible apply WL_sidxN); (· exact evk); (· exact evk); (· omega)) | ((with_reducible apply WL_do); (· exact evd)) | ((with_reducible apply WL_no); (· exact evd)) | ((with_reducible apply WC_true); (· exact evk)) | ((with_reducible apply WC_false); (· exact evk)) | (with_reducible first | refine WL_nil ?_ | refine then_normal ?_ | refine blk_normal ?_ | refine WC_seq ?_ | refine WC_reg ?_ | refine WC_block ?_ | refine WC_skip ?_ | refine WC_exit ?_ | refine then_exit ?_ | refine blk_hit ?_ | refine blk_miss (by decide) ?_ | refine WC_ret ?_ | refine then_ret ?_ | refine blk_ret ?_) | (first | ((with_reducible apply WL_split); (· exact evk)) | ((with_reducible apply WC_dec); (· exact evk)) | ((with_reducible apply WL_splitB); (· exact evk)) | ((with_reducible apply WC_bool); (· exact evk)) | (with_reducible intro hh)))
      all_goals (try omega)
      · ((with_reducible apply retq hS); (· exact evk))
        have := all_false_of okByte l k hlt (by simp [okByte]; omega)
        simp [namedB, this]
      · ((with_reducible apply retq hS); (· exact evk))
        have := all_false_of okByte l k hlt (by simp [okByte]; omega)
        simp [namedB, this]
      · refine ⟨k + 1, by omega, ?_, by omega, ?_, hS⟩
        · exact kWa0
        · rw [hts, hall]; simp [okByte]; omega
    · obtain rfl : k = l.length := by omega
      repeat' (first | ((with_reducible apply WL_p); (· exact evk)) | ((with_reducible apply WL_sidxN); (· exact evk); (· exact evk); (· omega)) | ((with_reducible apply WL_do); (· exact evd)) | ((with_reducible apply WL_no); (· exact evd)) | ((with_reducible apply WC_true); (· exact evk)) | ((with_reducible apply WC_false); (· exact evk)) | (with_reducible first | refine WL_nil ?_ | refine then_normal ?_ | refine blk_normal ?_ | refine WC_seq ?_ | refine WC_reg ?_ | refine WC_block ?_ | refine WC_skip ?_ | refine WC_exit ?_ | refine then_exit ?_ | refine blk_hit ?_ | refine blk_miss (by decide) ?_ | refine WC_ret ?_ | refine then_ret ?_ | refine blk_ret ?_) | (first | ((with_reducible apply WL_split); (· exact evk)) | ((with_reducible apply WC_dec); (· exact evk)) | ((with_reducible apply WL_splitB); (· exact evk)) | ((with_reducible apply WC_bool); (· exact evk)) | (with_reducible intro hh)))
      all_goals (try omega)
      ((with_reducible apply retq hS); (· exact evk))
      simp at hall
      simp [namedB, h0, h16]; exact hall
  · repeat' (first | ((with_reducible apply WL_p); (· exact evk)) | ((with_reducible apply WL_do); (· exact evd)) | ((with_reducible apply WL_no); (· exact evd)) | ((with_reducible apply WC_true); (· exact evk)) | ((with_reducible apply WC_false); (· exact evk)) | (with_reducible first | refine WL_nil ?_ | refine then_normal ?_ | refine blk_normal ?_ | refine WC_seq ?_ | refine WC_reg ?_ | refine WC_block ?_ | refine WC_skip ?_ | refine WC_exit ?_ | refine then_exit ?_ | refine blk_hit ?_ | refine blk_miss (by decide) ?_ | refine WC_ret ?_ | refine then_ret ?_ | refine blk_ret ?_) | ((first | (with_reducible apply WL_newz hS) | ((with_reducible apply WL_newv hS); (· exact evk); (· rfl)) | ((with_reducible apply WL_row hS); (· exact evk))); clear hS; intro bq w hS hbq; (try simp only [List.nil_append, List.cons_append, List.append_assoc] at hS)) | ((with_reducible apply WL_load hS); (· exact evk); (· exact inn); (· rfl)) | ((with_reducible apply WL_loadN hS); (· exact evk); (· exact inn); (· ((simp only [List.drop_succ_cons, List.drop_zero, List.take_succ_cons, List.take_zero]) <;> rfl)); (· rfl)) | ((with_reducible apply WL_store hS); (· exact evk); (· exact evk); (· first | rfl | assumption | exact RowIs.one (by assumption)); (· exact upp); (· simp); (clear hS; intro w hS; (simp only [List.set_cons_succ, List.set_cons_zero, putList, Nat.zero_add, Nat.reduceAdd] at hS))) | ((with_reducible apply WL_storeN hS); (· exact evk); (· exact evk); (· rfl); (· simp [Value.oneCell', S]); (· exact upp); (· simp); (clear hS; intro w hS; (simp only [List.set_cons_succ, List.set_cons_zero, putList, Nat.zero_add, Nat.reduceAdd] at hS))) | (first | ((with_reducible apply WL_split); (· exact evk)) | ((with_reducible apply WC_dec); (· exact evk)) | ((with_reducible apply WL_splitB); (· exact evk)) | ((with_reducible apply WC_bool); (· exact evk)) | (with_reducible intro hh)))
    all_goals (try omega)
    all_goals (((with_reducible apply retq hS); (· exact evk)); simp [namedB, h16])
def epochB (r k : Int) : Bool := decide ((1 ≤ r ∧ r ≤ 1099511627776) ∧ 0 ≤ k ∧ k ≤ 15)
def rightsB (d u : Int) : Bool := decide ((0 ≤ d ∧ d ≤ 1099511627776) ∧ 0 ≤ u ∧ u ≤ 1099511627776)
def callB (s i : Int) : Bool := decide ((0 ≤ s ∧ s ≤ 63) ∧ 1 ≤ i ∧ i ≤ 1099511627776)
def opB (k : Int) (l : List UInt8) : Bool := decide (1 ≤ k ∧ k ≤ 11) && namedB l
theorem c63 (r k : Int) (w : World) : Quiet Try.prog 63 #[.agg #[.int .i64 r, .int .i64 k]] w (.bool (epochB r k)) := by
  refine enterF (args := [.agg #[.int .i64 r, .int .i64 k]]) Try.func63 low63 rfl ?_; have hS := St.start w; dsimp only [L63, envL, Nat.reduceAdd]
  repeat' (first | ((with_reducible apply WL_p); (· exact evk)) | ((with_reducible apply WL_do); (· exact evd)) | ((with_reducible apply WL_no); (· exact evd)) | ((with_reducible apply WC_true); (· exact evk)) | ((with_reducible apply WC_false); (· exact evk)) | (with_reducible first | refine WL_nil ?_ | refine then_normal ?_ | refine blk_normal ?_ | refine WC_seq ?_ | refine WC_reg ?_ | refine WC_block ?_ | refine WC_skip ?_ | refine WC_exit ?_ | refine then_exit ?_ | refine blk_hit ?_ | refine blk_miss (by decide) ?_ | refine WC_ret ?_ | refine then_ret ?_ | refine blk_ret ?_) | ((first | (with_reducible apply WL_newz hS) | ((with_reducible apply WL_newv hS); (· exact evk); (· rfl)) | ((with_reducible apply WL_row hS); (· exact evk))); clear hS; intro bq w hS hbq; (try simp only [List.nil_append, List.cons_append, List.append_assoc] at hS)) | ((with_reducible apply WL_load hS); (· exact evk); (· exact inn); (· rfl)) | ((with_reducible apply WL_loadN hS); (· exact evk); (· exact inn); (· ((simp only [List.drop_succ_cons, List.drop_zero, List.take_succ_cons, List.take_zero]) <;> rfl)); (· rfl)) | ((with_reducible apply WL_callq hS); (· exact evk); (· first | exact c54 _ _ _ _); (clear hS; intro w hS)) | (first | ((with_reducible apply WL_split); (· exact evk)) | ((with_reducible apply WC_dec); (· exact evk)) | ((with_reducible apply WL_splitB); (· exact evk)) | ((with_reducible apply WC_bool); (· exact evk)) | (with_reducible intro hh)))
  · ((with_reducible apply retq hS); (· exact evk))
    simp [epochB, hh]
  · ((with_reducible apply retq hS); (· exact evk))
    simp [epochB, hh]
theorem c64 (d u : Int) (w : World) : Quiet Try.prog 64 #[.agg #[.int .i64 d, .int .i64 u]] w (.bool (rightsB d u)) := by
  refine enterF (args := [.agg #[.int .i64 d, .int .i64 u]]) Try.func64 low64 rfl ?_; have hS := St.start w; dsimp only [L64, envL, Nat.reduceAdd]
  repeat' (first | ((with_reducible apply WL_p); (· exact evk)) | ((with_reducible apply WL_do); (· exact evd)) | ((with_reducible apply WL_no); (· exact evd)) | ((with_reducible apply WC_true); (· exact evk)) | ((with_reducible apply WC_false); (· exact evk)) | (with_reducible first | refine WL_nil ?_ | refine then_normal ?_ | refine blk_normal ?_ | refine WC_seq ?_ | refine WC_reg ?_ | refine WC_block ?_ | refine WC_skip ?_ | refine WC_exit ?_ | refine then_exit ?_ | refine blk_hit ?_ | refine blk_miss (by decide) ?_ | refine WC_ret ?_ | refine then_ret ?_ | refine blk_ret ?_) | ((first | (with_reducible apply WL_newz hS) | ((with_reducible apply WL_newv hS); (· exact evk); (· rfl)) | ((with_reducible apply WL_row hS); (· exact evk))); clear hS; intro bq w hS hbq; (try simp only [List.nil_append, List.cons_append, List.append_assoc] at hS)) | ((with_reducible apply WL_load hS); (· exact evk); (· exact inn); (· rfl)) | ((with_reducible apply WL_loadN hS); (· exact evk); (· exact inn); (· ((simp only [List.drop_succ_cons, List.drop_zero, List.take_succ_cons, List.take_zero]) <;> rfl)); (· rfl)) | ((with_reducible apply WL_storeN hS); (· exact evk); (· exact evk); (· rfl); (· simp [Value.oneCell', S]); (· exact upp); (· simp); (clear hS; intro w hS; (simp only [List.set_cons_succ, List.set_cons_zero, putList, Nat.zero_add, Nat.reduceAdd] at hS))) | ((with_reducible apply WL_store hS); (· exact evk); (· exact evk); (· first | rfl | assumption | exact RowIs.one (by assumption)); (· exact upp); (· simp); (clear hS; intro w hS; (simp only [List.set_cons_succ, List.set_cons_zero, putList, Nat.zero_add, Nat.reduceAdd] at hS))) | ((with_reducible apply WL_callq hS); (· exact evk); (· first | exact c54 _ _ _ _); (clear hS; intro w hS)) | (first | ((with_reducible apply WL_split); (· exact evk)) | ((with_reducible apply WC_dec); (· exact evk)) | ((with_reducible apply WL_splitB); (· exact evk)) | ((with_reducible apply WC_bool); (· exact evk)) | (with_reducible intro hh)))
  all_goals (((with_reducible apply retq hS); (· exact evk)); simp [rightsB, hh])
theorem c58 (s i : Int) (w : World) : Quiet Try.prog 58 #[.agg #[.int .i64 s, .int .i64 i]] w (.bool (callB s i)) := by
  refine enterF (args := [.agg #[.int .i64 s, .int .i64 i]]) Try.func58 low58 rfl ?_; have hS := St.start w; dsimp only [L58, envL, Nat.reduceAdd]
  repeat' (first | ((with_reducible apply WL_p); (· exact evk)) | ((with_reducible apply WL_do); (· exact evd)) | ((with_reducible apply WL_no); (· exact evd)) | ((with_reducible apply WC_true); (· exact evk)) | ((with_reducible apply WC_false); (· exact evk)) | (with_reducible first | refine WL_nil ?_ | refine then_normal ?_ | refine blk_normal ?_ | refine WC_seq ?_ | refine WC_reg ?_ | refine WC_block ?_ | refine WC_skip ?_ | refine WC_exit ?_ | refine then_exit ?_ | refine blk_hit ?_ | refine blk_miss (by decide) ?_ | refine WC_ret ?_ | refine then_ret ?_ | refine blk_ret ?_) | ((first | (with_reducible apply WL_newz hS) | ((with_reducible apply WL_newv hS); (· exact evk); (· rfl)) | ((with_reducible apply WL_row hS); (· exact evk))); clear hS; intro bq w hS hbq; (try simp only [List.nil_append, List.cons_append, List.append_assoc] at hS)) | ((with_reducible apply WL_load hS); (· exact evk); (· exact inn); (· rfl)) | ((with_reducible apply WL_loadN hS); (· exact evk); (· exact inn); (· ((simp only [List.drop_succ_cons, List.drop_zero, List.take_succ_cons, List.take_zero]) <;> rfl)); (· rfl)) | ((with_reducible apply WL_storeN hS); (· exact evk); (· exact evk); (· rfl); (· simp [Value.oneCell', S]); (· exact upp); (· simp); (clear hS; intro w hS; (simp only [List.set_cons_succ, List.set_cons_zero, putList, Nat.zero_add, Nat.reduceAdd] at hS))) | ((with_reducible apply WL_store hS); (· exact evk); (· exact evk); (· first | rfl | assumption | exact RowIs.one (by assumption)); (· exact upp); (· simp); (clear hS; intro w hS; (simp only [List.set_cons_succ, List.set_cons_zero, putList, Nat.zero_add, Nat.reduceAdd] at hS))) | ((with_reducible apply WL_callq hS); (· exact evk); (· first | exact c54 _ _ _ _); (clear hS; intro w hS)) | (first | ((with_reducible apply WL_split); (· exact evk)) | ((with_reducible apply WC_dec); (· exact evk)) | ((with_reducible apply WL_splitB); (· exact evk)) | ((with_reducible apply WC_bool); (· exact evk)) | (with_reducible intro hh)))
  all_goals (((with_reducible apply retq hS); (· exact evk)); simp [callB, hh])
theorem c61 (k a b : Int) (l : List UInt8) (hl : l.length ≤ 140737488351232) (w : World) : Quiet Try.prog 61 #[.agg #[.int .i64 k, S l, .int .i64 a, .int .i64 b]] w (.bool (opB k l)) := by
  refine enterF (args := [.agg #[.int .i64 k, S l, .int .i64 a, .int .i64 b]]) Try.func61 low61 rfl ?_; have hS := St.start w; dsimp only [L61, envL, Nat.reduceAdd]
  repeat' (first | ((with_reducible apply WL_p); (· exact evk)) | ((with_reducible apply WL_do); (· exact evd)) | ((with_reducible apply WL_no); (· exact evd)) | ((with_reducible apply WC_true); (· exact evk)) | ((with_reducible apply WC_false); (· exact evk)) | (with_reducible first | refine WL_nil ?_ | refine then_normal ?_ | refine blk_normal ?_ | refine WC_seq ?_ | refine WC_reg ?_ | refine WC_block ?_ | refine WC_skip ?_ | refine WC_exit ?_ | refine then_exit ?_ | refine blk_hit ?_ | refine blk_miss (by decide) ?_ | refine WC_ret ?_ | refine then_ret ?_ | refine blk_ret ?_) | ((first | (with_reducible apply WL_newz hS) | ((with_reducible apply WL_newv hS); (· exact evk); (· rfl)) | ((with_reducible apply WL_row hS); (· exact evk))); clear hS; intro bq w hS hbq; (try simp only [List.nil_append, List.cons_append, List.append_assoc] at hS)) | ((with_reducible apply WL_load hS); (· exact evk); (· exact inn); (· rfl)) | ((with_reducible apply WL_loadN hS); (· exact evk); (· exact inn); (· ((simp only [List.drop_succ_cons, List.drop_zero, List.take_succ_cons, List.take_zero]) <;> rfl)); (· rfl)) | ((with_reducible apply WL_storeN hS); (· exact evk); (· exact evk); (· rfl); (· simp [Value.oneCell', S]); (· exact upp); (· simp); (clear hS; intro w hS; (simp only [List.set_cons_succ, List.set_cons_zero, putList, Nat.zero_add, Nat.reduceAdd] at hS))) | ((with_reducible apply WL_store hS); (· exact evk); (· exact evk); (· first | rfl | assumption | exact RowIs.one (by assumption)); (· exact upp); (· simp); (clear hS; intro w hS; (simp only [List.set_cons_succ, List.set_cons_zero, putList, Nat.zero_add, Nat.reduceAdd] at hS))) | ((with_reducible apply WL_callq hS); (· exact evk); (· first | exact c54 _ _ _ _ | exact c62 _ hl _); (clear hS; intro w hS)) | (first | ((with_reducible apply WL_split); (· exact evk)) | ((with_reducible apply WC_dec); (· exact evk)) | ((with_reducible apply WL_splitB); (· exact evk)) | ((with_reducible apply WC_bool); (· exact evk)) | (with_reducible intro hh)))
  all_goals (((with_reducible apply retq hS); (· exact evk)); simp [opB, hh])
end Go.Proofs.Ytohmgkcdjapinaa.Lw
namespace Go.Proofs.Ytohmgkcdjapinaa.Lw
abbrev R60_0 : List LOper := [⟨some 2, none, .pv (.move (.const (.bool false)))⟩]
abbrev R60_1 : List LOper := [⟨some 3, none, .pv (.move (.const (S [])))⟩]
abbrev R60_2 : List LOper := [⟨some 6, none, .pv (.move (.tmp 0))⟩, ⟨some 7, none, .pv (.len (.tmp 6))⟩, ⟨some 8, none, .pv (.move (.const (.int .i64 0)))⟩]
abbrev R60_3 : List LOper := [⟨some 9, none, .pv (.bin .lss (.tmp 8) (.tmp 7))⟩]
abbrev R60_4 : List LOper := [⟨some 10, none, .pv (.idx 7 (.tmp 6) (.tmp 8))⟩, ⟨some 11, none, .loadN 7 (.tmp 10)⟩, ⟨some 5, none, .newz 71 [(S []), (.int .i64 0), (.int .i64 0), (.int .i64 0), (.int .i64 0), (.int .i64 0), (.int .i64 0)]⟩, ⟨none, none, .store 7 (.tmp 5) (.tmp 11)⟩]
abbrev R60_5 : List LOper := [⟨some 12, none, .pv (.off (.tmp 5) 0)⟩, ⟨some 13, none, .load (.tmp 12)⟩, ⟨some 14, none, .call 62 [(.tmp 13)]⟩, ⟨some 15, none, .pv (.not (.tmp 14))⟩, ⟨some 16, none, .pv (.move (.tmp 15))⟩, ⟨some 17, (some (16, false)), .pv (.off (.tmp 5) 0)⟩, ⟨some 18, (some (16, false)), .load (.tmp 17)⟩, ⟨some 19, (some (16, false)), .pv (.move (.tmp 3))⟩, ⟨some 20, (some (16, false)), .pv (.bin .leq (.tmp 18) (.tmp 19))⟩, ⟨some 21, none, .pv (.pick (.tmp 16) (.const (.bool true)) (.tmp 20))⟩, ⟨some 22, none, .pv (.move (.tmp 21))⟩, ⟨some 23, (some (22, false)), .pv (.off (.tmp 5) 1)⟩, ⟨some 24, (some (22, false)), .load (.tmp 23)⟩, ⟨some 25, (some (22, false)), .call 54 [(.tmp 24), (.const (.int .i64 1)), (.const (.int .i64 1099511627776))]⟩, ⟨some 26, (some (22, false)), .pv (.not (.tmp 25))⟩, ⟨some 27, none, .pv (.pick (.tmp 22) (.const (.bool true)) (.tmp 26))⟩, ⟨some 28, none, .pv (.move (.tmp 27))⟩, ⟨some 29, (some (28, false)), .pv (.off (.tmp 5) 2)⟩, ⟨some 30, (some (28, false)), .load (.tmp 29)⟩, ⟨some 31, (some (28, false)), .call 54 [(.tmp 30), (.const (.int .i64 0)), (.const (.int .i64 1099511627776))]⟩, ⟨some 32, (some (28, false)), .pv (.not (.tmp 31))⟩, ⟨some 33, none, .pv (.pick (.tmp 28) (.const (.bool true)) (.tmp 32))⟩, ⟨some 34, none, .pv (.move (.tmp 33))⟩, ⟨some 35, (some (34, false)), .pv (.off (.tmp 5) 3)⟩, ⟨some 36, (some (34, false)), .load (.tmp 35)⟩, ⟨some 37, (some (34, false)), .call 54 [(.tmp 36), (.const (.int .i64 0)), (.const (.int .i64 1099511627776))]⟩, ⟨some 38, (some (34, false)), .pv (.not (.tmp 37))⟩, ⟨some 39, none, .pv (.pick (.tmp 34) (.const (.bool true)) (.tmp 38))⟩, ⟨some 40, none, .pv (.move (.tmp 39))⟩, ⟨some 41, (some (40, false)), .pv (.off (.tmp 5) 4)⟩, ⟨some 42, (some (40, false)), .loadN 2 (.tmp 41)⟩, ⟨some 43, (some (40, false)), .call 64 [(.tmp 42)]⟩, ⟨some 44, (some (40, false)), .pv (.not (.tmp 43))⟩, ⟨some 45, none, .pv (.pick (.tmp 40) (.const (.bool true)) (.tmp 44))⟩, ⟨some 46, none, .pv (.move (.tmp 45))⟩, ⟨some 47, (some (46, false)), .pv (.off (.tmp 5) 6)⟩, ⟨some 48, (some (46, false)), .load (.tmp 47)⟩, ⟨some 49, (some (46, false)), .call 54 [(.tmp 48), (.const (.int .i64 0)), (.const (.int .i64 1099511627776))]⟩, ⟨some 50, (some (46, false)), .pv (.not (.tmp 49))⟩, ⟨some 51, none, .pv (.pick (.tmp 46) (.const (.bool true)) (.tmp 50))⟩]
abbrev R60_6 : List LOper := [⟨some 2, none, .pv (.move (.const (.bool false)))⟩]
abbrev R60_7 : List LOper := [⟨some 52, none, .pv (.off (.tmp 5) 0)⟩, ⟨some 53, none, .load (.tmp 52)⟩, ⟨some 3, none, .pv (.move (.tmp 53))⟩]
abbrev R60_8 : List LOper := [⟨some 54, none, .pv (.bin .add (.tmp 8) (.const (.int .i64 1)))⟩, ⟨some 8, none, .pv (.move (.tmp 54))⟩]
abbrev R60_9 : List LOper := [⟨some 55, none, .pv (.move (.tmp 0))⟩, ⟨some 56, none, .pv (.len (.tmp 55))⟩, ⟨some 57, none, .pv (.bin .leq (.tmp 56) (.const (.int .i64 64)))⟩, ⟨some 2, none, .pv (.move (.tmp 57))⟩]
abbrev L60 : LFun := ⟨58, [(.tmp 2)], .seq (.reg R60_0) (.seq (.reg R60_1) (.seq (.seq (.reg R60_2) (.block 0 (.loop (.seq (.reg R60_3) (.seq (.cond (.tmp 9) .skip (.exit 0)) (.seq (.block 1 (.seq (.reg R60_4) (.seq (.seq (.reg R60_5) (.cond (.tmp 51) (.seq (.reg R60_6) .ret) .skip)) (.reg R60_7)))) (.reg R60_8))))))) (.seq (.reg R60_9) .ret)))⟩
theorem low60 : lowFn Try.prog Try.f60 = some L60 := by kernel_rfl
abbrev R65_0 : List LOper := [⟨some 1, none, .newv 33 (.tmp 0)⟩, ⟨some 2, none, .pv (.move (.const (.bool false)))⟩]
abbrev R65_1 : List LOper := [⟨some 3, none, .pv (.off (.tmp 1) 19)⟩, ⟨some 4, none, .load (.tmp 3)⟩, ⟨some 5, none, .pv (.len (.tmp 4))⟩, ⟨some 6, none, .pv (.bin .eql (.tmp 5) (.const (.int .i64 0)))⟩, ⟨some 7, none, .pv (.move (.tmp 6))⟩, ⟨some 8, (some (7, true)), .pv (.off (.tmp 1) 1)⟩, ⟨some 9, (some (7, true)), .load (.tmp 8)⟩, ⟨some 10, (some (7, true)), .pv (.bin .eql (.tmp 9) (.const (S [])))⟩, ⟨some 11, none, .pv (.pick (.tmp 7) (.tmp 10) (.const (.bool false)))⟩, ⟨some 12, none, .pv (.move (.tmp 11))⟩, ⟨some 13, (some (12, true)), .pv (.off (.tmp 1) 2)⟩, ⟨some 14, (some (12, true)), .load (.tmp 13)⟩, ⟨some 15, (some (12, true)), .pv (.bin .eql (.tmp 14) (.const (.int .i64 0)))⟩, ⟨some 16, none, .pv (.pick (.tmp 12) (.tmp 15) (.const (.bool false)))⟩, ⟨some 17, none, .pv (.move (.tmp 16))⟩, ⟨some 18, (some (17, true)), .pv (.off (.tmp 1) 3)⟩, ⟨some 19, (some (17, true)), .load (.tmp 18)⟩, ⟨some 20, (some (17, true)), .pv (.bin .eql (.tmp 19) (.const (.int .i64 0)))⟩, ⟨some 21, none, .pv (.pick (.tmp 17) (.tmp 20) (.const (.bool false)))⟩, ⟨some 22, none, .pv (.move (.tmp 21))⟩, ⟨some 23, (some (22, true)), .pv (.off (.tmp 1) 4)⟩, ⟨some 24, (some (22, true)), .loadN 2 (.tmp 23)⟩, ⟨some 25, (some (22, true)), .pv (.bld [(.int .i64 0), (.int .i64 0)] [])⟩, ⟨some 26, (some (22, true)), .pv (.seq false [.i, .i] (.tmp 24) (.tmp 25))⟩, ⟨some 27, none, .pv (.pick (.tmp 22) (.tmp 26) (.const (.bool false)))⟩, ⟨some 28, none, .pv (.move (.tmp 27))⟩, ⟨some 29, (some (28, true)), .pv (.off (.tmp 1) 6)⟩, ⟨some 30, (some (28, true)), .loadN 2 (.tmp 29)⟩, ⟨some 31, (some (28, true)), .pv (.bld [(.int .i64 0), (.int .i64 0)] [])⟩, ⟨some 32, (some (28, true)), .pv (.seq false [.i, .i] (.tmp 30) (.tmp 31))⟩, ⟨some 33, none, .pv (.pick (.tmp 28) (.tmp 32) (.const (.bool false)))⟩, ⟨some 34, none, .pv (.move (.tmp 33))⟩, ⟨some 35, (some (34, true)), .pv (.off (.tmp 1) 8)⟩, ⟨some 36, (some (34, true)), .loadN 2 (.tmp 35)⟩, ⟨some 37, (some (34, true)), .pv (.bld [(.int .i64 0), (.int .i64 0)] [])⟩, ⟨some 38, (some (34, true)), .pv (.seq false [.i, .i] (.tmp 36) (.tmp 37))⟩, ⟨some 39, none, .pv (.pick (.tmp 34) (.tmp 38) (.const (.bool false)))⟩, ⟨some 40, none, .pv (.move (.tmp 39))⟩, ⟨some 41, (some (40, true)), .pv (.off (.tmp 1) 10)⟩, ⟨some 42, (some (40, true)), .load (.tmp 41)⟩, ⟨some 43, (some (40, true)), .pv (.bin .eql (.tmp 42) (.const (.int .i64 0)))⟩, ⟨some 44, none, .pv (.pick (.tmp 40) (.tmp 43) (.const (.bool false)))⟩, ⟨some 45, none, .pv (.move (.tmp 44))⟩, ⟨some 46, (some (45, true)), .pv (.off (.tmp 1) 11)⟩, ⟨some 47, (some (45, true)), .loadN 2 (.tmp 46)⟩, ⟨some 48, (some (45, true)), .pv (.bld [(.int .i64 0), (.int .i64 0)] [])⟩, ⟨some 49, (some (45, true)), .pv (.seq false [.i, .i] (.tmp 47) (.tmp 48))⟩, ⟨some 50, none, .pv (.pick (.tmp 45) (.tmp 49) (.const (.bool false)))⟩, ⟨some 51, none, .pv (.move (.tmp 50))⟩, ⟨some 52, (some (51, true)), .pv (.off (.tmp 1) 13)⟩, ⟨some 53, (some (51, true)), .loadN 4 (.tmp 52)⟩, ⟨some 54, (some (51, true)), .pv (.bld [(.int .i64 0), (S []), (.int .i64 0), (.int .i64 0)] [])⟩, ⟨some 55, (some (51, true)), .pv (.seq false [.i, .s, .i, .i] (.tmp 53) (.tmp 54))⟩, ⟨some 56, none, .pv (.pick (.tmp 51) (.tmp 55) (.const (.bool false)))⟩, ⟨some 57, none, .pv (.move (.tmp 56))⟩, ⟨some 58, (some (57, true)), .pv (.off (.tmp 1) 17)⟩, ⟨some 59, (some (57, true)), .load (.tmp 58)⟩, ⟨some 60, (some (57, true)), .pv (.bin .eql (.tmp 59) (.const (.int .i64 0)))⟩, ⟨some 61, none, .pv (.pick (.tmp 57) (.tmp 60) (.const (.bool false)))⟩, ⟨some 62, none, .pv (.move (.tmp 61))⟩, ⟨some 63, (some (62, true)), .pv (.off (.tmp 1) 18)⟩, ⟨some 64, (some (62, true)), .load (.tmp 63)⟩, ⟨some 65, (some (62, true)), .pv (.bin .eql (.tmp 64) (.const (.int .i64 0)))⟩, ⟨some 66, none, .pv (.pick (.tmp 62) (.tmp 65) (.const (.bool false)))⟩, ⟨some 2, none, .pv (.move (.tmp 66))⟩]
abbrev L65 : LFun := ⟨67, [(.tmp 2)], .seq (.reg R65_0) (.seq (.reg R65_1) .ret)⟩
theorem low65 : lowFn Try.prog Try.f65 = some L65 := by kernel_rfl
abbrev R22_0 : List LOper := [⟨some 1, none, .newv 33 (.tmp 0)⟩, ⟨some 2, none, .pv (.move (.const (.bool false)))⟩]
abbrev R22_1 : List LOper := [⟨some 3, none, .pv (.move (.const (.bool true)))⟩, ⟨some 4, none, .pv (.move (.const (.bool false)))⟩]
abbrev R22_2 : List LOper := [⟨some 5, none, .pv (.off (.tmp 1) 0)⟩, ⟨some 6, none, .load (.tmp 5)⟩]
abbrev R22_3 : List LOper := [⟨some 8, none, .pv (.bin .eql (.tmp 6) (.const (.int .i64 10)))⟩, ⟨some 7, none, .pv (.move (.tmp 8))⟩]
abbrev R22_4 : List LOper := [⟨some 10, none, .pv (.bin .eql (.tmp 6) (.const (.int .i64 1)))⟩, ⟨some 9, none, .pv (.move (.tmp 10))⟩]
abbrev R22_5 : List LOper := [⟨some 12, none, .pv (.bin .eql (.tmp 6) (.const (.int .i64 2)))⟩, ⟨some 11, none, .pv (.move (.tmp 12))⟩]
abbrev R22_6 : List LOper := [⟨some 14, none, .pv (.bin .eql (.tmp 6) (.const (.int .i64 7)))⟩, ⟨some 13, none, .pv (.move (.tmp 14))⟩]
abbrev R22_7 : List LOper := [⟨some 16, none, .pv (.bin .eql (.tmp 6) (.const (.int .i64 3)))⟩, ⟨some 15, none, .pv (.move (.tmp 16))⟩]
abbrev R22_8 : List LOper := [⟨some 18, none, .pv (.bin .eql (.tmp 6) (.const (.int .i64 4)))⟩, ⟨some 17, none, .pv (.move (.tmp 18))⟩]
abbrev R22_9 : List LOper := [⟨some 20, none, .pv (.bin .eql (.tmp 6) (.const (.int .i64 5)))⟩, ⟨some 19, none, .pv (.move (.tmp 20))⟩]
abbrev R22_10 : List LOper := [⟨some 21, none, .pv (.bin .eql (.tmp 6) (.const (.int .i64 6)))⟩, ⟨some 19, none, .pv (.move (.tmp 21))⟩]
abbrev R22_11 : List LOper := [⟨some 23, none, .pv (.bin .eql (.tmp 6) (.const (.int .i64 8)))⟩, ⟨some 22, none, .pv (.move (.tmp 23))⟩]
abbrev R22_12 : List LOper := [⟨some 24, none, .pv (.bin .eql (.tmp 6) (.const (.int .i64 9)))⟩, ⟨some 22, none, .pv (.move (.tmp 24))⟩]
abbrev R22_13 : List LOper := [⟨some 25, none, .pv (.off (.tmp 1) 19)⟩, ⟨some 26, none, .load (.tmp 25)⟩, ⟨some 27, none, .call 60 [(.tmp 26)]⟩, ⟨some 3, none, .pv (.move (.tmp 27))⟩]
abbrev R22_14 : List LOper := [⟨some 28, none, .pv (.off (.tmp 1) 19)⟩, ⟨none, none, .store 1 (.tmp 28) (.const (.slice none 0 0))⟩]
abbrev R22_15 : List LOper := [⟨some 29, none, .pv (.off (.tmp 1) 11)⟩, ⟨some 30, none, .loadN 2 (.tmp 29)⟩, ⟨some 31, none, .call 58 [(.tmp 30)]⟩, ⟨some 32, none, .pv (.move (.tmp 31))⟩, ⟨some 33, (some (32, true)), .pv (.off (.tmp 1) 13)⟩, ⟨some 34, (some (32, true)), .loadN 4 (.tmp 33)⟩, ⟨some 35, (some (32, true)), .call 61 [(.tmp 34)]⟩, ⟨some 36, none, .pv (.pick (.tmp 32) (.tmp 35) (.const (.bool false)))⟩, ⟨some 3, none, .pv (.move (.tmp 36))⟩]
abbrev R22_16 : List LOper := [⟨some 37, none, .pv (.bld [(.int .i64 0), (.int .i64 0)] [])⟩, ⟨some 38, none, .pv (.bld [(.int .i64 0), (S []), (.int .i64 0), (.int .i64 0)] [])⟩, ⟨some 39, none, .pv (.off (.tmp 1) 11)⟩, ⟨none, none, .store 2 (.tmp 39) (.tmp 37)⟩, ⟨some 40, none, .pv (.off (.tmp 1) 13)⟩, ⟨none, none, .store 4 (.tmp 40) (.tmp 38)⟩]
abbrev R22_17 : List LOper := [⟨some 41, none, .pv (.off (.tmp 1) 11)⟩, ⟨some 42, none, .loadN 2 (.tmp 41)⟩, ⟨some 43, none, .call 58 [(.tmp 42)]⟩, ⟨some 44, none, .pv (.move (.tmp 43))⟩, ⟨some 45, (some (44, true)), .pv (.off (.tmp 1) 1)⟩, ⟨some 46, (some (44, true)), .load (.tmp 45)⟩, ⟨some 47, (some (44, true)), .call 62 [(.tmp 46)]⟩, ⟨some 48, none, .pv (.pick (.tmp 44) (.tmp 47) (.const (.bool false)))⟩, ⟨some 49, none, .pv (.move (.tmp 48))⟩, ⟨some 50, (some (49, true)), .pv (.off (.tmp 1) 17)⟩, ⟨some 51, (some (49, true)), .load (.tmp 50)⟩, ⟨some 52, (some (49, true)), .call 54 [(.tmp 51), (.const (.int .i64 0)), (.const (.int .i64 255))]⟩, ⟨some 53, none, .pv (.pick (.tmp 49) (.tmp 52) (.const (.bool false)))⟩, ⟨some 3, none, .pv (.move (.tmp 53))⟩]
abbrev R22_18 : List LOper := [⟨some 54, none, .pv (.off (.tmp 1) 17)⟩, ⟨some 55, none, .load (.tmp 54)⟩, ⟨some 56, none, .call 50 [(.tmp 55)]⟩, ⟨some 4, none, .pv (.move (.tmp 56))⟩]
abbrev R22_19 : List LOper := [⟨some 57, none, .pv (.bld [(.int .i64 0), (.int .i64 0)] [])⟩, ⟨some 58, none, .pv (.off (.tmp 1) 11)⟩, ⟨none, none, .store 2 (.tmp 58) (.tmp 57)⟩, ⟨some 59, none, .pv (.off (.tmp 1) 1)⟩, ⟨none, none, .store 1 (.tmp 59) (.const (S []))⟩, ⟨some 60, none, .pv (.off (.tmp 1) 17)⟩, ⟨none, none, .store 1 (.tmp 60) (.const (.int .i64 0))⟩]
abbrev R22_20 : List LOper := [⟨some 61, none, .pv (.off (.tmp 1) 6)⟩, ⟨some 62, none, .loadN 2 (.tmp 61)⟩, ⟨some 63, none, .call 63 [(.tmp 62)]⟩, ⟨some 3, none, .pv (.move (.tmp 63))⟩]
abbrev R22_21 : List LOper := [⟨some 64, none, .pv (.bld [(.int .i64 0), (.int .i64 0)] [])⟩, ⟨some 65, none, .pv (.off (.tmp 1) 6)⟩, ⟨none, none, .store 2 (.tmp 65) (.tmp 64)⟩]
abbrev R22_22 : List LOper := [⟨some 66, none, .pv (.move (.tmp 3))⟩, ⟨some 67, none, .pv (.move (.tmp 66))⟩, ⟨some 68, (some (67, true)), .pv (.off (.tmp 1) 4)⟩, ⟨some 69, (some (67, true)), .loadN 2 (.tmp 68)⟩, ⟨some 70, (some (67, true)), .call 63 [(.tmp 69)]⟩, ⟨some 71, none, .pv (.pick (.tmp 67) (.tmp 70) (.const (.bool false)))⟩, ⟨some 72, none, .pv (.move (.tmp 71))⟩, ⟨some 73, (some (72, true)), .pv (.off (.tmp 1) 1)⟩, ⟨some 74, (some (72, true)), .load (.tmp 73)⟩, ⟨some 75, (some (72, true)), .call 62 [(.tmp 74)]⟩, ⟨some 76, none, .pv (.pick (.tmp 72) (.tmp 75) (.const (.bool false)))⟩, ⟨some 3, none, .pv (.move (.tmp 76))⟩]
abbrev R22_23 : List LOper := [⟨some 77, none, .pv (.bld [(.int .i64 0), (.int .i64 0)] [])⟩, ⟨some 78, none, .pv (.off (.tmp 1) 4)⟩, ⟨none, none, .store 2 (.tmp 78) (.tmp 77)⟩, ⟨some 79, none, .pv (.off (.tmp 1) 1)⟩, ⟨none, none, .store 1 (.tmp 79) (.const (S []))⟩, ⟨some 4, none, .pv (.move (.const (.bool true)))⟩]
abbrev R22_24 : List LOper := [⟨some 80, none, .pv (.off (.tmp 1) 10)⟩, ⟨some 81, none, .load (.tmp 80)⟩, ⟨some 82, none, .call 54 [(.tmp 81), (.const (.int .i64 0)), (.const (.int .i64 1099511627776))]⟩, ⟨some 3, none, .pv (.move (.tmp 82))⟩]
abbrev R22_25 : List LOper := [⟨some 83, none, .pv (.off (.tmp 1) 10)⟩, ⟨none, none, .store 1 (.tmp 83) (.const (.int .i64 0))⟩]
abbrev R22_26 : List LOper := [⟨some 84, none, .pv (.move (.tmp 3))⟩, ⟨some 85, none, .pv (.move (.tmp 84))⟩, ⟨some 86, (some (85, true)), .pv (.off (.tmp 1) 4)⟩, ⟨some 87, (some (85, true)), .loadN 2 (.tmp 86)⟩, ⟨some 88, (some (85, true)), .call 63 [(.tmp 87)]⟩, ⟨some 89, none, .pv (.pick (.tmp 85) (.tmp 88) (.const (.bool false)))⟩, ⟨some 3, none, .pv (.move (.tmp 89))⟩]
abbrev R22_27 : List LOper := [⟨some 90, none, .pv (.bld [(.int .i64 0), (.int .i64 0)] [])⟩, ⟨some 91, none, .pv (.off (.tmp 1) 4)⟩, ⟨none, none, .store 2 (.tmp 91) (.tmp 90)⟩]
abbrev R22_28 : List LOper := [⟨some 92, none, .pv (.move (.tmp 3))⟩, ⟨some 93, none, .pv (.move (.tmp 92))⟩, ⟨some 94, (some (93, true)), .pv (.off (.tmp 1) 8)⟩, ⟨some 95, (some (93, true)), .loadN 2 (.tmp 94)⟩, ⟨some 96, (some (93, true)), .call 64 [(.tmp 95)]⟩, ⟨some 97, none, .pv (.pick (.tmp 93) (.tmp 96) (.const (.bool false)))⟩, ⟨some 98, none, .pv (.move (.tmp 97))⟩, ⟨some 99, (some (98, true)), .pv (.off (.tmp 1) 1)⟩, ⟨some 100, (some (98, true)), .load (.tmp 99)⟩, ⟨some 101, (some (98, true)), .call 62 [(.tmp 100)]⟩, ⟨some 102, none, .pv (.pick (.tmp 98) (.tmp 101) (.const (.bool false)))⟩, ⟨some 3, none, .pv (.move (.tmp 102))⟩]
abbrev R22_29 : List LOper := [⟨some 103, none, .pv (.bld [(.int .i64 0), (.int .i64 0)] [])⟩, ⟨some 104, none, .pv (.off (.tmp 1) 8)⟩, ⟨none, none, .store 2 (.tmp 104) (.tmp 103)⟩, ⟨some 105, none, .pv (.off (.tmp 1) 1)⟩, ⟨none, none, .store 1 (.tmp 105) (.const (S []))⟩, ⟨some 4, none, .pv (.move (.const (.bool true)))⟩]
abbrev R22_30 : List LOper := [⟨some 2, none, .pv (.move (.const (.bool false)))⟩]
abbrev R22_31 : List LOper := [⟨some 106, none, .pv (.move (.tmp 4))⟩]
abbrev R22_32 : List LOper := [⟨some 107, none, .pv (.move (.tmp 3))⟩, ⟨some 108, none, .pv (.move (.tmp 107))⟩, ⟨some 109, (some (108, true)), .pv (.off (.tmp 1) 2)⟩, ⟨some 110, (some (108, true)), .load (.tmp 109)⟩, ⟨some 111, (some (108, true)), .call 54 [(.tmp 110), (.const (.int .i64 1)), (.const (.int .i64 1099511627776))]⟩, ⟨some 112, none, .pv (.pick (.tmp 108) (.tmp 111) (.const (.bool false)))⟩, ⟨some 113, none, .pv (.move (.tmp 112))⟩, ⟨some 114, (some (113, true)), .pv (.off (.tmp 1) 3)⟩, ⟨some 115, (some (113, true)), .load (.tmp 114)⟩, ⟨some 116, (some (113, true)), .call 54 [(.tmp 115), (.const (.int .i64 0)), (.const (.int .i64 1099511627776))]⟩, ⟨some 117, none, .pv (.pick (.tmp 113) (.tmp 116) (.const (.bool false)))⟩, ⟨some 3, none, .pv (.move (.tmp 117))⟩]
abbrev R22_33 : List LOper := [⟨some 118, none, .pv (.off (.tmp 1) 2)⟩, ⟨none, none, .store 1 (.tmp 118) (.const (.int .i64 0))⟩, ⟨some 119, none, .pv (.off (.tmp 1) 3)⟩, ⟨none, none, .store 1 (.tmp 119) (.const (.int .i64 0))⟩]
abbrev R22_34 : List LOper := [⟨some 120, none, .pv (.move (.tmp 3))⟩, ⟨some 121, none, .pv (.move (.tmp 120))⟩, ⟨some 122, (some (121, true)), .loadN 20 (.tmp 1)⟩, ⟨some 123, (some (121, true)), .call 65 [(.tmp 122)]⟩, ⟨some 124, none, .pv (.pick (.tmp 121) (.tmp 123) (.const (.bool false)))⟩, ⟨some 2, none, .pv (.move (.tmp 124))⟩]
abbrev L22 : LFun := ⟨125, [(.tmp 2)], .seq (.reg R22_0) (.seq (.reg R22_1) (.seq (.seq (.reg R22_2) (.block 0 (.seq (.block 9 (.seq (.block 8 (.seq (.block 7 (.seq (.block 6 (.seq (.block 5 (.seq (.block 4 (.seq (.block 3 (.seq (.block 2 (.seq (.block 1 (.seq (.seq (.seq (.reg R22_3) (.cond (.tmp 7) (.exit 1) .skip)) (.seq (.seq (.reg R22_4) (.cond (.tmp 9) (.exit 2) .skip)) (.seq (.seq (.reg R22_5) (.cond (.tmp 11) (.exit 3) .skip)) (.seq (.seq (.reg R22_6) (.cond (.tmp 13) (.exit 4) .skip)) (.seq (.seq (.reg R22_7) (.cond (.tmp 15) (.exit 5) .skip)) (.seq (.seq (.reg R22_8) (.cond (.tmp 17) (.exit 6) .skip)) (.seq (.seq (.seq (.reg R22_9) (.cond (.tmp 19) .skip (.reg R22_10))) (.cond (.tmp 19) (.exit 7) .skip)) (.seq (.seq (.reg R22_11) (.cond (.tmp 22) .skip (.reg R22_12))) (.cond (.tmp 22) (.exit 8) .skip))))))))) (.exit 9))) (.seq (.seq (.reg R22_13) (.reg R22_14)) (.exit 0)))) (.seq (.seq (.reg R22_15) (.reg R22_16)) (.exit 0)))) (.seq (.seq (.reg R22_17) (.seq (.reg R22_18) (.reg R22_19))) (.exit 0)))) (.seq (.reg R22_20) (.reg R22_21)))) (.seq (.seq (.reg R22_22) (.reg R22_23)) (.exit 0)))) (.seq (.reg R22_24) (.reg R22_25)))) (.seq (.reg R22_26) (.reg R22_27)))) (.seq (.seq (.reg R22_28) (.reg R22_29)) (.exit 0)))) (.seq (.seq (.reg R22_30) .ret) (.exit 0))))) (.seq (.seq (.reg R22_31) (.cond (.tmp 106) (.seq (.reg R22_32) (.reg R22_33)) .skip)) (.seq (.reg R22_34) .ret))))⟩
theorem low22 : lowFn Try.prog Try.f22 = some L22 := by kernel_rfl

structure Vw where
  name : List UInt8
  cap : Int
  recaps : Int
  ver : Int
  down : Int
  up : Int
  held : Int
def Vw.cells (v : Vw) : List Value := [S v.name, .int .i64 v.cap, .int .i64 v.recaps, .int .i64 v.ver, .int .i64 v.down, .int .i64 v.up, .int .i64 v.held]
structure Ms where
  kind : Int
  name : List UInt8
  cap : Int
  recaps : Int
  er : Int
  ek : Int
  or_ : Int
  ok : Int
  down : Int
  up : Int
  held : Int
  cs : Int
  ci : Int
  opk : Int
  opn : List UInt8
  opa : Int
  opb : Int
  err : Int
  val : Int
def Ms.cells (m : Ms) (vv : Value) : List Value := [.int .i64 m.kind, S m.name, .int .i64 m.cap, .int .i64 m.recaps, .int .i64 m.er, .int .i64 m.ek, .int .i64 m.or_, .int .i64 m.ok, .int .i64 m.down, .int .i64 m.up, .int .i64 m.held, .int .i64 m.cs, .int .i64 m.ci, .int .i64 m.opk, S m.opn, .int .i64 m.opa, .int .i64 m.opb, .int .i64 m.err, .int .i64 m.val, vv]
/-- Nothing is left but the kind (and, of the views, their number n). -/
def emptyB (m : Ms) (n : Nat) : Bool :=
  decide (n = 0) && decide (m.name = []) && decide (m.cap = 0) && decide (m.recaps = 0) && decide (m.er = 0) && decide (m.ek = 0) && decide (m.or_ = 0) && decide (m.ok = 0) && decide (m.down = 0) && decide (m.up = 0) && decide (m.held = 0) &&
  decide (m.cs = 0) && decide (m.ci = 0) && decide (m.opk = 0) && decide (m.opn = []) && decide (m.opa = 0) && decide (m.opb = 0) && decide (m.err = 0) && decide (m.val = 0)
theorem c65 (m : Ms) (A : Option Addr) (n c : Nat) (w : World) : Quiet Try.prog 65 #[.agg (m.cells (.slice A n c)).toArray] w (.bool (emptyB m n)) := by
  refine enterF (args := [.agg (m.cells (.slice A n c)).toArray]) Try.func65 low65 rfl ?_; have hS := St.start w; dsimp only [L65, envL, Nat.reduceAdd]
  unfold Ms.cells
  repeat' (first | ((with_reducible apply WL_p); (· exact evk)) | ((with_reducible apply WL_do); (· exact evd)) | ((with_reducible apply WL_no); (· exact evd)) | ((with_reducible apply WC_true); (· exact evk)) | ((with_reducible apply WC_false); (· exact evk)) | (with_reducible first | refine WL_nil ?_ | refine then_normal ?_ | refine blk_normal ?_ | refine WC_seq ?_ | refine WC_reg ?_ | refine WC_block ?_ | refine WC_skip ?_ | refine WC_exit ?_ | refine then_exit ?_ | refine blk_hit ?_ | refine blk_miss (by decide) ?_ | refine WC_ret ?_ | refine then_ret ?_ | refine blk_ret ?_) | ((first | (with_reducible apply WL_newz hS) | ((with_reducible apply WL_newv hS); (· exact evk); (· rfl)) | ((with_reducible apply WL_row hS); (· exact evk))); clear hS; intro bq w hS hbq; (try simp only [List.nil_append, List.cons_append, List.append_assoc] at hS)) | ((with_reducible apply WL_load hS); (· exact evk); (· exact inn); (· rfl)) | ((with_reducible apply WL_loadN hS); (· exact evk); (· exact inn); (· ((simp only [List.drop_succ_cons, List.drop_zero, List.take_succ_cons, List.take_zero]) <;> rfl)); (· rfl)) | (first | ((with_reducible apply WL_split); (· exact evk)) | ((with_reducible apply WC_dec); (· exact evk)) | ((with_reducible apply WL_splitB); (· exact evk)) | ((with_reducible apply WC_bool); (· exact evk)) | (with_reducible intro hh)))
  all_goals (((with_reducible apply retq hS); (· exact evk)); (first | (simp [emptyB, *]; done) | (simp [emptyB]; omega) | (simp [emptyB]; grind) | (simp [emptyB, *]; grind)))
end Go.Proofs.Ytohmgkcdjapinaa.Lw
namespace Go.Proofs.Ytohmgkcdjapinaa.Lw
theorem kWc0 {p : Prop} (h : p := by ((simp (disch := omega) only [ev_tmp, ev_const, ev_func, ev_global, upd_app, val_move, val_pick, pickV_true, pickV_false, pickV_bool, val_nilck, nilckV_ptr, val_bin, bin_add, bin_sub, bin_mul, bin_eql, bin_neq, bin_lss, bin_leq, bin_gtr, bin_geq, bin_seql, bin_sneq, bin_slss, bin_sleq, bin_sgtr, bin_sgeq, val_beq, beqV_f, beqV_t, val_seq, val_not, notV_bool, val_toInt, toIntV_int, val_off, offV_ptr, val_len, lenV_slice, val_slen, slenV_S, val_ext, extV_tup, val_ifc, val_fn, List.getElem?_cons_zero, List.getElem?_cons_succ, List.map_cons, List.map_nil, eq_self, Bool.false_eq_true, Bool.not_true, Bool.not_false, Option.map_some, Nat.zero_add, isB_bool, isB_undef, Bool.true_beq, Bool.false_beq, beq_self_eq_true, Bool.true_and, Bool.and_true, Bool.false_and, Bool.and_false, Bool.true_or, Bool.or_true, Bool.false_or, Bool.or_false, not_dec, and_dec, or_dec, seqV_f, seqV_t, ceq_i, ceq_s, ceq_nil, val_bld, bldV, cells_int, cells_bool, cells_S, cells_b8, cells_slice, cells_ptr, cells_agg, List.size_toArray, List.length_cons, List.length_nil, place, List.take_succ_cons, List.take_zero, List.drop_succ_cons, List.drop_zero, List.cons_append, List.nil_append, and_self, and_true, true_and, Nat.reduceLeDiff, List.toList_toArray, wr64, wru64, wru8, Nat.reduceEqDiff, ↓reduceIte, Nat.reduceAdd, Has, and_true, Int.natCast_add, Int.cast_ofNat_Int]))) : p := h
def aboveB (last name : List UInt8) : Bool := decide (¬ (Op.bytesLess name last = true ∨ name = last))
def viewB (v : Vw) : Bool := namedB v.name && decide (1 ≤ v.cap ∧ v.cap ≤ 1099511627776) && decide (0 ≤ v.recaps ∧ v.recaps ≤ 1099511627776) && decide (0 ≤ v.ver ∧ v.ver ≤ 1099511627776) && rightsB v.down v.up && decide (0 ≤ v.held ∧ v.held ≤ 1099511627776)
def viewsFrom : List UInt8 → List Vw → Bool
  | _, [] => true
  | last, v :: r => viewB v && aboveB last v.name && viewsFrom v.name r
def viewsB (l : List Vw) : Bool := viewsFrom [] l && decide (l.length ≤ 64)
def VwOk (l : List Vw) : Prop := ∀ v ∈ l, v.name.length ≤ 140737488351232
theorem drop_get {α : Type} {l : List α} {k : Nat} {x : α} (h : l[k]? = some x) : l.drop k = x :: l.drop (k + 1) := by
  obtain ⟨hk, rfl⟩ := List.getElem?_eq_some_iff.1 h
  exact List.drop_eq_getElem_cons hk
theorem Vw.len (v : Vw) : v.cells.length = 7 := rfl
theorem c60 (vs : List Vw) (vv : Value) (hok : VwOk vs) (hn : vs.length ≤ 140737488351232) (w : World) (hR : RdL w [] 7 vv vs Vw.cells) : Quiet Try.prog 60 #[vv] w (.bool (viewsB vs)) := by
  refine enterF (args := [vv]) Try.func60 low60 rfl ?_; have hS := St.start w; dsimp only [L60, envL, Nat.reduceAdd]
  obtain ⟨A, c, rfl, _⟩ := hR.1.slc
  repeat' (first | ((with_reducible apply WL_p); (· exact evk)) | ((with_reducible apply WL_do); (· exact evd)) | ((with_reducible apply WL_no); (· exact evd)) | ((with_reducible apply WC_true); (· exact evk)) | ((with_reducible apply WC_false); (· exact evk)) | (with_reducible first | refine WL_nil ?_ | refine then_normal ?_ | refine blk_normal ?_ | refine WC_seq ?_ | refine WC_reg ?_ | refine WC_block ?_ | refine WC_skip ?_ | refine WC_exit ?_ | refine then_exit ?_ | refine blk_hit ?_ | refine blk_miss (by decide) ?_ | refine WC_ret ?_ | refine then_ret ?_ | refine blk_ret ?_))
  refine WC_loopH (α := Nat × List UInt8) (fun a => [(0, .slice A vs.length c), (3, S a.2), (6, .slice A vs.length c), (7, .int .i64 vs.length), (8, .int .i64 a.1)]) (fun a w' => a.1 ≤ vs.length ∧ viewsFrom [] vs = viewsFrom a.2 (vs.drop a.1) ∧ St w [] w' []) (fun a => vs.length - a.1) (0, []) (by exact kWc0) ⟨by omega, by simp, hS⟩ ?_
  intro ⟨k, last⟩ e w1 ⟨hk, hall, hS⟩
  dsimp only [patch] at hk hall ⊢
  by_cases hlt : k < vs.length
  · obtain ⟨x, hx⟩ : ∃ x, vs[k]? = some x := ⟨_, List.getElem?_eq_getElem hlt⟩
    have hxl := hok x (List.mem_of_getElem? hx)
    rw [drop_get hx, viewsFrom] at hall
    repeat' (first | ((with_reducible apply WL_p); (· exact evk)) | ((with_reducible apply WL_do); (· exact evd)) | ((with_reducible apply WL_no); (· exact evd)) | ((with_reducible apply WC_true); (· exact evk)) | ((with_reducible apply WC_false); (· exact evk)) | (with_reducible first | refine WL_nil ?_ | refine then_normal ?_ | refine blk_normal ?_ | refine WC_seq ?_ | refine WC_reg ?_ | refine WC_block ?_ | refine WC_skip ?_ | refine WC_exit ?_ | refine then_exit ?_ | refine blk_hit ?_ | refine blk_miss (by decide) ?_ | refine WC_ret ?_ | refine then_ret ?_ | refine blk_ret ?_) | (first | ((with_reducible apply WL_split); (· exact evk)) | ((with_reducible apply WC_dec); (· exact evk)) | ((with_reducible apply WL_splitB); (· exact evk)) | ((with_reducible apply WC_bool); (· exact evk)) | (with_reducible intro hh)))
    all_goals (try omega)
    ((with_reducible apply WL_idxS hR); (· exact evk); (· exact evk); (· omega); (· assumption); (intro b o hbK hcell))
    simp only [Vw.cells] at hcell
    ((with_reducible apply WL_loadNR hS); (· exact evk); (· assumption); (· exact hcell); (· rfl))
    have hc62 := fun w => c62 x.name hxl w
    repeat' (first | ((with_reducible apply WL_p); (· exact evk)) | ((with_reducible apply WL_do); (· exact evd)) | ((with_reducible apply WL_no); (· exact evd)) | ((with_reducible apply WC_true); (· exact evk)) | ((with_reducible apply WC_false); (· exact evk)) | (with_reducible first | refine WL_nil ?_ | refine then_normal ?_ | refine blk_normal ?_ | refine WC_seq ?_ | refine WC_reg ?_ | refine WC_block ?_ | refine WC_skip ?_ | refine WC_exit ?_ | refine then_exit ?_ | refine blk_hit ?_ | refine blk_miss (by decide) ?_ | refine WC_ret ?_ | refine then_ret ?_ | refine blk_ret ?_) | ((first | (with_reducible apply WL_newz hS) | ((with_reducible apply WL_newv hS); (· exact evk); (· rfl)) | ((with_reducible apply WL_row hS); (· exact evk))); clear hS; intro bq w hS hbq; (try simp only [List.nil_append, List.cons_append, List.append_assoc] at hS)) | ((with_reducible apply WL_load hS); (· exact evk); (· exact inn); (· rfl)) | ((with_reducible apply WL_loadN hS); (· exact evk); (· exact inn); (· ((simp only [List.drop_succ_cons, List.drop_zero, List.take_succ_cons, List.take_zero]) <;> rfl)); (· rfl)) | ((with_reducible apply WL_storeN hS); (· exact evk); (· exact evk); (· rfl); (· simp [Value.oneCell', S]); (· exact upp); (· simp); (clear hS; intro w hS; (simp only [List.set_cons_succ, List.set_cons_zero, putList, Nat.zero_add, Nat.reduceAdd] at hS))) | ((with_reducible apply WL_store hS); (· exact evk); (· exact evk); (· first | rfl | assumption | exact RowIs.one (by assumption)); (· exact upp); (· simp); (clear hS; intro w hS; (simp only [List.set_cons_succ, List.set_cons_zero, putList, Nat.zero_add, Nat.reduceAdd] at hS))) | ((with_reducible apply WL_callq hS); (· exact evk); (· first | exact c54 _ _ _ _ | exact hc62 _ | exact c64 _ _ _); (clear hS; intro w hS)) | (first | ((with_reducible apply WL_split); (· exact evk)) | ((with_reducible apply WC_dec); (· exact evk)) | ((with_reducible apply WL_splitB); (· exact evk)) | ((with_reducible apply WC_bool); (· exact evk)) | (with_reducible intro hh)))
    all_goals (try omega)
    all_goals first
      | (((with_reducible apply retq hS); (· exact evk)); (try simp only [viewsB, hall]); (first | (simp [viewB, aboveB, *]; done) | (simp [viewB, aboveB]; omega) | (simp [viewB, aboveB]; grind) | (simp [viewB, aboveB, *]; grind)))
      | skip
    refine ⟨(k + 1, x.name), by dsimp only; omega, ?_, by dsimp only; omega, ?_, hS.sub (List.nil_sublist _)⟩
    · exact kWc0
    · rw [hall]; (first | (simp [viewB, aboveB, *]; done) | (simp [viewB, aboveB]; omega) | (simp [viewB, aboveB]; grind) | (simp [viewB, aboveB, *]; grind))
  · obtain rfl : k = vs.length := by omega
    repeat' (first | ((with_reducible apply WL_p); (· exact evk)) | ((with_reducible apply WL_do); (· exact evd)) | ((with_reducible apply WL_no); (· exact evd)) | ((with_reducible apply WC_true); (· exact evk)) | ((with_reducible apply WC_false); (· exact evk)) | (with_reducible first | refine WL_nil ?_ | refine then_normal ?_ | refine blk_normal ?_ | refine WC_seq ?_ | refine WC_reg ?_ | refine WC_block ?_ | refine WC_skip ?_ | refine WC_exit ?_ | refine then_exit ?_ | refine blk_hit ?_ | refine blk_miss (by decide) ?_ | refine WC_ret ?_ | refine then_ret ?_ | refine blk_ret ?_) | (first | ((with_reducible apply WL_split); (· exact evk)) | ((with_reducible apply WC_dec); (· exact evk)) | ((with_reducible apply WL_splitB); (· exact evk)) | ((with_reducible apply WC_bool); (· exact evk)) | (with_reducible intro hh)))
    all_goals (try omega)
    ((with_reducible apply retq hS); (· exact evk))
    simp only [List.drop_length, viewsFrom] at hall
    simp [viewsB, hall]
    omega
end Go.Proofs.Ytohmgkcdjapinaa.Lw
namespace Go.Proofs.Ytohmgkcdjapinaa.Lw
theorem c65x (k : Int) (nm : List UInt8) (a1 a2 a3 a4 a5 a6 a7 a8 a9 a10 a11 a12 : Int) (on : List UInt8) (a13 a14 a15 a16 : Int) (A : Option Addr) (n c : Nat) (w : World) :
    Quiet Try.prog 65 #[.agg #[.int .i64 k, S nm, .int .i64 a1, .int .i64 a2, .int .i64 a3, .int .i64 a4, .int .i64 a5, .int .i64 a6, .int .i64 a7, .int .i64 a8, .int .i64 a9, .int .i64 a10, .int .i64 a11, .int .i64 a12, S on, .int .i64 a13, .int .i64 a14, .int .i64 a15, .int .i64 a16, .slice A n c]] w
      (.bool (emptyB ⟨k, nm, a1, a2, a3, a4, a5, a6, a7, a8, a9, a10, a11, a12, on, a13, a14, a15, a16⟩ n)) := c65 ⟨k, nm, a1, a2, a3, a4, a5, a6, a7, a8, a9, a10, a11, a12, on, a13, a14, a15, a16⟩ A n c w
def capB (c r : Int) : Bool := decide (1 ≤ c ∧ c ≤ 1099511627776) && decide (0 ≤ r ∧ r ≤ 1099511627776)
def heldB (h : Int) : Bool := decide (0 ≤ h ∧ h ≤ 1099511627776)
def capped (e : Int) : Bool := decide (e = 0 ∨ e = 101)
def validB (m : Ms) (vs : List Vw) : Bool :=
  let n := vs.length
  if m.kind = 10 then viewsB vs && emptyB m 0 else
  if m.kind = 1 then callB m.cs m.ci && opB m.opk m.opn && emptyB { m with cs := 0, ci := 0, opk := 0, opn := [], opa := 0, opb := 0 } n else
  if m.kind = 2 then callB m.cs m.ci && namedB m.name && decide (0 ≤ m.err ∧ m.err ≤ 255) &&
    (if capped m.err then capB m.cap m.recaps && emptyB { m with cs := 0, ci := 0, name := [], err := 0, cap := 0, recaps := 0 } n else emptyB { m with cs := 0, ci := 0, name := [], err := 0 } n) else
  if m.kind = 7 then epochB m.or_ m.ok && epochB m.er m.ek && namedB m.name && capB m.cap m.recaps && emptyB { m with or_ := 0, ok := 0, er := 0, ek := 0, name := [], cap := 0, recaps := 0 } n else
  if m.kind = 3 then epochB m.er m.ek && namedB m.name && capB m.cap m.recaps && emptyB { m with er := 0, ek := 0, name := [], cap := 0, recaps := 0 } n else
  if m.kind = 4 then heldB m.held && epochB m.er m.ek && rightsB m.down m.up && namedB m.name && capB m.cap m.recaps && emptyB { m with held := 0, er := 0, ek := 0, down := 0, up := 0, name := [], cap := 0, recaps := 0 } n else
  if m.kind = 5 ∨ m.kind = 6 then epochB m.er m.ek && rightsB m.down m.up && namedB m.name && capB m.cap m.recaps && emptyB { m with er := 0, ek := 0, down := 0, up := 0, name := [], cap := 0, recaps := 0 } n else
  if m.kind = 8 ∨ m.kind = 9 then rightsB m.down m.up && namedB m.name && capB m.cap m.recaps && emptyB { m with down := 0, up := 0, name := [], cap := 0, recaps := 0 } n else
  false
structure MsOk (m : Ms) (vs : List Vw) : Prop where
  name : m.name.length ≤ 140737488351232
  opn : m.opn.length ≤ 140737488351232
  views : VwOk vs
  n : vs.length ≤ 140737488351232
set_option maxHeartbeats 4000000 in
theorem c22 (m : Ms) (vs : List Vw) (vv : Value) (hok : MsOk m vs) (w : World) (hR : RdL w [] 7 vv vs Vw.cells) : Quiet Try.prog 22 #[.agg (m.cells vv).toArray] w (.bool (validB m vs)) := by
  obtain ⟨h1, h2, h3, h4⟩ := hok
  obtain ⟨kind, name, cap, recaps, er, ek, or_, ok, down, up, held, cs, ci, opk, opn, opa, opb, err, val⟩ := m
  dsimp only at h1 h2
  obtain ⟨A, c, rfl, _⟩ := hR.1.slc
  refine enterF (args := [.agg (Ms.cells ⟨kind, name, cap, recaps, er, ek, or_, ok, down, up, held, cs, ci, opk, opn, opa, opb, err, val⟩ (.slice A vs.length c)).toArray]) Try.func22 low22 rfl ?_; have hS := St.start w; dsimp only [L22, envL, Nat.reduceAdd]
  simp only [Ms.cells]
  repeat' (first | ((with_reducible apply WL_p); (· exact evk)) | ((with_reducible apply WL_do); (· exact evd)) | ((with_reducible apply WL_no); (· exact evd)) | ((with_reducible apply WC_true); (· exact evk)) | ((with_reducible apply WC_false); (· exact evk)) | (with_reducible first | refine WL_nil ?_ | refine then_normal ?_ | refine blk_normal ?_ | refine WC_seq ?_ | refine WC_reg ?_ | refine WC_block ?_ | refine WC_skip ?_ | refine WC_exit ?_ | refine then_exit ?_ | refine blk_hit ?_ | refine blk_miss (by decide) ?_ | refine WC_ret ?_ | refine then_ret ?_ | refine blk_ret ?_) | ((first | (with_reducible apply WL_newz hS) | ((with_reducible apply WL_newv hS); (· exact evk); (· rfl)) | ((with_reducible apply WL_row hS); (· exact evk))); clear hS; intro bq w hS hbq; (try simp only [List.nil_append, List.cons_append, List.append_assoc] at hS)) | ((with_reducible apply WL_load hS); (· exact evk); (· exact inn); (· rfl)) | ((with_reducible apply WL_loadN hS); (· exact evk); (· exact inn); (· ((simp only [List.drop_succ_cons, List.drop_zero, List.take_succ_cons, List.take_zero]) <;> rfl)); (· rfl)) | ((with_reducible apply WL_storeN hS); (· exact evk); (· exact evk); (· rfl); (· simp [Value.oneCell', S]); (· exact upp); (· simp); (clear hS; intro w hS; (simp only [List.set_cons_succ, List.set_cons_zero, putList, Nat.zero_add, Nat.reduceAdd] at hS))) | ((with_reducible apply WL_store hS); (· exact evk); (· exact evk); (· first | rfl | assumption | exact RowIs.one (by assumption)); (· exact upp); (· simp); (clear hS; intro w hS; (simp only [List.set_cons_succ, List.set_cons_zero, putList, Nat.zero_add, Nat.reduceAdd] at hS))) | ((with_reducible apply WL_callq hS); (· exact evk); (· first | exact c54 _ _ _ _ | exact c62 _ h1 _ | exact c64 _ _ _ | exact c63 _ _ _ | exact c58 _ _ _ | exact c61 _ _ _ _ h2 _ | exact c65x _ _ _ _ _ _ _ _ _ _ _ _ _ _ _ _ _ _ _ _ _ _ _ | exact c60 vs _ h3 h4 _ (hS.rdL0 hR) | exact c50 _ _); (clear hS; intro w hS)) | (first | ((with_reducible apply WL_split); (· exact evk)) | ((with_reducible apply WC_dec); (· exact evk)) | ((with_reducible apply WL_splitB); (· exact evk)) | ((with_reducible apply WC_bool); (· exact evk)) | (with_reducible intro hh)))
  all_goals (try omega)
  all_goals (((with_reducible apply retq hS); (· exact evk)); first | (simp [validB, capB, heldB, capped, callB, epochB, rightsB, *]; done) | (simp [validB, capB, heldB, capped, callB, epochB, rightsB, *]; omega) | trace_state)
end Go.Proofs.Ytohmgkcdjapinaa.Lw
