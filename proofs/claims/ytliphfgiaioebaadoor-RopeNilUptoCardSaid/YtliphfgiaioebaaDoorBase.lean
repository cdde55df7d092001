/-
  Small words for the walks of this seat: bytes as lists, slices of bytes, the tables of package octet as they lie in memory, 'Below' at the heap's size.
-/
import Derived.Test.YtliphfgiaioebaaDoorProg
import Derived.Test.YtliphfgiaioebaaDoorPlain1
import Derived.WalkKit
import Derived.WalkLawsBesides
import Derived.Deep.QuietTactic
import Derived.BigQuiet
import Derived.Lib.Hide
import Derived.Lib.ConvBytes
import Derived.Deep.LoopGhost
import Derived.KernelRfl
namespace Go.Proofs.YtliphfgiaioebaaDoor
set_option linter.unusedVariables false
set_option linter.unusedSimpArgs false
open Go.RowKit

/-- a slice of bytes at this address reads as the list -/
def BytesAt (w : World) (A : Option Addr) (l : List UInt8) : Prop :=
  0 < l.length → ∃ b off, A = some ⟨b, off, none⟩ ∧ ∀ i, i < l.length → w.cell? ⟨b, off + i, none⟩ = some (.int .u8 (gb l i))
theorem BytesAt.nil (w : World) (A : Option Addr) : BytesAt w A [] := fun h => absurd h (by simp)
theorem BytesAt.below {w w' : World} {A : Option Addr} {l : List UInt8} (h : BytesAt w A l) (hb : Below w.heap.size w w') : BytesAt w' A l := fun hl => by
  obtain ⟨b, off, e, hc⟩ := h hl
  exact ⟨b, off, e, fun i hi => (hb.cell (p := ⟨b, off + i, none⟩) (World.block_lt_of_cell? w _ (hc i hi))).trans (hc i hi)⟩

/-! ### 'Below' from the heap's size on -/
theorem bl_refl (a : World) : Below a.heap.size a a := Below.refl _ _
theorem bl_alloc {a w : World} {o : Obj} (h : Below a.heap.size a w) : Below a.heap.size a (w.alloc o) := h.alloc h.size o
theorem bl_set {a w : World} {p : Addr} {v : Value} (h : Below a.heap.size a w) (hp : a.heap.size ≤ p.block) : Below a.heap.size a (w.setCell p v) := h.setCell hp v
theorem bl_drew {a w : World} (h : Below a.heap.size a w) : Below a.heap.size a w.drew := h.drew
theorem bl_trans {a w w' : World} (h : Below a.heap.size a w) (h' : Below w.heap.size w w') : Below a.heap.size a w' := h.trans (h'.mono h.size)
theorem bl_drewN {a w : World} {n : Nat} (h : Below a.heap.size a w) : Below a.heap.size a (w.drewN n) := ⟨h.os, h.tape, h.output, h.size, h.block⟩
theorem bl_bytes {a w : World} {e : TypeId} {s : ByteArray} (h : Below a.heap.size a w) : Below a.heap.size a (Lib.bytesWorld w e s) :=
  h.trans ⟨rfl, rfl, rfl, by rw [Lib.bytesWorld_size]; omega, fun i hi => Lib.bytesWorld_at_old w e s i (by have := h.size; omega)⟩
theorem bl_iter {a w : World} {s : ByteArray} {p : Nat} (h : Below a.heap.size a w) : Below a.heap.size a (w.iter s p) := bl_alloc h
theorem bl_cell {w w' : World} (h : Below w.heap.size w w') {a : Addr} {v : Value} (hc : w.cell? a = some v) : w'.cell? a = some v :=
  (h.cell (World.block_lt_of_cell? w a hc)).trans hc

theorem strOfNums_bs (l : List UInt8) : strOfNums (l.map fun x => (x.toNat : Int)) = bs l := by
  unfold strOfNums bs
  rw [List.map_map]
  have e : ((fun n : Int => UInt8.ofNat n.toNat) ∘ fun x : UInt8 => (x.toNat : Int)) = id := by
    funext x; simp
  rw [e, List.map_id]
/-- the slice's bytes as a string -/
theorem conv_bytes (w : World) (b off n c : Nat) (l : List UInt8) (hn : l.length = n) (h : ∀ i, i < n → w.cell? ⟨b, off + i, none⟩ = some (.int .u8 (gb l i))) :
    (convert 41 9 (.slice (some ⟨b, off, none⟩) n c)).run Tryd.prog w = .ok (.string (bs l)) w := by
  have hg : ∀ i, (l.map fun x => (x.toNat : Int)).getD i 0 = gb l i := fun i => by
    unfold gb; simp only [List.getD_eq_getElem?_getD, List.getElem?_map]; cases l[i]? <;> rfl
  have := run_convert_bytes_arg (P := Tryd.prog) w 41 5 Tryd.underlying41 Tryd.underlying5 b off n c (l.map fun x => (x.toNat : Int)) (by simpa using hn)
    (fun i hi => by rw [h i hi, hg]) 9 Tryd.underlying9
  rw [this, strOfNums_bs]
theorem conv_empty (w : World) (A : Option Addr) (c : Nat) :
    (convert 41 9 (.slice A 0 c)).run Tryd.prog w = .ok (.string (bs [])) w := by
  cases A with
  | none => exact run_convert_bytes_nil (P := Tryd.prog) w 41 5 Tryd.underlying41 Tryd.underlying5 0 c 9 Tryd.underlying9
  | some ad =>
    rw [run_convert_bytes_string w 41 9 5 _ 0 c Tryd.underlying41 Tryd.underlying5 Tryd.underlying9]
    have hl : (loadCells ad 0).run Tryd.prog w = .ok (([] : List Int).map (Value.int .u8)).toArray w := run_loadCells_list (P := Tryd.prog) w ad [] (fun j v hv => by simp at hv)
    rw [run_bytesToString w ad 0 c [] hl]
    rfl
theorem bcell {W w1 : World} (hb : Below W.heap.size W w1) : (∀ b o, b < W.heap.size → w1.cell? ⟨b, o, none⟩ = W.cell? ⟨b, o, none⟩) ∧ (∀ b o, b < W.heap.size → w1.frozen? ⟨b, o, none⟩ = W.frozen? ⟨b, o, none⟩) :=
  ⟨fun b o h => hb.cell (p := ⟨b, o, none⟩) h, fun b o h => hb.frozen (p := ⟨b, o, none⟩) h⟩
/-! ### a block known whole -/
def Blk (W : World) (B : Nat) (t : TypeId) (cs : Array Value) : Prop := W.heap[B]? = some (.cells cs t)
theorem hp_new (w : World) (o : Obj) {k : Nat} (hk : k = w.heap.size) : (w.alloc o).heap[k]? = some o := by subst hk; exact heap_alloc_new w o
theorem hp_old {w : World} {o x : Obj} {k : Nat} (h : w.heap[k]? = some x) : (w.alloc o).heap[k]? = some x :=
  (Below.heap_alloc w o k (Array.getElem?_eq_some_iff.1 h).1).trans h
theorem Blk.cell {W : World} {B : Nat} {t : TypeId} {cs : Array Value} (h : Blk W B t cs) (i : Nat) : W.cell? ⟨B, i, none⟩ = cs[i]? := by
  simp [World.cell?, show W.heap[B]? = _ from h]
theorem Blk.frozen {W : World} {B : Nat} {t : TypeId} {cs : Array Value} (h : Blk W B t cs) (i : Nat) : W.frozen? ⟨B, i, none⟩ = false := by
  simp [World.frozen?, show W.heap[B]? = _ from h]
theorem Blk.lt {W : World} {B : Nat} {t : TypeId} {cs : Array Value} (h : Blk W B t cs) : B < W.heap.size := (Array.getElem?_eq_some_iff.1 h).1
theorem Blk.below {W W' : World} {B : Nat} {t : TypeId} {cs : Array Value} (h : Blk W B t cs) (hb : Below W.heap.size W W') : Blk W' B t cs := (hb.block B h.lt).trans h
theorem Blk.belowN {n : Nat} {W W' : World} {B : Nat} {t : TypeId} {cs : Array Value} (h : Blk W B t cs) (hb : Below n W W') (hn : B < n) : Blk W' B t cs := (hb.block B hn).trans h
theorem Blk.new (w : World) (t : TypeId) (cs : Array Value) {k : Nat} (hk : k = w.heap.size) : Blk (w.alloc (.cells cs t)) k t cs := hp_new w _ hk
theorem Blk.alloc {W : World} {B : Nat} {t : TypeId} {cs : Array Value} (h : Blk W B t cs) (o : Obj) : Blk (W.alloc o) B t cs := hp_old h
theorem Blk.drew {W : World} {B : Nat} {t : TypeId} {cs : Array Value} (h : Blk W B t cs) : Blk W.drew B t cs := h
theorem Blk.drewN {W : World} {B : Nat} {t : TypeId} {cs : Array Value} {n : Nat} (h : Blk W B t cs) : Blk (W.drewN n) B t cs := h
theorem Blk.other {W : World} {B : Nat} {t : TypeId} {cs : Array Value} (h : Blk W B t cs) {p : Addr} (hp : B ≠ p.block) (v : Value) : Blk (W.setCell p v) B t cs :=
  (Below.heap_setCell W p v B hp).trans h
theorem Blk.set {W : World} {B : Nat} {t : TypeId} {cs : Array Value} (h : Blk W B t cs) (i : Nat) (v : Value) : Blk (W.setCell ⟨B, i, none⟩ v) B t (cs.setIfInBounds i v) := by
  obtain ⟨hlt, hk⟩ := Array.getElem?_eq_some_iff.1 h
  show (W.heap.modify B _)[B]? = _
  rw [Array.getElem?_eq_getElem (by rw [Array.size_modify]; exact hlt), Array.getElem_modify_self, hk]
  simp
theorem Blk.kept {W W' : World} {row : Option Nat} {B : Nat} {t : TypeId} {cs : Array Value} (h : Blk W B t cs) (hg : W.grownBy W' row) (hr : ∀ r, row = some r → ∃ o : Obj, W.heap[r]? = some o ∧ o.isChan = false ∧ (∀ c e f, o ≠ .cells c e f)) : Blk W' B t cs := by
  refine (hg.block B h.lt ?_).trans h
  intro e
  obtain ⟨o, ho, _, hn⟩ := hr B e.symm
  rw [h] at ho; cases ho; exact hn _ _ _ rfl
theorem ret_int {k : IntKind} {a b : Int} (h : a = b) : Ending.returned (.int k a) = .returned (.int k b) := by rw [h]
theorem ret_bool {a b : Bool} (h : a = b) : Ending.returned (.bool a) = .returned (.bool b) := by rw [h]

/-! ### a load of a whole row -/
def isAggD : TypeDesc → Bool | .struct _ | .array _ _ => true | _ => false
theorem run_loadVar_cells {P : Program} (w : World) (ty : TypeId) (b off : Nat) (cs : List Value) {d : TypeDesc}
    (hu : P.underlying ty = some d) (hd : isAggD d = true) (hi : (P.info? ty).map (·.size) = some cs.length)
    (h : ∀ i v, cs[i]? = some v → w.cell? ⟨b, off + i, none⟩ = some v) : (loadVar ty ⟨b, off, none⟩).run P w = .ok (.agg cs.toArray) w := by
  have hl : (loadCells ⟨b, off, none⟩ cs.length).run P w = .ok cs.toArray w :=
    run_loadCells_list (P := P) w ⟨b, off, none⟩ cs (fun j v hv => by
      have hadd : (⟨b, off, none⟩ : Addr).add j = ⟨b, off + j, none⟩ := by unfold Addr.add; split <;> simp_all
      rw [hadd]; exact h j v hv)
  cases hq : P.info? ty with
  | none => simp [hq] at hi
  | some i =>
    have hs : i.size = cs.length := by simpa [hq] using hi
    have hagg : (isAgg ty).run P w = .ok true w := by
      unfold isAgg
      rw [Sem.run_bind, run_underlying hu w]
      cases d <;> simp_all [isAggD]
    simp [loadVar, Sem.run_bind, hagg, sizeOf, typeInfo, hq, hs, hl]
theorem wpList_loadVar_eq {P : Program} {ops : Array Oper} {rest : List Oper} {o : Oper} {a : Act} {w : World} {Q : Exit → Act → World → Prop} (hgd : o.guard = none) (ty : TypeId) (x : Operand) (ho : o.op = .load ty x)
    (ad : Addr) (hx : a.eval x = .pointer (some ad)) (v : Value) (hl : (loadVar ty ad).run P w = .ok v w)
    (h : wpList P ops Q rest (a.put o.dst v) w) : wpList P ops Q (o :: rest) a w := by
  refine wpList_plain hgd fun K hK => ?_
  unfold Oper.wp execOp
  simp only [ho, hx, Instr.loadAt, Instr.sureAddr, Sem.run_bind, Sem.run_pure, Result.andThen_ok, hl]
  exact hK _ _ h

/-! ### the tables of package octet and step, in memory -/
def spanCells : List Value := [.int .i64 0, .int .i64 127, .int .i64 1, .int .i64 128, .int .i64 191, .int .i64 2, .int .i64 192, .int .i64 193, .int .i64 6, .int .i64 194, .int .i64 223, .int .i64 3,
  .int .i64 224, .int .i64 239, .int .i64 4, .int .i64 240, .int .i64 244, .int .i64 5, .int .i64 245, .int .i64 255, .int .i64 6]
def needCells : List Value := [.int .i64 0, .int .i64 1, .int .i64 0, .int .i64 2, .int .i64 3, .int .i64 4, .int .i64 0]
def maskCells : List Value := [.int .u8 0, .int .u8 127, .int .u8 31, .int .u8 15, .int .u8 7]
def badCells : List Value := [.int .i32 65533, .int .i64 1, .bool false]
structure Tabs (w : World) : Prop where
  spans : ∀ i v, spanCells[i]? = some v → w.cell? ⟨3, i, none⟩ = some v
  needs : ∀ i v, needCells[i]? = some v → w.cell? ⟨2, i, none⟩ = some v
  masks : ∀ i v, maskCells[i]? = some v → w.cell? ⟨0, i, none⟩ = some v
  bad : ∀ i v, badCells[i]? = some v → w.cell? ⟨1, i, none⟩ = some v
theorem Tabs.below {w w' : World} (h : Tabs w) (hb : Below w.heap.size w w') : Tabs w' :=
  ⟨fun i v hi => bl_cell hb (h.spans i v hi), fun i v hi => bl_cell hb (h.needs i v hi), fun i v hi => bl_cell hb (h.masks i v hi), fun i v hi => bl_cell hb (h.bad i v hi)⟩
theorem Tabs.loadSpans {w : World} (h : Tabs w) : (loadVar 202 ⟨3, 0, none⟩).run Tryd.prog w = .ok (.agg spanCells.toArray) w :=
  run_loadVar_cells w 202 3 0 spanCells Tryd.underlying202 rfl (by kernel_rfl) (by simpa using h.spans)
theorem Tabs.loadBad {w : World} (h : Tabs w) : (loadVar 158 ⟨1, 0, none⟩).run Tryd.prog w = .ok (.agg #[.int .i32 65533, .int .i64 1, .bool false]) w :=
  run_loadVar_cells w 158 1 0 badCells Tryd.underlying158 rfl (by kernel_rfl) (by simpa using h.bad)
end Go.Proofs.YtliphfgiaioebaaDoor
