/-
  Rows of bytes that are a call's own; leaf.Bytes hands over such a row.
-/
import Derived.Test.YtliphfgiaioebaaDoorFenced
namespace Go.Proofs.YtliphfgiaioebaaDoor
set_option linter.unusedVariables false
set_option linter.unusedSimpArgs false
open Go.RowKit
/-- bytes in a block at or above n, which may be written -/
def BRow (n : Nat) (w : World) (A : Option Addr) (c : Nat) (l : List UInt8) : Prop :=
  n ≤ w.heap.size ∧ l.length ≤ c ∧ ∃ g off, A = some ⟨g, off, none⟩ ∧ n ≤ g ∧ g < w.heap.size ∧ ∀ i, i < l.length → w.cell? ⟨g, off + i, none⟩ = some (.int .u8 (gb l i)) ∧ w.frozen? ⟨g, off + i, none⟩ = false
theorem BRow.later {n : Nat} {w w' : World} {A : Option Addr} {c : Nat} {l : List UInt8} (h : BRow n w A c l) (hl : Ltr w w') : BRow n w' A c l := by
  obtain ⟨h1, h2, g, off, e, h3, h4, h5⟩ := h
  have hz := hl.size
  exact ⟨Nat.le_trans h1 hz, h2, g, off, e, h3, by omega, fun i hi => ⟨bl_cell hl (h5 i hi).1, (hl.frozen (p := ⟨g, off + i, none⟩) h4).trans (h5 i hi).2⟩⟩
theorem BRow.bytes {n : Nat} {w : World} {A : Option Addr} {c : Nat} {l : List UInt8} (h : BRow n w A c l) : BytesAt w A l := by
  obtain ⟨h1, h2, g, off, e, h3, h4, h5⟩ := h
  exact fun _ => ⟨g, off, e, fun i hi => (h5 i hi).1⟩
theorem BRow.mono {n m : Nat} {w : World} {A : Option Addr} {c : Nat} {l : List UInt8} (h : BRow n w A c l) (hm : m ≤ n) : BRow m w A c l := by
  obtain ⟨h1, h2, g, off, e, h3, h4, h5⟩ := h
  exact ⟨by omega, h2, g, off, e, by omega, h4, h5⟩
theorem gb_cut (l : List UInt8) (lo hi i : Nat) (h : i < ((l.take hi).drop lo).length) : gb ((l.take hi).drop lo) i = gb l (lo + i) := by
  rw [List.length_drop, List.length_take] at h
  unfold gb
  rw [List.getD_eq_getElem?_getD, List.getD_eq_getElem?_getD, List.getElem?_drop, List.getElem?_take, if_pos (by omega)]
theorem BRow.cut {n : Nat} {w : World} {A : Option Addr} {c : Nat} {l : List UInt8} (h : BRow n w A c l) (lo hi d : Nat) (h1 : lo ≤ hi) (h2 : hi ≤ l.length) (hd : hi - lo ≤ d) : BRow n w (cutA A c lo) d ((l.take hi).drop lo) := by
  obtain ⟨k1, k2, g, off, rfl, h3, h4, h5⟩ := h
  have hlen : ((l.take hi).drop lo).length = hi - lo := by rw [List.length_drop, List.length_take]; omega
  by_cases hc : c = lo
  · refine ⟨k1, by omega, g, off, ?_, h3, h4, fun i hi' => by omega⟩
    unfold cutA; rw [if_pos hc]
  · refine ⟨k1, by omega, g, off + lo, ?_, h3, h4, fun i hi' => ?_⟩
    · unfold cutA; rw [if_neg hc]; simp [add_none]
    · rw [gb_cut l lo hi i hi', Nat.add_assoc]; exact h5 (lo + i) (by omega)
theorem ex_conv_own {o : Oper} {ρ : Operand → Value} (x : Operand) (ho : o.op = .convert 9 41 x) (l : List UInt8) (hx : ρ x = .string (bs l)) (w : World) :
    ∃ v w', (execOp ρ o).run Tryd.prog w = .ok (.value v) w' ∧ ∃ A c, v = .slice A l.length c ∧ Ltr w w' ∧ BRow w.heap.size w' A c l := by
  refine ⟨_, Lib.bytesWorld w 5 (bs l), ?_, some ⟨w.heap.size, 0, none⟩, grownCap w l.length 0 5, rfl, ?_, ?_⟩
  · unfold execOp
    simp only [ho, hx, Sem.run_bind, conv_to w l, Result.andThen_ok]
    rfl
  · exact bl_bytes (bl_refl _)
  · refine ⟨by rw [Lib.bytesWorld_size]; omega, grownCap_ge _ _ _ _, w.heap.size, 0, rfl, Nat.le_refl _, by rw [Lib.bytesWorld_size]; omega, fun i hi => ?_⟩
    have hi' : i < (bs l).size := by rw [bs_size]; exact hi
    have := Lib.bytesWorld_cell w 5 (bs l) i hi'
    refine ⟨by rw [Nat.zero_add, this, bs_toList]; rfl, ?_⟩
    have hsz : i < (Lib.bytesCells w 5 (bs l)).size := by
      have h1 := World.block_lt_of_cell? _ _ this
      simp only [Lib.bytesCells, Array.size_append, Array.size_map, List.size_toArray, List.length_map, Array.length_toList] at *
      show i < _ + _
      have : (bs l).data.size = (bs l).size := rfl
      omega
    simp only [World.frozen?, Lib.bytesWorld_at_new, Nat.zero_add]
    simp; omega
set_option maxRecDepth 100000 in
set_option maxHeartbeats 4000000 in
theorem LBytes_own (b : Nat) (l : List UInt8) (w : World) (hb : LeafAt w b l) :
    Calls Tryd.prog 100 #[.pointer (some ⟨b, 0, none⟩)] w fun e w' => ∃ A c, e = .returned (.slice A l.length c) ∧ Ltr w w' ∧ BRow w.heap.size w' A c l := by
  have hB := Ltr.refl w
  unfold LeafAt at hb
  go_enter Tryd.func100, Tryd.ntmps100
  have hlt_hb := hb.lt
  refine wp_seq_k fun KK1 hKK1 => ?_
  refine rl_begin fun hgK hgo => ?_
  refine rl_take (some 2) (.slice none 0 0) rfl (by kernel_rfl) (by kernel_rfl) ?_
  try simp only [pa, pn, pb, pc, pd]
  refine rl_nil ?_
  refine hgo.out _ _ ?_
  clear hgo hgK
  refine hKK1 _ _ ?_
  refine wp_seq_k fun KK2 hKK2 => ?_
  refine wp_seq_k fun KK3 hKK3 => ?_
  refine rl_begin fun hgK hgo => ?_
  refine rl_take (some 3) (.pointer (some ⟨b, 0, none⟩)) rfl (by kernel_rfl) (by kernel_rfl) ?_
  try simp only [pa, pn, pb, pc, pd]
  refine rl_take (some 4) (.bool false) rfl (by kernel_rfl) (by kernel_rfl) ?_
  try simp only [pa, pn, pb, pc, pd]
  refine rl_nil ?_
  refine hgo.out _ _ ?_
  clear hgo hgK
  refine hKK3 _ _ ?_
  refine wp_cond_false (by kernel_rfl) ?_
  refine wp_skip ?_
  refine hKK2 _ _ ?_
  refine wp_seq_k fun KK4 hKK4 => ?_
  refine rl_begin fun hgK hgo => ?_
  refine rl_take (some 5) (.pointer (some ⟨b, 0, none⟩)) rfl (by kernel_rfl) (by kernel_rfl) ?_
  try simp only [pa, pn, pb, pc, pd]
  refine rl_take (some 6) (.pointer (some ⟨b, 0, none⟩)) rfl (by kernel_rfl) (by kernel_rfl) ?_
  try simp only [pa, pn, pb, pc, pd]
  refine rl_take (some 7) (.pointer (some ⟨b, 0, none⟩)) rfl (by kernel_rfl) (by kernel_rfl) ?_
  try simp only [pa, pn, pb, pc, pd]
  refine rl_take (some 8) (.string (bs l)) rfl (by kernel_rfl) (by exact ld1 9 _ rfl b 0 rfl (fun _ => by kernel_rfl) _ (hb.cell 0)) ?_
  try simp only [pa, pn, pb, pc, pd]
  refine rl_new (some 9) rfl (by kernel_rfl) (ex_conv_own _ rfl l rfl _) ?_
  rintro v5 w5 ⟨A1, c1, rfl, hL5, hA⟩
  replace hB := hB.later hL5
  replace hb := hb.later hL5
  have hz5 := hL5.size
  try simp only [pa, pn, pb, pc, pd]
  refine rl_take (some 2) (.slice A1 l.length c1) rfl (by kernel_rfl) (by kernel_rfl) ?_
  try simp only [pa, pn, pb, pc, pd]
  refine rl_nil ?_
  refine hgo.out _ _ ?_
  clear hgo hgK
  refine hKK4 _ _ ?_
  refine wp_ret ?_
  try simp only [Exit.then, Exit.inBlock]
  refine bp_ret (v := .slice A1 l.length c1) (res1 rfl (res_tmp (by kernel_rfl))) ?_
  exact ⟨_, _, rfl, hB, hA.mono (by omega)⟩
end Go.Proofs.YtliphfgiaioebaaDoor
