/-
  Package rope: Same.
-/
import Derived.Test.YtliphfgiaioebaaDoorBytes
namespace Go.Proofs.YtliphfgiaioebaaDoor
set_option linter.unusedVariables false
set_option linter.unusedSimpArgs false
open Go.RowKit
/-! ### Same -/
theorem Own.bytes {n : Nat} {w : World} {A : Option Addr} {k c : Nat} {l : List UInt8} (h : Own n 5 w (.slice A k c) (bvals l)) : BytesAt w A l := by
  obtain ⟨A', c', e, h1, -⟩ := h.form
  cases e
  exact bytesAt_iff.2 h1
theorem bsT (l : List UInt8) : (bs l).toList = l := by rw [ByteArray.toList_eq]; exact bs_toList l
theorem ex_eq_bs {o : Oper} {ρ : Operand → Value} {w : World} {a b : List UInt8} (h : (execOp ρ o).run Tryd.prog w = .ok (.value (.bool ((bs a).toList == (bs b).toList))) w) : (execOp ρ o).run Tryd.prog w = .ok (.value (.bool (a == b))) w := by
  rw [h, bsT, bsT]
theorem ex_ne_bs {o : Oper} {ρ : Operand → Value} {w : World} {a b : List UInt8} (h : (execOp ρ o).run Tryd.prog w = .ok (.value (.bool (!((bs a).toList == (bs b).toList)))) w) : (execOp ρ o).run Tryd.prog w = .ok (.value (.bool (!(a == b)))) w := by
  rw [h, bsT, bsT]
set_option maxRecDepth 100000 in
set_option maxHeartbeats 8000000 in
theorem Equal_any (A B : Option Addr) (c d : Nat) (a b : List UInt8) (w : World) (hA : BytesAt w A a) (hB' : BytesAt w B b) :
    Calls Tryd.prog 84 #[.slice A a.length c, .slice B b.length d] w fun e w' => e = .returned (.bool (a == b)) ∧ Ltr w w' := by
  have hB := Ltr.refl w
  go_enter Tryd.func84, Tryd.ntmps84
  refine wp_seq_k fun KK1 hKK1 => ?_
  refine rl_begin fun hgK hgo => ?_
  refine rl_take (some 4) (.bool false) rfl (by kernel_rfl) (by kernel_rfl) ?_
  try simp only [pa, pn, pb, pc, pd]
  refine rl_nil ?_
  refine hgo.out _ _ ?_
  clear hgo hgK
  refine hKK1 _ _ ?_
  refine wp_seq_k fun KK2 hKK2 => ?_
  refine rl_begin fun hgK hgo => ?_
  refine rl_take (some 5) (.slice A a.length c) rfl (by kernel_rfl) (by kernel_rfl) ?_
  try simp only [pa, pn, pb, pc, pd]
  refine rl_take (some 6) (.string (bs a)) rfl (by kernel_rfl) (by exact ex_conv_str _ rfl A c a rfl hA) ?_
  try simp only [pa, pn, pb, pc, pd]
  refine rl_take (some 7) (.slice B b.length d) rfl (by kernel_rfl) (by kernel_rfl) ?_
  try simp only [pa, pn, pb, pc, pd]
  refine rl_take (some 8) (.string (bs b)) rfl (by kernel_rfl) (by exact ex_conv_str _ rfl B d b rfl hB') ?_
  try simp only [pa, pn, pb, pc, pd]
  refine rl_take (some 9) (.bool (a == b)) rfl (by kernel_rfl) (by exact ex_eq_bs (by kernel_rfl)) ?_
  try simp only [pa, pn, pb, pc, pd]
  refine rl_take (some 4) (.bool (a == b)) rfl (by kernel_rfl) (by kernel_rfl) ?_
  try simp only [pa, pn, pb, pc, pd]
  refine rl_nil ?_
  refine hgo.out _ _ ?_
  clear hgo hgK
  refine hKK2 _ _ ?_
  refine wp_ret ?_
  try simp only [Exit.then, Exit.inBlock]
  refine bp_ret (v := .bool (a == b)) (res1 rfl (res_tmp (by kernel_rfl))) ?_
  exact ⟨rfl, hB⟩
set_option maxRecDepth 100000 in
set_option maxHeartbeats 8000000 in
theorem Same_any (a b : Nat) (l m : List UInt8) (w : World) (ha : RopeAt w a l) (hb : RopeAt w b m) (hm : l.length ≤ 1000000000 ∧ m.length ≤ 1000000000) :
    Calls Tryd.prog 38 #[.pointer (some ⟨a, 0, none⟩), .pointer (some ⟨b, 0, none⟩)] w fun e w' => e = .returned (.bool (l == m)) ∧ Ltr w w' := by
  have hB := Ltr.refl w
  by_cases h1 : l.length = m.length
  · by_cases h0 : l.length = 0
    · skip
      go_enter Tryd.func38, Tryd.ntmps38
      refine wp_seq_k fun KK1 hKK1 => ?_
      refine rl_begin fun hgK hgo => ?_
      refine rl_take (some 4) (.bool false) rfl (by kernel_rfl) (by kernel_rfl) ?_
      try simp only [pa, pn, pb, pc, pd]
      refine rl_nil ?_
      refine hgo.out _ _ ?_
      clear hgo hgK
      refine hKK1 _ _ ?_
      refine wp_seq_k fun KK2 hKK2 => ?_
      refine wp_seq_k fun KK3 hKK3 => ?_
      refine rl_begin fun hgK hgo => ?_
      refine rl_take (some 9) (.pointer (some ⟨a, 0, none⟩)) rfl (by kernel_rfl) (by kernel_rfl) ?_
      try simp only [pa, pn, pb, pc, pd]
      refine rl_call (some 10) 45 #[.pointer (some ⟨a, 0, none⟩)] rfl (by kernel_rfl) (by kernel_rfl) (Len_any a l _ ha) ?_
      rintro e w4 ⟨rfl, hL4⟩
      refine ⟨_, rfl, ?_⟩
      replace hB := hB.later hL4
      replace ha := ha.later hL4
      replace hb := hb.later hL4
      have hz4 := hL4.size
      try simp only [pa, pn, pb, pc, pd]
      refine rl_take (some 11) (.pointer (some ⟨b, 0, none⟩)) rfl (by kernel_rfl) (by kernel_rfl) ?_
      try simp only [pa, pn, pb, pc, pd]
      refine rl_call (some 12) 45 #[.pointer (some ⟨b, 0, none⟩)] rfl (by kernel_rfl) (by kernel_rfl) (Len_any b m _ hb) ?_
      rintro e w5 ⟨rfl, hL5⟩
      refine ⟨_, rfl, ?_⟩
      replace hB := hB.later hL5
      replace ha := ha.later hL5
      replace hb := hb.later hL5
      have hz5 := hL5.size
      try simp only [pa, pn, pb, pc, pd]
      refine rl_take (some 13) (.bool false) rfl (by kernel_rfl) (by exact ex_bne (x := l.length) (y := m.length) (by kernel_rfl) ⟨fun q => (by cases q), fun q => absurd q (by omega)⟩) ?_
      try simp only [pa, pn, pb, pc, pd]
      refine rl_nil ?_
      refine hgo.out _ _ ?_
      clear hgo hgK
      refine hKK3 _ _ ?_
      refine wp_cond_false (by kernel_rfl) ?_
      refine wp_skip ?_
      refine hKK2 _ _ ?_
      refine wp_seq_k fun KK6 hKK6 => ?_
      refine wp_seq_k fun KK7 hKK7 => ?_
      refine rl_begin fun hgK hgo => ?_
      refine rl_take (some 14) (.pointer (some ⟨a, 0, none⟩)) rfl (by kernel_rfl) (by kernel_rfl) ?_
      try simp only [pa, pn, pb, pc, pd]
      refine rl_call (some 15) 45 #[.pointer (some ⟨a, 0, none⟩)] rfl (by kernel_rfl) (by kernel_rfl) (Len_any a l _ ha) ?_
      rintro e w8 ⟨rfl, hL8⟩
      refine ⟨_, rfl, ?_⟩
      replace hB := hB.later hL8
      replace ha := ha.later hL8
      replace hb := hb.later hL8
      have hz8 := hL8.size
      try simp only [pa, pn, pb, pc, pd]
      refine rl_take (some 16) (.bool true) rfl (by kernel_rfl) (by exact ex_beq (x := l.length) (y := 0) (by kernel_rfl) ⟨fun _ => by omega, fun _ => rfl⟩) ?_
      try simp only [pa, pn, pb, pc, pd]
      refine rl_nil ?_
      refine hgo.out _ _ ?_
      clear hgo hgK
      refine hKK7 _ _ ?_
      refine wp_cond_true (by kernel_rfl) ?_
      refine wp_seq_k fun KK9 hKK9 => ?_
      refine rl_begin fun hgK hgo => ?_
      refine rl_take (some 4) (.bool true) rfl (by kernel_rfl) (by kernel_rfl) ?_
      try simp only [pa, pn, pb, pc, pd]
      refine rl_nil ?_
      refine hgo.out _ _ ?_
      clear hgo hgK
      refine hKK9 _ _ ?_
      refine wp_ret ?_
      try simp only [Exit.then, Exit.inBlock]
      refine bp_ret (v := .bool true) (res1 rfl (res_tmp (by kernel_rfl))) ?_
      exact ⟨by (obtain rfl : l = [] := List.eq_nil_of_length_eq_zero h0); (obtain rfl : m = [] := List.eq_nil_of_length_eq_zero (by omega)); rfl, hB⟩
    · have ha' := fun W (h : RopeAt W a l) => Bytes_in a l 0 l.length W h (Nat.zero_le _) (Nat.le_refl _) hm.1
      have hb' := fun W (h : RopeAt W b m) => Bytes_in b m 0 m.length W h (Nat.zero_le _) (Nat.le_refl _) hm.2
      simp only [List.drop_zero, List.take_length] at ha' hb'
      go_enter Tryd.func38, Tryd.ntmps38
      refine wp_seq_k fun KK1 hKK1 => ?_
      refine rl_begin fun hgK hgo => ?_
      refine rl_take (some 4) (.bool false) rfl (by kernel_rfl) (by kernel_rfl) ?_
      try simp only [pa, pn, pb, pc, pd]
      refine rl_nil ?_
      refine hgo.out _ _ ?_
      clear hgo hgK
      refine hKK1 _ _ ?_
      refine wp_seq_k fun KK2 hKK2 => ?_
      refine wp_seq_k fun KK3 hKK3 => ?_
      refine rl_begin fun hgK hgo => ?_
      refine rl_take (some 9) (.pointer (some ⟨a, 0, none⟩)) rfl (by kernel_rfl) (by kernel_rfl) ?_
      try simp only [pa, pn, pb, pc, pd]
      refine rl_call (some 10) 45 #[.pointer (some ⟨a, 0, none⟩)] rfl (by kernel_rfl) (by kernel_rfl) (Len_any a l _ ha) ?_
      rintro e w4 ⟨rfl, hL4⟩
      refine ⟨_, rfl, ?_⟩
      replace hB := hB.later hL4
      replace ha := ha.later hL4
      replace hb := hb.later hL4
      have hz4 := hL4.size
      try simp only [pa, pn, pb, pc, pd]
      refine rl_take (some 11) (.pointer (some ⟨b, 0, none⟩)) rfl (by kernel_rfl) (by kernel_rfl) ?_
      try simp only [pa, pn, pb, pc, pd]
      refine rl_call (some 12) 45 #[.pointer (some ⟨b, 0, none⟩)] rfl (by kernel_rfl) (by kernel_rfl) (Len_any b m _ hb) ?_
      rintro e w5 ⟨rfl, hL5⟩
      refine ⟨_, rfl, ?_⟩
      replace hB := hB.later hL5
      replace ha := ha.later hL5
      replace hb := hb.later hL5
      have hz5 := hL5.size
      try simp only [pa, pn, pb, pc, pd]
      refine rl_take (some 13) (.bool false) rfl (by kernel_rfl) (by exact ex_bne (x := l.length) (y := m.length) (by kernel_rfl) ⟨fun q => (by cases q), fun q => absurd q (by omega)⟩) ?_
      try simp only [pa, pn, pb, pc, pd]
      refine rl_nil ?_
      refine hgo.out _ _ ?_
      clear hgo hgK
      refine hKK3 _ _ ?_
      refine wp_cond_false (by kernel_rfl) ?_
      refine wp_skip ?_
      refine hKK2 _ _ ?_
      refine wp_seq_k fun KK6 hKK6 => ?_
      refine wp_seq_k fun KK7 hKK7 => ?_
      refine rl_begin fun hgK hgo => ?_
      refine rl_take (some 14) (.pointer (some ⟨a, 0, none⟩)) rfl (by kernel_rfl) (by kernel_rfl) ?_
      try simp only [pa, pn, pb, pc, pd]
      refine rl_call (some 15) 45 #[.pointer (some ⟨a, 0, none⟩)] rfl (by kernel_rfl) (by kernel_rfl) (Len_any a l _ ha) ?_
      rintro e w8 ⟨rfl, hL8⟩
      refine ⟨_, rfl, ?_⟩
      replace hB := hB.later hL8
      replace ha := ha.later hL8
      replace hb := hb.later hL8
      have hz8 := hL8.size
      try simp only [pa, pn, pb, pc, pd]
      refine rl_take (some 16) (.bool false) rfl (by kernel_rfl) (by exact ex_beq (x := l.length) (y := 0) (by kernel_rfl) ⟨fun q => (by cases q), fun q => absurd q (by omega)⟩) ?_
      try simp only [pa, pn, pb, pc, pd]
      refine rl_nil ?_
      refine hgo.out _ _ ?_
      clear hgo hgK
      refine hKK7 _ _ ?_
      refine wp_cond_false (by kernel_rfl) ?_
      refine wp_skip ?_
      refine hKK6 _ _ ?_
      refine wp_seq_k fun KK9 hKK9 => ?_
      refine rl_begin fun hgK hgo => ?_
      refine rl_take (some 18) (.pointer (some ⟨a, 0, none⟩)) rfl (by kernel_rfl) (by kernel_rfl) ?_
      try simp only [pa, pn, pb, pc, pd]
      refine rl_take (some 19) (.pointer (some ⟨a, 0, none⟩)) rfl (by kernel_rfl) (by kernel_rfl) ?_
      try simp only [pa, pn, pb, pc, pd]
      refine rl_call (some 20) 45 #[.pointer (some ⟨a, 0, none⟩)] rfl (by kernel_rfl) (by kernel_rfl) (Len_any a l _ ha) ?_
      rintro e w10 ⟨rfl, hL10⟩
      refine ⟨_, rfl, ?_⟩
      replace hB := hB.later hL10
      replace ha := ha.later hL10
      replace hb := hb.later hL10
      have hz10 := hL10.size
      try simp only [pa, pn, pb, pc, pd]
      refine rl_call (some 21) 44 #[.pointer (some ⟨a, 0, none⟩), .int .i64 0, .int .i64 l.length] rfl (by kernel_rfl) (by kernel_rfl) (ha' _ ha) ?_
      rintro e w11 ⟨A1, c1, rfl, hL11, hx⟩
      refine ⟨_, rfl, ?_⟩
      replace hB := hB.later hL11
      replace ha := ha.later hL11
      replace hb := hb.later hL11
      have hz11 := hL11.size
      (have hx := hx.bytes)
      try simp only [pa, pn, pb, pc, pd]
      refine rl_take (some 17) (.tuple #[.slice A1 l.length c1, .int .i64 0]) rfl (by kernel_rfl) (by kernel_rfl) ?_
      try simp only [pa, pn, pb, pc, pd]
      refine rl_take (some 22) (.slice A1 l.length c1) rfl (by kernel_rfl) (by kernel_rfl) ?_
      try simp only [pa, pn, pb, pc, pd]
      refine rl_take (some 23) (.int .i64 0) rfl (by kernel_rfl) (by kernel_rfl) ?_
      try simp only [pa, pn, pb, pc, pd]
      refine rl_take (some 5) (.slice A1 l.length c1) rfl (by kernel_rfl) (by kernel_rfl) ?_
      try simp only [pa, pn, pb, pc, pd]
      refine rl_take (some 6) (.int .i64 0) rfl (by kernel_rfl) (by kernel_rfl) ?_
      try simp only [pa, pn, pb, pc, pd]
      refine rl_nil ?_
      refine hgo.out _ _ ?_
      clear hgo hgK
      refine hKK9 _ _ ?_
      refine wp_seq_k fun KK12 hKK12 => ?_
      refine rl_begin fun hgK hgo => ?_
      refine rl_take (some 25) (.pointer (some ⟨b, 0, none⟩)) rfl (by kernel_rfl) (by kernel_rfl) ?_
      try simp only [pa, pn, pb, pc, pd]
      refine rl_take (some 26) (.pointer (some ⟨b, 0, none⟩)) rfl (by kernel_rfl) (by kernel_rfl) ?_
      try simp only [pa, pn, pb, pc, pd]
      refine rl_call (some 27) 45 #[.pointer (some ⟨b, 0, none⟩)] rfl (by kernel_rfl) (by kernel_rfl) (Len_any b m _ hb) ?_
      rintro e w13 ⟨rfl, hL13⟩
      refine ⟨_, rfl, ?_⟩
      replace hB := hB.later hL13
      replace ha := ha.later hL13
      replace hb := hb.later hL13
      replace hx := hx.later hL13
      have hz13 := hL13.size
      try simp only [pa, pn, pb, pc, pd]
      refine rl_call (some 28) 44 #[.pointer (some ⟨b, 0, none⟩), .int .i64 0, .int .i64 m.length] rfl (by kernel_rfl) (by kernel_rfl) (hb' _ hb) ?_
      rintro e w14 ⟨A2, c2, rfl, hL14, hy⟩
      refine ⟨_, rfl, ?_⟩
      replace hB := hB.later hL14
      replace ha := ha.later hL14
      replace hb := hb.later hL14
      replace hx := hx.later hL14
      have hz14 := hL14.size
      (have hy := hy.bytes)
      try simp only [pa, pn, pb, pc, pd]
      refine rl_take (some 24) (.tuple #[.slice A2 m.length c2, .int .i64 0]) rfl (by kernel_rfl) (by kernel_rfl) ?_
      try simp only [pa, pn, pb, pc, pd]
      refine rl_take (some 29) (.slice A2 m.length c2) rfl (by kernel_rfl) (by kernel_rfl) ?_
      try simp only [pa, pn, pb, pc, pd]
      refine rl_take (some 30) (.int .i64 0) rfl (by kernel_rfl) (by kernel_rfl) ?_
      try simp only [pa, pn, pb, pc, pd]
      refine rl_take (some 7) (.slice A2 m.length c2) rfl (by kernel_rfl) (by kernel_rfl) ?_
      try simp only [pa, pn, pb, pc, pd]
      refine rl_take (some 8) (.int .i64 0) rfl (by kernel_rfl) (by kernel_rfl) ?_
      try simp only [pa, pn, pb, pc, pd]
      refine rl_nil ?_
      refine hgo.out _ _ ?_
      clear hgo hgK
      refine hKK12 _ _ ?_
      refine wp_seq_k fun KK15 hKK15 => ?_
      refine rl_begin fun hgK hgo => ?_
      refine rl_take (some 31) (.slice A1 l.length c1) rfl (by kernel_rfl) (by kernel_rfl) ?_
      try simp only [pa, pn, pb, pc, pd]
      refine rl_take (some 32) (.slice A2 m.length c2) rfl (by kernel_rfl) (by kernel_rfl) ?_
      try simp only [pa, pn, pb, pc, pd]
      refine rl_call (some 33) 84 #[.slice A1 l.length c1, .slice A2 m.length c2] rfl (by kernel_rfl) (by kernel_rfl) (Equal_any A1 A2 c1 c2 l m _ hx hy) ?_
      rintro e w16 ⟨rfl, hL16⟩
      refine ⟨_, rfl, ?_⟩
      replace hB := hB.later hL16
      replace ha := ha.later hL16
      replace hb := hb.later hL16
      replace hx := hx.later hL16
      replace hy := hy.later hL16
      have hz16 := hL16.size
      try simp only [pa, pn, pb, pc, pd]
      refine rl_take (some 4) (.bool (l == m)) rfl (by kernel_rfl) (by kernel_rfl) ?_
      try simp only [pa, pn, pb, pc, pd]
      refine rl_nil ?_
      refine hgo.out _ _ ?_
      clear hgo hgK
      refine hKK15 _ _ ?_
      refine wp_ret ?_
      try simp only [Exit.then, Exit.inBlock]
      refine bp_ret (v := .bool (l == m)) (res1 rfl (res_tmp (by kernel_rfl))) ?_
      exact ⟨rfl, hB⟩
  · skip
    go_enter Tryd.func38, Tryd.ntmps38
    refine wp_seq_k fun KK1 hKK1 => ?_
    refine rl_begin fun hgK hgo => ?_
    refine rl_take (some 4) (.bool false) rfl (by kernel_rfl) (by kernel_rfl) ?_
    try simp only [pa, pn, pb, pc, pd]
    refine rl_nil ?_
    refine hgo.out _ _ ?_
    clear hgo hgK
    refine hKK1 _ _ ?_
    refine wp_seq_k fun KK2 hKK2 => ?_
    refine wp_seq_k fun KK3 hKK3 => ?_
    refine rl_begin fun hgK hgo => ?_
    refine rl_take (some 9) (.pointer (some ⟨a, 0, none⟩)) rfl (by kernel_rfl) (by kernel_rfl) ?_
    try simp only [pa, pn, pb, pc, pd]
    refine rl_call (some 10) 45 #[.pointer (some ⟨a, 0, none⟩)] rfl (by kernel_rfl) (by kernel_rfl) (Len_any a l _ ha) ?_
    rintro e w4 ⟨rfl, hL4⟩
    refine ⟨_, rfl, ?_⟩
    replace hB := hB.later hL4
    replace ha := ha.later hL4
    replace hb := hb.later hL4
    have hz4 := hL4.size
    try simp only [pa, pn, pb, pc, pd]
    refine rl_take (some 11) (.pointer (some ⟨b, 0, none⟩)) rfl (by kernel_rfl) (by kernel_rfl) ?_
    try simp only [pa, pn, pb, pc, pd]
    refine rl_call (some 12) 45 #[.pointer (some ⟨b, 0, none⟩)] rfl (by kernel_rfl) (by kernel_rfl) (Len_any b m _ hb) ?_
    rintro e w5 ⟨rfl, hL5⟩
    refine ⟨_, rfl, ?_⟩
    replace hB := hB.later hL5
    replace ha := ha.later hL5
    replace hb := hb.later hL5
    have hz5 := hL5.size
    try simp only [pa, pn, pb, pc, pd]
    refine rl_take (some 13) (.bool true) rfl (by kernel_rfl) (by exact ex_bne (x := l.length) (y := m.length) (by kernel_rfl) ⟨fun _ => by omega, fun _ => rfl⟩) ?_
    try simp only [pa, pn, pb, pc, pd]
    refine rl_nil ?_
    refine hgo.out _ _ ?_
    clear hgo hgK
    refine hKK3 _ _ ?_
    refine wp_cond_true (by kernel_rfl) ?_
    refine wp_seq_k fun KK6 hKK6 => ?_
    refine rl_begin fun hgK hgo => ?_
    refine rl_take (some 4) (.bool false) rfl (by kernel_rfl) (by kernel_rfl) ?_
    try simp only [pa, pn, pb, pc, pd]
    refine rl_nil ?_
    refine hgo.out _ _ ?_
    clear hgo hgK
    refine hKK6 _ _ ?_
    refine wp_ret ?_
    try simp only [Exit.then, Exit.inBlock]
    refine bp_ret (v := .bool false) (res1 rfl (res_tmp (by kernel_rfl))) ?_
    exact ⟨by rw [beq_eq_false_iff_ne.2 (fun e => h1 (congrArg List.length e))], hB⟩
end Go.Proofs.YtliphfgiaioebaaDoor
