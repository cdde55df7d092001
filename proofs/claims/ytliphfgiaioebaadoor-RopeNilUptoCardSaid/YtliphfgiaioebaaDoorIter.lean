/-
  Package rope: Pieces, as an iterator.
-/
import Derived.Test.YtliphfgiaioebaaDoorBack
namespace Go.Proofs.YtliphfgiaioebaaDoor
set_option linter.unusedVariables false
set_option linter.unusedSimpArgs false
open Go.RowKit
section
variable {P : Program} {ops : Array Oper} {S : World → Prop} {K : Act → World → Prop}
/-- a call that may do whatever it likes, S being no more than True -/
theorem rm_callz {i : Nat} (d : Option Tmp) (f : FuncId) (args : Array Value) {R : World → Ending → World → Prop} {oi : Oper} {fuel : Nat} {listed : Array Bool} {a : Act} {w : World} (hi : ops[i]? = some oi) (hd : oi.dst = d)
    (hw : Region.wanted oi (yielded ops a.tmps) = true) (he : ∀ w', Ltr w w' → (execOp a.eval oi).run P w' = .ok (.enter f args) w') (hc : ∀ w', Ltr w w' → Calls P f args w' (R w'))
    (h : ∀ w' e w'', Ltr w w' → R w' e w'' → ∃ v, e = .returned v ∧ wpM P ops K (fun _ => True) fuel (listed.setIfInBounds i true) (a.put d v) w'') : PickM P ops K (fun _ => True) fuel listed a w i := by
  unfold PickM
  intro w' hl hS'
  unfold wpOp
  simp only [hi, hw, if_true]
  refine .inl ?_
  unfold Oper.wp
  rw [he w' hl, Oper.upon_enter]
  refine (hc w' hl).mono fun e w'' hr => ?_
  obtain ⟨v, rfl, hv⟩ := h w' e w'' hl hr
  exact ⟨trivial, hd ▸ hv⟩
end
/-- a rope whose blocks lie below n -/
def RopeN (n : Nat) (w : World) (b : Nat) (l : List UInt8) (v : Value) (ot : Option Tr) : Prop :=
  n ≤ w.heap.size ∧ b < n ∧ Blk w b 110 #[v] ∧ match ot with
    | none => l = [] ∧ v = .nilIface
    | some t => t.ok ∧ t.bytes = l ∧ TreeN n w t v
theorem RopeAt.n {w : World} {b : Nat} {l : List UInt8} (h : RopeAt w b l) : ∃ v ot, RopeN w.heap.size w b l v ot := by
  obtain ⟨v, h1, h2 | ⟨t, k1, k2, k3⟩⟩ := h.open
  · exact ⟨v, none, Nat.le_refl _, h1.lt, h1, h2⟩
  · exact ⟨v, some t, Nat.le_refl _, h1.lt, h1, k1, k2, k3⟩
theorem RopeN.at {n : Nat} {w : World} {b : Nat} {l : List UInt8} {v : Value} {ot : Option Tr} (h : RopeN n w b l v ot) : RopeAt w b l := by
  obtain ⟨h1, h2, h3, h4⟩ := h
  cases ot with
  | none => exact ⟨v, h3, .inl h4⟩
  | some t => exact ⟨v, h3, .inr ⟨t, h4.1, h4.2.1, h4.2.2.tree⟩⟩
theorem RopeN.bel {n m : Nat} {w w' : World} {b : Nat} {l : List UInt8} {v : Value} {ot : Option Tr} (h : RopeN n w b l v ot) (hb : Below m w w') (hn : n ≤ m) : RopeN n w' b l v ot := by
  obtain ⟨h1, h2, h3, h4⟩ := h
  refine ⟨Nat.le_trans h1 hb.size, h2, h3.bel hb (by omega), ?_⟩
  cases ot with
  | none => exact h4
  | some t => exact ⟨h4.1, h4.2.1, h4.2.2.bel hb hn⟩
theorem RopeN.later {n : Nat} {w w' : World} {b : Nat} {l : List UInt8} {v : Value} {ot : Option Tr} (h : RopeN n w b l v ot) (hl : Ltr w w') : RopeN n w' b l v ot := h.bel (m := n) (Below.mono hl h.1) (Nat.le_refl _)
theorem RopeN.upd {n g : Nat} {w w' : World} {b : Nat} {l : List UInt8} {v : Value} {ot : Option Tr} (h : RopeN n w b l v ot) (hu : Upd g w w') (hg : n ≤ g) : RopeN n w' b l v ot := h.bel (m := n) (hu.below (Below.refl _ _) hg) (Nat.le_refl _)
theorem RopeN.gr {n : Nat} {w w' : World} {r : Option Nat} {b : Nat} {l : List UInt8} {v : Value} {ot : Option Tr} (h : RopeN n w b l v ot) (hg : w.grownBy w' r) (hr : ∀ k, r = some k → n ≤ k) : RopeN n w' b l v ot := h.bel (m := n) (Below.grown (Below.refl _ _) hg h.1 hr) (Nat.le_refl _)
theorem RopeN.kc {n D : Nat} {w w' : World} {row : Option Nat} {b : Nat} {l : List UInt8} {v : Value} {ot : Option Tr} (h : RopeN n w b l v ot) (hg : w.grownBy w' row) (hr : ∀ r, row = some r → D ≤ r ∧ ∃ o : Obj, w.heap[r]? = some o ∧ o.isCells = false) (hD : n ≤ D) : RopeN n w' b l v ot := h.gr hg (fun k e => Nat.le_trans hD (hr k e).1)
def pcsOf (ot : Option Tr) (l : List UInt8) (f : Int) (back : Bool) : List (List UInt8) :=
  if 0 ≤ f ∧ f ≤ (l.length : Int) then (match ot with
    | none => []
    | some t => if back then piecesB t f.toNat else piecesF t f.toNat) else []
set_option maxRecDepth 100000 in
set_option maxHeartbeats 4000000 in
theorem forwards_nil (y : Value) (f : Int) (w : World) : Calls Tryd.prog 79 #[.nilIface, .int .i64 f, y] w fun e w' => e = .returned (.bool true) ∧ Ltr w w' := by
  have hB := Ltr.refl w
  go_enter Tryd.func79, Tryd.ntmps79
  refine wp_seq_k fun KK1 hKK1 => ?_
  refine rl_begin fun hgK hgo => ?_
  refine rl_take (some 6) (.bool false) rfl (by kernel_rfl) (by kernel_rfl) ?_
  try simp only [pa, pn, pb, pc, pd]
  refine rl_nil ?_
  refine hgo.out _ _ ?_
  clear hgo hgK
  refine hKK1 _ _ ?_
  refine wp_seq_k fun KK2 hKK2 => ?_
  refine wp_seq_k fun KK3 hKK3 => ?_
  refine rl_begin fun hgK hgo => ?_
  refine rl_take (some 11) (.nilIface) rfl (by kernel_rfl) (by kernel_rfl) ?_
  try simp only [pa, pn, pb, pc, pd]
  refine rl_nil ?_
  refine hgo.out _ _ ?_
  clear hgo hgK
  refine hKK3 _ _ ?_
  refine wp_block ?_
  refine wp_seq_k fun KK4 hKK4 => ?_
  refine rl_begin fun hgK hgo => ?_
  refine rl_take (some 12) (.tuple #[.agg #[.pointer none], .bool false]) rfl (by kernel_rfl) (by kernel_rfl) ?_
  try simp only [pa, pn, pb, pc, pd]
  refine rl_take (some 13) (.bool false) rfl (by kernel_rfl) (by kernel_rfl) ?_
  try simp only [pa, pn, pb, pc, pd]
  refine rl_take (some 14) (.agg #[.pointer none]) rfl (by kernel_rfl) (by kernel_rfl) ?_
  try simp only [pa, pn, pb, pc, pd]
  refine rl_nil ?_
  refine hgo.out _ _ ?_
  clear hgo hgK
  refine hKK4 _ _ ?_
  refine wp_cond_false (by kernel_rfl) ?_
  refine wp_seq_k fun KK5 hKK5 => ?_
  refine rl_begin fun hgK hgo => ?_
  refine rl_take (some 29) (.tuple #[.pointer none, .bool false]) rfl (by kernel_rfl) (by kernel_rfl) ?_
  try simp only [pa, pn, pb, pc, pd]
  refine rl_take (some 30) (.bool false) rfl (by kernel_rfl) (by kernel_rfl) ?_
  try simp only [pa, pn, pb, pc, pd]
  refine rl_take (some 31) (.pointer none) rfl (by kernel_rfl) (by kernel_rfl) ?_
  try simp only [pa, pn, pb, pc, pd]
  refine rl_nil ?_
  refine hgo.out _ _ ?_
  clear hgo hgK
  refine hKK5 _ _ ?_
  refine wp_cond_false (by kernel_rfl) ?_
  refine wp_skip ?_
  refine hKK2 _ _ ?_
  refine wp_seq_k fun KK6 hKK6 => ?_
  refine rl_begin fun hgK hgo => ?_
  refine rl_take (some 6) (.bool true) rfl (by kernel_rfl) (by kernel_rfl) ?_
  try simp only [pa, pn, pb, pc, pd]
  refine rl_nil ?_
  refine hgo.out _ _ ?_
  clear hgo hgK
  refine hKK6 _ _ ?_
  refine wp_ret ?_
  try simp only [Exit.then, Exit.inBlock]
  refine bp_ret (v := .bool true) (res1 rfl (res_tmp (by kernel_rfl))) ?_
  exact ⟨rfl, hB⟩
set_option maxRecDepth 100000 in
set_option maxHeartbeats 4000000 in
theorem backwards_nil (y : Value) (f : Int) (w : World) : Calls Tryd.prog 78 #[.nilIface, .int .i64 f, y] w fun e w' => e = .returned (.bool true) ∧ Ltr w w' := by
  have hB := Ltr.refl w
  go_enter Tryd.func78, Tryd.ntmps78
  refine wp_seq_k fun KK1 hKK1 => ?_
  refine rl_begin fun hgK hgo => ?_
  refine rl_take (some 6) (.bool false) rfl (by kernel_rfl) (by kernel_rfl) ?_
  try simp only [pa, pn, pb, pc, pd]
  refine rl_nil ?_
  refine hgo.out _ _ ?_
  clear hgo hgK
  refine hKK1 _ _ ?_
  refine wp_seq_k fun KK2 hKK2 => ?_
  refine wp_seq_k fun KK3 hKK3 => ?_
  refine rl_begin fun hgK hgo => ?_
  refine rl_take (some 11) (.nilIface) rfl (by kernel_rfl) (by kernel_rfl) ?_
  try simp only [pa, pn, pb, pc, pd]
  refine rl_nil ?_
  refine hgo.out _ _ ?_
  clear hgo hgK
  refine hKK3 _ _ ?_
  refine wp_block ?_
  refine wp_seq_k fun KK4 hKK4 => ?_
  refine rl_begin fun hgK hgo => ?_
  refine rl_take (some 12) (.tuple #[.agg #[.pointer none], .bool false]) rfl (by kernel_rfl) (by kernel_rfl) ?_
  try simp only [pa, pn, pb, pc, pd]
  refine rl_take (some 13) (.bool false) rfl (by kernel_rfl) (by kernel_rfl) ?_
  try simp only [pa, pn, pb, pc, pd]
  refine rl_take (some 14) (.agg #[.pointer none]) rfl (by kernel_rfl) (by kernel_rfl) ?_
  try simp only [pa, pn, pb, pc, pd]
  refine rl_nil ?_
  refine hgo.out _ _ ?_
  clear hgo hgK
  refine hKK4 _ _ ?_
  refine wp_cond_false (by kernel_rfl) ?_
  refine wp_seq_k fun KK5 hKK5 => ?_
  refine rl_begin fun hgK hgo => ?_
  refine rl_take (some 32) (.tuple #[.pointer none, .bool false]) rfl (by kernel_rfl) (by kernel_rfl) ?_
  try simp only [pa, pn, pb, pc, pd]
  refine rl_take (some 33) (.bool false) rfl (by kernel_rfl) (by kernel_rfl) ?_
  try simp only [pa, pn, pb, pc, pd]
  refine rl_take (some 34) (.pointer none) rfl (by kernel_rfl) (by kernel_rfl) ?_
  try simp only [pa, pn, pb, pc, pd]
  refine rl_nil ?_
  refine hgo.out _ _ ?_
  clear hgo hgK
  refine hKK5 _ _ ?_
  refine wp_cond_false (by kernel_rfl) ?_
  refine wp_skip ?_
  refine hKK2 _ _ ?_
  refine wp_seq_k fun KK6 hKK6 => ?_
  refine rl_begin fun hgK hgo => ?_
  refine rl_take (some 6) (.bool true) rfl (by kernel_rfl) (by kernel_rfl) ?_
  try simp only [pa, pn, pb, pc, pd]
  refine rl_nil ?_
  refine hgo.out _ _ ?_
  clear hgo hgK
  refine hKK6 _ _ ?_
  refine wp_ret ?_
  try simp only [Exit.then, Exit.inBlock]
  refine bp_ret (v := .bool true) (res1 rfl (res_tmp (by kernel_rfl))) ?_
  exact ⟨rfl, hB⟩
def pcT (ot : Option Tr) (f : Nat) (back : Bool) : List (List UInt8) :=
  match ot with
  | none => []
  | some t => if back then piecesB t f else piecesF t f
theorem pcs_in (ot : Option Tr) (l : List UInt8) (f : Nat) (back : Bool) (hf : f ≤ l.length) : pcsOf ot l f back = pcT ot f back := by
  unfold pcsOf; rw [if_pos (by omega)]; simp only [Int.toNat_natCast]; rfl
theorem pcs_out (ot : Option Tr) (l : List UInt8) (f : Int) (back : Bool) (hf : ¬ (0 ≤ f ∧ f ≤ (l.length : Int))) : pcsOf ot l f back = [] := by
  unfold pcsOf; rw [if_neg hf]
/-- both walks at a rope's top -/
theorem walkTop (n₀ lp : Nat) (J Jx : List Pc → World → Prop) (b : Nat) (l : List UInt8) (v : Value) (ot : Option Tr) (f : Nat) (back : Bool) (hf : f ≤ l.length) (hl : l.length ≤ 1000000000)
    (hY : YieldsP n₀ lp (pcsOf ot l f back) J Jx) (W : World) (hr : RopeN n₀ W b l v ot) (hJ : J [] W) :
    Calls Tryd.prog (if back then 78 else 79) #[v, .int .i64 f, .func (.yield lp) #[] #[]] W (WalkP n₀ (pcsOf ot l f back) (pcsOf ot l f back) J Jx [] W) := by
  obtain ⟨h1, h2, h3, h4⟩ := hr
  have hp := pcs_in ot l f back hf
  revert hY
  rw [hp]
  intro hY
  clear hp
  cases ot with
  | none =>
    obtain ⟨rfl, rfl⟩ := h4
    have key : ∀ {g : Nat}, Calls Tryd.prog g #[.nilIface, .int .i64 f, .func (.yield lp) #[] #[]] W (fun e w' => e = .returned (.bool true) ∧ Ltr W w') → Calls Tryd.prog g #[.nilIface, .int .i64 f, .func (.yield lp) #[] #[]] W (WalkP n₀ [] [] J Jx [] W) := fun h => h.mono fun e w' h => by
      obtain ⟨rfl, hl⟩ := h
      exact .inl ⟨rfl, Bel.later (Bel.refl _ _ h1) hl, [], rfl, hY.1 _ _ _ hJ hl⟩
    cases back
    · exact key (forwards_nil _ _ _)
    · exact key (backwards_nil _ _ _)
  | some t =>
    obtain ⟨k1, rfl, k3⟩ := h4
    cases back
    · exact forwards_any n₀ lp (piecesF t f) J Jx hY t v f [] W k3 hJ ⟨[], by simp⟩ (by omega) hl
    · exact backwards_any n₀ lp (piecesB t f) J Jx hY t v f [] W k3 hJ ⟨[], by simp⟩ (by omega) hl
def IterP (ps : List (List UInt8)) (n₀ : Nat) (W : World) (J Jx : List Pc → World → Prop) (e : Ending) (W' : World) : Prop :=
  (∃ v, e = .returned v) ∧ ((∃ xs, xs.map pcB = ps ∧ J xs W') ∨ (∃ pre, PcOk ps pre ∧ Jx pre W'))
set_option maxRecDepth 100000 in
set_option maxHeartbeats 8000000 in
theorem iter_any (n₀ lp : Nat) (J Jx : List Pc → World → Prop) (b : Nat) (l : List UInt8) (v : Value) (ot : Option Tr) (f : Int) (back : Bool) (hl : l.length ≤ 1000000000)
    (hY : YieldsP n₀ lp (pcsOf ot l f back) J Jx) (W : World) (hr : RopeN n₀ W b l v ot) (hJ : J [] W) (p0 p1 p2 : Nat) (h0 : Blk W p0 31 #[.pointer (some ⟨b, 0, none⟩)]) (h1 : Blk W p1 3 #[.int .i64 f]) (h2 : Blk W p2 4 #[.bool back]) :
    Calls Tryd.prog 76 #[.func (.yield lp) #[] #[], .pointer (some ⟨p0, 0, none⟩), .pointer (some ⟨p1, 0, none⟩), .pointer (some ⟨p2, 0, none⟩)] W (IterP (pcsOf ot l f back) n₀ W J Jx) := by
  have hJJ : JAt J [] W.heap.size W := ⟨hY.1, W, rfl, hJ, Ltr.refl _⟩
  clear hJ
  by_cases hin : 0 ≤ f ∧ f ≤ (l.length : Int)
  · obtain ⟨f, rfl⟩ : ∃ k : Nat, f = k := ⟨f.toNat, by omega⟩
    have hfl : f ≤ l.length := by omega
    have hwt := fun W hr hJ => walkTop n₀ lp J Jx b l v ot f back hfl hl hY W hr hJ
    obtain ⟨hr0, hr1, hb, hr3⟩ := id hr
    clear hr0 hr3
    cases back
    · simp only [if_neg (by decide : ¬ (false = true))] at hwt
      go_enter Tryd.func76, Tryd.ntmps76
      have hlt_hb := hb.lt
      have hlt_h0 := h0.lt
      have hlt_h1 := h1.lt
      have hlt_h2 := h2.lt
      refine wp_seq_k fun KK1 hKK1 => ?_
      refine wp_seq_k fun KK2 hKK2 => ?_
      refine rl_begin fun hgK hgo => ?_
      refine rl_take (some 5) (.pointer (some ⟨b, 0, none⟩)) rfl (by kernel_rfl) (by exact ld1 31 _ rfl p0 0 rfl (fun _ => by kernel_rfl) _ (h0.cell 0)) ?_
      try simp only [pa, pn, pb, pc, pd]
      refine rl_take (some 6) (.int .i64 f) rfl (by kernel_rfl) (by exact ld1 3 _ rfl p1 0 rfl (fun _ => by kernel_rfl) _ (h1.cell 0)) ?_
      try simp only [pa, pn, pb, pc, pd]
      refine rl_call (some 7) 77 #[.pointer (some ⟨b, 0, none⟩), .int .i64 f] rfl (by kernel_rfl) (by kernel_rfl) (place_in b l f hfl _ hr.at) ?_
      rintro e w3 ⟨rfl, hL3⟩
      refine ⟨_, rfl, ?_⟩
      replace hJJ := hJJ.later hL3
      replace hr := hr.later hL3
      replace hb := hb.later hL3
      replace h0 := h0.later hL3
      replace h1 := h1.later hL3
      replace h2 := h2.later hL3
      have hz3 := hL3.size
      try simp only [pa, pn, pb, pc, pd]
      refine rl_take (some 8) (.bool false) rfl (by kernel_rfl) (by exact ex_bne (x := 0) (y := 0) (by kernel_rfl) ⟨fun q => (by cases q), fun q => absurd q (by omega)⟩) ?_
      try simp only [pa, pn, pb, pc, pd]
      refine rl_nil ?_
      refine hgo.out _ _ ?_
      clear hgo hgK
      refine hKK2 _ _ ?_
      refine wp_cond_false (by kernel_rfl) ?_
      refine wp_skip ?_
      refine hKK1 _ _ ?_
      refine wp_seq_k fun KK4 hKK4 => ?_
      refine wp_seq_k fun KK5 hKK5 => ?_
      refine rl_begin fun hgK hgo => ?_
      refine rl_take (some 9) (.bool false) rfl (by kernel_rfl) (by exact ld1 4 _ rfl p2 0 rfl (fun _ => by kernel_rfl) _ (h2.cell 0)) ?_
      try simp only [pa, pn, pb, pc, pd]
      refine rl_nil ?_
      refine hgo.out _ _ ?_
      clear hgo hgK
      refine hKK5 _ _ ?_
      refine wp_cond_false (by kernel_rfl) ?_
      refine wp_skip ?_
      refine hKK4 _ _ ?_
      refine rm_begin (fun _ => True) (by kernel_rfl) trivial fun K7 hgo w7 hE _ => ?_
      have hv7 : Ltr w3 w7 := by rw [hE]; exact bl_drew (bl_refl _)
      clear hE
      replace hJJ := hJJ.later hv7
      replace hr := hr.later hv7
      replace hb := hb.later hv7
      replace h0 := h0.later hv7
      replace h1 := h1.later hv7
      replace h2 := h2.later hv7
      have hz7 := hv7.size
      refine rm_take 5 (some 22) (.func (.yield lp) #[] #[]) rfl rfl (by kernel_rfl) (by kernel_rfl) (by kernel_rfl) (by kernel_rfl) (fun W hW => by (kernel_rfl)) ?_
      try simp only [pa, pn, pb, pc, pd]
      refine rm_pick2 (i := 0) (j := 4) (by kernel_rfl) ?_ ?_
      · refine rm_read (some 17) (.pointer (some ⟨b, 0, none⟩)) rfl rfl (by kernel_rfl) (fun W hlz _ => by exact ld1 31 _ rfl p0 0 rfl (fun _ => by kernel_rfl) _ ((h0.later hlz).cell 0)) fun w8 hL8 _ => ?_
        replace hJJ := hJJ.later hL8
        replace hr := hr.later hL8
        replace hb := hb.later hL8
        replace h0 := h0.later hL8
        replace h1 := h1.later hL8
        replace h2 := h2.later hL8
        have hz8 := hL8.size
        try simp only [pa, pn, pb, pc, pd]
        refine rm_take 1 (some 18) (.pointer (some ⟨b, 0, none⟩)) rfl rfl (by kernel_rfl) (by kernel_rfl) (by kernel_rfl) (by kernel_rfl) (fun W hW => by (kernel_rfl)) ?_
        try simp only [pa, pn, pb, pc, pd]
        refine rm_take 2 (some 19) (.pointer (some ⟨b, 0, none⟩)) rfl rfl (by kernel_rfl) (by kernel_rfl) (by kernel_rfl) (by kernel_rfl) (fun W hW => by (kernel_rfl)) ?_
        try simp only [pa, pn, pb, pc, pd]
        refine rm_pick2 (i := 3) (j := 4) (by kernel_rfl) ?_ ?_
        · refine rm_read (some 20) (v) rfl rfl (by kernel_rfl) (fun W hlz _ => by exact ld1 108 _ rfl b 0 rfl (fun _ => by kernel_rfl) _ ((hb.later hlz).cell 0)) fun w9 hL9 _ => ?_
          replace hJJ := hJJ.later hL9
          replace hr := hr.later hL9
          replace hb := hb.later hL9
          replace h0 := h0.later hL9
          replace h1 := h1.later hL9
          replace h2 := h2.later hL9
          have hz9 := hL9.size
          try simp only [pa, pn, pb, pc, pd]
          refine rm_pick1 (i := 4) (by kernel_rfl) ?_
          refine rm_read (some 21) (.int .i64 f) rfl rfl (by kernel_rfl) (fun W hlz _ => by exact ld1 3 _ rfl p1 0 rfl (fun _ => by kernel_rfl) _ ((h1.later hlz).cell 0)) fun w10 hL10 _ => ?_
          replace hJJ := hJJ.later hL10
          replace hr := hr.later hL10
          replace hb := hb.later hL10
          replace h0 := h0.later hL10
          replace h1 := h1.later hL10
          replace h2 := h2.later hL10
          have hz10 := hL10.size
          try simp only [pa, pn, pb, pc, pd]
          refine rm_pick1 (i := 6) (by kernel_rfl) ?_
          refine rm_callz (some 23) 79 #[v, .int .i64 f, .func (.yield lp) #[] #[]] rfl rfl (by kernel_rfl) (fun W hlz => by kernel_rfl) (fun W hlz => hwt _ (hr.later hlz) (hJJ.later hlz).get) ?_
          rintro W11 e w11 hL11 (⟨rfl, hb9, xs, hm9, hJ9⟩ | ⟨rfl, p9, hp9, hJ9⟩)
          · refine ⟨_, rfl, ?_⟩
            have hz11 := hL11.size
            try simp only [pa, pn, pb, pc, pd]
            refine rm_done (by kernel_rfl) (fun w12 hL12 _ => hgo.out _ _ ?_) _
            clear hgo K7
            have hz12 := hL12.size
            try simp only [Exit.then, Exit.inBlock]
            refine bp_end (v := .tuple #[]) (res0 rfl) ?_
            exact ⟨⟨_, rfl⟩, .inl ⟨xs, hm9, hY.1 _ _ _ hJ9 (by assumption)⟩⟩
          · refine ⟨_, rfl, ?_⟩
            have hz11 := hL11.size
            try simp only [pa, pn, pb, pc, pd]
            refine rm_done (by kernel_rfl) (fun w13 hL13 _ => hgo.out _ _ ?_) _
            clear hgo K7
            have hz13 := hL13.size
            try simp only [Exit.then, Exit.inBlock]
            refine bp_end (v := .tuple #[]) (res0 rfl) ?_
            exact ⟨⟨_, rfl⟩, .inr ⟨p9, hp9, hY.2.1 _ _ _ hJ9 (by assumption)⟩⟩
        · refine rm_read (some 21) (.int .i64 f) rfl rfl (by kernel_rfl) (fun W hlz _ => by exact ld1 3 _ rfl p1 0 rfl (fun _ => by kernel_rfl) _ ((h1.later hlz).cell 0)) fun w14 hL14 _ => ?_
          replace hJJ := hJJ.later hL14
          replace hr := hr.later hL14
          replace hb := hb.later hL14
          replace h0 := h0.later hL14
          replace h1 := h1.later hL14
          replace h2 := h2.later hL14
          have hz14 := hL14.size
          try simp only [pa, pn, pb, pc, pd]
          refine rm_pick1 (i := 3) (by kernel_rfl) ?_
          refine rm_read (some 20) (v) rfl rfl (by kernel_rfl) (fun W hlz _ => by exact ld1 108 _ rfl b 0 rfl (fun _ => by kernel_rfl) _ ((hb.later hlz).cell 0)) fun w15 hL15 _ => ?_
          replace hJJ := hJJ.later hL15
          replace hr := hr.later hL15
          replace hb := hb.later hL15
          replace h0 := h0.later hL15
          replace h1 := h1.later hL15
          replace h2 := h2.later hL15
          have hz15 := hL15.size
          try simp only [pa, pn, pb, pc, pd]
          refine rm_pick1 (i := 6) (by kernel_rfl) ?_
          refine rm_callz (some 23) 79 #[v, .int .i64 f, .func (.yield lp) #[] #[]] rfl rfl (by kernel_rfl) (fun W hlz => by kernel_rfl) (fun W hlz => hwt _ (hr.later hlz) (hJJ.later hlz).get) ?_
          rintro W16 e w16 hL16 (⟨rfl, hb9, xs, hm9, hJ9⟩ | ⟨rfl, p9, hp9, hJ9⟩)
          · refine ⟨_, rfl, ?_⟩
            have hz16 := hL16.size
            try simp only [pa, pn, pb, pc, pd]
            refine rm_done (by kernel_rfl) (fun w17 hL17 _ => hgo.out _ _ ?_) _
            clear hgo K7
            have hz17 := hL17.size
            try simp only [Exit.then, Exit.inBlock]
            refine bp_end (v := .tuple #[]) (res0 rfl) ?_
            exact ⟨⟨_, rfl⟩, .inl ⟨xs, hm9, hY.1 _ _ _ hJ9 (by assumption)⟩⟩
          · refine ⟨_, rfl, ?_⟩
            have hz16 := hL16.size
            try simp only [pa, pn, pb, pc, pd]
            refine rm_done (by kernel_rfl) (fun w18 hL18 _ => hgo.out _ _ ?_) _
            clear hgo K7
            have hz18 := hL18.size
            try simp only [Exit.then, Exit.inBlock]
            refine bp_end (v := .tuple #[]) (res0 rfl) ?_
            exact ⟨⟨_, rfl⟩, .inr ⟨p9, hp9, hY.2.1 _ _ _ hJ9 (by assumption)⟩⟩
      · refine rm_read (some 21) (.int .i64 f) rfl rfl (by kernel_rfl) (fun W hlz _ => by exact ld1 3 _ rfl p1 0 rfl (fun _ => by kernel_rfl) _ ((h1.later hlz).cell 0)) fun w19 hL19 _ => ?_
        replace hJJ := hJJ.later hL19
        replace hr := hr.later hL19
        replace hb := hb.later hL19
        replace h0 := h0.later hL19
        replace h1 := h1.later hL19
        replace h2 := h2.later hL19
        have hz19 := hL19.size
        try simp only [pa, pn, pb, pc, pd]
        refine rm_pick1 (i := 0) (by kernel_rfl) ?_
        refine rm_read (some 17) (.pointer (some ⟨b, 0, none⟩)) rfl rfl (by kernel_rfl) (fun W hlz _ => by exact ld1 31 _ rfl p0 0 rfl (fun _ => by kernel_rfl) _ ((h0.later hlz).cell 0)) fun w20 hL20 _ => ?_
        replace hJJ := hJJ.later hL20
        replace hr := hr.later hL20
        replace hb := hb.later hL20
        replace h0 := h0.later hL20
        replace h1 := h1.later hL20
        replace h2 := h2.later hL20
        have hz20 := hL20.size
        try simp only [pa, pn, pb, pc, pd]
        refine rm_take 1 (some 18) (.pointer (some ⟨b, 0, none⟩)) rfl rfl (by kernel_rfl) (by kernel_rfl) (by kernel_rfl) (by kernel_rfl) (fun W hW => by (kernel_rfl)) ?_
        try simp only [pa, pn, pb, pc, pd]
        refine rm_take 2 (some 19) (.pointer (some ⟨b, 0, none⟩)) rfl rfl (by kernel_rfl) (by kernel_rfl) (by kernel_rfl) (by kernel_rfl) (fun W hW => by (kernel_rfl)) ?_
        try simp only [pa, pn, pb, pc, pd]
        refine rm_pick1 (i := 3) (by kernel_rfl) ?_
        refine rm_read (some 20) (v) rfl rfl (by kernel_rfl) (fun W hlz _ => by exact ld1 108 _ rfl b 0 rfl (fun _ => by kernel_rfl) _ ((hb.later hlz).cell 0)) fun w21 hL21 _ => ?_
        replace hJJ := hJJ.later hL21
        replace hr := hr.later hL21
        replace hb := hb.later hL21
        replace h0 := h0.later hL21
        replace h1 := h1.later hL21
        replace h2 := h2.later hL21
        have hz21 := hL21.size
        try simp only [pa, pn, pb, pc, pd]
        refine rm_pick1 (i := 6) (by kernel_rfl) ?_
        refine rm_callz (some 23) 79 #[v, .int .i64 f, .func (.yield lp) #[] #[]] rfl rfl (by kernel_rfl) (fun W hlz => by kernel_rfl) (fun W hlz => hwt _ (hr.later hlz) (hJJ.later hlz).get) ?_
        rintro W22 e w22 hL22 (⟨rfl, hb9, xs, hm9, hJ9⟩ | ⟨rfl, p9, hp9, hJ9⟩)
        · refine ⟨_, rfl, ?_⟩
          have hz22 := hL22.size
          try simp only [pa, pn, pb, pc, pd]
          refine rm_done (by kernel_rfl) (fun w23 hL23 _ => hgo.out _ _ ?_) _
          clear hgo K7
          have hz23 := hL23.size
          try simp only [Exit.then, Exit.inBlock]
          refine bp_end (v := .tuple #[]) (res0 rfl) ?_
          exact ⟨⟨_, rfl⟩, .inl ⟨xs, hm9, hY.1 _ _ _ hJ9 (by assumption)⟩⟩
        · refine ⟨_, rfl, ?_⟩
          have hz22 := hL22.size
          try simp only [pa, pn, pb, pc, pd]
          refine rm_done (by kernel_rfl) (fun w24 hL24 _ => hgo.out _ _ ?_) _
          clear hgo K7
          have hz24 := hL24.size
          try simp only [Exit.then, Exit.inBlock]
          refine bp_end (v := .tuple #[]) (res0 rfl) ?_
          exact ⟨⟨_, rfl⟩, .inr ⟨p9, hp9, hY.2.1 _ _ _ hJ9 (by assumption)⟩⟩
    · simp only [if_pos] at hwt
      go_enter Tryd.func76, Tryd.ntmps76
      have hlt_hb := hb.lt
      have hlt_h0 := h0.lt
      have hlt_h1 := h1.lt
      have hlt_h2 := h2.lt
      refine wp_seq_k fun KK1 hKK1 => ?_
      refine wp_seq_k fun KK2 hKK2 => ?_
      refine rl_begin fun hgK hgo => ?_
      refine rl_take (some 5) (.pointer (some ⟨b, 0, none⟩)) rfl (by kernel_rfl) (by exact ld1 31 _ rfl p0 0 rfl (fun _ => by kernel_rfl) _ (h0.cell 0)) ?_
      try simp only [pa, pn, pb, pc, pd]
      refine rl_take (some 6) (.int .i64 f) rfl (by kernel_rfl) (by exact ld1 3 _ rfl p1 0 rfl (fun _ => by kernel_rfl) _ (h1.cell 0)) ?_
      try simp only [pa, pn, pb, pc, pd]
      refine rl_call (some 7) 77 #[.pointer (some ⟨b, 0, none⟩), .int .i64 f] rfl (by kernel_rfl) (by kernel_rfl) (place_in b l f hfl _ hr.at) ?_
      rintro e w3 ⟨rfl, hL3⟩
      refine ⟨_, rfl, ?_⟩
      replace hJJ := hJJ.later hL3
      replace hr := hr.later hL3
      replace hb := hb.later hL3
      replace h0 := h0.later hL3
      replace h1 := h1.later hL3
      replace h2 := h2.later hL3
      have hz3 := hL3.size
      try simp only [pa, pn, pb, pc, pd]
      refine rl_take (some 8) (.bool false) rfl (by kernel_rfl) (by exact ex_bne (x := 0) (y := 0) (by kernel_rfl) ⟨fun q => (by cases q), fun q => absurd q (by omega)⟩) ?_
      try simp only [pa, pn, pb, pc, pd]
      refine rl_nil ?_
      refine hgo.out _ _ ?_
      clear hgo hgK
      refine hKK2 _ _ ?_
      refine wp_cond_false (by kernel_rfl) ?_
      refine wp_skip ?_
      refine hKK1 _ _ ?_
      refine wp_seq_k fun KK4 hKK4 => ?_
      refine wp_seq_k fun KK5 hKK5 => ?_
      refine rl_begin fun hgK hgo => ?_
      refine rl_take (some 9) (.bool true) rfl (by kernel_rfl) (by exact ld1 4 _ rfl p2 0 rfl (fun _ => by kernel_rfl) _ (h2.cell 0)) ?_
      try simp only [pa, pn, pb, pc, pd]
      refine rl_nil ?_
      refine hgo.out _ _ ?_
      clear hgo hgK
      refine hKK5 _ _ ?_
      refine wp_cond_true (by kernel_rfl) ?_
      refine wp_seq_k fun KK6 hKK6 => ?_
      refine rm_begin (fun _ => True) (by kernel_rfl) trivial fun K8 hgo w8 hE _ => ?_
      have hv8 : Ltr w3 w8 := by rw [hE]; exact bl_drew (bl_refl _)
      clear hE
      replace hJJ := hJJ.later hv8
      replace hr := hr.later hv8
      replace hb := hb.later hv8
      replace h0 := h0.later hv8
      replace h1 := h1.later hv8
      replace h2 := h2.later hv8
      have hz8 := hv8.size
      refine rm_take 5 (some 15) (.func (.yield lp) #[] #[]) rfl rfl (by kernel_rfl) (by kernel_rfl) (by kernel_rfl) (by kernel_rfl) (fun W hW => by (kernel_rfl)) ?_
      try simp only [pa, pn, pb, pc, pd]
      refine rm_pick2 (i := 0) (j := 4) (by kernel_rfl) ?_ ?_
      · refine rm_read (some 10) (.pointer (some ⟨b, 0, none⟩)) rfl rfl (by kernel_rfl) (fun W hlz _ => by exact ld1 31 _ rfl p0 0 rfl (fun _ => by kernel_rfl) _ ((h0.later hlz).cell 0)) fun w9 hL9 _ => ?_
        replace hJJ := hJJ.later hL9
        replace hr := hr.later hL9
        replace hb := hb.later hL9
        replace h0 := h0.later hL9
        replace h1 := h1.later hL9
        replace h2 := h2.later hL9
        have hz9 := hL9.size
        try simp only [pa, pn, pb, pc, pd]
        refine rm_take 1 (some 11) (.pointer (some ⟨b, 0, none⟩)) rfl rfl (by kernel_rfl) (by kernel_rfl) (by kernel_rfl) (by kernel_rfl) (fun W hW => by (kernel_rfl)) ?_
        try simp only [pa, pn, pb, pc, pd]
        refine rm_take 2 (some 12) (.pointer (some ⟨b, 0, none⟩)) rfl rfl (by kernel_rfl) (by kernel_rfl) (by kernel_rfl) (by kernel_rfl) (fun W hW => by (kernel_rfl)) ?_
        try simp only [pa, pn, pb, pc, pd]
        refine rm_pick2 (i := 3) (j := 4) (by kernel_rfl) ?_ ?_
        · refine rm_read (some 13) (v) rfl rfl (by kernel_rfl) (fun W hlz _ => by exact ld1 108 _ rfl b 0 rfl (fun _ => by kernel_rfl) _ ((hb.later hlz).cell 0)) fun w10 hL10 _ => ?_
          replace hJJ := hJJ.later hL10
          replace hr := hr.later hL10
          replace hb := hb.later hL10
          replace h0 := h0.later hL10
          replace h1 := h1.later hL10
          replace h2 := h2.later hL10
          have hz10 := hL10.size
          try simp only [pa, pn, pb, pc, pd]
          refine rm_pick1 (i := 4) (by kernel_rfl) ?_
          refine rm_read (some 14) (.int .i64 f) rfl rfl (by kernel_rfl) (fun W hlz _ => by exact ld1 3 _ rfl p1 0 rfl (fun _ => by kernel_rfl) _ ((h1.later hlz).cell 0)) fun w11 hL11 _ => ?_
          replace hJJ := hJJ.later hL11
          replace hr := hr.later hL11
          replace hb := hb.later hL11
          replace h0 := h0.later hL11
          replace h1 := h1.later hL11
          replace h2 := h2.later hL11
          have hz11 := hL11.size
          try simp only [pa, pn, pb, pc, pd]
          refine rm_pick1 (i := 6) (by kernel_rfl) ?_
          refine rm_callz (some 16) 78 #[v, .int .i64 f, .func (.yield lp) #[] #[]] rfl rfl (by kernel_rfl) (fun W hlz => by kernel_rfl) (fun W hlz => hwt _ (hr.later hlz) (hJJ.later hlz).get) ?_
          rintro W12 e w12 hL12 (⟨rfl, hb9, xs, hm9, hJ9⟩ | ⟨rfl, p9, hp9, hJ9⟩)
          · refine ⟨_, rfl, ?_⟩
            have hz12 := hL12.size
            try simp only [pa, pn, pb, pc, pd]
            refine rm_done (by kernel_rfl) (fun w13 hL13 _ => hgo.out _ _ ?_) _
            clear hgo K8
            have hz13 := hL13.size
            refine hKK6 _ _ ?_
            refine wp_ret ?_
            try simp only [Exit.then, Exit.inBlock]
            refine bp_ret (v := .tuple #[]) (res0 rfl) ?_
            exact ⟨⟨_, rfl⟩, .inl ⟨xs, hm9, hY.1 _ _ _ hJ9 (by assumption)⟩⟩
          · refine ⟨_, rfl, ?_⟩
            have hz12 := hL12.size
            try simp only [pa, pn, pb, pc, pd]
            refine rm_done (by kernel_rfl) (fun w14 hL14 _ => hgo.out _ _ ?_) _
            clear hgo K8
            have hz14 := hL14.size
            refine hKK6 _ _ ?_
            refine wp_ret ?_
            try simp only [Exit.then, Exit.inBlock]
            refine bp_ret (v := .tuple #[]) (res0 rfl) ?_
            exact ⟨⟨_, rfl⟩, .inr ⟨p9, hp9, hY.2.1 _ _ _ hJ9 (by assumption)⟩⟩
        · refine rm_read (some 14) (.int .i64 f) rfl rfl (by kernel_rfl) (fun W hlz _ => by exact ld1 3 _ rfl p1 0 rfl (fun _ => by kernel_rfl) _ ((h1.later hlz).cell 0)) fun w15 hL15 _ => ?_
          replace hJJ := hJJ.later hL15
          replace hr := hr.later hL15
          replace hb := hb.later hL15
          replace h0 := h0.later hL15
          replace h1 := h1.later hL15
          replace h2 := h2.later hL15
          have hz15 := hL15.size
          try simp only [pa, pn, pb, pc, pd]
          refine rm_pick1 (i := 3) (by kernel_rfl) ?_
          refine rm_read (some 13) (v) rfl rfl (by kernel_rfl) (fun W hlz _ => by exact ld1 108 _ rfl b 0 rfl (fun _ => by kernel_rfl) _ ((hb.later hlz).cell 0)) fun w16 hL16 _ => ?_
          replace hJJ := hJJ.later hL16
          replace hr := hr.later hL16
          replace hb := hb.later hL16
          replace h0 := h0.later hL16
          replace h1 := h1.later hL16
          replace h2 := h2.later hL16
          have hz16 := hL16.size
          try simp only [pa, pn, pb, pc, pd]
          refine rm_pick1 (i := 6) (by kernel_rfl) ?_
          refine rm_callz (some 16) 78 #[v, .int .i64 f, .func (.yield lp) #[] #[]] rfl rfl (by kernel_rfl) (fun W hlz => by kernel_rfl) (fun W hlz => hwt _ (hr.later hlz) (hJJ.later hlz).get) ?_
          rintro W17 e w17 hL17 (⟨rfl, hb9, xs, hm9, hJ9⟩ | ⟨rfl, p9, hp9, hJ9⟩)
          · refine ⟨_, rfl, ?_⟩
            have hz17 := hL17.size
            try simp only [pa, pn, pb, pc, pd]
            refine rm_done (by kernel_rfl) (fun w18 hL18 _ => hgo.out _ _ ?_) _
            clear hgo K8
            have hz18 := hL18.size
            refine hKK6 _ _ ?_
            refine wp_ret ?_
            try simp only [Exit.then, Exit.inBlock]
            refine bp_ret (v := .tuple #[]) (res0 rfl) ?_
            exact ⟨⟨_, rfl⟩, .inl ⟨xs, hm9, hY.1 _ _ _ hJ9 (by assumption)⟩⟩
          · refine ⟨_, rfl, ?_⟩
            have hz17 := hL17.size
            try simp only [pa, pn, pb, pc, pd]
            refine rm_done (by kernel_rfl) (fun w19 hL19 _ => hgo.out _ _ ?_) _
            clear hgo K8
            have hz19 := hL19.size
            refine hKK6 _ _ ?_
            refine wp_ret ?_
            try simp only [Exit.then, Exit.inBlock]
            refine bp_ret (v := .tuple #[]) (res0 rfl) ?_
            exact ⟨⟨_, rfl⟩, .inr ⟨p9, hp9, hY.2.1 _ _ _ hJ9 (by assumption)⟩⟩
      · refine rm_read (some 14) (.int .i64 f) rfl rfl (by kernel_rfl) (fun W hlz _ => by exact ld1 3 _ rfl p1 0 rfl (fun _ => by kernel_rfl) _ ((h1.later hlz).cell 0)) fun w20 hL20 _ => ?_
        replace hJJ := hJJ.later hL20
        replace hr := hr.later hL20
        replace hb := hb.later hL20
        replace h0 := h0.later hL20
        replace h1 := h1.later hL20
        replace h2 := h2.later hL20
        have hz20 := hL20.size
        try simp only [pa, pn, pb, pc, pd]
        refine rm_pick1 (i := 0) (by kernel_rfl) ?_
        refine rm_read (some 10) (.pointer (some ⟨b, 0, none⟩)) rfl rfl (by kernel_rfl) (fun W hlz _ => by exact ld1 31 _ rfl p0 0 rfl (fun _ => by kernel_rfl) _ ((h0.later hlz).cell 0)) fun w21 hL21 _ => ?_
        replace hJJ := hJJ.later hL21
        replace hr := hr.later hL21
        replace hb := hb.later hL21
        replace h0 := h0.later hL21
        replace h1 := h1.later hL21
        replace h2 := h2.later hL21
        have hz21 := hL21.size
        try simp only [pa, pn, pb, pc, pd]
        refine rm_take 1 (some 11) (.pointer (some ⟨b, 0, none⟩)) rfl rfl (by kernel_rfl) (by kernel_rfl) (by kernel_rfl) (by kernel_rfl) (fun W hW => by (kernel_rfl)) ?_
        try simp only [pa, pn, pb, pc, pd]
        refine rm_take 2 (some 12) (.pointer (some ⟨b, 0, none⟩)) rfl rfl (by kernel_rfl) (by kernel_rfl) (by kernel_rfl) (by kernel_rfl) (fun W hW => by (kernel_rfl)) ?_
        try simp only [pa, pn, pb, pc, pd]
        refine rm_pick1 (i := 3) (by kernel_rfl) ?_
        refine rm_read (some 13) (v) rfl rfl (by kernel_rfl) (fun W hlz _ => by exact ld1 108 _ rfl b 0 rfl (fun _ => by kernel_rfl) _ ((hb.later hlz).cell 0)) fun w22 hL22 _ => ?_
        replace hJJ := hJJ.later hL22
        replace hr := hr.later hL22
        replace hb := hb.later hL22
        replace h0 := h0.later hL22
        replace h1 := h1.later hL22
        replace h2 := h2.later hL22
        have hz22 := hL22.size
        try simp only [pa, pn, pb, pc, pd]
        refine rm_pick1 (i := 6) (by kernel_rfl) ?_
        refine rm_callz (some 16) 78 #[v, .int .i64 f, .func (.yield lp) #[] #[]] rfl rfl (by kernel_rfl) (fun W hlz => by kernel_rfl) (fun W hlz => hwt _ (hr.later hlz) (hJJ.later hlz).get) ?_
        rintro W23 e w23 hL23 (⟨rfl, hb9, xs, hm9, hJ9⟩ | ⟨rfl, p9, hp9, hJ9⟩)
        · refine ⟨_, rfl, ?_⟩
          have hz23 := hL23.size
          try simp only [pa, pn, pb, pc, pd]
          refine rm_done (by kernel_rfl) (fun w24 hL24 _ => hgo.out _ _ ?_) _
          clear hgo K8
          have hz24 := hL24.size
          refine hKK6 _ _ ?_
          refine wp_ret ?_
          try simp only [Exit.then, Exit.inBlock]
          refine bp_ret (v := .tuple #[]) (res0 rfl) ?_
          exact ⟨⟨_, rfl⟩, .inl ⟨xs, hm9, hY.1 _ _ _ hJ9 (by assumption)⟩⟩
        · refine ⟨_, rfl, ?_⟩
          have hz23 := hL23.size
          try simp only [pa, pn, pb, pc, pd]
          refine rm_done (by kernel_rfl) (fun w25 hL25 _ => hgo.out _ _ ?_) _
          clear hgo K8
          have hz25 := hL25.size
          refine hKK6 _ _ ?_
          refine wp_ret ?_
          try simp only [Exit.then, Exit.inBlock]
          refine bp_ret (v := .tuple #[]) (res0 rfl) ?_
          exact ⟨⟨_, rfl⟩, .inr ⟨p9, hp9, hY.2.1 _ _ _ hJ9 (by assumption)⟩⟩
  · have hp := pcs_out ot l f back hin
    rw [hp] at *
    obtain ⟨hr0, hr1, hb, hr3⟩ := id hr
    clear hr0 hr3
    go_enter Tryd.func76, Tryd.ntmps76
    have hlt_hb := hb.lt
    have hlt_h0 := h0.lt
    have hlt_h1 := h1.lt
    have hlt_h2 := h2.lt
    refine wp_seq_k fun KK1 hKK1 => ?_
    refine wp_seq_k fun KK2 hKK2 => ?_
    refine rl_begin fun hgK hgo => ?_
    refine rl_take (some 5) (.pointer (some ⟨b, 0, none⟩)) rfl (by kernel_rfl) (by exact ld1 31 _ rfl p0 0 rfl (fun _ => by kernel_rfl) _ (h0.cell 0)) ?_
    try simp only [pa, pn, pb, pc, pd]
    refine rl_take (some 6) (.int .i64 f) rfl (by kernel_rfl) (by exact ld1 3 _ rfl p1 0 rfl (fun _ => by kernel_rfl) _ (h1.cell 0)) ?_
    try simp only [pa, pn, pb, pc, pd]
    refine rl_call (some 7) 77 #[.pointer (some ⟨b, 0, none⟩), .int .i64 f] rfl (by kernel_rfl) (by kernel_rfl) (place_out b l f (by omega) _ hr.at) ?_
    rintro e w3 ⟨rfl, hL3⟩
    refine ⟨_, rfl, ?_⟩
    replace hJJ := hJJ.later hL3
    replace hr := hr.later hL3
    replace hb := hb.later hL3
    replace h0 := h0.later hL3
    replace h1 := h1.later hL3
    replace h2 := h2.later hL3
    have hz3 := hL3.size
    try simp only [pa, pn, pb, pc, pd]
    refine rl_take (some 8) (.bool true) rfl (by kernel_rfl) (by exact ex_bne (x := 2) (y := 0) (by kernel_rfl) ⟨fun _ => by omega, fun _ => rfl⟩) ?_
    try simp only [pa, pn, pb, pc, pd]
    refine rl_nil ?_
    refine hgo.out _ _ ?_
    clear hgo hgK
    refine hKK2 _ _ ?_
    refine wp_cond_true (by kernel_rfl) ?_
    refine wp_ret ?_
    try simp only [Exit.then, Exit.inBlock]
    refine bp_ret (v := .tuple #[]) (res0 rfl) ?_
    exact ⟨⟨_, rfl⟩, .inl ⟨[], rfl, hJJ.get⟩⟩
/-- the iterator's contract -/
theorem iter_seq (n₀ : Nat) (b : Nat) (l : List UInt8) (v : Value) (ot : Option Tr) (f : Int) (back : Bool) (hl : l.length ≤ 1000000000) (w : World) (hr : RopeN n₀ w b l v ot)
    (p0 p1 p2 : Nat) (h0 : Blk w p0 31 #[.pointer (some ⟨b, 0, none⟩)]) (h1 : Blk w p1 3 #[.int .i64 f]) (h2 : Blk w p2 4 #[.bool back]) :
    SeqP Tryd.prog 76 #[.pointer (some ⟨p0, 0, none⟩), .pointer (some ⟨p1, 0, none⟩), .pointer (some ⟨p2, 0, none⟩)] pcEnc n₀ (pcP n₀) (PcOk (pcsOf ot l f back)) (fun xs => xs.map pcB = pcsOf ot l f back) w :=
  fun lp J Jx W hW c1 c2 hY hn h0' => iter_any n₀ lp J Jx b l v ot f back hl ⟨c1, c2, hY⟩ W (hr.later hW) h0' p0 p1 p2 (h0.later hW) (h1.later hW) (h2.later hW)
theorem SeqP.later {α : Type} {P : Program} {g : Nat} {lb : Array Value} {enc : α → Value} {n₀ : Nat} {Px : α → World → Prop} {Ok S : List α → Prop} {w w' : World} (h : SeqP P g lb enc n₀ Px Ok S w) (hl : Ltr w w') : SeqP P g lb enc n₀ Px Ok S w' :=
  fun lp J Jx W hW => h lp J Jx W (hl.trans hW)
def PiecesP (n₀ : Nat) (ps : List (List UInt8)) (w : World) (e : Ending) (w' : World) : Prop :=
  ∃ a b c, e = .returned (.func (.func 76) #[] #[.pointer (some ⟨a, 0, none⟩), .pointer (some ⟨b, 0, none⟩), .pointer (some ⟨c, 0, none⟩)]) ∧ Ltr w w' ∧
    SeqP Tryd.prog 76 #[.pointer (some ⟨a, 0, none⟩), .pointer (some ⟨b, 0, none⟩), .pointer (some ⟨c, 0, none⟩)] pcEnc n₀ (pcP n₀) (PcOk ps) (fun xs => xs.map pcB = ps) w'
set_option maxRecDepth 100000 in
set_option maxHeartbeats 4000000 in
theorem Pieces_any (n₀ : Nat) (b : Nat) (l : List UInt8) (v : Value) (ot : Option Tr) (f : Int) (back : Bool) (hl : l.length ≤ 1000000000) (w : World) (hr : RopeN n₀ w b l v ot) :
    Calls Tryd.prog 32 #[.pointer (some ⟨b, 0, none⟩), .int .i64 f, .bool back] w (PiecesP n₀ (pcsOf ot l f back) w) := by
  have hB := Ltr.refl w
  go_enter Tryd.func32, Tryd.ntmps32
  refine wp_seq_k fun KK1 hKK1 => ?_
  refine rl_begin fun hgK hgo => ?_
  refine rl_alloc (some 3) 31 #[.pointer (some ⟨b, 0, none⟩)] rfl (by kernel_rfl) (fun W => by kernel_rfl) fun p w2 hL2 hp2 hp => ?_
  replace hr := hr.later hL2
  replace hB := hB.later hL2
  have hz2 := hL2.size
  have hlt2 := hp.lt
  try simp only [pa, pn, pb, pc, pd]
  refine rl_alloc (some 4) 3 #[.int .i64 f] rfl (by kernel_rfl) (fun W => by kernel_rfl) fun q w3 hL3 hp3 hq => ?_
  replace hr := hr.later hL3
  replace hB := hB.later hL3
  replace hp := hp.later hL3
  have hz3 := hL3.size
  have hlt3 := hq.lt
  try simp only [pa, pn, pb, pc, pd]
  refine rl_alloc (some 5) 4 #[.bool back] rfl (by kernel_rfl) (fun W => by kernel_rfl) fun r_ w4 hL4 hp4 hr_ => ?_
  replace hr := hr.later hL4
  replace hB := hB.later hL4
  replace hp := hp.later hL4
  replace hq := hq.later hL4
  have hz4 := hL4.size
  have hlt4 := hr_.lt
  try simp only [pa, pn, pb, pc, pd]
  refine rl_take (some 6) (.nilFunc) rfl (by kernel_rfl) (by kernel_rfl) ?_
  try simp only [pa, pn, pb, pc, pd]
  refine rl_nil ?_
  refine hgo.out _ _ ?_
  clear hgo hgK
  refine hKK1 _ _ ?_
  refine wp_seq_k fun KK5 hKK5 => ?_
  refine rl_begin fun hgK hgo => ?_
  refine rl_take (some 7) (.func (.func 76) #[] #[.pointer (some ⟨p, 0, none⟩), .pointer (some ⟨q, 0, none⟩), .pointer (some ⟨r_, 0, none⟩)]) rfl (by kernel_rfl) (by kernel_rfl) ?_
  try simp only [pa, pn, pb, pc, pd]
  refine rl_take (some 6) (.func (.func 76) #[] #[.pointer (some ⟨p, 0, none⟩), .pointer (some ⟨q, 0, none⟩), .pointer (some ⟨r_, 0, none⟩)]) rfl (by kernel_rfl) (by kernel_rfl) ?_
  try simp only [pa, pn, pb, pc, pd]
  refine rl_nil ?_
  refine hgo.out _ _ ?_
  clear hgo hgK
  refine hKK5 _ _ ?_
  refine wp_ret ?_
  try simp only [Exit.then, Exit.inBlock]
  refine bp_ret (v := .func (.func 76) #[] #[.pointer (some ⟨p, 0, none⟩), .pointer (some ⟨q, 0, none⟩), .pointer (some ⟨r_, 0, none⟩)]) (res1 rfl (res_tmp (by kernel_rfl))) ?_
  exact ⟨p, q, r_, rfl, hB, iter_seq n₀ b l v ot f back hl _ hr p q r_ hp hq hr_⟩
/-! ### what the pieces are -/
theorem piecesF_flat : ∀ (t : Tr) (f : Nat), t.ok → (piecesF t f).flatten = t.bytes.drop f ∧ ∀ p ∈ piecesF t f, 0 < p.length
  | .tip l, f, _ => by
    unfold piecesF
    split
    · rename_i h; exact ⟨by simp [Tr.bytes, List.drop_eq_nil_of_le h], by simp⟩
    · rename_i h; exact ⟨by simp [Tr.bytes], by simp; omega⟩
  | .fork x y, f, h => by
    obtain ⟨hx, hy, -⟩ := h
    obtain ⟨a1, a2⟩ := piecesF_flat x f hx
    obtain ⟨b1, b2⟩ := piecesF_flat y (f - x.bytes.length) hy
    unfold piecesF
    constructor
    · rw [List.flatten_append, b1, Tr.b_fork, List.drop_append]
      split
      · rw [a1]
      · rename_i h; rw [List.drop_eq_nil_of_le (by omega : x.bytes.length ≤ f)]; rfl
    · intro p hp
      rcases List.mem_append.1 hp with hp | hp
      · split at hp
        · exact a2 p hp
        · cases hp
      · exact b2 p hp
theorem piecesB_flat : ∀ (t : Tr) (f : Nat), t.ok → (piecesB t f).reverse.flatten = t.bytes.take f ∧ ∀ p ∈ piecesB t f, 0 < p.length
  | .tip l, f, _ => by
    unfold piecesB
    split
    · rename_i h
      refine ⟨?_, by simp⟩
      rcases Nat.eq_zero_or_pos f with h0 | h0
      · subst h0; simp
      · have : l = [] := List.eq_nil_of_length_eq_zero (by omega)
        subst this; simp [Tr.bytes]
    · rename_i h
      refine ⟨?_, by simp; omega⟩
      simp only [List.reverse_singleton, List.flatten_cons, List.flatten_nil, List.append_nil, Tr.bytes]
      rcases Nat.le_total f l.length with h1 | h1
      · rw [Nat.min_eq_left h1]
      · rw [Nat.min_eq_right h1, List.take_of_length_le (Nat.le_refl _), List.take_of_length_le h1]
  | .fork x y, f, h => by
    obtain ⟨hx, hy, -⟩ := h
    obtain ⟨a1, a2⟩ := piecesB_flat x (min f x.bytes.length) hx
    obtain ⟨b1, b2⟩ := piecesB_flat y (f - x.bytes.length) hy
    unfold piecesB
    constructor
    · rw [List.reverse_append, List.flatten_append, a1, Tr.b_fork, List.take_append]
      split
      · rename_i h; rw [b1, Nat.min_eq_right (by omega), List.take_of_length_le (Nat.le_refl _), List.take_of_length_le (by omega : x.bytes.length ≤ f)]
      · rename_i h; rw [Nat.min_eq_left (by omega), show f - x.bytes.length = 0 by omega]; simp
    · intro p hp
      rcases List.mem_append.1 hp with hp | hp
      · split at hp
        · exact b2 p hp
        · cases hp
      · exact a2 p hp
theorem pcs_flatF {n : Nat} {w : World} {b : Nat} {l : List UInt8} {v : Value} {ot : Option Tr} (h : RopeN n w b l v ot) (f : Nat) (hf : f ≤ l.length) :
    (pcsOf ot l f false).flatten = l.drop f ∧ ∀ p ∈ pcsOf ot l f false, 0 < p.length := by
  rw [pcs_in ot l f false hf]
  obtain ⟨-, -, -, h4⟩ := h
  cases ot with
  | none => obtain ⟨rfl, -⟩ := h4; exact ⟨by simp [pcT], by simp [pcT]⟩
  | some t => obtain ⟨k1, rfl, -⟩ := h4; exact piecesF_flat t f k1
theorem pcs_flatB {n : Nat} {w : World} {b : Nat} {l : List UInt8} {v : Value} {ot : Option Tr} (h : RopeN n w b l v ot) (f : Nat) (hf : f ≤ l.length) :
    (pcsOf ot l f true).reverse.flatten = l.take f ∧ ∀ p ∈ pcsOf ot l f true, 0 < p.length := by
  rw [pcs_in ot l f true hf]
  obtain ⟨-, -, -, h4⟩ := h
  cases ot with
  | none => obtain ⟨rfl, -⟩ := h4; exact ⟨by simp [pcT], by simp [pcT]⟩
  | some t => obtain ⟨k1, rfl, -⟩ := h4; exact piecesB_flat t f k1
end Go.Proofs.YtliphfgiaioebaaDoor
