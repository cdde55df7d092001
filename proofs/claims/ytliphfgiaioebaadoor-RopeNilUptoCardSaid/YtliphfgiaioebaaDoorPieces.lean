/-
  Package rope: forwards, backwards, Pieces: the iterator over a tree's pieces.
-/
import Derived.Test.YtliphfgiaioebaaDoorMarks
namespace Go.Proofs.YtliphfgiaioebaaDoor
set_option linter.unusedVariables false
set_option linter.unusedSimpArgs false
open Go.RowKit
def piecesF : Tr → Nat → List (List UInt8)
  | .tip l, f => if l.length ≤ f then [] else [l.drop f]
  | .fork x y, f => (if f < x.bytes.length then piecesF x f else []) ++ piecesF y (f - x.bytes.length)
def piecesB : Tr → Nat → List (List UInt8)
  | .tip l, f => if min f l.length = 0 then [] else [l.take (min f l.length)]
  | .fork x y, f => (if x.bytes.length < f then piecesB y (f - x.bytes.length) else []) ++ piecesB x (min f x.bytes.length)
/-- a piece handed over: its address, its capacity, its bytes -/
abbrev Pc := Option Addr × Nat × List UInt8
def pcEnc (x : Pc) : Value := .slice x.1 x.2.2.length x.2.1
def pcB (x : Pc) : List UInt8 := x.2.2
def pcP (n : Nat) (x : Pc) (w : World) : Prop := BRow n w x.1 x.2.1 x.2.2
def PcOk (ps : List (List UInt8)) (xs : List Pc) : Prop := ∃ r, xs.map pcB ++ r = ps
def YieldsP (n₀ lp : Nat) (ps : List (List UInt8)) (J Jx : List Pc → World → Prop) : Prop :=
  (∀ s A B, J s A → Ltr A B → J s B) ∧ (∀ s A B, Jx s A → Ltr A B → Jx s B) ∧ ∀ pre x W1, J pre W1 → pcP n₀ x W1 → PcOk ps (pre ++ [x]) → YieldAt Fence.wide 0 Tryd.prog lp #[pcEnc x] W1 fun e W' =>
      (e = .returned (.bool true) ∧ J (pre ++ [x]) W' ∧ Bel n₀ W1 W') ∨ (e = .returned (.bool false) ∧ Jx (pre ++ [x]) W')
def WalkP (n₀ : Nat) (ps qs : List (List UInt8)) (J Jx : List Pc → World → Prop) (pre : List Pc) (W : World) (e : Ending) (W' : World) : Prop :=
  (e = .returned (.bool true) ∧ Bel n₀ W W' ∧ ∃ xs, xs.map pcB = qs ∧ J (pre ++ xs) W') ∨ (e = .returned (.bool false) ∧ ∃ pre', PcOk ps pre' ∧ Jx pre' W')
/-- J at a world -/
def JAt (J : List Pc → World → Prop) (pre : List Pc) (m : Nat) (w : World) : Prop := (∀ s A B, J s A → Ltr A B → J s B) ∧ ∃ W0, W0.heap.size = m ∧ J pre W0 ∧ Ltr W0 w
theorem JAt.get {J : List Pc → World → Prop} {pre : List Pc} {m : Nat} {w : World} (h : JAt J pre m w) : J pre w := by obtain ⟨h1, W0, _, h2, h3⟩ := h; exact h1 _ _ _ h2 h3
theorem JAt.later {J : List Pc → World → Prop} {pre : List Pc} {m : Nat} {w w' : World} (h : JAt J pre m w) (hl : Ltr w w') : JAt J pre m w' := by obtain ⟨h1, W0, h0, h2, h3⟩ := h; exact ⟨h1, W0, h0, h2, h3.later hl⟩
theorem JAt.upd {J : List Pc → World → Prop} {pre : List Pc} {m g : Nat} {w w' : World} (h : JAt J pre m w) (hu : Upd g w w') (hg : m ≤ g) : JAt J pre m w' := by obtain ⟨h1, W0, h0, h2, h3⟩ := h; exact ⟨h1, W0, h0, h2, h3.upd hu (by omega)⟩
set_option maxRecDepth 100000 in
set_option maxHeartbeats 8000000 in
theorem forwards_any (n₀ lp : Nat) (ps : List (List UInt8)) (J Jx : List Pc → World → Prop) (hY : YieldsP n₀ lp ps J Jx) :
    ∀ (s : Tr) (vs : Value) (f : Nat) (pre : List Pc) (W : World), TreeN n₀ W s vs → J pre W → (∃ r, pre.map pcB ++ piecesF s f ++ r = ps) → f ≤ 1000000000 → s.bytes.length ≤ 1000000000 →
      Calls Tryd.prog 79 #[vs, .int .i64 f, .func (.yield lp) #[] #[]] W (WalkP n₀ ps (piecesF s f) J Jx pre W) := by
  intro s
  induction s with
  | tip l =>
    intro vs f pre W ht hJ hok hf hs
    obtain ⟨hz0, a, rfl, ha, hl⟩ := ht
    have hB := Bel.refl n₀ W hz0
    have hJJ : JAt J pre W.heap.size W := ⟨hY.1, W, rfl, hJ, Ltr.refl _⟩
    clear hJ
    have hY2 := hY.2.2
    obtain ⟨r, hok⟩ := hok
    simp only [Tr.bytes] at hs
    by_cases hlt : l.length ≤ f
    · skip
      refine (callsIn_wide (n := 0)).1 ?_
      refine callsIn_of_wp Tryd.func79 rfl trivial ?_ rfl
      simp only [Tryd.ntmps79, List.size_toArray, List.length_cons, List.length_nil, Nat.reduceAdd, Nat.reduceSub, Array.replicate_succ, Array.replicate_zero, List.push_toArray, List.append_toArray, List.nil_append, List.cons_append]
      rw [Fn_none]
      refine wpIn_seq_k fun KK1 hKK1 => ?_
      refine rj_begin fun hgK hgo => ?_
      refine rj_take (some 6) (.bool false) rfl (by kernel_rfl) (by kernel_rfl) ?_
      try simp only [pa, pn, pb, pc, pd]
      refine rj_nil ?_
      refine hgo.out _ _ ?_
      clear hgo hgK
      refine hKK1 _ _ ?_
      refine wpIn_seq_k fun KK2 hKK2 => ?_
      refine wpIn_seq_k fun KK3 hKK3 => ?_
      refine rj_begin fun hgK hgo => ?_
      refine rj_take (some 11) (.iface 118 (.agg #[.pointer (some ⟨a, 0, none⟩)])) rfl (by kernel_rfl) (by kernel_rfl) ?_
      try simp only [pa, pn, pb, pc, pd]
      refine rj_nil ?_
      refine hgo.out _ _ ?_
      clear hgo hgK
      refine hKK3 _ _ ?_
      refine wpIn_block ?_
      refine wpIn_seq_k fun KK4 hKK4 => ?_
      refine rj_begin fun hgK hgo => ?_
      refine rj_take (some 12) (.tuple #[.agg #[.pointer (some ⟨a, 0, none⟩)], .bool true]) rfl (by kernel_rfl) (by kernel_rfl) ?_
      try simp only [pa, pn, pb, pc, pd]
      refine rj_take (some 13) (.bool true) rfl (by kernel_rfl) (by kernel_rfl) ?_
      try simp only [pa, pn, pb, pc, pd]
      refine rj_take (some 14) (.agg #[.pointer (some ⟨a, 0, none⟩)]) rfl (by kernel_rfl) (by kernel_rfl) ?_
      try simp only [pa, pn, pb, pc, pd]
      refine rj_nil ?_
      refine hgo.out _ _ ?_
      clear hgo hgK
      refine hKK4 _ _ ?_
      refine wpIn_cond_true (by kernel_rfl) ?_
      refine wpIn_seq_k fun KK5 hKK5 => ?_
      refine rj_begin fun hgK hgo => ?_
      refine rj_alloc (some 7) 118 #[.pointer none] rfl (by kernel_rfl) (fun W => by kernel_rfl) fun q w6 hL6 hp6 hq => ?_
      replace hJJ := hJJ.later hL6
      replace hB := hB.later hL6
      replace hl := hl.later hL6
      have hz6 := hL6.size
      have hlt6 := hq.lt
      try simp only [pa, pn, pb, pc, pd]
      refine rj_store q #[.pointer (some ⟨a, 0, none⟩)] rfl rfl (by kernel_rfl) rfl rfl (by kernel_rfl) hq rfl (by kernel_rfl) fun w7 hU7 hn7 => ?_
      have hz7 := hU7.size
      replace hJJ := hJJ.upd hU7 (by omega)
      replace hB := hB.upd hU7 (by omega)
      replace hl := hl.upd hU7 (by omega)
      clear hq
      have hq := hn7
      clear hn7
      try simp only [pa, pn, pb, pc, pd]
      refine rj_nil ?_
      refine hgo.out _ _ ?_
      clear hgo hgK
      refine hKK5 _ _ ?_
      refine wpIn_seq_k fun KK8 hKK8 => ?_
      refine rj_begin fun hgK hgo => ?_
      refine rj_take (some 15) (.pointer (some ⟨q, 0, none⟩)) rfl (by kernel_rfl) (by kernel_rfl) ?_
      try simp only [pa, pn, pb, pc, pd]
      refine rj_take (some 16) (.pointer (some ⟨a, 0, none⟩)) rfl (by kernel_rfl) (by exact ld1 116 _ rfl q 0 rfl (fun _ => by kernel_rfl) _ (hq.cell 0)) ?_
      try simp only [pa, pn, pb, pc, pd]
      refine rj_call (some 17) 100 #[.pointer (some ⟨a, 0, none⟩)] rfl (by kernel_rfl) (by kernel_rfl) (LBytes_own a l _ hl) ?_
      rintro e w9 ⟨A1, c1, rfl, hL9, hA⟩
      refine ⟨_, rfl, ?_⟩
      replace hJJ := hJJ.later hL9
      replace hB := hB.later hL9
      replace hl := hl.later hL9
      replace hq := hq.later hL9
      have hz9 := hL9.size
      try simp only [pa, pn, pb, pc, pd]
      refine rj_take (some 8) (.slice A1 l.length c1) rfl (by kernel_rfl) (by kernel_rfl) ?_
      try simp only [pa, pn, pb, pc, pd]
      refine rj_nil ?_
      refine hgo.out _ _ ?_
      clear hgo hgK
      refine hKK8 _ _ ?_
      refine wpIn_seq_k fun KK10 hKK10 => ?_
      refine rj_begin fun hgK hgo => ?_
      refine rj_take (some 18) (.int .i64 f) rfl (by kernel_rfl) (by kernel_rfl) ?_
      try simp only [pa, pn, pb, pc, pd]
      refine rj_take (some 19) (.slice A1 l.length c1) rfl (by kernel_rfl) (by kernel_rfl) ?_
      try simp only [pa, pn, pb, pc, pd]
      refine rj_take (some 20) (.int .i64 l.length) rfl (by kernel_rfl) (by kernel_rfl) ?_
      try simp only [pa, pn, pb, pc, pd]
      refine rj_take (some 21) (.bool true) rfl (by kernel_rfl) (by exact ex_bool (c := (f : Int) ≥ l.length) (by kernel_rfl) ⟨fun _ => by omega, fun _ => rfl⟩) ?_
      try simp only [pa, pn, pb, pc, pd]
      refine rj_take (some 22) (.bool true) rfl (by kernel_rfl) (by kernel_rfl) ?_
      try simp only [pa, pn, pb, pc, pd]
      refine rj_pass (some 23) rfl (by kernel_rfl) ?_
      try simp only [pa, pn, pb, pc, pd]
      refine rj_pass (some 24) rfl (by kernel_rfl) ?_
      try simp only [pa, pn, pb, pc, pd]
      refine rj_pass (some 25) rfl (by kernel_rfl) ?_
      try simp only [pa, pn, pb, pc, pd]
      refine rj_pass (some 26) rfl (by kernel_rfl) ?_
      try simp only [pa, pn, pb, pc, pd]
      refine rj_pass (some 27) rfl (by kernel_rfl) ?_
      try simp only [pa, pn, pb, pc, pd]
      refine rj_take (some 28) (.bool true) rfl (by kernel_rfl) (by kernel_rfl) ?_
      try simp only [pa, pn, pb, pc, pd]
      refine rj_take (some 6) (.bool true) rfl (by kernel_rfl) (by kernel_rfl) ?_
      try simp only [pa, pn, pb, pc, pd]
      refine rj_nil ?_
      refine hgo.out _ _ ?_
      clear hgo hgK
      refine hKK10 _ _ ?_
      refine wpIn_ret ?_
      try simp only [Exit.then, Exit.inBlock]
      refine bp_ret (v := .bool true) (res1 rfl (res_tmp (by kernel_rfl))) ?_
      exact .inl ⟨rfl, hB, [], by simp [piecesF, hlt], by simpa using hJJ.get⟩
    · skip
      refine (callsIn_wide (n := 0)).1 ?_
      refine callsIn_of_wp Tryd.func79 rfl trivial ?_ rfl
      simp only [Tryd.ntmps79, List.size_toArray, List.length_cons, List.length_nil, Nat.reduceAdd, Nat.reduceSub, Array.replicate_succ, Array.replicate_zero, List.push_toArray, List.append_toArray, List.nil_append, List.cons_append]
      rw [Fn_none]
      refine wpIn_seq_k fun KK1 hKK1 => ?_
      refine rj_begin fun hgK hgo => ?_
      refine rj_take (some 6) (.bool false) rfl (by kernel_rfl) (by kernel_rfl) ?_
      try simp only [pa, pn, pb, pc, pd]
      refine rj_nil ?_
      refine hgo.out _ _ ?_
      clear hgo hgK
      refine hKK1 _ _ ?_
      refine wpIn_seq_k fun KK2 hKK2 => ?_
      refine wpIn_seq_k fun KK3 hKK3 => ?_
      refine rj_begin fun hgK hgo => ?_
      refine rj_take (some 11) (.iface 118 (.agg #[.pointer (some ⟨a, 0, none⟩)])) rfl (by kernel_rfl) (by kernel_rfl) ?_
      try simp only [pa, pn, pb, pc, pd]
      refine rj_nil ?_
      refine hgo.out _ _ ?_
      clear hgo hgK
      refine hKK3 _ _ ?_
      refine wpIn_block ?_
      refine wpIn_seq_k fun KK4 hKK4 => ?_
      refine rj_begin fun hgK hgo => ?_
      refine rj_take (some 12) (.tuple #[.agg #[.pointer (some ⟨a, 0, none⟩)], .bool true]) rfl (by kernel_rfl) (by kernel_rfl) ?_
      try simp only [pa, pn, pb, pc, pd]
      refine rj_take (some 13) (.bool true) rfl (by kernel_rfl) (by kernel_rfl) ?_
      try simp only [pa, pn, pb, pc, pd]
      refine rj_take (some 14) (.agg #[.pointer (some ⟨a, 0, none⟩)]) rfl (by kernel_rfl) (by kernel_rfl) ?_
      try simp only [pa, pn, pb, pc, pd]
      refine rj_nil ?_
      refine hgo.out _ _ ?_
      clear hgo hgK
      refine hKK4 _ _ ?_
      refine wpIn_cond_true (by kernel_rfl) ?_
      refine wpIn_seq_k fun KK5 hKK5 => ?_
      refine rj_begin fun hgK hgo => ?_
      refine rj_alloc (some 7) 118 #[.pointer none] rfl (by kernel_rfl) (fun W => by kernel_rfl) fun q w6 hL6 hp6 hq => ?_
      replace hJJ := hJJ.later hL6
      replace hB := hB.later hL6
      replace hl := hl.later hL6
      have hz6 := hL6.size
      have hlt6 := hq.lt
      try simp only [pa, pn, pb, pc, pd]
      refine rj_store q #[.pointer (some ⟨a, 0, none⟩)] rfl rfl (by kernel_rfl) rfl rfl (by kernel_rfl) hq rfl (by kernel_rfl) fun w7 hU7 hn7 => ?_
      have hz7 := hU7.size
      replace hJJ := hJJ.upd hU7 (by omega)
      replace hB := hB.upd hU7 (by omega)
      replace hl := hl.upd hU7 (by omega)
      clear hq
      have hq := hn7
      clear hn7
      try simp only [pa, pn, pb, pc, pd]
      refine rj_nil ?_
      refine hgo.out _ _ ?_
      clear hgo hgK
      refine hKK5 _ _ ?_
      refine wpIn_seq_k fun KK8 hKK8 => ?_
      refine rj_begin fun hgK hgo => ?_
      refine rj_take (some 15) (.pointer (some ⟨q, 0, none⟩)) rfl (by kernel_rfl) (by kernel_rfl) ?_
      try simp only [pa, pn, pb, pc, pd]
      refine rj_take (some 16) (.pointer (some ⟨a, 0, none⟩)) rfl (by kernel_rfl) (by exact ld1 116 _ rfl q 0 rfl (fun _ => by kernel_rfl) _ (hq.cell 0)) ?_
      try simp only [pa, pn, pb, pc, pd]
      refine rj_call (some 17) 100 #[.pointer (some ⟨a, 0, none⟩)] rfl (by kernel_rfl) (by kernel_rfl) (LBytes_own a l _ hl) ?_
      rintro e w9 ⟨A1, c1, rfl, hL9, hA⟩
      refine ⟨_, rfl, ?_⟩
      replace hJJ := hJJ.later hL9
      replace hB := hB.later hL9
      replace hl := hl.later hL9
      replace hq := hq.later hL9
      have hz9 := hL9.size
      try simp only [pa, pn, pb, pc, pd]
      refine rj_take (some 8) (.slice A1 l.length c1) rfl (by kernel_rfl) (by kernel_rfl) ?_
      try simp only [pa, pn, pb, pc, pd]
      refine rj_nil ?_
      refine hgo.out _ _ ?_
      clear hgo hgK
      refine hKK8 _ _ ?_
      refine wpIn_seq_k fun KK10 hKK10 => ?_
      refine rj_begin fun hgK hgo => ?_
      refine rj_take (some 18) (.int .i64 f) rfl (by kernel_rfl) (by kernel_rfl) ?_
      try simp only [pa, pn, pb, pc, pd]
      refine rj_take (some 19) (.slice A1 l.length c1) rfl (by kernel_rfl) (by kernel_rfl) ?_
      try simp only [pa, pn, pb, pc, pd]
      refine rj_take (some 20) (.int .i64 l.length) rfl (by kernel_rfl) (by kernel_rfl) ?_
      try simp only [pa, pn, pb, pc, pd]
      refine rj_take (some 21) (.bool false) rfl (by kernel_rfl) (by exact ex_bool (c := (f : Int) ≥ l.length) (by kernel_rfl) ⟨fun q => (by cases q), fun q => absurd q (by omega)⟩) ?_
      try simp only [pa, pn, pb, pc, pd]
      refine rj_take (some 22) (.bool false) rfl (by kernel_rfl) (by kernel_rfl) ?_
      try simp only [pa, pn, pb, pc, pd]
      refine rj_take (some 23) (.func (.yield lp) #[] #[]) rfl (by kernel_rfl) (by kernel_rfl) ?_
      try simp only [pa, pn, pb, pc, pd]
      refine rj_take (some 24) (.slice A1 l.length c1) rfl (by kernel_rfl) (by kernel_rfl) ?_
      try simp only [pa, pn, pb, pc, pd]
      refine rj_take (some 25) (.int .i64 f) rfl (by kernel_rfl) (by kernel_rfl) ?_
      try simp only [pa, pn, pb, pc, pd]
      refine rj_take (some 26) (.slice (cutA A1 c1 f) (l.length - f) (c1 - f)) rfl (by kernel_rfl) (by exact ex_cutN f l.length (l.length - f) (by have := hA.2.1; omega) rfl rfl (.inl rfl) (.inr ⟨rfl, rfl⟩) (by kernel_rfl) (fun _ => by kernel_rfl) (by have := hA.2.1; omega) (by have := hA.2.1; omega) (by have := hA.2.1; omega) _) ?_
      try simp only [pa, pn, pb, pc, pd]
      have h9 := (hA.mono (show n₀ ≤ _ by omega)).cut f l.length (c1 - f) (by omega) (Nat.le_refl _) (Nat.sub_le_sub_right hA.2.1 f); rw [List.take_length] at h9; have hl9 : (l.drop f).length = l.length - f := List.length_drop; have hy9 := hY2 pre (cutA A1 c1 f, c1 - f, l.drop f) _ hJJ.get h9 ⟨r, by rw [← hok]; simp [piecesF, hlt, pcB]⟩; simp only [pcEnc, hl9] at hy9
      refine rj_yield (some 27) lp #[.slice (cutA A1 c1 f) (l.length - f) (c1 - f)] rfl (by kernel_rfl) (by kernel_rfl) (hy9) ?_
      rintro e w11 (⟨rfl, hJ9, hb9⟩ | ⟨rfl, hJ9⟩)
      · refine ⟨_, rfl, ?_⟩
        try simp only [pa, pn, pb, pc, pd]
        refine rj_take (some 28) (.bool true) rfl (by kernel_rfl) (by kernel_rfl) ?_
        try simp only [pa, pn, pb, pc, pd]
        refine rj_take (some 6) (.bool true) rfl (by kernel_rfl) (by kernel_rfl) ?_
        try simp only [pa, pn, pb, pc, pd]
        refine rj_nil ?_
        refine hgo.out _ _ ?_
        clear hgo hgK
        refine hKK10 _ _ ?_
        refine wpIn_ret ?_
        try simp only [Exit.then, Exit.inBlock]
        refine bp_ret (v := .bool true) (res1 rfl (res_tmp (by kernel_rfl))) ?_
        exact .inl ⟨rfl, ⟨hB.1, hB.2.trans hb9.2⟩, [(cutA A1 c1 f, c1 - f, l.drop f)], by simp [piecesF, hlt, pcB], hJ9⟩
      · refine ⟨_, rfl, ?_⟩
        try simp only [pa, pn, pb, pc, pd]
        refine rj_take (some 28) (.bool false) rfl (by kernel_rfl) (by kernel_rfl) ?_
        try simp only [pa, pn, pb, pc, pd]
        refine rj_take (some 6) (.bool false) rfl (by kernel_rfl) (by kernel_rfl) ?_
        try simp only [pa, pn, pb, pc, pd]
        refine rj_nil ?_
        refine hgo.out _ _ ?_
        clear hgo hgK
        refine hKK10 _ _ ?_
        refine wpIn_ret ?_
        try simp only [Exit.then, Exit.inBlock]
        refine bp_ret (v := .bool false) (res1 rfl (res_tmp (by kernel_rfl))) ?_
        exact .inr ⟨rfl, _, ⟨r, by rw [← hok]; simp [piecesF, hlt, pcB]⟩, hJ9⟩
  | fork x y ihx ihy =>
    intro vs f pre W ht hJ hok hf hs
    have hz0 := ht.1
    obtain ⟨a, vx, vy, rfl, ha, hb, hx, hy⟩ := ht.2
    replace hx : TreeN n₀ W x vx := ⟨hz0, hx⟩
    replace hy : TreeN n₀ W y vy := ⟨hz0, hy⟩
    have hB := Bel.refl n₀ W hz0
    have hJJ : JAt J pre W.heap.size W := ⟨hY.1, W, rfl, hJ, Ltr.refl _⟩
    clear hJ
    obtain ⟨r, hok⟩ := hok
    rw [Tr.len_fork] at hs
    obtain ⟨fs, xs, es, cs⟩ := inv_sizeN hx
    have hL0 := Bel.refl n₀ W hz0
    by_cases hlt : f < x.bytes.length
    · rw [piecesF, if_pos hlt] at hok
      refine (callsIn_wide (n := 0)).1 ?_
      refine callsIn_of_wp Tryd.func79 rfl trivial ?_ rfl
      simp only [Tryd.ntmps79, List.size_toArray, List.length_cons, List.length_nil, Nat.reduceAdd, Nat.reduceSub, Array.replicate_succ, Array.replicate_zero, List.push_toArray, List.append_toArray, List.nil_append, List.cons_append]
      rw [Fn_none]
      have hlt_hb := hb.lt
      refine wpIn_seq_k fun KK1 hKK1 => ?_
      refine rj_begin fun hgK hgo => ?_
      refine rj_take (some 6) (.bool false) rfl (by kernel_rfl) (by kernel_rfl) ?_
      try simp only [pa, pn, pb, pc, pd]
      refine rj_nil ?_
      refine hgo.out _ _ ?_
      clear hgo hgK
      refine hKK1 _ _ ?_
      refine wpIn_seq_k fun KK2 hKK2 => ?_
      refine wpIn_seq_k fun KK3 hKK3 => ?_
      refine rj_begin fun hgK hgo => ?_
      refine rj_take (some 11) (.iface 111 (.pointer (some ⟨a, 0, none⟩))) rfl (by kernel_rfl) (by kernel_rfl) ?_
      try simp only [pa, pn, pb, pc, pd]
      refine rj_nil ?_
      refine hgo.out _ _ ?_
      clear hgo hgK
      refine hKK3 _ _ ?_
      refine wpIn_block ?_
      refine wpIn_seq_k fun KK4 hKK4 => ?_
      refine rj_begin fun hgK hgo => ?_
      refine rj_take (some 12) (.tuple #[.agg #[.pointer none], .bool false]) rfl (by kernel_rfl) (by kernel_rfl) ?_
      try simp only [pa, pn, pb, pc, pd]
      refine rj_take (some 13) (.bool false) rfl (by kernel_rfl) (by kernel_rfl) ?_
      try simp only [pa, pn, pb, pc, pd]
      refine rj_take (some 14) (.agg #[.pointer none]) rfl (by kernel_rfl) (by kernel_rfl) ?_
      try simp only [pa, pn, pb, pc, pd]
      refine rj_nil ?_
      refine hgo.out _ _ ?_
      clear hgo hgK
      refine hKK4 _ _ ?_
      refine wpIn_cond_false (by kernel_rfl) ?_
      refine wpIn_seq_k fun KK5 hKK5 => ?_
      refine rj_begin fun hgK hgo => ?_
      refine rj_take (some 29) (.tuple #[.pointer (some ⟨a, 0, none⟩), .bool true]) rfl (by kernel_rfl) (by kernel_rfl) ?_
      try simp only [pa, pn, pb, pc, pd]
      refine rj_take (some 30) (.bool true) rfl (by kernel_rfl) (by kernel_rfl) ?_
      try simp only [pa, pn, pb, pc, pd]
      refine rj_take (some 31) (.pointer (some ⟨a, 0, none⟩)) rfl (by kernel_rfl) (by kernel_rfl) ?_
      try simp only [pa, pn, pb, pc, pd]
      refine rj_nil ?_
      refine hgo.out _ _ ?_
      clear hgo hgK
      refine hKK5 _ _ ?_
      refine wpIn_cond_true (by kernel_rfl) ?_
      refine wpIn_seq_k fun KK6 hKK6 => ?_
      refine rj_begin fun hgK hgo => ?_
      refine rj_take (some 9) (.pointer (some ⟨a, 0, none⟩)) rfl (by kernel_rfl) (by kernel_rfl) ?_
      try simp only [pa, pn, pb, pc, pd]
      refine rj_nil ?_
      refine hgo.out _ _ ?_
      clear hgo hgK
      refine hKK6 _ _ ?_
      refine wpIn_seq_k fun KK7 hKK7 => ?_
      refine rj_begin fun hgK hgo => ?_
      refine rj_take (some 32) (.pointer (some ⟨a, 0, none⟩)) rfl (by kernel_rfl) (by kernel_rfl) ?_
      try simp only [pa, pn, pb, pc, pd]
      refine rj_take (some 33) (.pointer (some ⟨a, 0, none⟩)) rfl (by kernel_rfl) (by kernel_rfl) ?_
      try simp only [pa, pn, pb, pc, pd]
      refine rj_take (some 34) (.pointer (some ⟨a, 0, none⟩)) rfl (by kernel_rfl) (by kernel_rfl) ?_
      try simp only [pa, pn, pb, pc, pd]
      refine rj_take (some 35) (vx) rfl (by kernel_rfl) (by exact ld1 108 _ rfl a 0 rfl (fun _ => by kernel_rfl) _ (hb.cell 0)) ?_
      try simp only [pa, pn, pb, pc, pd]
      refine rj_call (some 36) fs #[xs] rfl (by kernel_rfl) (by exact es _ _ _ _ rfl rfl) (cs _ hL0) ?_
      rintro e w8 ⟨rfl, hL8⟩
      refine ⟨_, rfl, ?_⟩
      replace hJJ := hJJ.later hL8
      replace hB := hB.later hL8
      replace hx := hx.later hL8
      replace hy := hy.later hL8
      replace hL0 := hL0.later hL8
      replace hb := hb.later hL8
      have hz8 := hL8.size
      try simp only [pa, pn, pb, pc, pd]
      refine rj_take (some 10) (.int .i64 x.bytes.length) rfl (by kernel_rfl) (by kernel_rfl) ?_
      try simp only [pa, pn, pb, pc, pd]
      refine rj_nil ?_
      refine hgo.out _ _ ?_
      clear hgo hgK
      refine hKK7 _ _ ?_
      refine wpIn_seq_k fun KK9 hKK9 => ?_
      refine wpIn_seq_k fun KK10 hKK10 => ?_
      refine rj_begin fun hgK hgo => ?_
      refine rj_take (some 37) (.int .i64 f) rfl (by kernel_rfl) (by kernel_rfl) ?_
      try simp only [pa, pn, pb, pc, pd]
      refine rj_take (some 38) (.int .i64 x.bytes.length) rfl (by kernel_rfl) (by kernel_rfl) ?_
      try simp only [pa, pn, pb, pc, pd]
      refine rj_take (some 39) (.bool true) rfl (by kernel_rfl) (by exact ex_bool (c := (f : Int) < x.bytes.length) (by kernel_rfl) ⟨fun _ => by omega, fun _ => rfl⟩) ?_
      try simp only [pa, pn, pb, pc, pd]
      refine rj_take (some 40) (.bool true) rfl (by kernel_rfl) (by kernel_rfl) ?_
      try simp only [pa, pn, pb, pc, pd]
      refine rj_take (some 41) (.pointer (some ⟨a, 0, none⟩)) rfl (by kernel_rfl) (by kernel_rfl) ?_
      try simp only [pa, pn, pb, pc, pd]
      refine rj_take (some 42) (.pointer (some ⟨a, 0, none⟩)) rfl (by kernel_rfl) (by kernel_rfl) ?_
      try simp only [pa, pn, pb, pc, pd]
      refine rj_take (some 43) (.pointer (some ⟨a, 0, none⟩)) rfl (by kernel_rfl) (by kernel_rfl) ?_
      try simp only [pa, pn, pb, pc, pd]
      refine rj_take (some 44) (vx) rfl (by kernel_rfl) (by exact ld1 108 _ rfl a 0 rfl (fun _ => by kernel_rfl) _ (hb.cell 0)) ?_
      try simp only [pa, pn, pb, pc, pd]
      refine rj_take (some 45) (.int .i64 f) rfl (by kernel_rfl) (by kernel_rfl) ?_
      try simp only [pa, pn, pb, pc, pd]
      refine rj_take (some 46) (.func (.yield lp) #[] #[]) rfl (by kernel_rfl) (by kernel_rfl) ?_
      try simp only [pa, pn, pb, pc, pd]
      refine rj_call (some 47) 79 #[vx, .int .i64 f, .func (.yield lp) #[] #[]] rfl (by kernel_rfl) (by kernel_rfl) (ihx vx f pre _ hx hJJ.get ⟨_, by rw [← hok]; simp only [List.append_assoc]; rfl⟩ hf (by omega)) ?_
      rintro e w11 (⟨rfl, hb9, xs1, hm9, hJ9⟩ | ⟨rfl, p9, hp9, hJ9⟩)
      · refine ⟨_, rfl, ?_⟩
        replace hB := hB.bel hb9.2 (by omega)
        replace hx := hx.bel hb9.2 (by omega)
        replace hy := hy.bel hb9.2 (by omega)
        replace hL0 := hL0.bel hb9.2 (by omega)
        replace hb := hb.bel hb9.2 (by omega)
        have hz11 := (hb9.2).size
        try simp only [pa, pn, pb, pc, pd]
        refine rj_take (some 48) (.bool false) rfl (by kernel_rfl) (by kernel_rfl) ?_
        try simp only [pa, pn, pb, pc, pd]
        refine rj_take (some 49) (.bool false) rfl (by kernel_rfl) (by kernel_rfl) ?_
        try simp only [pa, pn, pb, pc, pd]
        refine rj_nil ?_
        refine hgo.out _ _ ?_
        clear hgo hgK
        refine hKK10 _ _ ?_
        refine wpIn_cond_false (by kernel_rfl) ?_
        refine wpIn_skip ?_
        refine hKK9 _ _ ?_
        refine wpIn_seq_k fun KK12 hKK12 => ?_
        refine rj_begin fun hgK hgo => ?_
        refine rj_take (some 50) (.pointer (some ⟨a, 0, none⟩)) rfl (by kernel_rfl) (by kernel_rfl) ?_
        try simp only [pa, pn, pb, pc, pd]
        refine rj_take (some 51) (.pointer (some ⟨a, 0, none⟩)) rfl (by kernel_rfl) (by kernel_rfl) ?_
        try simp only [pa, pn, pb, pc, pd]
        refine rj_take (some 52) (.pointer (some ⟨a, 1, none⟩)) rfl (by kernel_rfl) (by kernel_rfl) ?_
        try simp only [pa, pn, pb, pc, pd]
        refine rj_take (some 53) (vy) rfl (by kernel_rfl) (by exact ld1 108 _ rfl a 1 rfl (fun _ => by kernel_rfl) _ (hb.cell 1)) ?_
        try simp only [pa, pn, pb, pc, pd]
        refine rj_take (some 54) (.int .i64 f) rfl (by kernel_rfl) (by kernel_rfl) ?_
        try simp only [pa, pn, pb, pc, pd]
        refine rj_take (some 55) (.int .i64 x.bytes.length) rfl (by kernel_rfl) (by kernel_rfl) ?_
        try simp only [pa, pn, pb, pc, pd]
        refine rj_take (some 56) (.int .i64 ((f : Int) - x.bytes.length)) rfl (by kernel_rfl) (by exact ex_arith (e := (f : Int) - x.bytes.length) (r := (f : Int) - x.bytes.length) (by kernel_rfl) (by omega) (by omega)) ?_
        try simp only [pa, pn, pb, pc, pd]
        refine rj_take (some 57) (.int .i64 (((f - x.bytes.length : Nat) : Int))) rfl (by kernel_rfl) (by exact ex_max2 (a := 0) (b := ((f : Int) - x.bytes.length)) rfl rfl rfl (r := ((f - x.bytes.length : Nat) : Int)) (by omega)) ?_
        try simp only [pa, pn, pb, pc, pd]
        refine rj_take (some 58) (.func (.yield lp) #[] #[]) rfl (by kernel_rfl) (by kernel_rfl) ?_
        try simp only [pa, pn, pb, pc, pd]
        refine rj_call (some 59) 79 #[vy, .int .i64 (((f - x.bytes.length : Nat) : Int)), .func (.yield lp) #[] #[]] rfl (by kernel_rfl) (by kernel_rfl) (ihy vy _ _ _ hy hJ9 ⟨r, by rw [← hok, List.map_append, hm9]; simp only [List.append_assoc]⟩ (by omega) (by omega)) ?_
        rintro e w13 (⟨rfl, hb11, xs2, hm11, hJ11⟩ | ⟨rfl, p11, hp11, hJ11⟩)
        · refine ⟨_, rfl, ?_⟩
          try simp only [pa, pn, pb, pc, pd]
          refine rj_take (some 6) (.bool true) rfl (by kernel_rfl) (by kernel_rfl) ?_
          try simp only [pa, pn, pb, pc, pd]
          refine rj_nil ?_
          refine hgo.out _ _ ?_
          clear hgo hgK
          refine hKK12 _ _ ?_
          refine wpIn_ret ?_
          try simp only [Exit.then, Exit.inBlock]
          refine bp_ret (v := .bool true) (res1 rfl (res_tmp (by kernel_rfl))) ?_
          exact .inl ⟨rfl, ⟨hB.1, hB.2.trans hb11.2⟩, xs1 ++ xs2, by rw [piecesF, if_pos hlt, List.map_append, hm9, hm11], by rw [← List.append_assoc]; exact hJ11⟩
        · refine ⟨_, rfl, ?_⟩
          try simp only [pa, pn, pb, pc, pd]
          refine rj_take (some 6) (.bool false) rfl (by kernel_rfl) (by kernel_rfl) ?_
          try simp only [pa, pn, pb, pc, pd]
          refine rj_nil ?_
          refine hgo.out _ _ ?_
          clear hgo hgK
          refine hKK12 _ _ ?_
          refine wpIn_ret ?_
          try simp only [Exit.then, Exit.inBlock]
          refine bp_ret (v := .bool false) (res1 rfl (res_tmp (by kernel_rfl))) ?_
          exact .inr ⟨rfl, p11, hp11, hJ11⟩
      · refine ⟨_, rfl, ?_⟩
        try simp only [pa, pn, pb, pc, pd]
        refine rj_take (some 48) (.bool true) rfl (by kernel_rfl) (by kernel_rfl) ?_
        try simp only [pa, pn, pb, pc, pd]
        refine rj_take (some 49) (.bool true) rfl (by kernel_rfl) (by kernel_rfl) ?_
        try simp only [pa, pn, pb, pc, pd]
        refine rj_nil ?_
        refine hgo.out _ _ ?_
        clear hgo hgK
        refine hKK10 _ _ ?_
        refine wpIn_cond_true (by kernel_rfl) ?_
        refine wpIn_seq_k fun KK14 hKK14 => ?_
        refine rj_begin fun hgK hgo => ?_
        refine rj_take (some 6) (.bool false) rfl (by kernel_rfl) (by kernel_rfl) ?_
        try simp only [pa, pn, pb, pc, pd]
        refine rj_nil ?_
        refine hgo.out _ _ ?_
        clear hgo hgK
        refine hKK14 _ _ ?_
        refine wpIn_ret ?_
        try simp only [Exit.then, Exit.inBlock]
        refine bp_ret (v := .bool false) (res1 rfl (res_tmp (by kernel_rfl))) ?_
        exact .inr ⟨rfl, p9, hp9, hJ9⟩
    · rw [piecesF, if_neg hlt, List.nil_append] at hok
      refine (callsIn_wide (n := 0)).1 ?_
      refine callsIn_of_wp Tryd.func79 rfl trivial ?_ rfl
      simp only [Tryd.ntmps79, List.size_toArray, List.length_cons, List.length_nil, Nat.reduceAdd, Nat.reduceSub, Array.replicate_succ, Array.replicate_zero, List.push_toArray, List.append_toArray, List.nil_append, List.cons_append]
      rw [Fn_none]
      have hlt_hb := hb.lt
      refine wpIn_seq_k fun KK1 hKK1 => ?_
      refine rj_begin fun hgK hgo => ?_
      refine rj_take (some 6) (.bool false) rfl (by kernel_rfl) (by kernel_rfl) ?_
      try simp only [pa, pn, pb, pc, pd]
      refine rj_nil ?_
      refine hgo.out _ _ ?_
      clear hgo hgK
      refine hKK1 _ _ ?_
      refine wpIn_seq_k fun KK2 hKK2 => ?_
      refine wpIn_seq_k fun KK3 hKK3 => ?_
      refine rj_begin fun hgK hgo => ?_
      refine rj_take (some 11) (.iface 111 (.pointer (some ⟨a, 0, none⟩))) rfl (by kernel_rfl) (by kernel_rfl) ?_
      try simp only [pa, pn, pb, pc, pd]
      refine rj_nil ?_
      refine hgo.out _ _ ?_
      clear hgo hgK
      refine hKK3 _ _ ?_
      refine wpIn_block ?_
      refine wpIn_seq_k fun KK4 hKK4 => ?_
      refine rj_begin fun hgK hgo => ?_
      refine rj_take (some 12) (.tuple #[.agg #[.pointer none], .bool false]) rfl (by kernel_rfl) (by kernel_rfl) ?_
      try simp only [pa, pn, pb, pc, pd]
      refine rj_take (some 13) (.bool false) rfl (by kernel_rfl) (by kernel_rfl) ?_
      try simp only [pa, pn, pb, pc, pd]
      refine rj_take (some 14) (.agg #[.pointer none]) rfl (by kernel_rfl) (by kernel_rfl) ?_
      try simp only [pa, pn, pb, pc, pd]
      refine rj_nil ?_
      refine hgo.out _ _ ?_
      clear hgo hgK
      refine hKK4 _ _ ?_
      refine wpIn_cond_false (by kernel_rfl) ?_
      refine wpIn_seq_k fun KK5 hKK5 => ?_
      refine rj_begin fun hgK hgo => ?_
      refine rj_take (some 29) (.tuple #[.pointer (some ⟨a, 0, none⟩), .bool true]) rfl (by kernel_rfl) (by kernel_rfl) ?_
      try simp only [pa, pn, pb, pc, pd]
      refine rj_take (some 30) (.bool true) rfl (by kernel_rfl) (by kernel_rfl) ?_
      try simp only [pa, pn, pb, pc, pd]
      refine rj_take (some 31) (.pointer (some ⟨a, 0, none⟩)) rfl (by kernel_rfl) (by kernel_rfl) ?_
      try simp only [pa, pn, pb, pc, pd]
      refine rj_nil ?_
      refine hgo.out _ _ ?_
      clear hgo hgK
      refine hKK5 _ _ ?_
      refine wpIn_cond_true (by kernel_rfl) ?_
      refine wpIn_seq_k fun KK6 hKK6 => ?_
      refine rj_begin fun hgK hgo => ?_
      refine rj_take (some 9) (.pointer (some ⟨a, 0, none⟩)) rfl (by kernel_rfl) (by kernel_rfl) ?_
      try simp only [pa, pn, pb, pc, pd]
      refine rj_nil ?_
      refine hgo.out _ _ ?_
      clear hgo hgK
      refine hKK6 _ _ ?_
      refine wpIn_seq_k fun KK7 hKK7 => ?_
      refine rj_begin fun hgK hgo => ?_
      refine rj_take (some 32) (.pointer (some ⟨a, 0, none⟩)) rfl (by kernel_rfl) (by kernel_rfl) ?_
      try simp only [pa, pn, pb, pc, pd]
      refine rj_take (some 33) (.pointer (some ⟨a, 0, none⟩)) rfl (by kernel_rfl) (by kernel_rfl) ?_
      try simp only [pa, pn, pb, pc, pd]
      refine rj_take (some 34) (.pointer (some ⟨a, 0, none⟩)) rfl (by kernel_rfl) (by kernel_rfl) ?_
      try simp only [pa, pn, pb, pc, pd]
      refine rj_take (some 35) (vx) rfl (by kernel_rfl) (by exact ld1 108 _ rfl a 0 rfl (fun _ => by kernel_rfl) _ (hb.cell 0)) ?_
      try simp only [pa, pn, pb, pc, pd]
      refine rj_call (some 36) fs #[xs] rfl (by kernel_rfl) (by exact es _ _ _ _ rfl rfl) (cs _ hL0) ?_
      rintro e w8 ⟨rfl, hL8⟩
      refine ⟨_, rfl, ?_⟩
      replace hJJ := hJJ.later hL8
      replace hB := hB.later hL8
      replace hx := hx.later hL8
      replace hy := hy.later hL8
      replace hL0 := hL0.later hL8
      replace hb := hb.later hL8
      have hz8 := hL8.size
      try simp only [pa, pn, pb, pc, pd]
      refine rj_take (some 10) (.int .i64 x.bytes.length) rfl (by kernel_rfl) (by kernel_rfl) ?_
      try simp only [pa, pn, pb, pc, pd]
      refine rj_nil ?_
      refine hgo.out _ _ ?_
      clear hgo hgK
      refine hKK7 _ _ ?_
      refine wpIn_seq_k fun KK9 hKK9 => ?_
      refine wpIn_seq_k fun KK10 hKK10 => ?_
      refine rj_begin fun hgK hgo => ?_
      refine rj_take (some 37) (.int .i64 f) rfl (by kernel_rfl) (by kernel_rfl) ?_
      try simp only [pa, pn, pb, pc, pd]
      refine rj_take (some 38) (.int .i64 x.bytes.length) rfl (by kernel_rfl) (by kernel_rfl) ?_
      try simp only [pa, pn, pb, pc, pd]
      refine rj_take (some 39) (.bool false) rfl (by kernel_rfl) (by exact ex_bool (c := (f : Int) < x.bytes.length) (by kernel_rfl) ⟨fun q => (by cases q), fun q => absurd q (by omega)⟩) ?_
      try simp only [pa, pn, pb, pc, pd]
      refine rj_take (some 40) (.bool false) rfl (by kernel_rfl) (by kernel_rfl) ?_
      try simp only [pa, pn, pb, pc, pd]
      refine rj_pass (some 41) rfl (by kernel_rfl) ?_
      try simp only [pa, pn, pb, pc, pd]
      refine rj_pass (some 42) rfl (by kernel_rfl) ?_
      try simp only [pa, pn, pb, pc, pd]
      refine rj_pass (some 43) rfl (by kernel_rfl) ?_
      try simp only [pa, pn, pb, pc, pd]
      refine rj_pass (some 44) rfl (by kernel_rfl) ?_
      try simp only [pa, pn, pb, pc, pd]
      refine rj_pass (some 45) rfl (by kernel_rfl) ?_
      try simp only [pa, pn, pb, pc, pd]
      refine rj_pass (some 46) rfl (by kernel_rfl) ?_
      try simp only [pa, pn, pb, pc, pd]
      refine rj_pass (some 47) rfl (by kernel_rfl) ?_
      try simp only [pa, pn, pb, pc, pd]
      refine rj_pass (some 48) rfl (by kernel_rfl) ?_
      try simp only [pa, pn, pb, pc, pd]
      refine rj_take (some 49) (.bool false) rfl (by kernel_rfl) (by kernel_rfl) ?_
      try simp only [pa, pn, pb, pc, pd]
      refine rj_nil ?_
      refine hgo.out _ _ ?_
      clear hgo hgK
      refine hKK10 _ _ ?_
      refine wpIn_cond_false (by kernel_rfl) ?_
      refine wpIn_skip ?_
      refine hKK9 _ _ ?_
      refine wpIn_seq_k fun KK11 hKK11 => ?_
      refine rj_begin fun hgK hgo => ?_
      refine rj_take (some 50) (.pointer (some ⟨a, 0, none⟩)) rfl (by kernel_rfl) (by kernel_rfl) ?_
      try simp only [pa, pn, pb, pc, pd]
      refine rj_take (some 51) (.pointer (some ⟨a, 0, none⟩)) rfl (by kernel_rfl) (by kernel_rfl) ?_
      try simp only [pa, pn, pb, pc, pd]
      refine rj_take (some 52) (.pointer (some ⟨a, 1, none⟩)) rfl (by kernel_rfl) (by kernel_rfl) ?_
      try simp only [pa, pn, pb, pc, pd]
      refine rj_take (some 53) (vy) rfl (by kernel_rfl) (by exact ld1 108 _ rfl a 1 rfl (fun _ => by kernel_rfl) _ (hb.cell 1)) ?_
      try simp only [pa, pn, pb, pc, pd]
      refine rj_take (some 54) (.int .i64 f) rfl (by kernel_rfl) (by kernel_rfl) ?_
      try simp only [pa, pn, pb, pc, pd]
      refine rj_take (some 55) (.int .i64 x.bytes.length) rfl (by kernel_rfl) (by kernel_rfl) ?_
      try simp only [pa, pn, pb, pc, pd]
      refine rj_take (some 56) (.int .i64 ((f : Int) - x.bytes.length)) rfl (by kernel_rfl) (by exact ex_arith (e := (f : Int) - x.bytes.length) (r := (f : Int) - x.bytes.length) (by kernel_rfl) (by omega) (by omega)) ?_
      try simp only [pa, pn, pb, pc, pd]
      refine rj_take (some 57) (.int .i64 (((f - x.bytes.length : Nat) : Int))) rfl (by kernel_rfl) (by exact ex_max2 (a := 0) (b := ((f : Int) - x.bytes.length)) rfl rfl rfl (r := ((f - x.bytes.length : Nat) : Int)) (by omega)) ?_
      try simp only [pa, pn, pb, pc, pd]
      refine rj_take (some 58) (.func (.yield lp) #[] #[]) rfl (by kernel_rfl) (by kernel_rfl) ?_
      try simp only [pa, pn, pb, pc, pd]
      refine rj_call (some 59) 79 #[vy, .int .i64 (((f - x.bytes.length : Nat) : Int)), .func (.yield lp) #[] #[]] rfl (by kernel_rfl) (by kernel_rfl) (ihy vy _ _ _ hy hJJ.get ⟨r, by rw [← hok]⟩ (by omega) (by omega)) ?_
      rintro e w12 (⟨rfl, hb11, xs2, hm11, hJ11⟩ | ⟨rfl, p11, hp11, hJ11⟩)
      · refine ⟨_, rfl, ?_⟩
        try simp only [pa, pn, pb, pc, pd]
        refine rj_take (some 6) (.bool true) rfl (by kernel_rfl) (by kernel_rfl) ?_
        try simp only [pa, pn, pb, pc, pd]
        refine rj_nil ?_
        refine hgo.out _ _ ?_
        clear hgo hgK
        refine hKK11 _ _ ?_
        refine wpIn_ret ?_
        try simp only [Exit.then, Exit.inBlock]
        refine bp_ret (v := .bool true) (res1 rfl (res_tmp (by kernel_rfl))) ?_
        exact .inl ⟨rfl, ⟨hB.1, hB.2.trans hb11.2⟩, xs2, by rw [piecesF, if_neg hlt, List.nil_append, hm11], hJ11⟩
      · refine ⟨_, rfl, ?_⟩
        try simp only [pa, pn, pb, pc, pd]
        refine rj_take (some 6) (.bool false) rfl (by kernel_rfl) (by kernel_rfl) ?_
        try simp only [pa, pn, pb, pc, pd]
        refine rj_nil ?_
        refine hgo.out _ _ ?_
        clear hgo hgK
        refine hKK11 _ _ ?_
        refine wpIn_ret ?_
        try simp only [Exit.then, Exit.inBlock]
        refine bp_ret (v := .bool false) (res1 rfl (res_tmp (by kernel_rfl))) ?_
        exact .inr ⟨rfl, p11, hp11, hJ11⟩
end Go.Proofs.YtliphfgiaioebaaDoor
