/-
  Package rope: backwards.
-/
import Derived.Test.YtliphfgiaioebaaDoorPieces
namespace Go.Proofs.YtliphfgiaioebaaDoor
set_option linter.unusedVariables false
set_option linter.unusedSimpArgs false
open Go.RowKit
theorem ex_cut3 {o : Oper} {ρ : Operand → Value} {ty : TypeId} {x z z' : Operand} {A : Option Addr} {c n : Nat} (m : Nat) (ho : o.op = .slice ty x none (some z) (some z')) (hx : ρ x = .slice A n c)
    (hz : ρ z = .int .i64 (m : Int)) (hz' : ρ z' = .int .i64 (m : Int)) (hu : Tryd.prog.underlying ty = some (.slice (Tryd.prog.elem ty))) (hs : ∀ w, (sizeOf (Tryd.prog.elem ty)).run Tryd.prog w = .ok 1 w)
    (h2 : m ≤ c) (w : World) :
    (execOp ρ o).run Tryd.prog w = .ok (.value (.slice (cutA A m 0) m m)) w := by
  have key : (Instr.slice ty (.slice A n c) none (some (.int .i64 (m : Int))) (some (.int .i64 (m : Int)))).run Tryd.prog w = .ok (.slice (cutA A m 0) m m) w := by
    rw [run_slice_hm w ty A _ c hu .i64 .i64 m m (by omega) (by omega) (by omega)]
    simp only [hs, Result.andThen_ok, Int.toNat_natCast, sliced, cutA, Nat.mul_one, Nat.sub_zero]
  unfold execOp
  simp only [ho, hx, Sem.run_bind, run_sliceAt_slice w ty _ _ _ _ hu, Option.map_none, Option.map_some, hz, hz', key, Result.andThen_ok, Sem.run_pure]
theorem BRow.cut3 {n : Nat} {w : World} {A : Option Addr} {c : Nat} {l : List UInt8} (h : BRow n w A c l) (m : Nat) (h2 : m ≤ l.length) : BRow n w (cutA A m 0) m (l.take m) := by
  obtain ⟨k1, k2, g, off, rfl, h3, h4, h5⟩ := h
  have hlen : (l.take m).length = m := by rw [List.length_take]; omega
  refine ⟨k1, by omega, g, off, ?_, h3, h4, fun i hi => ?_⟩
  · unfold cutA; split <;> simp [add_none]
  · have h6 := h5 i (by omega)
    refine ⟨?_, h6.2⟩
    rw [h6.1]; unfold gb
    rw [List.getD_eq_getElem?_getD, List.getD_eq_getElem?_getD, List.getElem?_take, if_pos (by omega)]
set_option maxRecDepth 100000 in
set_option maxHeartbeats 8000000 in
theorem backwards_any (n₀ lp : Nat) (ps : List (List UInt8)) (J Jx : List Pc → World → Prop) (hY : YieldsP n₀ lp ps J Jx) :
    ∀ (s : Tr) (vs : Value) (f : Nat) (pre : List Pc) (W : World), TreeN n₀ W s vs → J pre W → (∃ r, pre.map pcB ++ piecesB s f ++ r = ps) → f ≤ 1000000000 → s.bytes.length ≤ 1000000000 →
      Calls Tryd.prog 78 #[vs, .int .i64 f, .func (.yield lp) #[] #[]] W (WalkP n₀ ps (piecesB s f) J Jx pre W) := by
  intro s
  induction s with
  | tip l =>
    intro vs f pre W ht hJ hok hf hs
    obtain ⟨hz0, a, rfl, ha, hl⟩ := ht
    have hB := Bel.refl n₀ W hz0
    have hJJ : JAt J pre W.heap.size W := ⟨hY.1, W, rfl, hJ, Ltr.refl _⟩
    clear hJ
    have hY2 := hY.2.2
    obtain ⟨r, hok⟩ := hok
    simp only [Tr.bytes] at hs
    obtain ⟨m, hm⟩ : ∃ m, m = min f l.length := ⟨_, rfl⟩
    have hml : (l.take m).length = m := by rw [List.length_take]; omega
    by_cases hlt : m = 0
    · skip
      refine (callsIn_wide (n := 0)).1 ?_
      refine callsIn_of_wp Tryd.func78 rfl trivial ?_ rfl
      simp only [Tryd.ntmps78, List.size_toArray, List.length_cons, List.length_nil, Nat.reduceAdd, Nat.reduceSub, Array.replicate_succ, Array.replicate_zero, List.push_toArray, List.append_toArray, List.nil_append, List.cons_append]
      rw [Fn_none]
      refine wpIn_seq_k fun KK1 hKK1 => ?_
      refine rj_begin fun hgK hgo => ?_
      refine rj_take (some 6) (.bool false) rfl (by kernel_rfl) (by kernel_rfl) ?_
      try simp only [pa, pn, pb, pc, pd]
      refine rj_nil ?_
      refine hgo.out _ _ ?_
      clear hgo hgK
      refine hKK1 _ _ ?_
      refine wpIn_seq_k fun KK2 hKK2 => ?_
      refine wpIn_seq_k fun KK3 hKK3 => ?_
      refine rj_begin fun hgK hgo => ?_
      refine rj_take (some 11) (.iface 118 (.agg #[.pointer (some ⟨a, 0, none⟩)])) rfl (by kernel_rfl) (by kernel_rfl) ?_
      try simp only [pa, pn, pb, pc, pd]
      refine rj_nil ?_
      refine hgo.out _ _ ?_
      clear hgo hgK
      refine hKK3 _ _ ?_
      refine wpIn_block ?_
      refine wpIn_seq_k fun KK4 hKK4 => ?_
      refine rj_begin fun hgK hgo => ?_
      refine rj_take (some 12) (.tuple #[.agg #[.pointer (some ⟨a, 0, none⟩)], .bool true]) rfl (by kernel_rfl) (by kernel_rfl) ?_
      try simp only [pa, pn, pb, pc, pd]
      refine rj_take (some 13) (.bool true) rfl (by kernel_rfl) (by kernel_rfl) ?_
      try simp only [pa, pn, pb, pc, pd]
      refine rj_take (some 14) (.agg #[.pointer (some ⟨a, 0, none⟩)]) rfl (by kernel_rfl) (by kernel_rfl) ?_
      try simp only [pa, pn, pb, pc, pd]
      refine rj_nil ?_
      refine hgo.out _ _ ?_
      clear hgo hgK
      refine hKK4 _ _ ?_
      refine wpIn_cond_true (by kernel_rfl) ?_
      refine wpIn_seq_k fun KK5 hKK5 => ?_
      refine rj_begin fun hgK hgo => ?_
      refine rj_alloc (some 7) 118 #[.pointer none] rfl (by kernel_rfl) (fun W => by kernel_rfl) fun q w6 hL6 hp6 hq => ?_
      replace hJJ := hJJ.later hL6
      replace hB := hB.later hL6
      replace hl := hl.later hL6
      have hz6 := hL6.size
      have hlt6 := hq.lt
      try simp only [pa, pn, pb, pc, pd]
      refine rj_store q #[.pointer (some ⟨a, 0, none⟩)] rfl rfl (by kernel_rfl) rfl rfl (by kernel_rfl) hq rfl (by kernel_rfl) fun w7 hU7 hn7 => ?_
      have hz7 := hU7.size
      replace hJJ := hJJ.upd hU7 (by omega)
      replace hB := hB.upd hU7 (by omega)
      replace hl := hl.upd hU7 (by omega)
      clear hq
      have hq := hn7
      clear hn7
      try simp only [pa, pn, pb, pc, pd]
      refine rj_nil ?_
      refine hgo.out _ _ ?_
      clear hgo hgK
      refine hKK5 _ _ ?_
      refine wpIn_seq_k fun KK8 hKK8 => ?_
      refine rj_begin fun hgK hgo => ?_
      refine rj_take (some 15) (.pointer (some ⟨q, 0, none⟩)) rfl (by kernel_rfl) (by kernel_rfl) ?_
      try simp only [pa, pn, pb, pc, pd]
      refine rj_take (some 16) (.pointer (some ⟨a, 0, none⟩)) rfl (by kernel_rfl) (by exact ld1 116 _ rfl q 0 rfl (fun _ => by kernel_rfl) _ (hq.cell 0)) ?_
      try simp only [pa, pn, pb, pc, pd]
      refine rj_call (some 17) 100 #[.pointer (some ⟨a, 0, none⟩)] rfl (by kernel_rfl) (by kernel_rfl) (LBytes_own a l _ hl) ?_
      rintro e w9 ⟨A1, c1, rfl, hL9, hA⟩
      refine ⟨_, rfl, ?_⟩
      replace hJJ := hJJ.later hL9
      replace hB := hB.later hL9
      replace hl := hl.later hL9
      replace hq := hq.later hL9
      have hz9 := hL9.size
      try simp only [pa, pn, pb, pc, pd]
      refine rj_take (some 8) (.slice A1 l.length c1) rfl (by kernel_rfl) (by kernel_rfl) ?_
      try simp only [pa, pn, pb, pc, pd]
      refine rj_nil ?_
      refine hgo.out _ _ ?_
      clear hgo hgK
      refine hKK8 _ _ ?_
      refine wpIn_seq_k fun KK10 hKK10 => ?_
      refine rj_begin fun hgK hgo => ?_
      refine rj_take (some 18) (.int .i64 f) rfl (by kernel_rfl) (by kernel_rfl) ?_
      try simp only [pa, pn, pb, pc, pd]
      refine rj_take (some 19) (.slice A1 l.length c1) rfl (by kernel_rfl) (by kernel_rfl) ?_
      try simp only [pa, pn, pb, pc, pd]
      refine rj_take (some 20) (.int .i64 l.length) rfl (by kernel_rfl) (by kernel_rfl) ?_
      try simp only [pa, pn, pb, pc, pd]
      refine rj_take (some 21) (.int .i64 ((m : Int))) rfl (by kernel_rfl) (by exact ex_min2 (a := f) (b := l.length) rfl rfl rfl (r := (m : Int)) (by omega)) ?_
      try simp only [pa, pn, pb, pc, pd]
      refine rj_take (some 1) (.int .i64 ((m : Int))) rfl (by kernel_rfl) (by kernel_rfl) ?_
      try simp only [pa, pn, pb, pc, pd]
      refine rj_nil ?_
      refine hgo.out _ _ ?_
      clear hgo hgK
      refine hKK10 _ _ ?_
      refine wpIn_seq_k fun KK11 hKK11 => ?_
      refine rj_begin fun hgK hgo => ?_
      refine rj_take (some 22) (.int .i64 ((m : Int))) rfl (by kernel_rfl) (by kernel_rfl) ?_
      try simp only [pa, pn, pb, pc, pd]
      refine rj_take (some 23) (.bool true) rfl (by kernel_rfl) (by exact ex_bool (c := ((m : Int) : Int) ≤ 0) (by kernel_rfl) ⟨fun _ => by omega, fun _ => rfl⟩) ?_
      try simp only [pa, pn, pb, pc, pd]
      refine rj_take (some 24) (.bool true) rfl (by kernel_rfl) (by kernel_rfl) ?_
      try simp only [pa, pn, pb, pc, pd]
      refine rj_pass (some 25) rfl (by kernel_rfl) ?_
      try simp only [pa, pn, pb, pc, pd]
      refine rj_pass (some 26) rfl (by kernel_rfl) ?_
      try simp only [pa, pn, pb, pc, pd]
      refine rj_pass (some 27) rfl (by kernel_rfl) ?_
      try simp only [pa, pn, pb, pc, pd]
      refine rj_pass (some 28) rfl (by kernel_rfl) ?_
      try simp only [pa, pn, pb, pc, pd]
      refine rj_pass (some 29) rfl (by kernel_rfl) ?_
      try simp only [pa, pn, pb, pc, pd]
      refine rj_pass (some 30) rfl (by kernel_rfl) ?_
      try simp only [pa, pn, pb, pc, pd]
      refine rj_take (some 31) (.bool true) rfl (by kernel_rfl) (by kernel_rfl) ?_
      try simp only [pa, pn, pb, pc, pd]
      refine rj_take (some 6) (.bool true) rfl (by kernel_rfl) (by kernel_rfl) ?_
      try simp only [pa, pn, pb, pc, pd]
      refine rj_nil ?_
      refine hgo.out _ _ ?_
      clear hgo hgK
      refine hKK11 _ _ ?_
      refine wpIn_ret ?_
      try simp only [Exit.then, Exit.inBlock]
      refine bp_ret (v := .bool true) (res1 rfl (res_tmp (by kernel_rfl))) ?_
      exact .inl ⟨rfl, hB, [], by simp [piecesB, ← hm, hlt], by simpa using hJJ.get⟩
    · skip
      refine (callsIn_wide (n := 0)).1 ?_
      refine callsIn_of_wp Tryd.func78 rfl trivial ?_ rfl
      simp only [Tryd.ntmps78, List.size_toArray, List.length_cons, List.length_nil, Nat.reduceAdd, Nat.reduceSub, Array.replicate_succ, Array.replicate_zero, List.push_toArray, List.append_toArray, List.nil_append, List.cons_append]
      rw [Fn_none]
      refine wpIn_seq_k fun KK1 hKK1 => ?_
      refine rj_begin fun hgK hgo => ?_
      refine rj_take (some 6) (.bool false) rfl (by kernel_rfl) (by kernel_rfl) ?_
      try simp only [pa, pn, pb, pc, pd]
      refine rj_nil ?_
      refine hgo.out _ _ ?_
      clear hgo hgK
      refine hKK1 _ _ ?_
      refine wpIn_seq_k fun KK2 hKK2 => ?_
      refine wpIn_seq_k fun KK3 hKK3 => ?_
      refine rj_begin fun hgK hgo => ?_
      refine rj_take (some 11) (.iface 118 (.agg #[.pointer (some ⟨a, 0, none⟩)])) rfl (by kernel_rfl) (by kernel_rfl) ?_
      try simp only [pa, pn, pb, pc, pd]
      refine rj_nil ?_
      refine hgo.out _ _ ?_
      clear hgo hgK
      refine hKK3 _ _ ?_
      refine wpIn_block ?_
      refine wpIn_seq_k fun KK4 hKK4 => ?_
      refine rj_begin fun hgK hgo => ?_
      refine rj_take (some 12) (.tuple #[.agg #[.pointer (some ⟨a, 0, none⟩)], .bool true]) rfl (by kernel_rfl) (by kernel_rfl) ?_
      try simp only [pa, pn, pb, pc, pd]
      refine rj_take (some 13) (.bool true) rfl (by kernel_rfl) (by kernel_rfl) ?_
      try simp only [pa, pn, pb, pc, pd]
      refine rj_take (some 14) (.agg #[.pointer (some ⟨a, 0, none⟩)]) rfl (by kernel_rfl) (by kernel_rfl) ?_
      try simp only [pa, pn, pb, pc, pd]
      refine rj_nil ?_
      refine hgo.out _ _ ?_
      clear hgo hgK
      refine hKK4 _ _ ?_
      refine wpIn_cond_true (by kernel_rfl) ?_
      refine wpIn_seq_k fun KK5 hKK5 => ?_
      refine rj_begin fun hgK hgo => ?_
      refine rj_alloc (some 7) 118 #[.pointer none] rfl (by kernel_rfl) (fun W => by kernel_rfl) fun q w6 hL6 hp6 hq => ?_
      replace hJJ := hJJ.later hL6
      replace hB := hB.later hL6
      replace hl := hl.later hL6
      have hz6 := hL6.size
      have hlt6 := hq.lt
      try simp only [pa, pn, pb, pc, pd]
      refine rj_store q #[.pointer (some ⟨a, 0, none⟩)] rfl rfl (by kernel_rfl) rfl rfl (by kernel_rfl) hq rfl (by kernel_rfl) fun w7 hU7 hn7 => ?_
      have hz7 := hU7.size
      replace hJJ := hJJ.upd hU7 (by omega)
      replace hB := hB.upd hU7 (by omega)
      replace hl := hl.upd hU7 (by omega)
      clear hq
      have hq := hn7
      clear hn7
      try simp only [pa, pn, pb, pc, pd]
      refine rj_nil ?_
      refine hgo.out _ _ ?_
      clear hgo hgK
      refine hKK5 _ _ ?_
      refine wpIn_seq_k fun KK8 hKK8 => ?_
      refine rj_begin fun hgK hgo => ?_
      refine rj_take (some 15) (.pointer (some ⟨q, 0, none⟩)) rfl (by kernel_rfl) (by kernel_rfl) ?_
      try simp only [pa, pn, pb, pc, pd]
      refine rj_take (some 16) (.pointer (some ⟨a, 0, none⟩)) rfl (by kernel_rfl) (by exact ld1 116 _ rfl q 0 rfl (fun _ => by kernel_rfl) _ (hq.cell 0)) ?_
      try simp only [pa, pn, pb, pc, pd]
      refine rj_call (some 17) 100 #[.pointer (some ⟨a, 0, none⟩)] rfl (by kernel_rfl) (by kernel_rfl) (LBytes_own a l _ hl) ?_
      rintro e w9 ⟨A1, c1, rfl, hL9, hA⟩
      refine ⟨_, rfl, ?_⟩
      replace hJJ := hJJ.later hL9
      replace hB := hB.later hL9
      replace hl := hl.later hL9
      replace hq := hq.later hL9
      have hz9 := hL9.size
      try simp only [pa, pn, pb, pc, pd]
      refine rj_take (some 8) (.slice A1 l.length c1) rfl (by kernel_rfl) (by kernel_rfl) ?_
      try simp only [pa, pn, pb, pc, pd]
      refine rj_nil ?_
      refine hgo.out _ _ ?_
      clear hgo hgK
      refine hKK8 _ _ ?_
      refine wpIn_seq_k fun KK10 hKK10 => ?_
      refine rj_begin fun hgK hgo => ?_
      refine rj_take (some 18) (.int .i64 f) rfl (by kernel_rfl) (by kernel_rfl) ?_
      try simp only [pa, pn, pb, pc, pd]
      refine rj_take (some 19) (.slice A1 l.length c1) rfl (by kernel_rfl) (by kernel_rfl) ?_
      try simp only [pa, pn, pb, pc, pd]
      refine rj_take (some 20) (.int .i64 l.length) rfl (by kernel_rfl) (by kernel_rfl) ?_
      try simp only [pa, pn, pb, pc, pd]
      refine rj_take (some 21) (.int .i64 ((m : Int))) rfl (by kernel_rfl) (by exact ex_min2 (a := f) (b := l.length) rfl rfl rfl (r := (m : Int)) (by omega)) ?_
      try simp only [pa, pn, pb, pc, pd]
      refine rj_take (some 1) (.int .i64 ((m : Int))) rfl (by kernel_rfl) (by kernel_rfl) ?_
      try simp only [pa, pn, pb, pc, pd]
      refine rj_nil ?_
      refine hgo.out _ _ ?_
      clear hgo hgK
      refine hKK10 _ _ ?_
      refine wpIn_seq_k fun KK11 hKK11 => ?_
      refine rj_begin fun hgK hgo => ?_
      refine rj_take (some 22) (.int .i64 ((m : Int))) rfl (by kernel_rfl) (by kernel_rfl) ?_
      try simp only [pa, pn, pb, pc, pd]
      refine rj_take (some 23) (.bool false) rfl (by kernel_rfl) (by exact ex_bool (c := ((m : Int) : Int) ≤ 0) (by kernel_rfl) ⟨fun q => (by cases q), fun q => absurd q (by omega)⟩) ?_
      try simp only [pa, pn, pb, pc, pd]
      refine rj_take (some 24) (.bool false) rfl (by kernel_rfl) (by kernel_rfl) ?_
      try simp only [pa, pn, pb, pc, pd]
      refine rj_take (some 25) (.func (.yield lp) #[] #[]) rfl (by kernel_rfl) (by kernel_rfl) ?_
      try simp only [pa, pn, pb, pc, pd]
      refine rj_take (some 26) (.slice A1 l.length c1) rfl (by kernel_rfl) (by kernel_rfl) ?_
      try simp only [pa, pn, pb, pc, pd]
      refine rj_take (some 27) (.int .i64 ((m : Int))) rfl (by kernel_rfl) (by kernel_rfl) ?_
      try simp only [pa, pn, pb, pc, pd]
      refine rj_take (some 28) (.int .i64 ((m : Int))) rfl (by kernel_rfl) (by kernel_rfl) ?_
      try simp only [pa, pn, pb, pc, pd]
      refine rj_take (some 29) (.slice (cutA A1 m 0) m m) rfl (by kernel_rfl) (by exact ex_cut3 (c := c1) m rfl rfl rfl rfl (by kernel_rfl) (fun _ => by kernel_rfl) (by have := hA.2.1; omega) _) ?_
      try simp only [pa, pn, pb, pc, pd]
      have h9 := (hA.mono (show n₀ ≤ _ by omega)).cut3 m (by omega); have hy9 := hY2 pre (cutA A1 m 0, m, l.take m) _ hJJ.get h9 ⟨r, by rw [← hok]; simp [piecesB, ← hm, hlt, pcB]⟩; simp only [pcEnc, hml] at hy9
      refine rj_yield (some 30) lp #[.slice (cutA A1 m 0) m m] rfl (by kernel_rfl) (by kernel_rfl) (hy9) ?_
      rintro e w12 (⟨rfl, hJ9, hb9⟩ | ⟨rfl, hJ9⟩)
      · refine ⟨_, rfl, ?_⟩
        try simp only [pa, pn, pb, pc, pd]
        refine rj_take (some 31) (.bool true) rfl (by kernel_rfl) (by kernel_rfl) ?_
        try simp only [pa, pn, pb, pc, pd]
        refine rj_take (some 6) (.bool true) rfl (by kernel_rfl) (by kernel_rfl) ?_
        try simp only [pa, pn, pb, pc, pd]
        refine rj_nil ?_
        refine hgo.out _ _ ?_
        clear hgo hgK
        refine hKK11 _ _ ?_
        refine wpIn_ret ?_
        try simp only [Exit.then, Exit.inBlock]
        refine bp_ret (v := .bool true) (res1 rfl (res_tmp (by kernel_rfl))) ?_
        exact .inl ⟨rfl, ⟨hB.1, hB.2.trans hb9.2⟩, [(cutA A1 m 0, m, l.take m)], by simp [piecesB, ← hm, hlt, pcB], hJ9⟩
      · refine ⟨_, rfl, ?_⟩
        try simp only [pa, pn, pb, pc, pd]
        refine rj_take (some 31) (.bool false) rfl (by kernel_rfl) (by kernel_rfl) ?_
        try simp only [pa, pn, pb, pc, pd]
        refine rj_take (some 6) (.bool false) rfl (by kernel_rfl) (by kernel_rfl) ?_
        try simp only [pa, pn, pb, pc, pd]
        refine rj_nil ?_
        refine hgo.out _ _ ?_
        clear hgo hgK
        refine hKK11 _ _ ?_
        refine wpIn_ret ?_
        try simp only [Exit.then, Exit.inBlock]
        refine bp_ret (v := .bool false) (res1 rfl (res_tmp (by kernel_rfl))) ?_
        exact .inr ⟨rfl, _, ⟨r, by rw [← hok]; simp [piecesB, ← hm, hlt, pcB]⟩, hJ9⟩
  | fork x y ihx ihy =>
    intro vs f pre W ht hJ hok hf hs
    have hz0 := ht.1
    obtain ⟨a, vx, vy, rfl, ha, hb, hx, hy⟩ := ht.2
    replace hx : TreeN n₀ W x vx := ⟨hz0, hx⟩
    replace hy : TreeN n₀ W y vy := ⟨hz0, hy⟩
    have hB := Bel.refl n₀ W hz0
    have hJJ : JAt J pre W.heap.size W := ⟨hY.1, W, rfl, hJ, Ltr.refl _⟩
    clear hJ
    obtain ⟨r, hok⟩ := hok
    rw [Tr.len_fork] at hs
    obtain ⟨fs, xs, es, cs⟩ := inv_sizeN hx
    have hL0 := Bel.refl n₀ W hz0
    by_cases hlt : x.bytes.length < f
    · rw [piecesB, if_pos hlt] at hok
      refine (callsIn_wide (n := 0)).1 ?_
      refine callsIn_of_wp Tryd.func78 rfl trivial ?_ rfl
      simp only [Tryd.ntmps78, List.size_toArray, List.length_cons, List.length_nil, Nat.reduceAdd, Nat.reduceSub, Array.replicate_succ, Array.replicate_zero, List.push_toArray, List.append_toArray, List.nil_append, List.cons_append]
      rw [Fn_none]
      have hlt_hb := hb.lt
      refine wpIn_seq_k fun KK1 hKK1 => ?_
      refine rj_begin fun hgK hgo => ?_
      refine rj_take (some 6) (.bool false) rfl (by kernel_rfl) (by kernel_rfl) ?_
      try simp only [pa, pn, pb, pc, pd]
      refine rj_nil ?_
      refine hgo.out _ _ ?_
      clear hgo hgK
      refine hKK1 _ _ ?_
      refine wpIn_seq_k fun KK2 hKK2 => ?_
      refine wpIn_seq_k fun KK3 hKK3 => ?_
      refine rj_begin fun hgK hgo => ?_
      refine rj_take (some 11) (.iface 111 (.pointer (some ⟨a, 0, none⟩))) rfl (by kernel_rfl) (by kernel_rfl) ?_
      try simp only [pa, pn, pb, pc, pd]
      refine rj_nil ?_
      refine hgo.out _ _ ?_
      clear hgo hgK
      refine hKK3 _ _ ?_
      refine wpIn_block ?_
      refine wpIn_seq_k fun KK4 hKK4 => ?_
      refine rj_begin fun hgK hgo => ?_
      refine rj_take (some 12) (.tuple #[.agg #[.pointer none], .bool false]) rfl (by kernel_rfl) (by kernel_rfl) ?_
      try simp only [pa, pn, pb, pc, pd]
      refine rj_take (some 13) (.bool false) rfl (by kernel_rfl) (by kernel_rfl) ?_
      try simp only [pa, pn, pb, pc, pd]
      refine rj_take (some 14) (.agg #[.pointer none]) rfl (by kernel_rfl) (by kernel_rfl) ?_
      try simp only [pa, pn, pb, pc, pd]
      refine rj_nil ?_
      refine hgo.out _ _ ?_
      clear hgo hgK
      refine hKK4 _ _ ?_
      refine wpIn_cond_false (by kernel_rfl) ?_
      refine wpIn_seq_k fun KK5 hKK5 => ?_
      refine rj_begin fun hgK hgo => ?_
      refine rj_take (some 32) (.tuple #[.pointer (some ⟨a, 0, none⟩), .bool true]) rfl (by kernel_rfl) (by kernel_rfl) ?_
      try simp only [pa, pn, pb, pc, pd]
      refine rj_take (some 33) (.bool true) rfl (by kernel_rfl) (by kernel_rfl) ?_
      try simp only [pa, pn, pb, pc, pd]
      refine rj_take (some 34) (.pointer (some ⟨a, 0, none⟩)) rfl (by kernel_rfl) (by kernel_rfl) ?_
      try simp only [pa, pn, pb, pc, pd]
      refine rj_nil ?_
      refine hgo.out _ _ ?_
      clear hgo hgK
      refine hKK5 _ _ ?_
      refine wpIn_cond_true (by kernel_rfl) ?_
      refine wpIn_seq_k fun KK6 hKK6 => ?_
      refine rj_begin fun hgK hgo => ?_
      refine rj_take (some 9) (.pointer (some ⟨a, 0, none⟩)) rfl (by kernel_rfl) (by kernel_rfl) ?_
      try simp only [pa, pn, pb, pc, pd]
      refine rj_nil ?_
      refine hgo.out _ _ ?_
      clear hgo hgK
      refine hKK6 _ _ ?_
      refine wpIn_seq_k fun KK7 hKK7 => ?_
      refine rj_begin fun hgK hgo => ?_
      refine rj_take (some 35) (.pointer (some ⟨a, 0, none⟩)) rfl (by kernel_rfl) (by kernel_rfl) ?_
      try simp only [pa, pn, pb, pc, pd]
      refine rj_take (some 36) (.pointer (some ⟨a, 0, none⟩)) rfl (by kernel_rfl) (by kernel_rfl) ?_
      try simp only [pa, pn, pb, pc, pd]
      refine rj_take (some 37) (.pointer (some ⟨a, 0, none⟩)) rfl (by kernel_rfl) (by kernel_rfl) ?_
      try simp only [pa, pn, pb, pc, pd]
      refine rj_take (some 38) (vx) rfl (by kernel_rfl) (by exact ld1 108 _ rfl a 0 rfl (fun _ => by kernel_rfl) _ (hb.cell 0)) ?_
      try simp only [pa, pn, pb, pc, pd]
      refine rj_call (some 39) fs #[xs] rfl (by kernel_rfl) (by exact es _ _ _ _ rfl rfl) (cs _ hL0) ?_
      rintro e w8 ⟨rfl, hL8⟩
      refine ⟨_, rfl, ?_⟩
      replace hJJ := hJJ.later hL8
      replace hB := hB.later hL8
      replace hx := hx.later hL8
      replace hy := hy.later hL8
      replace hL0 := hL0.later hL8
      replace hb := hb.later hL8
      have hz8 := hL8.size
      try simp only [pa, pn, pb, pc, pd]
      refine rj_take (some 10) (.int .i64 x.bytes.length) rfl (by kernel_rfl) (by kernel_rfl) ?_
      try simp only [pa, pn, pb, pc, pd]
      refine rj_nil ?_
      refine hgo.out _ _ ?_
      clear hgo hgK
      refine hKK7 _ _ ?_
      refine wpIn_seq_k fun KK9 hKK9 => ?_
      refine wpIn_seq_k fun KK10 hKK10 => ?_
      refine rj_begin fun hgK hgo => ?_
      refine rj_take (some 40) (.int .i64 f) rfl (by kernel_rfl) (by kernel_rfl) ?_
      try simp only [pa, pn, pb, pc, pd]
      refine rj_take (some 41) (.int .i64 x.bytes.length) rfl (by kernel_rfl) (by kernel_rfl) ?_
      try simp only [pa, pn, pb, pc, pd]
      refine rj_take (some 42) (.bool true) rfl (by kernel_rfl) (by exact ex_bool (c := (f : Int) > x.bytes.length) (by kernel_rfl) ⟨fun _ => by omega, fun _ => rfl⟩) ?_
      try simp only [pa, pn, pb, pc, pd]
      refine rj_take (some 43) (.bool true) rfl (by kernel_rfl) (by kernel_rfl) ?_
      try simp only [pa, pn, pb, pc, pd]
      refine rj_take (some 44) (.pointer (some ⟨a, 0, none⟩)) rfl (by kernel_rfl) (by kernel_rfl) ?_
      try simp only [pa, pn, pb, pc, pd]
      refine rj_take (some 45) (.pointer (some ⟨a, 0, none⟩)) rfl (by kernel_rfl) (by kernel_rfl) ?_
      try simp only [pa, pn, pb, pc, pd]
      refine rj_take (some 46) (.pointer (some ⟨a, 1, none⟩)) rfl (by kernel_rfl) (by kernel_rfl) ?_
      try simp only [pa, pn, pb, pc, pd]
      refine rj_take (some 47) (vy) rfl (by kernel_rfl) (by exact ld1 108 _ rfl a 1 rfl (fun _ => by kernel_rfl) _ (hb.cell 1)) ?_
      try simp only [pa, pn, pb, pc, pd]
      refine rj_take (some 48) (.int .i64 f) rfl (by kernel_rfl) (by kernel_rfl) ?_
      try simp only [pa, pn, pb, pc, pd]
      refine rj_take (some 49) (.int .i64 x.bytes.length) rfl (by kernel_rfl) (by kernel_rfl) ?_
      try simp only [pa, pn, pb, pc, pd]
      refine rj_take (some 50) (.int .i64 (((f - x.bytes.length : Nat) : Int))) rfl (by kernel_rfl) (by exact ex_arith (e := (f : Int) - x.bytes.length) (r := ((f - x.bytes.length : Nat) : Int)) (by kernel_rfl) (by omega) (by omega)) ?_
      try simp only [pa, pn, pb, pc, pd]
      refine rj_take (some 51) (.func (.yield lp) #[] #[]) rfl (by kernel_rfl) (by kernel_rfl) ?_
      try simp only [pa, pn, pb, pc, pd]
      refine rj_call (some 52) 78 #[vy, .int .i64 (((f - x.bytes.length : Nat) : Int)), .func (.yield lp) #[] #[]] rfl (by kernel_rfl) (by kernel_rfl) (ihy vy (f - x.bytes.length) pre _ hy hJJ.get ⟨_, by rw [← hok]; simp only [List.append_assoc]; rfl⟩ (by omega) (by omega)) ?_
      rintro e w11 (⟨rfl, hb9, xs1, hm9, hJ9⟩ | ⟨rfl, p9, hp9, hJ9⟩)
      · refine ⟨_, rfl, ?_⟩
        replace hB := hB.bel hb9.2 (by omega)
        replace hx := hx.bel hb9.2 (by omega)
        replace hy := hy.bel hb9.2 (by omega)
        replace hL0 := hL0.bel hb9.2 (by omega)
        replace hb := hb.bel hb9.2 (by omega)
        have hz11 := (hb9.2).size
        try simp only [pa, pn, pb, pc, pd]
        refine rj_take (some 53) (.bool false) rfl (by kernel_rfl) (by kernel_rfl) ?_
        try simp only [pa, pn, pb, pc, pd]
        refine rj_take (some 54) (.bool false) rfl (by kernel_rfl) (by kernel_rfl) ?_
        try simp only [pa, pn, pb, pc, pd]
        refine rj_nil ?_
        refine hgo.out _ _ ?_
        clear hgo hgK
        refine hKK10 _ _ ?_
        refine wpIn_cond_false (by kernel_rfl) ?_
        refine wpIn_skip ?_
        refine hKK9 _ _ ?_
        refine wpIn_seq_k fun KK12 hKK12 => ?_
        refine rj_begin fun hgK hgo => ?_
        refine rj_take (some 55) (.pointer (some ⟨a, 0, none⟩)) rfl (by kernel_rfl) (by kernel_rfl) ?_
        try simp only [pa, pn, pb, pc, pd]
        refine rj_take (some 56) (.pointer (some ⟨a, 0, none⟩)) rfl (by kernel_rfl) (by kernel_rfl) ?_
        try simp only [pa, pn, pb, pc, pd]
        refine rj_take (some 57) (.pointer (some ⟨a, 0, none⟩)) rfl (by kernel_rfl) (by kernel_rfl) ?_
        try simp only [pa, pn, pb, pc, pd]
        refine rj_take (some 58) (vx) rfl (by kernel_rfl) (by exact ld1 108 _ rfl a 0 rfl (fun _ => by kernel_rfl) _ (hb.cell 0)) ?_
        try simp only [pa, pn, pb, pc, pd]
        refine rj_take (some 59) (.int .i64 f) rfl (by kernel_rfl) (by kernel_rfl) ?_
        try simp only [pa, pn, pb, pc, pd]
        refine rj_take (some 60) (.int .i64 x.bytes.length) rfl (by kernel_rfl) (by kernel_rfl) ?_
        try simp only [pa, pn, pb, pc, pd]
        refine rj_take (some 61) (.int .i64 (((min f x.bytes.length : Nat) : Int))) rfl (by kernel_rfl) (by exact ex_min2 (a := f) (b := x.bytes.length) rfl rfl rfl (r := ((min f x.bytes.length : Nat) : Int)) (by omega)) ?_
        try simp only [pa, pn, pb, pc, pd]
        refine rj_take (some 62) (.func (.yield lp) #[] #[]) rfl (by kernel_rfl) (by kernel_rfl) ?_
        try simp only [pa, pn, pb, pc, pd]
        refine rj_call (some 63) 78 #[vx, .int .i64 (((min f x.bytes.length : Nat) : Int)), .func (.yield lp) #[] #[]] rfl (by kernel_rfl) (by kernel_rfl) (ihx vx _ _ _ hx hJ9 ⟨r, by rw [← hok, List.map_append, hm9]; simp only [List.append_assoc]⟩ (by omega) (by omega)) ?_
        rintro e w13 (⟨rfl, hb11, xs2, hm11, hJ11⟩ | ⟨rfl, p11, hp11, hJ11⟩)
        · refine ⟨_, rfl, ?_⟩
          try simp only [pa, pn, pb, pc, pd]
          refine rj_take (some 6) (.bool true) rfl (by kernel_rfl) (by kernel_rfl) ?_
          try simp only [pa, pn, pb, pc, pd]
          refine rj_nil ?_
          refine hgo.out _ _ ?_
          clear hgo hgK
          refine hKK12 _ _ ?_
          refine wpIn_ret ?_
          try simp only [Exit.then, Exit.inBlock]
          refine bp_ret (v := .bool true) (res1 rfl (res_tmp (by kernel_rfl))) ?_
          exact .inl ⟨rfl, ⟨hB.1, hB.2.trans hb11.2⟩, xs1 ++ xs2, by rw [piecesB, if_pos hlt, List.map_append, hm9, hm11], by rw [← List.append_assoc]; exact hJ11⟩
        · refine ⟨_, rfl, ?_⟩
          try simp only [pa, pn, pb, pc, pd]
          refine rj_take (some 6) (.bool false) rfl (by kernel_rfl) (by kernel_rfl) ?_
          try simp only [pa, pn, pb, pc, pd]
          refine rj_nil ?_
          refine hgo.out _ _ ?_
          clear hgo hgK
          refine hKK12 _ _ ?_
          refine wpIn_ret ?_
          try simp only [Exit.then, Exit.inBlock]
          refine bp_ret (v := .bool false) (res1 rfl (res_tmp (by kernel_rfl))) ?_
          exact .inr ⟨rfl, p11, hp11, hJ11⟩
      · refine ⟨_, rfl, ?_⟩
        try simp only [pa, pn, pb, pc, pd]
        refine rj_take (some 53) (.bool true) rfl (by kernel_rfl) (by kernel_rfl) ?_
        try simp only [pa, pn, pb, pc, pd]
        refine rj_take (some 54) (.bool true) rfl (by kernel_rfl) (by kernel_rfl) ?_
        try simp only [pa, pn, pb, pc, pd]
        refine rj_nil ?_
        refine hgo.out _ _ ?_
        clear hgo hgK
        refine hKK10 _ _ ?_
        refine wpIn_cond_true (by kernel_rfl) ?_
        refine wpIn_seq_k fun KK14 hKK14 => ?_
        refine rj_begin fun hgK hgo => ?_
        refine rj_take (some 6) (.bool false) rfl (by kernel_rfl) (by kernel_rfl) ?_
        try simp only [pa, pn, pb, pc, pd]
        refine rj_nil ?_
        refine hgo.out _ _ ?_
        clear hgo hgK
        refine hKK14 _ _ ?_
        refine wpIn_ret ?_
        try simp only [Exit.then, Exit.inBlock]
        refine bp_ret (v := .bool false) (res1 rfl (res_tmp (by kernel_rfl))) ?_
        exact .inr ⟨rfl, p9, hp9, hJ9⟩
    · rw [piecesB, if_neg hlt, List.nil_append] at hok
      refine (callsIn_wide (n := 0)).1 ?_
      refine callsIn_of_wp Tryd.func78 rfl trivial ?_ rfl
      simp only [Tryd.ntmps78, List.size_toArray, List.length_cons, List.length_nil, Nat.reduceAdd, Nat.reduceSub, Array.replicate_succ, Array.replicate_zero, List.push_toArray, List.append_toArray, List.nil_append, List.cons_append]
      rw [Fn_none]
      have hlt_hb := hb.lt
      refine wpIn_seq_k fun KK1 hKK1 => ?_
      refine rj_begin fun hgK hgo => ?_
      refine rj_take (some 6) (.bool false) rfl (by kernel_rfl) (by kernel_rfl) ?_
      try simp only [pa, pn, pb, pc, pd]
      refine rj_nil ?_
      refine hgo.out _ _ ?_
      clear hgo hgK
      refine hKK1 _ _ ?_
      refine wpIn_seq_k fun KK2 hKK2 => ?_
      refine wpIn_seq_k fun KK3 hKK3 => ?_
      refine rj_begin fun hgK hgo => ?_
      refine rj_take (some 11) (.iface 111 (.pointer (some ⟨a, 0, none⟩))) rfl (by kernel_rfl) (by kernel_rfl) ?_
      try simp only [pa, pn, pb, pc, pd]
      refine rj_nil ?_
      refine hgo.out _ _ ?_
      clear hgo hgK
      refine hKK3 _ _ ?_
      refine wpIn_block ?_
      refine wpIn_seq_k fun KK4 hKK4 => ?_
      refine rj_begin fun hgK hgo => ?_
      refine rj_take (some 12) (.tuple #[.agg #[.pointer none], .bool false]) rfl (by kernel_rfl) (by kernel_rfl) ?_
      try simp only [pa, pn, pb, pc, pd]
      refine rj_take (some 13) (.bool false) rfl (by kernel_rfl) (by kernel_rfl) ?_
      try simp only [pa, pn, pb, pc, pd]
      refine rj_take (some 14) (.agg #[.pointer none]) rfl (by kernel_rfl) (by kernel_rfl) ?_
      try simp only [pa, pn, pb, pc, pd]
      refine rj_nil ?_
      refine hgo.out _ _ ?_
      clear hgo hgK
      refine hKK4 _ _ ?_
      refine wpIn_cond_false (by kernel_rfl) ?_
      refine wpIn_seq_k fun KK5 hKK5 => ?_
      refine rj_begin fun hgK hgo => ?_
      refine rj_take (some 32) (.tuple #[.pointer (some ⟨a, 0, none⟩), .bool true]) rfl (by kernel_rfl) (by kernel_rfl) ?_
      try simp only [pa, pn, pb, pc, pd]
      refine rj_take (some 33) (.bool true) rfl (by kernel_rfl) (by kernel_rfl) ?_
      try simp only [pa, pn, pb, pc, pd]
      refine rj_take (some 34) (.pointer (some ⟨a, 0, none⟩)) rfl (by kernel_rfl) (by kernel_rfl) ?_
      try simp only [pa, pn, pb, pc, pd]
      refine rj_nil ?_
      refine hgo.out _ _ ?_
      clear hgo hgK
      refine hKK5 _ _ ?_
      refine wpIn_cond_true (by kernel_rfl) ?_
      refine wpIn_seq_k fun KK6 hKK6 => ?_
      refine rj_begin fun hgK hgo => ?_
      refine rj_take (some 9) (.pointer (some ⟨a, 0, none⟩)) rfl (by kernel_rfl) (by kernel_rfl) ?_
      try simp only [pa, pn, pb, pc, pd]
      refine rj_nil ?_
      refine hgo.out _ _ ?_
      clear hgo hgK
      refine hKK6 _ _ ?_
      refine wpIn_seq_k fun KK7 hKK7 => ?_
      refine rj_begin fun hgK hgo => ?_
      refine rj_take (some 35) (.pointer (some ⟨a, 0, none⟩)) rfl (by kernel_rfl) (by kernel_rfl) ?_
      try simp only [pa, pn, pb, pc, pd]
      refine rj_take (some 36) (.pointer (some ⟨a, 0, none⟩)) rfl (by kernel_rfl) (by kernel_rfl) ?_
      try simp only [pa, pn, pb, pc, pd]
      refine rj_take (some 37) (.pointer (some ⟨a, 0, none⟩)) rfl (by kernel_rfl) (by kernel_rfl) ?_
      try simp only [pa, pn, pb, pc, pd]
      refine rj_take (some 38) (vx) rfl (by kernel_rfl) (by exact ld1 108 _ rfl a 0 rfl (fun _ => by kernel_rfl) _ (hb.cell 0)) ?_
      try simp only [pa, pn, pb, pc, pd]
      refine rj_call (some 39) fs #[xs] rfl (by kernel_rfl) (by exact es _ _ _ _ rfl rfl) (cs _ hL0) ?_
      rintro e w8 ⟨rfl, hL8⟩
      refine ⟨_, rfl, ?_⟩
      replace hJJ := hJJ.later hL8
      replace hB := hB.later hL8
      replace hx := hx.later hL8
      replace hy := hy.later hL8
      replace hL0 := hL0.later hL8
      replace hb := hb.later hL8
      have hz8 := hL8.size
      try simp only [pa, pn, pb, pc, pd]
      refine rj_take (some 10) (.int .i64 x.bytes.length) rfl (by kernel_rfl) (by kernel_rfl) ?_
      try simp only [pa, pn, pb, pc, pd]
      refine rj_nil ?_
      refine hgo.out _ _ ?_
      clear hgo hgK
      refine hKK7 _ _ ?_
      refine wpIn_seq_k fun KK9 hKK9 => ?_
      refine wpIn_seq_k fun KK10 hKK10 => ?_
      refine rj_begin fun hgK hgo => ?_
      refine rj_take (some 40) (.int .i64 f) rfl (by kernel_rfl) (by kernel_rfl) ?_
      try simp only [pa, pn, pb, pc, pd]
      refine rj_take (some 41) (.int .i64 x.bytes.length) rfl (by kernel_rfl) (by kernel_rfl) ?_
      try simp only [pa, pn, pb, pc, pd]
      refine rj_take (some 42) (.bool false) rfl (by kernel_rfl) (by exact ex_bool (c := (f : Int) > x.bytes.length) (by kernel_rfl) ⟨fun q => (by cases q), fun q => absurd q (by omega)⟩) ?_
      try simp only [pa, pn, pb, pc, pd]
      refine rj_take (some 43) (.bool false) rfl (by kernel_rfl) (by kernel_rfl) ?_
      try simp only [pa, pn, pb, pc, pd]
      refine rj_pass (some 44) rfl (by kernel_rfl) ?_
      try simp only [pa, pn, pb, pc, pd]
      refine rj_pass (some 45) rfl (by kernel_rfl) ?_
      try simp only [pa, pn, pb, pc, pd]
      refine rj_pass (some 46) rfl (by kernel_rfl) ?_
      try simp only [pa, pn, pb, pc, pd]
      refine rj_pass (some 47) rfl (by kernel_rfl) ?_
      try simp only [pa, pn, pb, pc, pd]
      refine rj_pass (some 48) rfl (by kernel_rfl) ?_
      try simp only [pa, pn, pb, pc, pd]
      refine rj_pass (some 49) rfl (by kernel_rfl) ?_
      try simp only [pa, pn, pb, pc, pd]
      refine rj_pass (some 50) rfl (by kernel_rfl) ?_
      try simp only [pa, pn, pb, pc, pd]
      refine rj_pass (some 51) rfl (by kernel_rfl) ?_
      try simp only [pa, pn, pb, pc, pd]
      refine rj_pass (some 52) rfl (by kernel_rfl) ?_
      try simp only [pa, pn, pb, pc, pd]
      refine rj_pass (some 53) rfl (by kernel_rfl) ?_
      try simp only [pa, pn, pb, pc, pd]
      refine rj_take (some 54) (.bool false) rfl (by kernel_rfl) (by kernel_rfl) ?_
      try simp only [pa, pn, pb, pc, pd]
      refine rj_nil ?_
      refine hgo.out _ _ ?_
      clear hgo hgK
      refine hKK10 _ _ ?_
      refine wpIn_cond_false (by kernel_rfl) ?_
      refine wpIn_skip ?_
      refine hKK9 _ _ ?_
      refine wpIn_seq_k fun KK11 hKK11 => ?_
      refine rj_begin fun hgK hgo => ?_
      refine rj_take (some 55) (.pointer (some ⟨a, 0, none⟩)) rfl (by kernel_rfl) (by kernel_rfl) ?_
      try simp only [pa, pn, pb, pc, pd]
      refine rj_take (some 56) (.pointer (some ⟨a, 0, none⟩)) rfl (by kernel_rfl) (by kernel_rfl) ?_
      try simp only [pa, pn, pb, pc, pd]
      refine rj_take (some 57) (.pointer (some ⟨a, 0, none⟩)) rfl (by kernel_rfl) (by kernel_rfl) ?_
      try simp only [pa, pn, pb, pc, pd]
      refine rj_take (some 58) (vx) rfl (by kernel_rfl) (by exact ld1 108 _ rfl a 0 rfl (fun _ => by kernel_rfl) _ (hb.cell 0)) ?_
      try simp only [pa, pn, pb, pc, pd]
      refine rj_take (some 59) (.int .i64 f) rfl (by kernel_rfl) (by kernel_rfl) ?_
      try simp only [pa, pn, pb, pc, pd]
      refine rj_take (some 60) (.int .i64 x.bytes.length) rfl (by kernel_rfl) (by kernel_rfl) ?_
      try simp only [pa, pn, pb, pc, pd]
      refine rj_take (some 61) (.int .i64 (((min f x.bytes.length : Nat) : Int))) rfl (by kernel_rfl) (by exact ex_min2 (a := f) (b := x.bytes.length) rfl rfl rfl (r := ((min f x.bytes.length : Nat) : Int)) (by omega)) ?_
      try simp only [pa, pn, pb, pc, pd]
      refine rj_take (some 62) (.func (.yield lp) #[] #[]) rfl (by kernel_rfl) (by kernel_rfl) ?_
      try simp only [pa, pn, pb, pc, pd]
      refine rj_call (some 63) 78 #[vx, .int .i64 (((min f x.bytes.length : Nat) : Int)), .func (.yield lp) #[] #[]] rfl (by kernel_rfl) (by kernel_rfl) (ihx vx _ _ _ hx hJJ.get ⟨r, by rw [← hok]⟩ (by omega) (by omega)) ?_
      rintro e w12 (⟨rfl, hb11, xs2, hm11, hJ11⟩ | ⟨rfl, p11, hp11, hJ11⟩)
      · refine ⟨_, rfl, ?_⟩
        try simp only [pa, pn, pb, pc, pd]
        refine rj_take (some 6) (.bool true) rfl (by kernel_rfl) (by kernel_rfl) ?_
        try simp only [pa, pn, pb, pc, pd]
        refine rj_nil ?_
        refine hgo.out _ _ ?_
        clear hgo hgK
        refine hKK11 _ _ ?_
        refine wpIn_ret ?_
        try simp only [Exit.then, Exit.inBlock]
        refine bp_ret (v := .bool true) (res1 rfl (res_tmp (by kernel_rfl))) ?_
        exact .inl ⟨rfl, ⟨hB.1, hB.2.trans hb11.2⟩, xs2, by rw [piecesB, if_neg hlt, List.nil_append, hm11], hJ11⟩
      · refine ⟨_, rfl, ?_⟩
        try simp only [pa, pn, pb, pc, pd]
        refine rj_take (some 6) (.bool false) rfl (by kernel_rfl) (by kernel_rfl) ?_
        try simp only [pa, pn, pb, pc, pd]
        refine rj_nil ?_
        refine hgo.out _ _ ?_
        clear hgo hgK
        refine hKK11 _ _ ?_
        refine wpIn_ret ?_
        try simp only [Exit.then, Exit.inBlock]
        refine bp_ret (v := .bool false) (res1 rfl (res_tmp (by kernel_rfl))) ?_
        exact .inr ⟨rfl, p11, hp11, hJ11⟩
end Go.Proofs.YtliphfgiaioebaaDoor
