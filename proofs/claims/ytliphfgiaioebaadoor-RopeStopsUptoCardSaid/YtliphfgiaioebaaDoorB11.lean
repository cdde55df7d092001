/-
  Package rope: forwards, backwards, Pieces: the iterator over a tree's pieces.
  Package rope: backwards.
  Package rope: Pieces, as an iterator.
-/
import Derived.Test.YtliphfgiaioebaaDoorB10
namespace Go.Proofs.YtliphfgiaioebaaDoor
set_option linter.unusedVariables false
set_option linter.unusedSimpArgs false
open Go.RowKit
def piecesF : Tr → Nat → List (List UInt8)
  | .tip l, f => if l.length ≤ f then [] else [l.drop f]
  | .fork x y, f => (if f < x.bytes.length then piecesF x f else []) ++ piecesF y (f - x.bytes.length)
def piecesB : Tr → Nat → List (List UInt8)
  | .tip l, f => if min f l.length = 0 then [] else [l.take (min f l.length)]
  | .fork x y, f => (if x.bytes.length < f then piecesB y (f - x.bytes.length) else []) ++ piecesB x (min f x.bytes.length)
/-- a piece handed over: its address, its capacity, its bytes -/
abbrev Pc := Option Addr × Nat × List UInt8
def pcEnc (x : Pc) : Value := .slice x.1 x.2.2.length x.2.1
def pcB (x : Pc) : List UInt8 := x.2.2
def pcP (n : Nat) (x : Pc) (w : World) : Prop := BRow n w x.1 x.2.1 x.2.2
def PcOk (ps : List (List UInt8)) (xs : List Pc) : Prop := ∃ r, xs.map pcB ++ r = ps
def YieldsP (n₀ lp : Nat) (ps : List (List UInt8)) (J Jx : List Pc → World → Prop) : Prop :=
  (∀ s A B, J s A → Ltr A B → J s B) ∧ (∀ s A B, Jx s A → Ltr A B → Jx s B) ∧ ∀ pre x W1, J pre W1 → pcP n₀ x W1 → PcOk ps (pre ++ [x]) → YieldAt Fence.wide 0 Tryd.prog lp #[pcEnc x] W1 fun e W' =>
      (e = .returned (.bool true) ∧ J (pre ++ [x]) W' ∧ Bel n₀ W1 W') ∨ (e = .returned (.bool false) ∧ Jx (pre ++ [x]) W')
def WalkP (n₀ : Nat) (ps qs : List (List UInt8)) (J Jx : List Pc → World → Prop) (pre : List Pc) (W : World) (e : Ending) (W' : World) : Prop :=
  (e = .returned (.bool true) ∧ Bel n₀ W W' ∧ ∃ xs, xs.map pcB = qs ∧ J (pre ++ xs) W') ∨ (e = .returned (.bool false) ∧ ∃ pre', PcOk ps pre' ∧ Jx pre' W')
/-- J at a world -/
def JAt (J : List Pc → World → Prop) (pre : List Pc) (m : Nat) (w : World) : Prop := (∀ s A B, J s A → Ltr A B → J s B) ∧ ∃ W0, W0.heap.size = m ∧ J pre W0 ∧ Ltr W0 w
theorem JAt.get {J : List Pc → World → Prop} {pre : List Pc} {m : Nat} {w : World} (h : JAt J pre m w) : J pre w := by obtain ⟨h1, W0, _, h2, h3⟩ := h; exact h1 _ _ _ h2 h3
theorem JAt.later {J : List Pc → World → Prop} {pre : List Pc} {m : Nat} {w w' : World} (h : JAt J pre m w) (hl : Ltr w w') : JAt J pre m w' := by obtain ⟨h1, W0, h0, h2, h3⟩ := h; exact ⟨h1, W0, h0, h2, h3.later hl⟩
theorem JAt.upd {J : List Pc → World → Prop} {pre : List Pc} {m g : Nat} {w w' : World} (h : JAt J pre m w) (hu : Upd g w w') (hg : m ≤ g) : JAt J pre m w' := by obtain ⟨h1, W0, h0, h2, h3⟩ := h; exact ⟨h1, W0, h0, h2, h3.upd hu (by omega)⟩
set_option maxRecDepth 100000 in
set_option maxHeartbeats 8000000 in
theorem forwards_any (n₀ lp : Nat) (ps : List (List UInt8)) (J Jx : List Pc → World → Prop) (hY : YieldsP n₀ lp ps J Jx) :
    ∀ (s : Tr) (vs : Value) (f : Nat) (pre : List Pc) (W : World), TreeN n₀ W s vs → J pre W → (∃ r, pre.map pcB ++ piecesF s f ++ r = ps) → f ≤ 1000000000 → s.bytes.length ≤ 1000000000 →
      Calls Tryd.prog 79 #[vs, .int .i64 f, .func (.yield lp) #[] #[]] W (WalkP n₀ ps (piecesF s f) J Jx pre W) := by
  intro s
  induction s with
  | tip l =>
    intro vs f pre W ht hJ hok hf hs
    obtain ⟨hz0, a, rfl, ha, hl⟩ := ht
    have hB := Bel.refl n₀ W hz0
    have hJJ : JAt J pre W.heap.size W := ⟨hY.1, W, rfl, hJ, Ltr.refl _⟩
    clear hJ
    have hY2 := hY.2.2
    obtain ⟨r, hok⟩ := hok
    simp only [Tr.bytes] at hs
    by_cases hlt : l.length ≤ f
    · skip
      refine (callsIn_wide (n := 0)).1 ?_
      refine callsIn_of_wp Tryd.func79 rfl trivial ?_ rfl
      simp only [Tryd.ntmps79, List.size_toArray, List.length_cons, List.length_nil, Nat.reduceAdd, Nat.reduceSub, Array.replicate_succ, Array.replicate_zero, List.push_toArray, List.append_toArray, List.nil_append, List.cons_append]
      rw [Fn_none]
      refine wpIn_seq_k fun KK1 hKK1 => rj_begin fun hgK hgo => sk 6 (.bool false) ?_
      simp only [pp]
      refine rj_end hgo <| hKK1 _ _ <| wpIn_seq_k fun KK2 hKK2 => wpIn_seq_k fun KK3 hKK3 => rj_begin fun hgK hgo => sk 11 (.iface 118 (.agg #[.pointer (some ⟨a, 0, none⟩)])) ?_
      simp only [pp]
      refine rj_end hgo <| hKK3 _ _ <| wpIn_block <| wpIn_seq_k fun KK4 hKK4 => rj_begin fun hgK hgo => sk 12 (.tuple #[.agg #[.pointer (some ⟨a, 0, none⟩)], .bool true]) <| sk 13 (.bool true) <| sk 14 (.agg #[.pointer (some ⟨a, 0, none⟩)]) ?_
      simp only [pp]
      refine rj_end hgo <| hKK4 _ _ <| wpIn_cond_true (by kernel_rfl) <| wpIn_seq_k fun KK5 hKK5 => rj_begin fun hgK hgo => ?_
      refine rj_alloc (some 7) 118 #[.pointer none] rfl (by kernel_rfl) (fun W => by kernel_rfl) fun q w6 hL6 hp6 hq => ?_
      have hz6 := hL6.size
      have hlt6 := hq.lt
      try simp only [pp]
      refine rj_store q #[.pointer (some ⟨a, 0, none⟩)] rfl rfl (by kernel_rfl) rfl rfl (by kernel_rfl) hq rfl (by kernel_rfl) fun w7 hU7 hn7 => ?_
      have hz7 := hU7.size
      replace hJJ := hJJ.later hL6
      replace hJJ := hJJ.upd hU7 (by omega)
      replace hB := hB.later hL6
      replace hB := hB.upd hU7 (by omega)
      replace hl := hl.later hL6
      replace hl := hl.upd hU7 (by omega)
      clear hq
      have hq := hn7
      clear hn7
      try simp only [pp]
      refine rj_end hgo <| hKK5 _ _ <| wpIn_seq_k fun KK8 hKK8 => rj_begin fun hgK hgo => sk 15 (.pointer (some ⟨q, 0, none⟩)) ?_
      simp only [pp]
      refine sx 16 (.pointer (some ⟨a, 0, none⟩)) (by exact ld 116 q 0 (hq.cell 0)) ?_
      simp only [pp]
      refine rj_call (some 17) 100 #[.pointer (some ⟨a, 0, none⟩)] rfl (by kernel_rfl) (by kernel_rfl) (LBytes_own a l _ hl) ?_
      rintro e w9 ⟨A1, c1, rfl, hL9, hA⟩
      refine ⟨_, rfl, ?_⟩
      have hz9 := hL9.size
      try simp only [pp]
      refine sk 8 (.slice A1 l.length c1) ?_
      simp only [pp]
      refine rj_end hgo <| hKK8 _ _ <| wpIn_seq_k fun KK10 hKK10 => rj_begin fun hgK hgo => sk 18 (.int .i64 f) <| sk 19 (.slice A1 l.length c1) <| sk 20 (.int .i64 l.length) ?_
      simp only [pp]
      refine sx 21 (.bool true) (by exact ebt (c := (f : Int) ≥ l.length) (by omega)) <| sk 22 (.bool true) ?_
      simp only [pp]
      refine rj_pass (some 23) rfl (by kernel_rfl) ?_
      try simp only [pp]
      refine rj_pass (some 24) rfl (by kernel_rfl) ?_
      try simp only [pp]
      refine rj_pass (some 25) rfl (by kernel_rfl) ?_
      try simp only [pp]
      refine rj_pass (some 26) rfl (by kernel_rfl) ?_
      try simp only [pp]
      refine rj_pass (some 27) rfl (by kernel_rfl) ?_
      try simp only [pp]
      refine sk 28 (.bool true) <| sk 6 (.bool true) ?_
      simp only [pp]
      refine rj_end hgo <| hKK10 _ _ ?_
      refine wpIn_ret ?_
      try simp only [Exit.then, Exit.inBlock]
      refine bp_ret (v := .bool true) (res1 rfl (res_tmp (by kernel_rfl))) ?_
      replace hJJ := hJJ.later hL9
      replace hB := hB.later hL9
      exact .inl ⟨rfl, hB, [], by simp [piecesF, hlt], by simpa using hJJ.get⟩
    · skip
      refine (callsIn_wide (n := 0)).1 ?_
      refine callsIn_of_wp Tryd.func79 rfl trivial ?_ rfl
      simp only [Tryd.ntmps79, List.size_toArray, List.length_cons, List.length_nil, Nat.reduceAdd, Nat.reduceSub, Array.replicate_succ, Array.replicate_zero, List.push_toArray, List.append_toArray, List.nil_append, List.cons_append]
      rw [Fn_none]
      refine wpIn_seq_k fun KK1 hKK1 => rj_begin fun hgK hgo => sk 6 (.bool false) ?_
      simp only [pp]
      refine rj_end hgo <| hKK1 _ _ <| wpIn_seq_k fun KK2 hKK2 => wpIn_seq_k fun KK3 hKK3 => rj_begin fun hgK hgo => sk 11 (.iface 118 (.agg #[.pointer (some ⟨a, 0, none⟩)])) ?_
      simp only [pp]
      refine rj_end hgo <| hKK3 _ _ <| wpIn_block <| wpIn_seq_k fun KK4 hKK4 => rj_begin fun hgK hgo => sk 12 (.tuple #[.agg #[.pointer (some ⟨a, 0, none⟩)], .bool true]) <| sk 13 (.bool true) <| sk 14 (.agg #[.pointer (some ⟨a, 0, none⟩)]) ?_
      simp only [pp]
      refine rj_end hgo <| hKK4 _ _ <| wpIn_cond_true (by kernel_rfl) <| wpIn_seq_k fun KK5 hKK5 => rj_begin fun hgK hgo => ?_
      refine rj_alloc (some 7) 118 #[.pointer none] rfl (by kernel_rfl) (fun W => by kernel_rfl) fun q w6 hL6 hp6 hq => ?_
      have hz6 := hL6.size
      have hlt6 := hq.lt
      try simp only [pp]
      refine rj_store q #[.pointer (some ⟨a, 0, none⟩)] rfl rfl (by kernel_rfl) rfl rfl (by kernel_rfl) hq rfl (by kernel_rfl) fun w7 hU7 hn7 => ?_
      have hz7 := hU7.size
      replace hJJ := hJJ.later hL6
      replace hJJ := hJJ.upd hU7 (by omega)
      replace hB := hB.later hL6
      replace hB := hB.upd hU7 (by omega)
      replace hl := hl.later hL6
      replace hl := hl.upd hU7 (by omega)
      clear hq
      have hq := hn7
      clear hn7
      try simp only [pp]
      refine rj_end hgo <| hKK5 _ _ <| wpIn_seq_k fun KK8 hKK8 => rj_begin fun hgK hgo => sk 15 (.pointer (some ⟨q, 0, none⟩)) ?_
      simp only [pp]
      refine sx 16 (.pointer (some ⟨a, 0, none⟩)) (by exact ld 116 q 0 (hq.cell 0)) ?_
      simp only [pp]
      refine rj_call (some 17) 100 #[.pointer (some ⟨a, 0, none⟩)] rfl (by kernel_rfl) (by kernel_rfl) (LBytes_own a l _ hl) ?_
      rintro e w9 ⟨A1, c1, rfl, hL9, hA⟩
      refine ⟨_, rfl, ?_⟩
      have hz9 := hL9.size
      try simp only [pp]
      refine sk 8 (.slice A1 l.length c1) ?_
      simp only [pp]
      refine rj_end hgo <| hKK8 _ _ <| wpIn_seq_k fun KK10 hKK10 => rj_begin fun hgK hgo => sk 18 (.int .i64 f) <| sk 19 (.slice A1 l.length c1) <| sk 20 (.int .i64 l.length) ?_
      simp only [pp]
      refine sx 21 (.bool false) (by exact ebf (c := (f : Int) ≥ l.length) (by omega)) <| sk 22 (.bool false) <| sk 23 (.func (.yield lp) #[] #[]) <| sk 24 (.slice A1 l.length c1) <| sk 25 (.int .i64 f) ?_
      simp only [pp]
      refine sx 26 (.slice (cutA A1 c1 f) (l.length - f) (c1 - f)) (by exact ex_cutN f l.length (l.length - f) (by have := hA.2.1; omega) rfl rfl (.inl rfl) (.inr ⟨rfl, rfl⟩) (by kernel_rfl) (fun _ => by kernel_rfl) (by have := hA.2.1; omega) (by have := hA.2.1; omega) (by have := hA.2.1; omega) _) ?_
      simp only [pp]
      replace hJJ := hJJ.later hL9
      have h9 := (hA.mono (show n₀ ≤ _ by omega)).cut f l.length (c1 - f) (by omega) (Nat.le_refl _) (Nat.sub_le_sub_right hA.2.1 f); rw [List.take_length] at h9; have hl9 : (l.drop f).length = l.length - f := List.length_drop; have hy9 := hY2 pre (cutA A1 c1 f, c1 - f, l.drop f) _ hJJ.get h9 ⟨r, by rw [← hok]; simp [piecesF, hlt, pcB]⟩; simp only [pcEnc, hl9] at hy9
      refine rj_yield (some 27) lp #[.slice (cutA A1 c1 f) (l.length - f) (c1 - f)] rfl (by kernel_rfl) (by kernel_rfl) (hy9) ?_
      replace hB := hB.later hL9
      replace hl := hl.later hL9
      replace hq := hq.later hL9
      rintro e w11 (⟨rfl, hJ9, hb9⟩ | ⟨rfl, hJ9⟩)
      ·refine ⟨_, rfl, ?_⟩
       try simp only [pp]
       refine sk 28 (.bool true) <| sk 6 (.bool true) ?_
       simp only [pp]
       refine rj_end hgo <| hKK10 _ _ ?_
       refine wpIn_ret ?_
       try simp only [Exit.then, Exit.inBlock]
       refine bp_ret (v := .bool true) (res1 rfl (res_tmp (by kernel_rfl))) ?_
       exact .inl ⟨rfl, ⟨hB.1, hB.2.trans hb9.2⟩, [(cutA A1 c1 f, c1 - f, l.drop f)], by simp [piecesF, hlt, pcB], hJ9⟩
      ·refine ⟨_, rfl, ?_⟩
       try simp only [pp]
       refine sk 28 (.bool false) <| sk 6 (.bool false) ?_
       simp only [pp]
       refine rj_end hgo <| hKK10 _ _ ?_
       refine wpIn_ret ?_
       try simp only [Exit.then, Exit.inBlock]
       refine bp_ret (v := .bool false) (res1 rfl (res_tmp (by kernel_rfl))) ?_
       exact .inr ⟨rfl, _, ⟨r, by rw [← hok]; simp [piecesF, hlt, pcB]⟩, hJ9⟩
  | fork x y ihx ihy =>
    intro vs f pre W ht hJ hok hf hs
    have hz0 := ht.1
    obtain ⟨a, vx, vy, rfl, ha, hb, hx, hy⟩ := ht.2
    replace hx : TreeN n₀ W x vx := ⟨hz0, hx⟩
    replace hy : TreeN n₀ W y vy := ⟨hz0, hy⟩
    have hB := Bel.refl n₀ W hz0
    have hJJ : JAt J pre W.heap.size W := ⟨hY.1, W, rfl, hJ, Ltr.refl _⟩
    clear hJ
    obtain ⟨r, hok⟩ := hok
    rw [Tr.len_fork] at hs
    obtain ⟨fs, xs, es, cs⟩ := inv_sizeN hx
    have hL0 := Bel.refl n₀ W hz0
    by_cases hlt : f < x.bytes.length
    · rw [piecesF, if_pos hlt] at hok
      refine (callsIn_wide (n := 0)).1 ?_
      refine callsIn_of_wp Tryd.func79 rfl trivial ?_ rfl
      simp only [Tryd.ntmps79, List.size_toArray, List.length_cons, List.length_nil, Nat.reduceAdd, Nat.reduceSub, Array.replicate_succ, Array.replicate_zero, List.push_toArray, List.append_toArray, List.nil_append, List.cons_append]
      rw [Fn_none]
      have hlt_hb := hb.lt
      refine wpIn_seq_k fun KK1 hKK1 => rj_begin fun hgK hgo => sk 6 (.bool false) ?_
      simp only [pp]
      refine rj_end hgo <| hKK1 _ _ <| wpIn_seq_k fun KK2 hKK2 => wpIn_seq_k fun KK3 hKK3 => rj_begin fun hgK hgo => sk 11 (.iface 111 (.pointer (some ⟨a, 0, none⟩))) ?_
      simp only [pp]
      refine rj_end hgo <| hKK3 _ _ <| wpIn_block <| wpIn_seq_k fun KK4 hKK4 => rj_begin fun hgK hgo => sk 12 (.tuple #[.agg #[.pointer none], .bool false]) <| sk 13 (.bool false) <| sk 14 (.agg #[.pointer none]) ?_
      simp only [pp]
      refine rj_end hgo <| hKK4 _ _ <| wpIn_cond_false (by kernel_rfl) <| wpIn_seq_k fun KK5 hKK5 => rj_begin fun hgK hgo => sk 29 (.tuple #[.pointer (some ⟨a, 0, none⟩), .bool true]) <| sk 30 (.bool true) <| sk 31 (.pointer (some ⟨a, 0, none⟩)) ?_
      simp only [pp]
      refine rj_end hgo <| hKK5 _ _ <| wpIn_cond_true (by kernel_rfl) <| wpIn_seq_k fun KK6 hKK6 => rj_begin fun hgK hgo => sk 9 (.pointer (some ⟨a, 0, none⟩)) ?_
      simp only [pp]
      refine rj_end hgo <| hKK6 _ _ <| wpIn_seq_k fun KK7 hKK7 => rj_begin fun hgK hgo => sk 32 (.pointer (some ⟨a, 0, none⟩)) <| sk 33 (.pointer (some ⟨a, 0, none⟩)) <| sk 34 (.pointer (some ⟨a, 0, none⟩)) ?_
      simp only [pp]
      refine sx 35 vx (by exact ld 108 a 0 (hb.cell 0)) ?_
      simp only [pp]
      refine rj_call (some 36) fs #[xs] rfl (by kernel_rfl) (by exact es _ _ _ _ rfl rfl) (cs _ hL0) ?_
      rintro e w8 ⟨rfl, hL8⟩
      refine ⟨_, rfl, ?_⟩
      have hz8 := hL8.size
      try simp only [pp]
      refine sk 10 (.int .i64 x.bytes.length) ?_
      simp only [pp]
      refine rj_end hgo <| hKK7 _ _ <| wpIn_seq_k fun KK9 hKK9 => wpIn_seq_k fun KK10 hKK10 => rj_begin fun hgK hgo => sk 37 (.int .i64 f) <| sk 38 (.int .i64 x.bytes.length) ?_
      simp only [pp]
      refine sx 39 (.bool true) (by exact ebt (c := (f : Int) < x.bytes.length) (by omega)) <| sk 40 (.bool true) <| sk 41 (.pointer (some ⟨a, 0, none⟩)) <| sk 42 (.pointer (some ⟨a, 0, none⟩)) <| sk 43 (.pointer (some ⟨a, 0, none⟩)) ?_
      simp only [pp]
      replace hb := hb.later hL8
      refine sx 44 vx (by exact ld 108 a 0 (hb.cell 0)) <| sk 45 (.int .i64 f) <| sk 46 (.func (.yield lp) #[] #[]) ?_
      simp only [pp]
      replace hJJ := hJJ.later hL8
      replace hx := hx.later hL8
      refine rj_call (some 47) 79 #[vx, .int .i64 f, .func (.yield lp) #[] #[]] rfl (by kernel_rfl) (by kernel_rfl) (ihx vx f pre _ hx hJJ.get ⟨_, by rw [← hok]; simp only [List.append_assoc]; rfl⟩ hf (by omega)) ?_
      replace hB := hB.later hL8
      replace hy := hy.later hL8
      replace hL0 := hL0.later hL8
      rintro e w11 (⟨rfl, hb9, xs1, hm9, hJ9⟩ | ⟨rfl, p9, hp9, hJ9⟩)
      ·refine ⟨_, rfl, ?_⟩
       replace hB := hB.bel hb9.2 (by omega)
       replace hx := hx.bel hb9.2 (by omega)
       replace hy := hy.bel hb9.2 (by omega)
       replace hL0 := hL0.bel hb9.2 (by omega)
       replace hb := hb.bel hb9.2 (by omega)
       have hz11 := (hb9.2).size
       try simp only [pp]
       refine sk 48 (.bool false) <| sk 49 (.bool false) ?_
       simp only [pp]
       refine rj_end hgo <| hKK10 _ _ <| wpIn_cond_false (by kernel_rfl) ?_
       refine wpIn_skip ?_
       refine hKK9 _ _ <| wpIn_seq_k fun KK12 hKK12 => rj_begin fun hgK hgo => sk 50 (.pointer (some ⟨a, 0, none⟩)) <| sk 51 (.pointer (some ⟨a, 0, none⟩)) <| sk 52 (.pointer (some ⟨a, 1, none⟩)) ?_
       simp only [pp]
       refine sx 53 vy (by exact ld 108 a 1 (hb.cell 1)) <| sk 54 (.int .i64 f) <| sk 55 (.int .i64 x.bytes.length) ?_
       simp only [pp]
       refine sx 56 (.int .i64 ((f : Int) - x.bytes.length)) (by exact ex_arith (e := (f : Int) - x.bytes.length) (r := (f : Int) - x.bytes.length) (by kernel_rfl) (by omega) (by omega)) ?_
       simp only [pp]
       refine sx 57 (.int .i64 (((f - x.bytes.length : Nat) : Int))) (by exact ex_max2 (a := 0) (b := ((f : Int) - x.bytes.length)) rfl rfl rfl (r := ((f - x.bytes.length : Nat) : Int)) (by omega)) <| sk 58 (.func (.yield lp) #[] #[]) ?_
       simp only [pp]
       refine rj_call (some 59) 79 #[vy, .int .i64 (((f - x.bytes.length : Nat) : Int)), .func (.yield lp) #[] #[]] rfl (by kernel_rfl) (by kernel_rfl) (ihy vy _ _ _ hy hJ9 ⟨r, by rw [← hok, List.map_append, hm9]; simp only [List.append_assoc]⟩ (by omega) (by omega)) ?_
       rintro e w13 (⟨rfl, hb11, xs2, hm11, hJ11⟩ | ⟨rfl, p11, hp11, hJ11⟩)
       ·refine ⟨_, rfl, ?_⟩
        try simp only [pp]
        refine sk 6 (.bool true) ?_
        simp only [pp]
        refine rj_end hgo <| hKK12 _ _ ?_
        refine wpIn_ret ?_
        try simp only [Exit.then, Exit.inBlock]
        refine bp_ret (v := .bool true) (res1 rfl (res_tmp (by kernel_rfl))) ?_
        exact .inl ⟨rfl, ⟨hB.1, hB.2.trans hb11.2⟩, xs1 ++ xs2, by rw [piecesF, if_pos hlt, List.map_append, hm9, hm11], by rw [← List.append_assoc]; exact hJ11⟩
       ·refine ⟨_, rfl, ?_⟩
        try simp only [pp]
        refine sk 6 (.bool false) ?_
        simp only [pp]
        refine rj_end hgo <| hKK12 _ _ ?_
        refine wpIn_ret ?_
        try simp only [Exit.then, Exit.inBlock]
        refine bp_ret (v := .bool false) (res1 rfl (res_tmp (by kernel_rfl))) ?_
        exact .inr ⟨rfl, p11, hp11, hJ11⟩
      ·refine ⟨_, rfl, ?_⟩
       try simp only [pp]
       refine sk 48 (.bool true) <| sk 49 (.bool true) ?_
       simp only [pp]
       refine rj_end hgo <| hKK10 _ _ <| wpIn_cond_true (by kernel_rfl) <| wpIn_seq_k fun KK14 hKK14 => rj_begin fun hgK hgo => sk 6 (.bool false) ?_
       simp only [pp]
       refine rj_end hgo <| hKK14 _ _ ?_
       refine wpIn_ret ?_
       try simp only [Exit.then, Exit.inBlock]
       refine bp_ret (v := .bool false) (res1 rfl (res_tmp (by kernel_rfl))) ?_
       exact .inr ⟨rfl, p9, hp9, hJ9⟩
    · rw [piecesF, if_neg hlt, List.nil_append] at hok
      refine (callsIn_wide (n := 0)).1 ?_
      refine callsIn_of_wp Tryd.func79 rfl trivial ?_ rfl
      simp only [Tryd.ntmps79, List.size_toArray, List.length_cons, List.length_nil, Nat.reduceAdd, Nat.reduceSub, Array.replicate_succ, Array.replicate_zero, List.push_toArray, List.append_toArray, List.nil_append, List.cons_append]
      rw [Fn_none]
      have hlt_hb := hb.lt
      refine wpIn_seq_k fun KK1 hKK1 => rj_begin fun hgK hgo => sk 6 (.bool false) ?_
      simp only [pp]
      refine rj_end hgo <| hKK1 _ _ <| wpIn_seq_k fun KK2 hKK2 => wpIn_seq_k fun KK3 hKK3 => rj_begin fun hgK hgo => sk 11 (.iface 111 (.pointer (some ⟨a, 0, none⟩))) ?_
      simp only [pp]
      refine rj_end hgo <| hKK3 _ _ <| wpIn_block <| wpIn_seq_k fun KK4 hKK4 => rj_begin fun hgK hgo => sk 12 (.tuple #[.agg #[.pointer none], .bool false]) <| sk 13 (.bool false) <| sk 14 (.agg #[.pointer none]) ?_
      simp only [pp]
      refine rj_end hgo <| hKK4 _ _ <| wpIn_cond_false (by kernel_rfl) <| wpIn_seq_k fun KK5 hKK5 => rj_begin fun hgK hgo => sk 29 (.tuple #[.pointer (some ⟨a, 0, none⟩), .bool true]) <| sk 30 (.bool true) <| sk 31 (.pointer (some ⟨a, 0, none⟩)) ?_
      simp only [pp]
      refine rj_end hgo <| hKK5 _ _ <| wpIn_cond_true (by kernel_rfl) <| wpIn_seq_k fun KK6 hKK6 => rj_begin fun hgK hgo => sk 9 (.pointer (some ⟨a, 0, none⟩)) ?_
      simp only [pp]
      refine rj_end hgo <| hKK6 _ _ <| wpIn_seq_k fun KK7 hKK7 => rj_begin fun hgK hgo => sk 32 (.pointer (some ⟨a, 0, none⟩)) <| sk 33 (.pointer (some ⟨a, 0, none⟩)) <| sk 34 (.pointer (some ⟨a, 0, none⟩)) ?_
      simp only [pp]
      refine sx 35 vx (by exact ld 108 a 0 (hb.cell 0)) ?_
      simp only [pp]
      refine rj_call (some 36) fs #[xs] rfl (by kernel_rfl) (by exact es _ _ _ _ rfl rfl) (cs _ hL0) ?_
      rintro e w8 ⟨rfl, hL8⟩
      refine ⟨_, rfl, ?_⟩
      have hz8 := hL8.size
      try simp only [pp]
      refine sk 10 (.int .i64 x.bytes.length) ?_
      simp only [pp]
      refine rj_end hgo <| hKK7 _ _ <| wpIn_seq_k fun KK9 hKK9 => wpIn_seq_k fun KK10 hKK10 => rj_begin fun hgK hgo => sk 37 (.int .i64 f) <| sk 38 (.int .i64 x.bytes.length) ?_
      simp only [pp]
      refine sx 39 (.bool false) (by exact ebf (c := (f : Int) < x.bytes.length) (by omega)) <| sk 40 (.bool false) ?_
      simp only [pp]
      refine rj_pass (some 41) rfl (by kernel_rfl) ?_
      try simp only [pp]
      refine rj_pass (some 42) rfl (by kernel_rfl) ?_
      try simp only [pp]
      refine rj_pass (some 43) rfl (by kernel_rfl) ?_
      try simp only [pp]
      refine rj_pass (some 44) rfl (by kernel_rfl) ?_
      try simp only [pp]
      refine rj_pass (some 45) rfl (by kernel_rfl) ?_
      try simp only [pp]
      refine rj_pass (some 46) rfl (by kernel_rfl) ?_
      try simp only [pp]
      refine rj_pass (some 47) rfl (by kernel_rfl) ?_
      try simp only [pp]
      refine rj_pass (some 48) rfl (by kernel_rfl) ?_
      try simp only [pp]
      refine sk 49 (.bool false) ?_
      simp only [pp]
      refine rj_end hgo <| hKK10 _ _ <| wpIn_cond_false (by kernel_rfl) ?_
      refine wpIn_skip ?_
      refine hKK9 _ _ <| wpIn_seq_k fun KK11 hKK11 => rj_begin fun hgK hgo => sk 50 (.pointer (some ⟨a, 0, none⟩)) <| sk 51 (.pointer (some ⟨a, 0, none⟩)) <| sk 52 (.pointer (some ⟨a, 1, none⟩)) ?_
      simp only [pp]
      replace hb := hb.later hL8
      refine sx 53 vy (by exact ld 108 a 1 (hb.cell 1)) <| sk 54 (.int .i64 f) <| sk 55 (.int .i64 x.bytes.length) ?_
      simp only [pp]
      refine sx 56 (.int .i64 ((f : Int) - x.bytes.length)) (by exact ex_arith (e := (f : Int) - x.bytes.length) (r := (f : Int) - x.bytes.length) (by kernel_rfl) (by omega) (by omega)) ?_
      simp only [pp]
      refine sx 57 (.int .i64 (((f - x.bytes.length : Nat) : Int))) (by exact ex_max2 (a := 0) (b := ((f : Int) - x.bytes.length)) rfl rfl rfl (r := ((f - x.bytes.length : Nat) : Int)) (by omega)) <| sk 58 (.func (.yield lp) #[] #[]) ?_
      simp only [pp]
      replace hJJ := hJJ.later hL8
      replace hy := hy.later hL8
      refine rj_call (some 59) 79 #[vy, .int .i64 (((f - x.bytes.length : Nat) : Int)), .func (.yield lp) #[] #[]] rfl (by kernel_rfl) (by kernel_rfl) (ihy vy _ _ _ hy hJJ.get ⟨r, by rw [← hok]⟩ (by omega) (by omega)) ?_
      replace hB := hB.later hL8
      replace hx := hx.later hL8
      replace hL0 := hL0.later hL8
      rintro e w12 (⟨rfl, hb11, xs2, hm11, hJ11⟩ | ⟨rfl, p11, hp11, hJ11⟩)
      ·refine ⟨_, rfl, ?_⟩
       try simp only [pp]
       refine sk 6 (.bool true) ?_
       simp only [pp]
       refine rj_end hgo <| hKK11 _ _ ?_
       refine wpIn_ret ?_
       try simp only [Exit.then, Exit.inBlock]
       refine bp_ret (v := .bool true) (res1 rfl (res_tmp (by kernel_rfl))) ?_
       exact .inl ⟨rfl, ⟨hB.1, hB.2.trans hb11.2⟩, xs2, by rw [piecesF, if_neg hlt, List.nil_append, hm11], hJ11⟩
      ·refine ⟨_, rfl, ?_⟩
       try simp only [pp]
       refine sk 6 (.bool false) ?_
       simp only [pp]
       refine rj_end hgo <| hKK11 _ _ ?_
       refine wpIn_ret ?_
       try simp only [Exit.then, Exit.inBlock]
       refine bp_ret (v := .bool false) (res1 rfl (res_tmp (by kernel_rfl))) ?_
       exact .inr ⟨rfl, p11, hp11, hJ11⟩
theorem ex_cut3 {o : Oper} {ρ : Operand → Value} {ty : TypeId} {x z z' : Operand} {A : Option Addr} {c n : Nat} (m : Nat) (ho : o.op = .slice ty x none (some z) (some z')) (hx : ρ x = .slice A n c)
    (hz : ρ z = .int .i64 (m : Int)) (hz' : ρ z' = .int .i64 (m : Int)) (hu : Tryd.prog.underlying ty = some (.slice (Tryd.prog.elem ty))) (hs : ∀ w, (sizeOf (Tryd.prog.elem ty)).run Tryd.prog w = .ok 1 w)
    (h2 : m ≤ c) (w : World) :
    (execOp ρ o).run Tryd.prog w = .ok (.value (.slice (cutA A m 0) m m)) w := by
  have key : (Instr.slice ty (.slice A n c) none (some (.int .i64 (m : Int))) (some (.int .i64 (m : Int)))).run Tryd.prog w = .ok (.slice (cutA A m 0) m m) w := by
    rw [run_slice_hm w ty A _ c hu .i64 .i64 m m (by omega) (by omega) (by omega)]
    simp only [hs, Result.andThen_ok, Int.toNat_natCast, sliced, cutA, Nat.mul_one, Nat.sub_zero]
  unfold execOp
  simp only [ho, hx, Sem.run_bind, run_sliceAt_slice w ty _ _ _ _ hu, Option.map_none, Option.map_some, hz, hz', key, Result.andThen_ok, Sem.run_pure]
theorem BRow.cut3 {n : Nat} {w : World} {A : Option Addr} {c : Nat} {l : List UInt8} (h : BRow n w A c l) (m : Nat) (h2 : m ≤ l.length) : BRow n w (cutA A m 0) m (l.take m) := by
  obtain ⟨k1, k2, g, off, rfl, h3, h4, h5⟩ := h
  have hlen : (l.take m).length = m := by rw [List.length_take]; omega
  refine ⟨k1, by omega, g, off, ?_, h3, h4, fun i hi => ?_⟩
  · unfold cutA; split <;> simp [add_none]
  · have h6 := h5 i (by omega)
    refine ⟨?_, h6.2⟩
    rw [h6.1]; unfold gb
    rw [List.getD_eq_getElem?_getD, List.getD_eq_getElem?_getD, List.getElem?_take, if_pos (by omega)]
set_option maxRecDepth 100000 in
set_option maxHeartbeats 8000000 in
theorem backwards_any (n₀ lp : Nat) (ps : List (List UInt8)) (J Jx : List Pc → World → Prop) (hY : YieldsP n₀ lp ps J Jx) :
    ∀ (s : Tr) (vs : Value) (f : Nat) (pre : List Pc) (W : World), TreeN n₀ W s vs → J pre W → (∃ r, pre.map pcB ++ piecesB s f ++ r = ps) → f ≤ 1000000000 → s.bytes.length ≤ 1000000000 →
      Calls Tryd.prog 78 #[vs, .int .i64 f, .func (.yield lp) #[] #[]] W (WalkP n₀ ps (piecesB s f) J Jx pre W) := by
  intro s
  induction s with
  | tip l =>
    intro vs f pre W ht hJ hok hf hs
    obtain ⟨hz0, a, rfl, ha, hl⟩ := ht
    have hB := Bel.refl n₀ W hz0
    have hJJ : JAt J pre W.heap.size W := ⟨hY.1, W, rfl, hJ, Ltr.refl _⟩
    clear hJ
    have hY2 := hY.2.2
    obtain ⟨r, hok⟩ := hok
    simp only [Tr.bytes] at hs
    obtain ⟨m, hm⟩ : ∃ m, m = min f l.length := ⟨_, rfl⟩
    have hml : (l.take m).length = m := by rw [List.length_take]; omega
    by_cases hlt : m = 0
    · skip
      refine (callsIn_wide (n := 0)).1 ?_
      refine callsIn_of_wp Tryd.func78 rfl trivial ?_ rfl
      simp only [Tryd.ntmps78, List.size_toArray, List.length_cons, List.length_nil, Nat.reduceAdd, Nat.reduceSub, Array.replicate_succ, Array.replicate_zero, List.push_toArray, List.append_toArray, List.nil_append, List.cons_append]
      rw [Fn_none]
      refine wpIn_seq_k fun KK1 hKK1 => rj_begin fun hgK hgo => sk 6 (.bool false) ?_
      simp only [pp]
      refine rj_end hgo <| hKK1 _ _ <| wpIn_seq_k fun KK2 hKK2 => wpIn_seq_k fun KK3 hKK3 => rj_begin fun hgK hgo => sk 11 (.iface 118 (.agg #[.pointer (some ⟨a, 0, none⟩)])) ?_
      simp only [pp]
      refine rj_end hgo <| hKK3 _ _ <| wpIn_block <| wpIn_seq_k fun KK4 hKK4 => rj_begin fun hgK hgo => sk 12 (.tuple #[.agg #[.pointer (some ⟨a, 0, none⟩)], .bool true]) <| sk 13 (.bool true) <| sk 14 (.agg #[.pointer (some ⟨a, 0, none⟩)]) ?_
      simp only [pp]
      refine rj_end hgo <| hKK4 _ _ <| wpIn_cond_true (by kernel_rfl) <| wpIn_seq_k fun KK5 hKK5 => rj_begin fun hgK hgo => ?_
      refine rj_alloc (some 7) 118 #[.pointer none] rfl (by kernel_rfl) (fun W => by kernel_rfl) fun q w6 hL6 hp6 hq => ?_
      have hz6 := hL6.size
      have hlt6 := hq.lt
      try simp only [pp]
      refine rj_store q #[.pointer (some ⟨a, 0, none⟩)] rfl rfl (by kernel_rfl) rfl rfl (by kernel_rfl) hq rfl (by kernel_rfl) fun w7 hU7 hn7 => ?_
      have hz7 := hU7.size
      replace hJJ := hJJ.later hL6
      replace hJJ := hJJ.upd hU7 (by omega)
      replace hB := hB.later hL6
      replace hB := hB.upd hU7 (by omega)
      replace hl := hl.later hL6
      replace hl := hl.upd hU7 (by omega)
      clear hq
      have hq := hn7
      clear hn7
      try simp only [pp]
      refine rj_end hgo <| hKK5 _ _ <| wpIn_seq_k fun KK8 hKK8 => rj_begin fun hgK hgo => sk 15 (.pointer (some ⟨q, 0, none⟩)) ?_
      simp only [pp]
      refine sx 16 (.pointer (some ⟨a, 0, none⟩)) (by exact ld 116 q 0 (hq.cell 0)) ?_
      simp only [pp]
      refine rj_call (some 17) 100 #[.pointer (some ⟨a, 0, none⟩)] rfl (by kernel_rfl) (by kernel_rfl) (LBytes_own a l _ hl) ?_
      rintro e w9 ⟨A1, c1, rfl, hL9, hA⟩
      refine ⟨_, rfl, ?_⟩
      have hz9 := hL9.size
      try simp only [pp]
      refine sk 8 (.slice A1 l.length c1) ?_
      simp only [pp]
      refine rj_end hgo <| hKK8 _ _ <| wpIn_seq_k fun KK10 hKK10 => rj_begin fun hgK hgo => sk 18 (.int .i64 f) <| sk 19 (.slice A1 l.length c1) <| sk 20 (.int .i64 l.length) ?_
      simp only [pp]
      refine sx 21 (.int .i64 ((m : Int))) (by exact ex_min2 (a := f) (b := l.length) rfl rfl rfl (r := (m : Int)) (by omega)) <| sk 1 (.int .i64 ((m : Int))) ?_
      simp only [pp]
      refine rj_end hgo <| hKK10 _ _ <| wpIn_seq_k fun KK11 hKK11 => rj_begin fun hgK hgo => sk 22 (.int .i64 ((m : Int))) ?_
      simp only [pp]
      refine sx 23 (.bool true) (by exact ebt (c := ((m : Int) : Int) ≤ 0) (by omega)) <| sk 24 (.bool true) ?_
      simp only [pp]
      refine rj_pass (some 25) rfl (by kernel_rfl) ?_
      try simp only [pp]
      refine rj_pass (some 26) rfl (by kernel_rfl) ?_
      try simp only [pp]
      refine rj_pass (some 27) rfl (by kernel_rfl) ?_
      try simp only [pp]
      refine rj_pass (some 28) rfl (by kernel_rfl) ?_
      try simp only [pp]
      refine rj_pass (some 29) rfl (by kernel_rfl) ?_
      try simp only [pp]
      refine rj_pass (some 30) rfl (by kernel_rfl) ?_
      try simp only [pp]
      refine sk 31 (.bool true) <| sk 6 (.bool true) ?_
      simp only [pp]
      refine rj_end hgo <| hKK11 _ _ ?_
      refine wpIn_ret ?_
      try simp only [Exit.then, Exit.inBlock]
      refine bp_ret (v := .bool true) (res1 rfl (res_tmp (by kernel_rfl))) ?_
      replace hJJ := hJJ.later hL9
      replace hB := hB.later hL9
      exact .inl ⟨rfl, hB, [], by simp [piecesB, ← hm, hlt], by simpa using hJJ.get⟩
    · skip
      refine (callsIn_wide (n := 0)).1 ?_
      refine callsIn_of_wp Tryd.func78 rfl trivial ?_ rfl
      simp only [Tryd.ntmps78, List.size_toArray, List.length_cons, List.length_nil, Nat.reduceAdd, Nat.reduceSub, Array.replicate_succ, Array.replicate_zero, List.push_toArray, List.append_toArray, List.nil_append, List.cons_append]
      rw [Fn_none]
      refine wpIn_seq_k fun KK1 hKK1 => rj_begin fun hgK hgo => sk 6 (.bool false) ?_
      simp only [pp]
      refine rj_end hgo <| hKK1 _ _ <| wpIn_seq_k fun KK2 hKK2 => wpIn_seq_k fun KK3 hKK3 => rj_begin fun hgK hgo => sk 11 (.iface 118 (.agg #[.pointer (some ⟨a, 0, none⟩)])) ?_
      simp only [pp]
      refine rj_end hgo <| hKK3 _ _ <| wpIn_block <| wpIn_seq_k fun KK4 hKK4 => rj_begin fun hgK hgo => sk 12 (.tuple #[.agg #[.pointer (some ⟨a, 0, none⟩)], .bool true]) <| sk 13 (.bool true) <| sk 14 (.agg #[.pointer (some ⟨a, 0, none⟩)]) ?_
      simp only [pp]
      refine rj_end hgo <| hKK4 _ _ <| wpIn_cond_true (by kernel_rfl) <| wpIn_seq_k fun KK5 hKK5 => rj_begin fun hgK hgo => ?_
      refine rj_alloc (some 7) 118 #[.pointer none] rfl (by kernel_rfl) (fun W => by kernel_rfl) fun q w6 hL6 hp6 hq => ?_
      have hz6 := hL6.size
      have hlt6 := hq.lt
      try simp only [pp]
      refine rj_store q #[.pointer (some ⟨a, 0, none⟩)] rfl rfl (by kernel_rfl) rfl rfl (by kernel_rfl) hq rfl (by kernel_rfl) fun w7 hU7 hn7 => ?_
      have hz7 := hU7.size
      replace hJJ := hJJ.later hL6
      replace hJJ := hJJ.upd hU7 (by omega)
      replace hB := hB.later hL6
      replace hB := hB.upd hU7 (by omega)
      replace hl := hl.later hL6
      replace hl := hl.upd hU7 (by omega)
      clear hq
      have hq := hn7
      clear hn7
      try simp only [pp]
      refine rj_end hgo <| hKK5 _ _ <| wpIn_seq_k fun KK8 hKK8 => rj_begin fun hgK hgo => sk 15 (.pointer (some ⟨q, 0, none⟩)) ?_
      simp only [pp]
      refine sx 16 (.pointer (some ⟨a, 0, none⟩)) (by exact ld 116 q 0 (hq.cell 0)) ?_
      simp only [pp]
      refine rj_call (some 17) 100 #[.pointer (some ⟨a, 0, none⟩)] rfl (by kernel_rfl) (by kernel_rfl) (LBytes_own a l _ hl) ?_
      rintro e w9 ⟨A1, c1, rfl, hL9, hA⟩
      refine ⟨_, rfl, ?_⟩
      have hz9 := hL9.size
      try simp only [pp]
      refine sk 8 (.slice A1 l.length c1) ?_
      simp only [pp]
      refine rj_end hgo <| hKK8 _ _ <| wpIn_seq_k fun KK10 hKK10 => rj_begin fun hgK hgo => sk 18 (.int .i64 f) <| sk 19 (.slice A1 l.length c1) <| sk 20 (.int .i64 l.length) ?_
      simp only [pp]
      refine sx 21 (.int .i64 ((m : Int))) (by exact ex_min2 (a := f) (b := l.length) rfl rfl rfl (r := (m : Int)) (by omega)) <| sk 1 (.int .i64 ((m : Int))) ?_
      simp only [pp]
      refine rj_end hgo <| hKK10 _ _ <| wpIn_seq_k fun KK11 hKK11 => rj_begin fun hgK hgo => sk 22 (.int .i64 ((m : Int))) ?_
      simp only [pp]
      refine sx 23 (.bool false) (by exact ebf (c := ((m : Int) : Int) ≤ 0) (by omega)) <| sk 24 (.bool false) <| sk 25 (.func (.yield lp) #[] #[]) <| sk 26 (.slice A1 l.length c1) <| sk 27 (.int .i64 ((m : Int))) <| sk 28 (.int .i64 ((m : Int))) ?_
      simp only [pp]
      refine sx 29 (.slice (cutA A1 m 0) m m) (by exact ex_cut3 (c := c1) m rfl rfl rfl rfl (by kernel_rfl) (fun _ => by kernel_rfl) (by have := hA.2.1; omega) _) ?_
      simp only [pp]
      replace hJJ := hJJ.later hL9
      have h9 := (hA.mono (show n₀ ≤ _ by omega)).cut3 m (by omega); have hy9 := hY2 pre (cutA A1 m 0, m, l.take m) _ hJJ.get h9 ⟨r, by rw [← hok]; simp [piecesB, ← hm, hlt, pcB]⟩; simp only [pcEnc, hml] at hy9
      refine rj_yield (some 30) lp #[.slice (cutA A1 m 0) m m] rfl (by kernel_rfl) (by kernel_rfl) (hy9) ?_
      replace hB := hB.later hL9
      replace hl := hl.later hL9
      replace hq := hq.later hL9
      rintro e w12 (⟨rfl, hJ9, hb9⟩ | ⟨rfl, hJ9⟩)
      ·refine ⟨_, rfl, ?_⟩
       try simp only [pp]
       refine sk 31 (.bool true) <| sk 6 (.bool true) ?_
       simp only [pp]
       refine rj_end hgo <| hKK11 _ _ ?_
       refine wpIn_ret ?_
       try simp only [Exit.then, Exit.inBlock]
       refine bp_ret (v := .bool true) (res1 rfl (res_tmp (by kernel_rfl))) ?_
       exact .inl ⟨rfl, ⟨hB.1, hB.2.trans hb9.2⟩, [(cutA A1 m 0, m, l.take m)], by simp [piecesB, ← hm, hlt, pcB], hJ9⟩
      ·refine ⟨_, rfl, ?_⟩
       try simp only [pp]
       refine sk 31 (.bool false) <| sk 6 (.bool false) ?_
       simp only [pp]
       refine rj_end hgo <| hKK11 _ _ ?_
       refine wpIn_ret ?_
       try simp only [Exit.then, Exit.inBlock]
       refine bp_ret (v := .bool false) (res1 rfl (res_tmp (by kernel_rfl))) ?_
       exact .inr ⟨rfl, _, ⟨r, by rw [← hok]; simp [piecesB, ← hm, hlt, pcB]⟩, hJ9⟩
  | fork x y ihx ihy =>
    intro vs f pre W ht hJ hok hf hs
    have hz0 := ht.1
    obtain ⟨a, vx, vy, rfl, ha, hb, hx, hy⟩ := ht.2
    replace hx : TreeN n₀ W x vx := ⟨hz0, hx⟩
    replace hy : TreeN n₀ W y vy := ⟨hz0, hy⟩
    have hB := Bel.refl n₀ W hz0
    have hJJ : JAt J pre W.heap.size W := ⟨hY.1, W, rfl, hJ, Ltr.refl _⟩
    clear hJ
    obtain ⟨r, hok⟩ := hok
    rw [Tr.len_fork] at hs
    obtain ⟨fs, xs, es, cs⟩ := inv_sizeN hx
    have hL0 := Bel.refl n₀ W hz0
    by_cases hlt : x.bytes.length < f
    · rw [piecesB, if_pos hlt] at hok
      refine (callsIn_wide (n := 0)).1 ?_
      refine callsIn_of_wp Tryd.func78 rfl trivial ?_ rfl
      simp only [Tryd.ntmps78, List.size_toArray, List.length_cons, List.length_nil, Nat.reduceAdd, Nat.reduceSub, Array.replicate_succ, Array.replicate_zero, List.push_toArray, List.append_toArray, List.nil_append, List.cons_append]
      rw [Fn_none]
      have hlt_hb := hb.lt
      refine wpIn_seq_k fun KK1 hKK1 => rj_begin fun hgK hgo => sk 6 (.bool false) ?_
      simp only [pp]
      refine rj_end hgo <| hKK1 _ _ <| wpIn_seq_k fun KK2 hKK2 => wpIn_seq_k fun KK3 hKK3 => rj_begin fun hgK hgo => sk 11 (.iface 111 (.pointer (some ⟨a, 0, none⟩))) ?_
      simp only [pp]
      refine rj_end hgo <| hKK3 _ _ <| wpIn_block <| wpIn_seq_k fun KK4 hKK4 => rj_begin fun hgK hgo => sk 12 (.tuple #[.agg #[.pointer none], .bool false]) <| sk 13 (.bool false) <| sk 14 (.agg #[.pointer none]) ?_
      simp only [pp]
      refine rj_end hgo <| hKK4 _ _ <| wpIn_cond_false (by kernel_rfl) <| wpIn_seq_k fun KK5 hKK5 => rj_begin fun hgK hgo => sk 32 (.tuple #[.pointer (some ⟨a, 0, none⟩), .bool true]) <| sk 33 (.bool true) <| sk 34 (.pointer (some ⟨a, 0, none⟩)) ?_
      simp only [pp]
      refine rj_end hgo <| hKK5 _ _ <| wpIn_cond_true (by kernel_rfl) <| wpIn_seq_k fun KK6 hKK6 => rj_begin fun hgK hgo => sk 9 (.pointer (some ⟨a, 0, none⟩)) ?_
      simp only [pp]
      refine rj_end hgo <| hKK6 _ _ <| wpIn_seq_k fun KK7 hKK7 => rj_begin fun hgK hgo => sk 35 (.pointer (some ⟨a, 0, none⟩)) <| sk 36 (.pointer (some ⟨a, 0, none⟩)) <| sk 37 (.pointer (some ⟨a, 0, none⟩)) ?_
      simp only [pp]
      refine sx 38 vx (by exact ld 108 a 0 (hb.cell 0)) ?_
      simp only [pp]
      refine rj_call (some 39) fs #[xs] rfl (by kernel_rfl) (by exact es _ _ _ _ rfl rfl) (cs _ hL0) ?_
      rintro e w8 ⟨rfl, hL8⟩
      refine ⟨_, rfl, ?_⟩
      have hz8 := hL8.size
      try simp only [pp]
      refine sk 10 (.int .i64 x.bytes.length) ?_
      simp only [pp]
      refine rj_end hgo <| hKK7 _ _ <| wpIn_seq_k fun KK9 hKK9 => wpIn_seq_k fun KK10 hKK10 => rj_begin fun hgK hgo => sk 40 (.int .i64 f) <| sk 41 (.int .i64 x.bytes.length) ?_
      simp only [pp]
      refine sx 42 (.bool true) (by exact ebt (c := (f : Int) > x.bytes.length) (by omega)) <| sk 43 (.bool true) <| sk 44 (.pointer (some ⟨a, 0, none⟩)) <| sk 45 (.pointer (some ⟨a, 0, none⟩)) <| sk 46 (.pointer (some ⟨a, 1, none⟩)) ?_
      simp only [pp]
      replace hb := hb.later hL8
      refine sx 47 vy (by exact ld 108 a 1 (hb.cell 1)) <| sk 48 (.int .i64 f) <| sk 49 (.int .i64 x.bytes.length) ?_
      simp only [pp]
      refine sx 50 (.int .i64 (((f - x.bytes.length : Nat) : Int))) (by exact ex_arith (e := (f : Int) - x.bytes.length) (r := ((f - x.bytes.length : Nat) : Int)) (by kernel_rfl) (by omega) (by omega)) <| sk 51 (.func (.yield lp) #[] #[]) ?_
      simp only [pp]
      replace hJJ := hJJ.later hL8
      replace hy := hy.later hL8
      refine rj_call (some 52) 78 #[vy, .int .i64 (((f - x.bytes.length : Nat) : Int)), .func (.yield lp) #[] #[]] rfl (by kernel_rfl) (by kernel_rfl) (ihy vy (f - x.bytes.length) pre _ hy hJJ.get ⟨_, by rw [← hok]; simp only [List.append_assoc]; rfl⟩ (by omega) (by omega)) ?_
      replace hB := hB.later hL8
      replace hx := hx.later hL8
      replace hL0 := hL0.later hL8
      rintro e w11 (⟨rfl, hb9, xs1, hm9, hJ9⟩ | ⟨rfl, p9, hp9, hJ9⟩)
      ·refine ⟨_, rfl, ?_⟩
       replace hB := hB.bel hb9.2 (by omega)
       replace hx := hx.bel hb9.2 (by omega)
       replace hy := hy.bel hb9.2 (by omega)
       replace hL0 := hL0.bel hb9.2 (by omega)
       replace hb := hb.bel hb9.2 (by omega)
       have hz11 := (hb9.2).size
       try simp only [pp]
       refine sk 53 (.bool false) <| sk 54 (.bool false) ?_
       simp only [pp]
       refine rj_end hgo <| hKK10 _ _ <| wpIn_cond_false (by kernel_rfl) ?_
       refine wpIn_skip ?_
       refine hKK9 _ _ <| wpIn_seq_k fun KK12 hKK12 => rj_begin fun hgK hgo => sk 55 (.pointer (some ⟨a, 0, none⟩)) <| sk 56 (.pointer (some ⟨a, 0, none⟩)) <| sk 57 (.pointer (some ⟨a, 0, none⟩)) ?_
       simp only [pp]
       refine sx 58 vx (by exact ld 108 a 0 (hb.cell 0)) <| sk 59 (.int .i64 f) <| sk 60 (.int .i64 x.bytes.length) ?_
       simp only [pp]
       refine sx 61 (.int .i64 (((min f x.bytes.length : Nat) : Int))) (by exact ex_min2 (a := f) (b := x.bytes.length) rfl rfl rfl (r := ((min f x.bytes.length : Nat) : Int)) (by omega)) <| sk 62 (.func (.yield lp) #[] #[]) ?_
       simp only [pp]
       refine rj_call (some 63) 78 #[vx, .int .i64 (((min f x.bytes.length : Nat) : Int)), .func (.yield lp) #[] #[]] rfl (by kernel_rfl) (by kernel_rfl) (ihx vx _ _ _ hx hJ9 ⟨r, by rw [← hok, List.map_append, hm9]; simp only [List.append_assoc]⟩ (by omega) (by omega)) ?_
       rintro e w13 (⟨rfl, hb11, xs2, hm11, hJ11⟩ | ⟨rfl, p11, hp11, hJ11⟩)
       ·refine ⟨_, rfl, ?_⟩
        try simp only [pp]
        refine sk 6 (.bool true) ?_
        simp only [pp]
        refine rj_end hgo <| hKK12 _ _ ?_
        refine wpIn_ret ?_
        try simp only [Exit.then, Exit.inBlock]
        refine bp_ret (v := .bool true) (res1 rfl (res_tmp (by kernel_rfl))) ?_
        exact .inl ⟨rfl, ⟨hB.1, hB.2.trans hb11.2⟩, xs1 ++ xs2, by rw [piecesB, if_pos hlt, List.map_append, hm9, hm11], by rw [← List.append_assoc]; exact hJ11⟩
       ·refine ⟨_, rfl, ?_⟩
        try simp only [pp]
        refine sk 6 (.bool false) ?_
        simp only [pp]
        refine rj_end hgo <| hKK12 _ _ ?_
        refine wpIn_ret ?_
        try simp only [Exit.then, Exit.inBlock]
        refine bp_ret (v := .bool false) (res1 rfl (res_tmp (by kernel_rfl))) ?_
        exact .inr ⟨rfl, p11, hp11, hJ11⟩
      ·refine ⟨_, rfl, ?_⟩
       try simp only [pp]
       refine sk 53 (.bool true) <| sk 54 (.bool true) ?_
       simp only [pp]
       refine rj_end hgo <| hKK10 _ _ <| wpIn_cond_true (by kernel_rfl) <| wpIn_seq_k fun KK14 hKK14 => rj_begin fun hgK hgo => sk 6 (.bool false) ?_
       simp only [pp]
       refine rj_end hgo <| hKK14 _ _ ?_
       refine wpIn_ret ?_
       try simp only [Exit.then, Exit.inBlock]
       refine bp_ret (v := .bool false) (res1 rfl (res_tmp (by kernel_rfl))) ?_
       exact .inr ⟨rfl, p9, hp9, hJ9⟩
    · rw [piecesB, if_neg hlt, List.nil_append] at hok
      refine (callsIn_wide (n := 0)).1 ?_
      refine callsIn_of_wp Tryd.func78 rfl trivial ?_ rfl
      simp only [Tryd.ntmps78, List.size_toArray, List.length_cons, List.length_nil, Nat.reduceAdd, Nat.reduceSub, Array.replicate_succ, Array.replicate_zero, List.push_toArray, List.append_toArray, List.nil_append, List.cons_append]
      rw [Fn_none]
      have hlt_hb := hb.lt
      refine wpIn_seq_k fun KK1 hKK1 => rj_begin fun hgK hgo => sk 6 (.bool false) ?_
      simp only [pp]
      refine rj_end hgo <| hKK1 _ _ <| wpIn_seq_k fun KK2 hKK2 => wpIn_seq_k fun KK3 hKK3 => rj_begin fun hgK hgo => sk 11 (.iface 111 (.pointer (some ⟨a, 0, none⟩))) ?_
      simp only [pp]
      refine rj_end hgo <| hKK3 _ _ <| wpIn_block <| wpIn_seq_k fun KK4 hKK4 => rj_begin fun hgK hgo => sk 12 (.tuple #[.agg #[.pointer none], .bool false]) <| sk 13 (.bool false) <| sk 14 (.agg #[.pointer none]) ?_
      simp only [pp]
      refine rj_end hgo <| hKK4 _ _ <| wpIn_cond_false (by kernel_rfl) <| wpIn_seq_k fun KK5 hKK5 => rj_begin fun hgK hgo => sk 32 (.tuple #[.pointer (some ⟨a, 0, none⟩), .bool true]) <| sk 33 (.bool true) <| sk 34 (.pointer (some ⟨a, 0, none⟩)) ?_
      simp only [pp]
      refine rj_end hgo <| hKK5 _ _ <| wpIn_cond_true (by kernel_rfl) <| wpIn_seq_k fun KK6 hKK6 => rj_begin fun hgK hgo => sk 9 (.pointer (some ⟨a, 0, none⟩)) ?_
      simp only [pp]
      refine rj_end hgo <| hKK6 _ _ <| wpIn_seq_k fun KK7 hKK7 => rj_begin fun hgK hgo => sk 35 (.pointer (some ⟨a, 0, none⟩)) <| sk 36 (.pointer (some ⟨a, 0, none⟩)) <| sk 37 (.pointer (some ⟨a, 0, none⟩)) ?_
      simp only [pp]
      refine sx 38 vx (by exact ld 108 a 0 (hb.cell 0)) ?_
      simp only [pp]
      refine rj_call (some 39) fs #[xs] rfl (by kernel_rfl) (by exact es _ _ _ _ rfl rfl) (cs _ hL0) ?_
      rintro e w8 ⟨rfl, hL8⟩
      refine ⟨_, rfl, ?_⟩
      have hz8 := hL8.size
      try simp only [pp]
      refine sk 10 (.int .i64 x.bytes.length) ?_
      simp only [pp]
      refine rj_end hgo <| hKK7 _ _ <| wpIn_seq_k fun KK9 hKK9 => wpIn_seq_k fun KK10 hKK10 => rj_begin fun hgK hgo => sk 40 (.int .i64 f) <| sk 41 (.int .i64 x.bytes.length) ?_
      simp only [pp]
      refine sx 42 (.bool false) (by exact ebf (c := (f : Int) > x.bytes.length) (by omega)) <| sk 43 (.bool false) ?_
      simp only [pp]
      refine rj_pass (some 44) rfl (by kernel_rfl) ?_
      try simp only [pp]
      refine rj_pass (some 45) rfl (by kernel_rfl) ?_
      try simp only [pp]
      refine rj_pass (some 46) rfl (by kernel_rfl) ?_
      try simp only [pp]
      refine rj_pass (some 47) rfl (by kernel_rfl) ?_
      try simp only [pp]
      refine rj_pass (some 48) rfl (by kernel_rfl) ?_
      try simp only [pp]
      refine rj_pass (some 49) rfl (by kernel_rfl) ?_
      try simp only [pp]
      refine rj_pass (some 50) rfl (by kernel_rfl) ?_
      try simp only [pp]
      refine rj_pass (some 51) rfl (by kernel_rfl) ?_
      try simp only [pp]
      refine rj_pass (some 52) rfl (by kernel_rfl) ?_
      try simp only [pp]
      refine rj_pass (some 53) rfl (by kernel_rfl) ?_
      try simp only [pp]
      refine sk 54 (.bool false) ?_
      simp only [pp]
      refine rj_end hgo <| hKK10 _ _ <| wpIn_cond_false (by kernel_rfl) ?_
      refine wpIn_skip ?_
      refine hKK9 _ _ <| wpIn_seq_k fun KK11 hKK11 => rj_begin fun hgK hgo => sk 55 (.pointer (some ⟨a, 0, none⟩)) <| sk 56 (.pointer (some ⟨a, 0, none⟩)) <| sk 57 (.pointer (some ⟨a, 0, none⟩)) ?_
      simp only [pp]
      replace hb := hb.later hL8
      refine sx 58 vx (by exact ld 108 a 0 (hb.cell 0)) <| sk 59 (.int .i64 f) <| sk 60 (.int .i64 x.bytes.length) ?_
      simp only [pp]
      refine sx 61 (.int .i64 (((min f x.bytes.length : Nat) : Int))) (by exact ex_min2 (a := f) (b := x.bytes.length) rfl rfl rfl (r := ((min f x.bytes.length : Nat) : Int)) (by omega)) <| sk 62 (.func (.yield lp) #[] #[]) ?_
      simp only [pp]
      replace hJJ := hJJ.later hL8
      replace hx := hx.later hL8
      refine rj_call (some 63) 78 #[vx, .int .i64 (((min f x.bytes.length : Nat) : Int)), .func (.yield lp) #[] #[]] rfl (by kernel_rfl) (by kernel_rfl) (ihx vx _ _ _ hx hJJ.get ⟨r, by rw [← hok]⟩ (by omega) (by omega)) ?_
      replace hB := hB.later hL8
      replace hy := hy.later hL8
      replace hL0 := hL0.later hL8
      rintro e w12 (⟨rfl, hb11, xs2, hm11, hJ11⟩ | ⟨rfl, p11, hp11, hJ11⟩)
      ·refine ⟨_, rfl, ?_⟩
       try simp only [pp]
       refine sk 6 (.bool true) ?_
       simp only [pp]
       refine rj_end hgo <| hKK11 _ _ ?_
       refine wpIn_ret ?_
       try simp only [Exit.then, Exit.inBlock]
       refine bp_ret (v := .bool true) (res1 rfl (res_tmp (by kernel_rfl))) ?_
       exact .inl ⟨rfl, ⟨hB.1, hB.2.trans hb11.2⟩, xs2, by rw [piecesB, if_neg hlt, List.nil_append, hm11], hJ11⟩
      ·refine ⟨_, rfl, ?_⟩
       try simp only [pp]
       refine sk 6 (.bool false) ?_
       simp only [pp]
       refine rj_end hgo <| hKK11 _ _ ?_
       refine wpIn_ret ?_
       try simp only [Exit.then, Exit.inBlock]
       refine bp_ret (v := .bool false) (res1 rfl (res_tmp (by kernel_rfl))) ?_
       exact .inr ⟨rfl, p11, hp11, hJ11⟩
section
variable {P : Program} {ops : Array Oper} {S : World → Prop} {K : Act → World → Prop}
/-- a call that may do whatever it likes, S being no more than True -/
theorem rm_callz {i : Nat} (d : Option Tmp) (f : FuncId) (args : Array Value) {R : World → Ending → World → Prop} {oi : Oper} {fuel : Nat} {listed : Array Bool} {a : Act} {w : World} (hi : ops[i]? = some oi) (hd : oi.dst = d)
    (hw : Region.wanted oi (yielded ops a.tmps) = true) (he : ∀ w', Ltr w w' → (execOp a.eval oi).run P w' = .ok (.enter f args) w') (hc : ∀ w', Ltr w w' → Calls P f args w' (R w'))
    (h : ∀ w' e w'', Ltr w w' → R w' e w'' → ∃ v, e = .returned v ∧ wpM P ops K (fun _ => True) fuel (listed.setIfInBounds i true) (a.put d v) w'') : PickM P ops K (fun _ => True) fuel listed a w i := by
  unfold PickM
  intro w' hl hS'
  unfold wpOp
  simp only [hi, hw, if_true]
  refine .inl ?_
  unfold Oper.wp
  rw [he w' hl, Oper.upon_enter]
  refine (hc w' hl).mono fun e w'' hr => ?_
  obtain ⟨v, rfl, hv⟩ := h w' e w'' hl hr
  exact ⟨trivial, hd ▸ hv⟩
end
/-- a rope whose blocks lie below n -/
def RopeN (n : Nat) (w : World) (b : Nat) (l : List UInt8) (v : Value) (ot : Option Tr) : Prop :=
  n ≤ w.heap.size ∧ b < n ∧ Blk w b 110 #[v] ∧ match ot with
    | none => l = [] ∧ v = .nilIface
    | some t => t.ok ∧ t.bytes = l ∧ TreeN n w t v
theorem RopeAt.n {w : World} {b : Nat} {l : List UInt8} (h : RopeAt w b l) : ∃ v ot, RopeN w.heap.size w b l v ot := by
  obtain ⟨v, h1, h2 | ⟨t, k1, k2, k3⟩⟩ := h.open
  · exact ⟨v, none, Nat.le_refl _, h1.lt, h1, h2⟩
  · exact ⟨v, some t, Nat.le_refl _, h1.lt, h1, k1, k2, k3⟩
theorem RopeN.at {n : Nat} {w : World} {b : Nat} {l : List UInt8} {v : Value} {ot : Option Tr} (h : RopeN n w b l v ot) : RopeAt w b l := by
  obtain ⟨h1, h2, h3, h4⟩ := h
  cases ot with
  | none => exact ⟨v, h3, .inl h4⟩
  | some t => exact ⟨v, h3, .inr ⟨t, h4.1, h4.2.1, h4.2.2.tree⟩⟩
theorem RopeN.bel {n m : Nat} {w w' : World} {b : Nat} {l : List UInt8} {v : Value} {ot : Option Tr} (h : RopeN n w b l v ot) (hb : Below m w w') (hn : n ≤ m) : RopeN n w' b l v ot := by
  obtain ⟨h1, h2, h3, h4⟩ := h
  refine ⟨Nat.le_trans h1 hb.size, h2, h3.bel hb (by omega), ?_⟩
  cases ot with
  | none => exact h4
  | some t => exact ⟨h4.1, h4.2.1, h4.2.2.bel hb hn⟩
theorem RopeN.later {n : Nat} {w w' : World} {b : Nat} {l : List UInt8} {v : Value} {ot : Option Tr} (h : RopeN n w b l v ot) (hl : Ltr w w') : RopeN n w' b l v ot := h.bel (m := n) (Below.mono hl h.1) (Nat.le_refl _)
theorem RopeN.upd {n g : Nat} {w w' : World} {b : Nat} {l : List UInt8} {v : Value} {ot : Option Tr} (h : RopeN n w b l v ot) (hu : Upd g w w') (hg : n ≤ g) : RopeN n w' b l v ot := h.bel (m := n) (hu.below (Below.refl _ _) hg) (Nat.le_refl _)
theorem RopeN.gr {n : Nat} {w w' : World} {r : Option Nat} {b : Nat} {l : List UInt8} {v : Value} {ot : Option Tr} (h : RopeN n w b l v ot) (hg : w.grownBy w' r) (hr : ∀ k, r = some k → n ≤ k) : RopeN n w' b l v ot := h.bel (m := n) (Below.grown (Below.refl _ _) hg h.1 hr) (Nat.le_refl _)
theorem RopeN.kc {n D : Nat} {w w' : World} {row : Option Nat} {b : Nat} {l : List UInt8} {v : Value} {ot : Option Tr} (h : RopeN n w b l v ot) (hg : w.grownBy w' row) (hr : ∀ r, row = some r → D ≤ r ∧ ∃ o : Obj, w.heap[r]? = some o ∧ o.isCells = false) (hD : n ≤ D) : RopeN n w' b l v ot := h.gr hg (fun k e => Nat.le_trans hD (hr k e).1)
def pcsOf (ot : Option Tr) (l : List UInt8) (f : Int) (back : Bool) : List (List UInt8) :=
  if 0 ≤ f ∧ f ≤ (l.length : Int) then (match ot with
    | none => []
    | some t => if back then piecesB t f.toNat else piecesF t f.toNat) else []
set_option maxRecDepth 100000 in
set_option maxHeartbeats 4000000 in
theorem forwards_nil (y : Value) (f : Int) (w : World) : Calls Tryd.prog 79 #[.nilIface, .int .i64 f, y] w fun e w' => e = .returned (.bool true) ∧ Ltr w w' := by
  have hB := Ltr.refl w
  go_enter Tryd.func79, Tryd.ntmps79
  refine wp_seq_k fun KK1 hKK1 => rl_begin fun hgK hgo => tk 6 (.bool false) ?_
  simp only [pp]
  refine rl_end hgo <| hKK1 _ _ <| wp_seq_k fun KK2 hKK2 => wp_seq_k fun KK3 hKK3 => rl_begin fun hgK hgo => tk 11 .nilIface ?_
  simp only [pp]
  refine rl_end hgo <| hKK3 _ _ <| wp_block <| wp_seq_k fun KK4 hKK4 => rl_begin fun hgK hgo => tk 12 (.tuple #[.agg #[.pointer none], .bool false]) <| tk 13 (.bool false) <| tk 14 (.agg #[.pointer none]) ?_
  simp only [pp]
  refine rl_end hgo <| hKK4 _ _ <| wp_cond_false (by kernel_rfl) <| wp_seq_k fun KK5 hKK5 => rl_begin fun hgK hgo => tk 29 (.tuple #[.pointer none, .bool false]) <| tk 30 (.bool false) <| tk 31 (.pointer none) ?_
  simp only [pp]
  refine rl_end hgo <| hKK5 _ _ <| wp_cond_false (by kernel_rfl) <| wp_skip <| hKK2 _ _ <| wp_seq_k fun KK6 hKK6 => rl_begin fun hgK hgo => tk 6 (.bool true) ?_
  simp only [pp]
  refine rl_end hgo <| hKK6 _ _ ?_
  refine wp_ret ?_
  try simp only [Exit.then, Exit.inBlock]
  refine bp_ret (v := .bool true) (res1 rfl (res_tmp (by kernel_rfl))) ?_
  exact ⟨rfl, hB⟩
set_option maxRecDepth 100000 in
set_option maxHeartbeats 4000000 in
theorem backwards_nil (y : Value) (f : Int) (w : World) : Calls Tryd.prog 78 #[.nilIface, .int .i64 f, y] w fun e w' => e = .returned (.bool true) ∧ Ltr w w' := by
  have hB := Ltr.refl w
  go_enter Tryd.func78, Tryd.ntmps78
  refine wp_seq_k fun KK1 hKK1 => rl_begin fun hgK hgo => tk 6 (.bool false) ?_
  simp only [pp]
  refine rl_end hgo <| hKK1 _ _ <| wp_seq_k fun KK2 hKK2 => wp_seq_k fun KK3 hKK3 => rl_begin fun hgK hgo => tk 11 .nilIface ?_
  simp only [pp]
  refine rl_end hgo <| hKK3 _ _ <| wp_block <| wp_seq_k fun KK4 hKK4 => rl_begin fun hgK hgo => tk 12 (.tuple #[.agg #[.pointer none], .bool false]) <| tk 13 (.bool false) <| tk 14 (.agg #[.pointer none]) ?_
  simp only [pp]
  refine rl_end hgo <| hKK4 _ _ <| wp_cond_false (by kernel_rfl) <| wp_seq_k fun KK5 hKK5 => rl_begin fun hgK hgo => tk 32 (.tuple #[.pointer none, .bool false]) <| tk 33 (.bool false) <| tk 34 (.pointer none) ?_
  simp only [pp]
  refine rl_end hgo <| hKK5 _ _ <| wp_cond_false (by kernel_rfl) <| wp_skip <| hKK2 _ _ <| wp_seq_k fun KK6 hKK6 => rl_begin fun hgK hgo => tk 6 (.bool true) ?_
  simp only [pp]
  refine rl_end hgo <| hKK6 _ _ ?_
  refine wp_ret ?_
  try simp only [Exit.then, Exit.inBlock]
  refine bp_ret (v := .bool true) (res1 rfl (res_tmp (by kernel_rfl))) ?_
  exact ⟨rfl, hB⟩
def pcT (ot : Option Tr) (f : Nat) (back : Bool) : List (List UInt8) :=
  match ot with
  | none => []
  | some t => if back then piecesB t f else piecesF t f
theorem pcs_in (ot : Option Tr) (l : List UInt8) (f : Nat) (back : Bool) (hf : f ≤ l.length) : pcsOf ot l f back = pcT ot f back := by
  unfold pcsOf; rw [if_pos (by omega)]; simp only [Int.toNat_natCast]; rfl
theorem pcs_out (ot : Option Tr) (l : List UInt8) (f : Int) (back : Bool) (hf : ¬ (0 ≤ f ∧ f ≤ (l.length : Int))) : pcsOf ot l f back = [] := by
  unfold pcsOf; rw [if_neg hf]
/-- both walks at a rope's top -/
theorem walkTop (n₀ lp : Nat) (J Jx : List Pc → World → Prop) (b : Nat) (l : List UInt8) (v : Value) (ot : Option Tr) (f : Nat) (back : Bool) (hf : f ≤ l.length) (hl : l.length ≤ 1000000000)
    (hY : YieldsP n₀ lp (pcsOf ot l f back) J Jx) (W : World) (hr : RopeN n₀ W b l v ot) (hJ : J [] W) :
    Calls Tryd.prog (if back then 78 else 79) #[v, .int .i64 f, .func (.yield lp) #[] #[]] W (WalkP n₀ (pcsOf ot l f back) (pcsOf ot l f back) J Jx [] W) := by
  obtain ⟨h1, h2, h3, h4⟩ := hr
  have hp := pcs_in ot l f back hf
  revert hY
  rw [hp]
  intro hY
  clear hp
  cases ot with
  | none =>
    obtain ⟨rfl, rfl⟩ := h4
    have key : ∀ {g : Nat}, Calls Tryd.prog g #[.nilIface, .int .i64 f, .func (.yield lp) #[] #[]] W (fun e w' => e = .returned (.bool true) ∧ Ltr W w') → Calls Tryd.prog g #[.nilIface, .int .i64 f, .func (.yield lp) #[] #[]] W (WalkP n₀ [] [] J Jx [] W) := fun h => h.mono fun e w' h => by
      obtain ⟨rfl, hl⟩ := h
      exact .inl ⟨rfl, Bel.later (Bel.refl _ _ h1) hl, [], rfl, hY.1 _ _ _ hJ hl⟩
    cases back
    · exact key (forwards_nil _ _ _)
    · exact key (backwards_nil _ _ _)
  | some t =>
    obtain ⟨k1, rfl, k3⟩ := h4
    cases back
    · exact forwards_any n₀ lp (piecesF t f) J Jx hY t v f [] W k3 hJ ⟨[], by simp⟩ (by omega) hl
    · exact backwards_any n₀ lp (piecesB t f) J Jx hY t v f [] W k3 hJ ⟨[], by simp⟩ (by omega) hl
def IterP (ps : List (List UInt8)) (n₀ : Nat) (W : World) (J Jx : List Pc → World → Prop) (e : Ending) (W' : World) : Prop :=
  (∃ v, e = .returned v) ∧ ((∃ xs, xs.map pcB = ps ∧ J xs W') ∨ (∃ pre, PcOk ps pre ∧ Jx pre W'))
set_option maxRecDepth 100000 in
set_option maxHeartbeats 8000000 in
theorem iter_any (n₀ lp : Nat) (J Jx : List Pc → World → Prop) (b : Nat) (l : List UInt8) (v : Value) (ot : Option Tr) (f : Int) (back : Bool) (hl : l.length ≤ 1000000000)
    (hY : YieldsP n₀ lp (pcsOf ot l f back) J Jx) (W : World) (hr : RopeN n₀ W b l v ot) (hJ : J [] W) (p0 p1 p2 : Nat) (h0 : Blk W p0 31 #[.pointer (some ⟨b, 0, none⟩)]) (h1 : Blk W p1 3 #[.int .i64 f]) (h2 : Blk W p2 4 #[.bool back]) :
    Calls Tryd.prog 76 #[.func (.yield lp) #[] #[], .pointer (some ⟨p0, 0, none⟩), .pointer (some ⟨p1, 0, none⟩), .pointer (some ⟨p2, 0, none⟩)] W (IterP (pcsOf ot l f back) n₀ W J Jx) := by
  have hJJ : JAt J [] W.heap.size W := ⟨hY.1, W, rfl, hJ, Ltr.refl _⟩
  clear hJ
  by_cases hin : 0 ≤ f ∧ f ≤ (l.length : Int)
  · obtain ⟨f, rfl⟩ : ∃ k : Nat, f = k := ⟨f.toNat, by omega⟩
    have hfl : f ≤ l.length := by omega
    have hwt := fun W hr hJ => walkTop n₀ lp J Jx b l v ot f back hfl hl hY W hr hJ
    obtain ⟨hr0, hr1, hb, hr3⟩ := id hr
    clear hr0 hr3
    cases back
    · simp only [if_neg (by decide : ¬ (false = true))] at hwt
      go_enter Tryd.func76, Tryd.ntmps76
      have hlt_hb := hb.lt
      have hlt_h0 := h0.lt
      have hlt_h1 := h1.lt
      have hlt_h2 := h2.lt
      refine wp_seq_k fun KK1 hKK1 => wp_seq_k fun KK2 hKK2 => rl_begin fun hgK hgo => ?_
      refine tx 5 (.pointer (some ⟨b, 0, none⟩)) (by exact ld 31 p0 0 (h0.cell 0)) ?_
      simp only [pp]
      refine tx 6 (.int .i64 f) (by exact ld 3 p1 0 (h1.cell 0)) ?_
      simp only [pp]
      refine rl_call (some 7) 77 #[.pointer (some ⟨b, 0, none⟩), .int .i64 f] rfl (by kernel_rfl) (by kernel_rfl) (place_in b l f hfl _ hr.at) ?_
      rintro e w3 ⟨rfl, hL3⟩
      refine ⟨_, rfl, ?_⟩
      have hz3 := hL3.size
      try simp only [pp]
      refine tx 8 (.bool false) (by exact nef (x := 0) (y := 0) (by omega)) ?_
      simp only [pp]
      refine rl_end hgo <| hKK2 _ _ <| wp_cond_false (by kernel_rfl) <| wp_skip <| hKK1 _ _ <| wp_seq_k fun KK4 hKK4 => wp_seq_k fun KK5 hKK5 => rl_begin fun hgK hgo => ?_
      replace h2 := h2.later hL3
      refine tx 9 (.bool false) (by exact ld 4 p2 0 (h2.cell 0)) ?_
      simp only [pp]
      refine rl_end hgo <| hKK5 _ _ <| wp_cond_false (by kernel_rfl) <| wp_skip <| hKK4 _ _ ?_
      refine rm_begin (fun _ => True) (by kernel_rfl) trivial fun K7 hgo w7 hE _ => ?_
      have hv7 : Ltr w3 w7 := by rw [hE]; exact bl_drew (bl_refl _)
      clear hE
      have hz7 := hv7.size
      refine mk 5 22 (.func (.yield lp) #[] #[]) ?_
      try simp only [pp]
      replace hJJ := (hJJ.later hL3).later hv7
      replace hr := (hr.later hL3).later hv7
      replace hb := (hb.later hL3).later hv7
      replace h0 := (h0.later hL3).later hv7
      replace h1 := (h1.later hL3).later hv7
      replace h2 := h2.later hv7
      refine rm_pick2 (i := 0) (j := 4) (by kernel_rfl) ?_ ?_
      ·refine rm_read (some 17) (.pointer (some ⟨b, 0, none⟩)) rfl rfl (by kernel_rfl) (fun W hlz _ => by exact ld 31 p0 0 ((h0.later hlz).cell 0)) fun w8 hL8 _ => ?_
       have hz8 := hL8.size
       try simp only [pp]
       refine mk 1 18 (.pointer (some ⟨b, 0, none⟩)) <| mk 2 19 (.pointer (some ⟨b, 0, none⟩)) ?_
       try simp only [pp]
       replace hJJ := hJJ.later hL8
       replace hr := hr.later hL8
       replace hb := hb.later hL8
       replace h0 := h0.later hL8
       replace h1 := h1.later hL8
       replace h2 := h2.later hL8
       refine rm_pick2 (i := 3) (j := 4) (by kernel_rfl) ?_ ?_
       ·refine rm_read (some 20) (v) rfl rfl (by kernel_rfl) (fun W hlz _ => by exact ld 108 b 0 ((hb.later hlz).cell 0)) fun w9 hL9 _ => ?_
        have hz9 := hL9.size
        try simp only [pp]
        refine rm_pick1 (i := 4) (by kernel_rfl) ?_
        replace h1 := h1.later hL9
        refine rm_read (some 21) (.int .i64 f) rfl rfl (by kernel_rfl) (fun W hlz _ => by exact ld 3 p1 0 ((h1.later hlz).cell 0)) fun w10 hL10 _ => ?_
        have hz10 := hL10.size
        try simp only [pp]
        refine rm_pick1 (i := 6) (by kernel_rfl) ?_
        replace hJJ := (hJJ.later hL9).later hL10
        replace hr := (hr.later hL9).later hL10
        refine rm_callz (some 23) 79 #[v, .int .i64 f, .func (.yield lp) #[] #[]] rfl rfl (by kernel_rfl) (fun W hlz => by kernel_rfl) (fun W hlz => hwt _ (hr.later hlz) (hJJ.later hlz).get) ?_
        replace hb := (hb.later hL9).later hL10
        replace h0 := (h0.later hL9).later hL10
        replace h2 := (h2.later hL9).later hL10
        replace h1 := h1.later hL10
        rintro W11 e w11 hL11 (⟨rfl, hb9, xs, hm9, hJ9⟩ | ⟨rfl, p9, hp9, hJ9⟩)
        ·refine ⟨_, rfl, ?_⟩
         have hz11 := hL11.size
         try simp only [pp]
         refine rm_done (by kernel_rfl) (fun w12 hL12 _ => hgo.out _ _ ?_) _
         clear hgo K7
         have hz12 := hL12.size
         try simp only [Exit.then, Exit.inBlock]
         refine bp_end (v := .tuple #[]) (res0 rfl) ?_
         exact ⟨⟨_, rfl⟩, .inl ⟨xs, hm9, hY.1 _ _ _ hJ9 (by assumption)⟩⟩
        ·refine ⟨_, rfl, ?_⟩
         have hz11 := hL11.size
         try simp only [pp]
         refine rm_done (by kernel_rfl) (fun w13 hL13 _ => hgo.out _ _ ?_) _
         clear hgo K7
         have hz13 := hL13.size
         try simp only [Exit.then, Exit.inBlock]
         refine bp_end (v := .tuple #[]) (res0 rfl) ?_
         exact ⟨⟨_, rfl⟩, .inr ⟨p9, hp9, hY.2.1 _ _ _ hJ9 (by assumption)⟩⟩
       ·refine rm_read (some 21) (.int .i64 f) rfl rfl (by kernel_rfl) (fun W hlz _ => by exact ld 3 p1 0 ((h1.later hlz).cell 0)) fun w14 hL14 _ => ?_
        have hz14 := hL14.size
        try simp only [pp]
        refine rm_pick1 (i := 3) (by kernel_rfl) ?_
        replace hb := hb.later hL14
        refine rm_read (some 20) (v) rfl rfl (by kernel_rfl) (fun W hlz _ => by exact ld 108 b 0 ((hb.later hlz).cell 0)) fun w15 hL15 _ => ?_
        have hz15 := hL15.size
        try simp only [pp]
        refine rm_pick1 (i := 6) (by kernel_rfl) ?_
        replace hJJ := (hJJ.later hL14).later hL15
        replace hr := (hr.later hL14).later hL15
        refine rm_callz (some 23) 79 #[v, .int .i64 f, .func (.yield lp) #[] #[]] rfl rfl (by kernel_rfl) (fun W hlz => by kernel_rfl) (fun W hlz => hwt _ (hr.later hlz) (hJJ.later hlz).get) ?_
        replace h0 := (h0.later hL14).later hL15
        replace h1 := (h1.later hL14).later hL15
        replace h2 := (h2.later hL14).later hL15
        replace hb := hb.later hL15
        rintro W16 e w16 hL16 (⟨rfl, hb9, xs, hm9, hJ9⟩ | ⟨rfl, p9, hp9, hJ9⟩)
        ·refine ⟨_, rfl, ?_⟩
         have hz16 := hL16.size
         try simp only [pp]
         refine rm_done (by kernel_rfl) (fun w17 hL17 _ => hgo.out _ _ ?_) _
         clear hgo K7
         have hz17 := hL17.size
         try simp only [Exit.then, Exit.inBlock]
         refine bp_end (v := .tuple #[]) (res0 rfl) ?_
         exact ⟨⟨_, rfl⟩, .inl ⟨xs, hm9, hY.1 _ _ _ hJ9 (by assumption)⟩⟩
        ·refine ⟨_, rfl, ?_⟩
         have hz16 := hL16.size
         try simp only [pp]
         refine rm_done (by kernel_rfl) (fun w18 hL18 _ => hgo.out _ _ ?_) _
         clear hgo K7
         have hz18 := hL18.size
         try simp only [Exit.then, Exit.inBlock]
         refine bp_end (v := .tuple #[]) (res0 rfl) ?_
         exact ⟨⟨_, rfl⟩, .inr ⟨p9, hp9, hY.2.1 _ _ _ hJ9 (by assumption)⟩⟩
      ·refine rm_read (some 21) (.int .i64 f) rfl rfl (by kernel_rfl) (fun W hlz _ => by exact ld 3 p1 0 ((h1.later hlz).cell 0)) fun w19 hL19 _ => ?_
       have hz19 := hL19.size
       try simp only [pp]
       refine rm_pick1 (i := 0) (by kernel_rfl) ?_
       replace h0 := h0.later hL19
       refine rm_read (some 17) (.pointer (some ⟨b, 0, none⟩)) rfl rfl (by kernel_rfl) (fun W hlz _ => by exact ld 31 p0 0 ((h0.later hlz).cell 0)) fun w20 hL20 _ => ?_
       have hz20 := hL20.size
       try simp only [pp]
       refine mk 1 18 (.pointer (some ⟨b, 0, none⟩)) <| mk 2 19 (.pointer (some ⟨b, 0, none⟩)) ?_
       try simp only [pp]
       refine rm_pick1 (i := 3) (by kernel_rfl) ?_
       replace hb := (hb.later hL19).later hL20
       refine rm_read (some 20) (v) rfl rfl (by kernel_rfl) (fun W hlz _ => by exact ld 108 b 0 ((hb.later hlz).cell 0)) fun w21 hL21 _ => ?_
       have hz21 := hL21.size
       try simp only [pp]
       refine rm_pick1 (i := 6) (by kernel_rfl) ?_
       replace hJJ := ((hJJ.later hL19).later hL20).later hL21
       replace hr := ((hr.later hL19).later hL20).later hL21
       refine rm_callz (some 23) 79 #[v, .int .i64 f, .func (.yield lp) #[] #[]] rfl rfl (by kernel_rfl) (fun W hlz => by kernel_rfl) (fun W hlz => hwt _ (hr.later hlz) (hJJ.later hlz).get) ?_
       replace h1 := ((h1.later hL19).later hL20).later hL21
       replace h2 := ((h2.later hL19).later hL20).later hL21
       replace h0 := (h0.later hL20).later hL21
       replace hb := hb.later hL21
       rintro W22 e w22 hL22 (⟨rfl, hb9, xs, hm9, hJ9⟩ | ⟨rfl, p9, hp9, hJ9⟩)
       ·refine ⟨_, rfl, ?_⟩
        have hz22 := hL22.size
        try simp only [pp]
        refine rm_done (by kernel_rfl) (fun w23 hL23 _ => hgo.out _ _ ?_) _
        clear hgo K7
        have hz23 := hL23.size
        try simp only [Exit.then, Exit.inBlock]
        refine bp_end (v := .tuple #[]) (res0 rfl) ?_
        exact ⟨⟨_, rfl⟩, .inl ⟨xs, hm9, hY.1 _ _ _ hJ9 (by assumption)⟩⟩
       ·refine ⟨_, rfl, ?_⟩
        have hz22 := hL22.size
        try simp only [pp]
        refine rm_done (by kernel_rfl) (fun w24 hL24 _ => hgo.out _ _ ?_) _
        clear hgo K7
        have hz24 := hL24.size
        try simp only [Exit.then, Exit.inBlock]
        refine bp_end (v := .tuple #[]) (res0 rfl) ?_
        exact ⟨⟨_, rfl⟩, .inr ⟨p9, hp9, hY.2.1 _ _ _ hJ9 (by assumption)⟩⟩
    · simp only [if_pos] at hwt
      go_enter Tryd.func76, Tryd.ntmps76
      have hlt_hb := hb.lt
      have hlt_h0 := h0.lt
      have hlt_h1 := h1.lt
      have hlt_h2 := h2.lt
      refine wp_seq_k fun KK1 hKK1 => wp_seq_k fun KK2 hKK2 => rl_begin fun hgK hgo => ?_
      refine tx 5 (.pointer (some ⟨b, 0, none⟩)) (by exact ld 31 p0 0 (h0.cell 0)) ?_
      simp only [pp]
      refine tx 6 (.int .i64 f) (by exact ld 3 p1 0 (h1.cell 0)) ?_
      simp only [pp]
      refine rl_call (some 7) 77 #[.pointer (some ⟨b, 0, none⟩), .int .i64 f] rfl (by kernel_rfl) (by kernel_rfl) (place_in b l f hfl _ hr.at) ?_
      rintro e w3 ⟨rfl, hL3⟩
      refine ⟨_, rfl, ?_⟩
      have hz3 := hL3.size
      try simp only [pp]
      refine tx 8 (.bool false) (by exact nef (x := 0) (y := 0) (by omega)) ?_
      simp only [pp]
      refine rl_end hgo <| hKK2 _ _ <| wp_cond_false (by kernel_rfl) <| wp_skip <| hKK1 _ _ <| wp_seq_k fun KK4 hKK4 => wp_seq_k fun KK5 hKK5 => rl_begin fun hgK hgo => ?_
      replace h2 := h2.later hL3
      refine tx 9 (.bool true) (by exact ld 4 p2 0 (h2.cell 0)) ?_
      simp only [pp]
      refine rl_end hgo <| hKK5 _ _ <| wp_cond_true (by kernel_rfl) <| wp_seq_k fun KK6 hKK6 => ?_
      refine rm_begin (fun _ => True) (by kernel_rfl) trivial fun K8 hgo w8 hE _ => ?_
      have hv8 : Ltr w3 w8 := by rw [hE]; exact bl_drew (bl_refl _)
      clear hE
      have hz8 := hv8.size
      refine mk 5 15 (.func (.yield lp) #[] #[]) ?_
      try simp only [pp]
      replace hJJ := (hJJ.later hL3).later hv8
      replace hr := (hr.later hL3).later hv8
      replace hb := (hb.later hL3).later hv8
      replace h0 := (h0.later hL3).later hv8
      replace h1 := (h1.later hL3).later hv8
      replace h2 := h2.later hv8
      refine rm_pick2 (i := 0) (j := 4) (by kernel_rfl) ?_ ?_
      ·refine rm_read (some 10) (.pointer (some ⟨b, 0, none⟩)) rfl rfl (by kernel_rfl) (fun W hlz _ => by exact ld 31 p0 0 ((h0.later hlz).cell 0)) fun w9 hL9 _ => ?_
       have hz9 := hL9.size
       try simp only [pp]
       refine mk 1 11 (.pointer (some ⟨b, 0, none⟩)) <| mk 2 12 (.pointer (some ⟨b, 0, none⟩)) ?_
       try simp only [pp]
       replace hJJ := hJJ.later hL9
       replace hr := hr.later hL9
       replace hb := hb.later hL9
       replace h0 := h0.later hL9
       replace h1 := h1.later hL9
       replace h2 := h2.later hL9
       refine rm_pick2 (i := 3) (j := 4) (by kernel_rfl) ?_ ?_
       ·refine rm_read (some 13) (v) rfl rfl (by kernel_rfl) (fun W hlz _ => by exact ld 108 b 0 ((hb.later hlz).cell 0)) fun w10 hL10 _ => ?_
        have hz10 := hL10.size
        try simp only [pp]
        refine rm_pick1 (i := 4) (by kernel_rfl) ?_
        replace h1 := h1.later hL10
        refine rm_read (some 14) (.int .i64 f) rfl rfl (by kernel_rfl) (fun W hlz _ => by exact ld 3 p1 0 ((h1.later hlz).cell 0)) fun w11 hL11 _ => ?_
        have hz11 := hL11.size
        try simp only [pp]
        refine rm_pick1 (i := 6) (by kernel_rfl) ?_
        replace hJJ := (hJJ.later hL10).later hL11
        replace hr := (hr.later hL10).later hL11
        refine rm_callz (some 16) 78 #[v, .int .i64 f, .func (.yield lp) #[] #[]] rfl rfl (by kernel_rfl) (fun W hlz => by kernel_rfl) (fun W hlz => hwt _ (hr.later hlz) (hJJ.later hlz).get) ?_
        replace hb := (hb.later hL10).later hL11
        replace h0 := (h0.later hL10).later hL11
        replace h2 := (h2.later hL10).later hL11
        replace h1 := h1.later hL11
        rintro W12 e w12 hL12 (⟨rfl, hb9, xs, hm9, hJ9⟩ | ⟨rfl, p9, hp9, hJ9⟩)
        ·refine ⟨_, rfl, ?_⟩
         have hz12 := hL12.size
         try simp only [pp]
         refine rm_done (by kernel_rfl) (fun w13 hL13 _ => hgo.out _ _ ?_) _
         clear hgo K8
         have hz13 := hL13.size
         refine hKK6 _ _ ?_
         refine wp_ret ?_
         try simp only [Exit.then, Exit.inBlock]
         refine bp_ret (v := .tuple #[]) (res0 rfl) ?_
         exact ⟨⟨_, rfl⟩, .inl ⟨xs, hm9, hY.1 _ _ _ hJ9 (by assumption)⟩⟩
        ·refine ⟨_, rfl, ?_⟩
         have hz12 := hL12.size
         try simp only [pp]
         refine rm_done (by kernel_rfl) (fun w14 hL14 _ => hgo.out _ _ ?_) _
         clear hgo K8
         have hz14 := hL14.size
         refine hKK6 _ _ ?_
         refine wp_ret ?_
         try simp only [Exit.then, Exit.inBlock]
         refine bp_ret (v := .tuple #[]) (res0 rfl) ?_
         exact ⟨⟨_, rfl⟩, .inr ⟨p9, hp9, hY.2.1 _ _ _ hJ9 (by assumption)⟩⟩
       ·refine rm_read (some 14) (.int .i64 f) rfl rfl (by kernel_rfl) (fun W hlz _ => by exact ld 3 p1 0 ((h1.later hlz).cell 0)) fun w15 hL15 _ => ?_
        have hz15 := hL15.size
        try simp only [pp]
        refine rm_pick1 (i := 3) (by kernel_rfl) ?_
        replace hb := hb.later hL15
        refine rm_read (some 13) (v) rfl rfl (by kernel_rfl) (fun W hlz _ => by exact ld 108 b 0 ((hb.later hlz).cell 0)) fun w16 hL16 _ => ?_
        have hz16 := hL16.size
        try simp only [pp]
        refine rm_pick1 (i := 6) (by kernel_rfl) ?_
        replace hJJ := (hJJ.later hL15).later hL16
        replace hr := (hr.later hL15).later hL16
        refine rm_callz (some 16) 78 #[v, .int .i64 f, .func (.yield lp) #[] #[]] rfl rfl (by kernel_rfl) (fun W hlz => by kernel_rfl) (fun W hlz => hwt _ (hr.later hlz) (hJJ.later hlz).get) ?_
        replace h0 := (h0.later hL15).later hL16
        replace h1 := (h1.later hL15).later hL16
        replace h2 := (h2.later hL15).later hL16
        replace hb := hb.later hL16
        rintro W17 e w17 hL17 (⟨rfl, hb9, xs, hm9, hJ9⟩ | ⟨rfl, p9, hp9, hJ9⟩)
        ·refine ⟨_, rfl, ?_⟩
         have hz17 := hL17.size
         try simp only [pp]
         refine rm_done (by kernel_rfl) (fun w18 hL18 _ => hgo.out _ _ ?_) _
         clear hgo K8
         have hz18 := hL18.size
         refine hKK6 _ _ ?_
         refine wp_ret ?_
         try simp only [Exit.then, Exit.inBlock]
         refine bp_ret (v := .tuple #[]) (res0 rfl) ?_
         exact ⟨⟨_, rfl⟩, .inl ⟨xs, hm9, hY.1 _ _ _ hJ9 (by assumption)⟩⟩
        ·refine ⟨_, rfl, ?_⟩
         have hz17 := hL17.size
         try simp only [pp]
         refine rm_done (by kernel_rfl) (fun w19 hL19 _ => hgo.out _ _ ?_) _
         clear hgo K8
         have hz19 := hL19.size
         refine hKK6 _ _ ?_
         refine wp_ret ?_
         try simp only [Exit.then, Exit.inBlock]
         refine bp_ret (v := .tuple #[]) (res0 rfl) ?_
         exact ⟨⟨_, rfl⟩, .inr ⟨p9, hp9, hY.2.1 _ _ _ hJ9 (by assumption)⟩⟩
      ·refine rm_read (some 14) (.int .i64 f) rfl rfl (by kernel_rfl) (fun W hlz _ => by exact ld 3 p1 0 ((h1.later hlz).cell 0)) fun w20 hL20 _ => ?_
       have hz20 := hL20.size
       try simp only [pp]
       refine rm_pick1 (i := 0) (by kernel_rfl) ?_
       replace h0 := h0.later hL20
       refine rm_read (some 10) (.pointer (some ⟨b, 0, none⟩)) rfl rfl (by kernel_rfl) (fun W hlz _ => by exact ld 31 p0 0 ((h0.later hlz).cell 0)) fun w21 hL21 _ => ?_
       have hz21 := hL21.size
       try simp only [pp]
       refine mk 1 11 (.pointer (some ⟨b, 0, none⟩)) <| mk 2 12 (.pointer (some ⟨b, 0, none⟩)) ?_
       try simp only [pp]
       refine rm_pick1 (i := 3) (by kernel_rfl) ?_
       replace hb := (hb.later hL20).later hL21
       refine rm_read (some 13) (v) rfl rfl (by kernel_rfl) (fun W hlz _ => by exact ld 108 b 0 ((hb.later hlz).cell 0)) fun w22 hL22 _ => ?_
       have hz22 := hL22.size
       try simp only [pp]
       refine rm_pick1 (i := 6) (by kernel_rfl) ?_
       replace hJJ := ((hJJ.later hL20).later hL21).later hL22
       replace hr := ((hr.later hL20).later hL21).later hL22
       refine rm_callz (some 16) 78 #[v, .int .i64 f, .func (.yield lp) #[] #[]] rfl rfl (by kernel_rfl) (fun W hlz => by kernel_rfl) (fun W hlz => hwt _ (hr.later hlz) (hJJ.later hlz).get) ?_
       replace h1 := ((h1.later hL20).later hL21).later hL22
       replace h2 := ((h2.later hL20).later hL21).later hL22
       replace h0 := (h0.later hL21).later hL22
       replace hb := hb.later hL22
       rintro W23 e w23 hL23 (⟨rfl, hb9, xs, hm9, hJ9⟩ | ⟨rfl, p9, hp9, hJ9⟩)
       ·refine ⟨_, rfl, ?_⟩
        have hz23 := hL23.size
        try simp only [pp]
        refine rm_done (by kernel_rfl) (fun w24 hL24 _ => hgo.out _ _ ?_) _
        clear hgo K8
        have hz24 := hL24.size
        refine hKK6 _ _ ?_
        refine wp_ret ?_
        try simp only [Exit.then, Exit.inBlock]
        refine bp_ret (v := .tuple #[]) (res0 rfl) ?_
        exact ⟨⟨_, rfl⟩, .inl ⟨xs, hm9, hY.1 _ _ _ hJ9 (by assumption)⟩⟩
       ·refine ⟨_, rfl, ?_⟩
        have hz23 := hL23.size
        try simp only [pp]
        refine rm_done (by kernel_rfl) (fun w25 hL25 _ => hgo.out _ _ ?_) _
        clear hgo K8
        have hz25 := hL25.size
        refine hKK6 _ _ ?_
        refine wp_ret ?_
        try simp only [Exit.then, Exit.inBlock]
        refine bp_ret (v := .tuple #[]) (res0 rfl) ?_
        exact ⟨⟨_, rfl⟩, .inr ⟨p9, hp9, hY.2.1 _ _ _ hJ9 (by assumption)⟩⟩
  · have hp := pcs_out ot l f back hin
    rw [hp] at *
    obtain ⟨hr0, hr1, hb, hr3⟩ := id hr
    clear hr0 hr3
    go_enter Tryd.func76, Tryd.ntmps76
    have hlt_hb := hb.lt
    have hlt_h0 := h0.lt
    have hlt_h1 := h1.lt
    have hlt_h2 := h2.lt
    refine wp_seq_k fun KK1 hKK1 => wp_seq_k fun KK2 hKK2 => rl_begin fun hgK hgo => ?_
    refine tx 5 (.pointer (some ⟨b, 0, none⟩)) (by exact ld 31 p0 0 (h0.cell 0)) ?_
    simp only [pp]
    refine tx 6 (.int .i64 f) (by exact ld 3 p1 0 (h1.cell 0)) ?_
    simp only [pp]
    refine rl_call (some 7) 77 #[.pointer (some ⟨b, 0, none⟩), .int .i64 f] rfl (by kernel_rfl) (by kernel_rfl) (place_out b l f (by omega) _ hr.at) ?_
    rintro e w3 ⟨rfl, hL3⟩
    refine ⟨_, rfl, ?_⟩
    have hz3 := hL3.size
    try simp only [pp]
    refine tx 8 (.bool true) (by exact net (x := 2) (y := 0) (by omega)) ?_
    simp only [pp]
    refine rl_end hgo <| hKK2 _ _ <| wp_cond_true (by kernel_rfl) ?_
    refine wp_ret ?_
    try simp only [Exit.then, Exit.inBlock]
    refine bp_ret (v := .tuple #[]) (res0 rfl) ?_
    replace hJJ := hJJ.later hL3
    exact ⟨⟨_, rfl⟩, .inl ⟨[], rfl, hJJ.get⟩⟩
/-- the iterator's contract -/
theorem iter_seq (n₀ : Nat) (b : Nat) (l : List UInt8) (v : Value) (ot : Option Tr) (f : Int) (back : Bool) (hl : l.length ≤ 1000000000) (w : World) (hr : RopeN n₀ w b l v ot)
    (p0 p1 p2 : Nat) (h0 : Blk w p0 31 #[.pointer (some ⟨b, 0, none⟩)]) (h1 : Blk w p1 3 #[.int .i64 f]) (h2 : Blk w p2 4 #[.bool back]) :
    SeqP Tryd.prog 76 #[.pointer (some ⟨p0, 0, none⟩), .pointer (some ⟨p1, 0, none⟩), .pointer (some ⟨p2, 0, none⟩)] pcEnc n₀ (pcP n₀) (PcOk (pcsOf ot l f back)) (fun xs => xs.map pcB = pcsOf ot l f back) w :=
  fun lp J Jx W hW c1 c2 hY hn h0' => iter_any n₀ lp J Jx b l v ot f back hl ⟨c1, c2, hY⟩ W (hr.later hW) h0' p0 p1 p2 (h0.later hW) (h1.later hW) (h2.later hW)
theorem SeqP.later {α : Type} {P : Program} {g : Nat} {lb : Array Value} {enc : α → Value} {n₀ : Nat} {Px : α → World → Prop} {Ok S : List α → Prop} {w w' : World} (h : SeqP P g lb enc n₀ Px Ok S w) (hl : Ltr w w') : SeqP P g lb enc n₀ Px Ok S w' :=
  fun lp J Jx W hW => h lp J Jx W (hl.trans hW)
def PiecesP (n₀ : Nat) (ps : List (List UInt8)) (w : World) (e : Ending) (w' : World) : Prop :=
  ∃ a b c, e = .returned (.func (.func 76) #[] #[.pointer (some ⟨a, 0, none⟩), .pointer (some ⟨b, 0, none⟩), .pointer (some ⟨c, 0, none⟩)]) ∧ Ltr w w' ∧
    SeqP Tryd.prog 76 #[.pointer (some ⟨a, 0, none⟩), .pointer (some ⟨b, 0, none⟩), .pointer (some ⟨c, 0, none⟩)] pcEnc n₀ (pcP n₀) (PcOk ps) (fun xs => xs.map pcB = ps) w'
set_option maxRecDepth 100000 in
set_option maxHeartbeats 4000000 in
theorem Pieces_any (n₀ : Nat) (b : Nat) (l : List UInt8) (v : Value) (ot : Option Tr) (f : Int) (back : Bool) (hl : l.length ≤ 1000000000) (w : World) (hr : RopeN n₀ w b l v ot) :
    Calls Tryd.prog 32 #[.pointer (some ⟨b, 0, none⟩), .int .i64 f, .bool back] w (PiecesP n₀ (pcsOf ot l f back) w) := by
  have hB := Ltr.refl w
  go_enter Tryd.func32, Tryd.ntmps32
  refine wp_seq_k fun KK1 hKK1 => rl_begin fun hgK hgo => ?_
  refine rl_alloc (some 3) 31 #[.pointer (some ⟨b, 0, none⟩)] rfl (by kernel_rfl) (fun W => by kernel_rfl) fun p w2 hL2 hp2 hp => ?_
  have hz2 := hL2.size
  have hlt2 := hp.lt
  try simp only [pp]
  refine rl_alloc (some 4) 3 #[.int .i64 f] rfl (by kernel_rfl) (fun W => by kernel_rfl) fun q w3 hL3 hp3 hq => ?_
  have hz3 := hL3.size
  have hlt3 := hq.lt
  try simp only [pp]
  refine rl_alloc (some 5) 4 #[.bool back] rfl (by kernel_rfl) (fun W => by kernel_rfl) fun r_ w4 hL4 hp4 hr_ => ?_
  have hz4 := hL4.size
  have hlt4 := hr_.lt
  try simp only [pp]
  refine tk 6 .nilFunc ?_
  simp only [pp]
  refine rl_end hgo <| hKK1 _ _ <| wp_seq_k fun KK5 hKK5 => rl_begin fun hgK hgo => tk 7 (.func (.func 76) #[] #[.pointer (some ⟨p, 0, none⟩), .pointer (some ⟨q, 0, none⟩), .pointer (some ⟨r_, 0, none⟩)]) <| tk 6 (.func (.func 76) #[] #[.pointer (some ⟨p, 0, none⟩), .pointer (some ⟨q, 0, none⟩), .pointer (some ⟨r_, 0, none⟩)]) ?_
  simp only [pp]
  refine rl_end hgo <| hKK5 _ _ ?_
  refine wp_ret ?_
  try simp only [Exit.then, Exit.inBlock]
  refine bp_ret (v := .func (.func 76) #[] #[.pointer (some ⟨p, 0, none⟩), .pointer (some ⟨q, 0, none⟩), .pointer (some ⟨r_, 0, none⟩)]) (res1 rfl (res_tmp (by kernel_rfl))) ?_
  replace hr := ((hr.later hL2).later hL3).later hL4
  replace hB := ((hB.later hL2).later hL3).later hL4
  replace hp := (hp.later hL3).later hL4
  replace hq := hq.later hL4
  exact ⟨p, q, r_, rfl, hB, iter_seq n₀ b l v ot f back hl _ hr p q r_ hp hq hr_⟩
/-! ### what the pieces are -/
theorem piecesF_flat : ∀ (t : Tr) (f : Nat), t.ok → (piecesF t f).flatten = t.bytes.drop f ∧ ∀ p ∈ piecesF t f, 0 < p.length
  | .tip l, f, _ => by
    unfold piecesF
    split
    · rename_i h; exact ⟨by simp [Tr.bytes, List.drop_eq_nil_of_le h], by simp⟩
    · rename_i h; exact ⟨by simp [Tr.bytes], by simp; omega⟩
  | .fork x y, f, h => by
    obtain ⟨hx, hy, -⟩ := h
    obtain ⟨a1, a2⟩ := piecesF_flat x f hx
    obtain ⟨b1, b2⟩ := piecesF_flat y (f - x.bytes.length) hy
    unfold piecesF
    constructor
    · rw [List.flatten_append, b1, Tr.b_fork, List.drop_append]
      split
      · rw [a1]
      · rename_i h; rw [List.drop_eq_nil_of_le (by omega : x.bytes.length ≤ f)]; rfl
    · intro p hp
      rcases List.mem_append.1 hp with hp | hp
      · split at hp
        · exact a2 p hp
        · cases hp
      · exact b2 p hp
theorem piecesB_flat : ∀ (t : Tr) (f : Nat), t.ok → (piecesB t f).reverse.flatten = t.bytes.take f ∧ ∀ p ∈ piecesB t f, 0 < p.length
  | .tip l, f, _ => by
    unfold piecesB
    split
    · rename_i h
      refine ⟨?_, by simp⟩
      rcases Nat.eq_zero_or_pos f with h0 | h0
      · subst h0; simp
      · have : l = [] := List.eq_nil_of_length_eq_zero (by omega)
        subst this; simp [Tr.bytes]
    · rename_i h
      refine ⟨?_, by simp; omega⟩
      simp only [List.reverse_singleton, List.flatten_cons, List.flatten_nil, List.append_nil, Tr.bytes]
      rcases Nat.le_total f l.length with h1 | h1
      · rw [Nat.min_eq_left h1]
      · rw [Nat.min_eq_right h1, List.take_of_length_le (Nat.le_refl _), List.take_of_length_le h1]
  | .fork x y, f, h => by
    obtain ⟨hx, hy, -⟩ := h
    obtain ⟨a1, a2⟩ := piecesB_flat x (min f x.bytes.length) hx
    obtain ⟨b1, b2⟩ := piecesB_flat y (f - x.bytes.length) hy
    unfold piecesB
    constructor
    · rw [List.reverse_append, List.flatten_append, a1, Tr.b_fork, List.take_append]
      split
      · rename_i h; rw [b1, Nat.min_eq_right (by omega), List.take_of_length_le (Nat.le_refl _), List.take_of_length_le (by omega : x.bytes.length ≤ f)]
      · rename_i h; rw [Nat.min_eq_left (by omega), show f - x.bytes.length = 0 by omega]; simp
    · intro p hp
      rcases List.mem_append.1 hp with hp | hp
      · split at hp
        · exact b2 p hp
        · cases hp
      · exact a2 p hp
theorem pcs_flatF {n : Nat} {w : World} {b : Nat} {l : List UInt8} {v : Value} {ot : Option Tr} (h : RopeN n w b l v ot) (f : Nat) (hf : f ≤ l.length) :
    (pcsOf ot l f false).flatten = l.drop f ∧ ∀ p ∈ pcsOf ot l f false, 0 < p.length := by
  rw [pcs_in ot l f false hf]
  obtain ⟨-, -, -, h4⟩ := h
  cases ot with
  | none => obtain ⟨rfl, -⟩ := h4; exact ⟨by simp [pcT], by simp [pcT]⟩
  | some t => obtain ⟨k1, rfl, -⟩ := h4; exact piecesF_flat t f k1
theorem pcs_flatB {n : Nat} {w : World} {b : Nat} {l : List UInt8} {v : Value} {ot : Option Tr} (h : RopeN n w b l v ot) (f : Nat) (hf : f ≤ l.length) :
    (pcsOf ot l f true).reverse.flatten = l.take f ∧ ∀ p ∈ pcsOf ot l f true, 0 < p.length := by
  rw [pcs_in ot l f true hf]
  obtain ⟨-, -, -, h4⟩ := h
  cases ot with
  | none => obtain ⟨rfl, -⟩ := h4; exact ⟨by simp [pcT], by simp [pcT]⟩
  | some t => obtain ⟨k1, rfl, -⟩ := h4; exact piecesB_flat t f k1
end Go.Proofs.YtliphfgiaioebaaDoor
