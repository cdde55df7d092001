/-
  Package rope: First, of a function value that is asked.
-/
import Derived.Test.YtliphfgiaioebaaDoorB12
namespace Go.Proofs.YtliphfgiaioebaaDoor
set_option linter.unusedVariables false
set_option linter.unusedSimpArgs false
open Go.RowKit
/-- nothing has changed but between n and m, and what is new -/
structure Mid (n m : Nat) (w w' : World) : Prop where
  os : w'.os = w.os
  tape : w'.tape = w.tape
  output : w'.output = w.output
  size : w.heap.size ≤ w'.heap.size
  block : ∀ k, k < w.heap.size → k < n ∨ m ≤ k → w'.heap[k]? = w.heap[k]?
theorem Mid.refl (n m : Nat) (w : World) : Mid n m w w := ⟨rfl, rfl, rfl, Nat.le_refl _, fun _ _ _ => rfl⟩
theorem Mid.trans {n m : Nat} {a b c : World} (h : Mid n m a b) (k : Mid n m b c) : Mid n m a c :=
  ⟨k.os.trans h.os, k.tape.trans h.tape, k.output.trans h.output, Nat.le_trans h.size k.size, fun i hi hj => (k.block i (Nat.lt_of_lt_of_le hi h.size) hj).trans (h.block i hi hj)⟩
theorem Mid.below {n m : Nat} {w w' : World} (h : Mid n m w w') (hn : n ≤ w.heap.size) : Below n w w' := ⟨h.os, h.tape, h.output, h.size, fun i hi => h.block i (by omega) (.inl hi)⟩
theorem Ltr.toMid {n m : Nat} {w w' : World} (h : Ltr w w') : Mid n m w w' := ⟨h.os, h.tape, h.output, h.size, fun i hi _ => h.block i hi⟩
theorem Mid.ltr {m : Nat} {w w' : World} (h : Mid m m w w') : Ltr w w' := ⟨h.os, h.tape, h.output, h.size, fun i hi => h.block i hi (by omega)⟩
/-- from a on: what lay between n and m may have changed, and what a call's own blocks, at or above a's size -/
def MidF (n m : Nat) (a w : World) : Prop := m ≤ a.heap.size ∧ Mid n m a w
theorem MidF.later {n m : Nat} {a w w' : World} (h : MidF n m a w) (hl : Ltr w w') : MidF n m a w' := ⟨h.1, h.2.trans hl.toMid⟩
theorem MidF.upd {n m g : Nat} {a w w' : World} (h : MidF n m a w) (hu : Upd g w w') (hg : a.heap.size ≤ g) : MidF n m a w' :=
  ⟨h.1, hu.os.trans h.2.os, hu.tape.trans h.2.tape, hu.output.trans h.2.output, by rw [hu.size]; exact h.2.size, fun i hi hj => (hu.block i (by omega)).trans (h.2.block i hi hj)⟩
theorem MidF.bel {n m N : Nat} {a w w' : World} (h : MidF n m a w) (hb : Below N w w') (hN : a.heap.size ≤ N) : MidF n m a w' :=
  ⟨h.1, hb.os.trans h.2.os, hb.tape.trans h.2.tape, hb.output.trans h.2.output, Nat.le_trans h.2.size hb.size, fun i hi hj => (hb.block i (by omega)).trans (h.2.block i hi hj)⟩
theorem MidF.mid {n m : Nat} {a w w' : World} (h : MidF n m a w) (hm : Mid n m w w') (_ : 0 ≤ 0) : MidF n m a w' := ⟨h.1, h.2.trans hm⟩
theorem Blk.mid {n m B : Nat} {t : TypeId} {cs : Array Value} {w w' : World} (h : Blk w B t cs) (hm : Mid n m w w') (hB : B < n ∨ m ≤ B) : Blk w' B t cs := (hm.block B h.lt hB).trans h
theorem LeafAt.mid {n m b : Nat} {l : List UInt8} {w w' : World} (h : LeafAt w b l) (hm : Mid n m w w') (hB : b < n ∨ m ≤ b) : LeafAt w' b l := Blk.mid h hm hB
theorem LeafAt.bel {N b : Nat} {l : List UInt8} {w w' : World} (h : LeafAt w b l) (hb : Below N w w') (hB : b < N) : LeafAt w' b l := Blk.bel h hb hB
theorem TreeN.mid {k n m : Nat} {t : Tr} {v : Value} {w w' : World} (h : TreeN k w t v) (hm : Mid n m w w') (hk : k ≤ n ∧ n ≤ w.heap.size) : TreeN k w' t v := h.bel (hm.below hk.2) hk.1
theorem RopeN.mid {k n m b : Nat} {l : List UInt8} {v : Value} {ot : Option Tr} {w w' : World} (h : RopeN k w b l v ot) (hm : Mid n m w w') (hk : k ≤ n ∧ n ≤ w.heap.size) : RopeN k w' b l v ot := h.bel (hm.below hk.2) hk.1
theorem Bel.mid {k n m : Nat} {a w w' : World} (h : Bel k a w) (hm : Mid n m w w') (hk : k ≤ n ∧ n ≤ w.heap.size) : Bel k a w' := h.bel (hm.below hk.2) hk.1
theorem Tabs.mid {n m : Nat} {w w' : World} (h : Tabs w) (hm : Mid n m w w') (hk : 4 ≤ n ∧ n ≤ w.heap.size) : Tabs w' := h.bel (hm.below hk.2) hk.1
/-- a function value that is asked of the measures of beginnings of l: J, of its own memory between n and m, abides it -/
def Asks (k : Nat) (caps : Array Value) (n m : Nat) (l : List UInt8) (p : List UInt8 → Bool) (J : World → Prop) : Prop :=
  (∀ A B, J A → m ≤ A.heap.size → Below m A B → J B) ∧ (∀ args w, (callFunc k args).run Tryd.prog w = .ok (.enter k args) w) ∧
  ∀ (q r : List UInt8) (W : World), q ++ r = l → J W → n ≤ m → m ≤ W.heap.size → Calls Tryd.prog k (#[.agg #[.int .i64 q.length, .int .i64 (runesN q), .int .i64 (unitsN q), .int .i64 (endsN q), .string (bs (headOf q)), .string (bs (tailOf q))]] ++ caps) W fun e w' =>
    (e = .returned (.bool true) ∧ p q = true ∧ Mid n m W w' ∧ J w') ∨ (e = .returned (.bool false) ∧ p q = false ∧ Mid n m W w' ∧ J w')
def JW (J : World → Prop) (m : Nat) (w : World) : Prop := (∀ A B, J A → m ≤ A.heap.size → Below m A B → J B) ∧ m ≤ w.heap.size ∧ J w
theorem JW.later {J : World → Prop} {m : Nat} {w w' : World} (h : JW J m w) (hl : Ltr w w') : JW J m w' := ⟨h.1, Nat.le_trans h.2.1 hl.size, h.1 _ _ h.2.2 h.2.1 (Below.mono hl h.2.1)⟩
theorem JW.upd {J : World → Prop} {m g : Nat} {w w' : World} (h : JW J m w) (hu : Upd g w w') (hg : m ≤ g) : JW J m w' := ⟨h.1, by rw [hu.size]; exact h.2.1, h.1 _ _ h.2.2 h.2.1 (hu.below (Below.refl _ _) hg)⟩
theorem JW.bel {J : World → Prop} {m N : Nat} {w w' : World} (h : JW J m w) (hb : Below N w w') (hN : m ≤ N) : JW J m w' := ⟨h.1, Nat.le_trans h.2.1 hb.size, h.1 _ _ h.2.2 h.2.1 (Below.mono hb hN)⟩
theorem ex_callv {k : Nat} {caps args : Array Value} (eg : ∀ args w, (callFunc k args).run Tryd.prog w = .ok (.enter k args) w) {o : Oper} {ρ : Operand → Value} {x y : Operand} {tys : Array TypeId} {v : Value} (ho : o.op = .call { callee := .value x, args := #[y], argTypes := tys })
    (hx : ρ x = .func (.func k) #[] caps) (hy : ρ y = v) (ha : args = #[v] ++ caps) (w : World) : (execOp ρ o).run Tryd.prog w = .ok (.enter k args) w := by
  subst ha
  unfold execOp
  simp [ho, resolve, hx, hy, invoke, go_sem, eg]
def AskP (k : Nat) (caps : Array Value) (n m : Nat) (p : List UInt8 → Bool) (J : World → Prop) (q : List UInt8) (W : World) (e : Ending) (w' : World) : Prop :=
    (e = .returned (.bool true) ∧ p q = true ∧ Mid n m W w' ∧ JW J m w') ∨ (e = .returned (.bool false) ∧ p q = false ∧ Mid n m W w' ∧ JW J m w')
theorem Asks.at {k : Nat} {caps : Array Value} {n m : Nat} {l : List UInt8} {p : List UInt8 → Bool} {J : World → Prop} (h : Asks k caps n m l p J) (hnm : n ≤ m) {q r : List UInt8} {W : World} (hq : q ++ r = l) (hJ : JW J m W) :
    Calls Tryd.prog k (#[.agg #[.int .i64 q.length, .int .i64 (runesN q), .int .i64 (unitsN q), .int .i64 (endsN q), .string (bs (headOf q)), .string (bs (tailOf q))]] ++ caps) W (AskP k caps n m p J q W) :=
  (h.2.2 q r W hq hJ.2.2 hnm hJ.2.1).mono fun e w' he => by
    rcases he with ⟨e1, e2, e3, e4⟩ | ⟨e1, e2, e3, e4⟩
    · exact .inl ⟨e1, e2, e3, hJ.1, Nat.le_trans hJ.2.1 e3.size, e4⟩
    · exact .inr ⟨e1, e2, e3, hJ.1, Nat.le_trans hJ.2.1 e3.size, e4⟩
def FirstP (p : List UInt8 → Bool) (l : List UInt8) (e : Ending) : Prop :=
  (e = .returned (.int .i64 (-1)) ∧ p [] = false ∧ (l = [] ∨ p l = false)) ∨
  ∃ q r, q ++ r = l ∧ e = .returned (.int .i64 q.length) ∧ p q = true ∧ (q = [] ∨ ∃ q', q'.length + 1 = q.length ∧ (∃ r', q' ++ r' = q) ∧ p q' = false)
theorem first_end (p : List UInt8 → Bool) (pre u rest l : List UInt8) (lo hi fd : Nat) (h : pre ++ u ++ rest = l) (h1 : 1 ≤ lo) (h2 : lo = hi) (h3 : hi ≤ u.length) (hfd : fd = pre.length + hi) (ht : p (pre ++ u.take hi) = true) (hf : p (pre ++ u.take (lo - 1)) = false) :
    FirstP p l (.returned (.int .i64 fd)) := by
  subst h2 hfd
  refine .inr ⟨pre ++ u.take lo, u.drop lo ++ rest, ?_, ?_, ht, .inr ⟨pre ++ u.take (lo - 1), ?_, ⟨(u.take lo).drop (lo - 1), ?_⟩, hf⟩⟩
  · rw [← h, List.append_assoc, ← List.append_assoc (u.take lo), List.take_append_drop, ← List.append_assoc]
  · rw [List.length_append, List.length_take, Nat.min_eq_left h3]
  · simp only [List.length_append, List.length_take]; omega
  · rw [List.append_assoc]
    congr 1
    have := List.take_append_drop (lo - 1) (u.take lo)
    rwa [List.take_take, Nat.min_eq_left (by omega)] at this
set_option maxRecDepth 100000 in
set_option maxHeartbeats 16000000 in
theorem First_any (k : Nat) (caps : Array Value) (n m : Nat) (b : Nat) (l : List UInt8) (v : Value) (ot : Option Tr) (p : List UInt8 → Bool) (J : World → Prop) (hAsk : Asks k caps n m l p J) (w : World) (hT : Tabs w) (h4n : 4 ≤ n)
    (hnm : n ≤ m) (hmw : m ≤ w.heap.size) (hr : RopeN n w b l v ot) (hJ : J w) (hm : l.length ≤ 200000000) :
    Calls Tryd.prog 21 #[.pointer (some ⟨b, 0, none⟩), .func (.func k) #[] caps] w fun e w' => FirstP p l e ∧ Mid n m w w' ∧ J w' := by
  have hB : MidF n m w w := ⟨hmw, Mid.refl _ _ _⟩
  have eg := hAsk.2.1
  have hJJ : JW J m w := ⟨hAsk.1, hmw, hJ⟩
  clear hJ
  have hb0 : b < n := hr.2.1
  have hb : Blk w b 110 #[v] := hr.2.2.1
  have hr0 := hr
  rcases ot with _ | t
  · obtain ⟨rfl, rfl⟩ := hr.2.2.2
    go_enter Tryd.func21, Tryd.ntmps21
    have h4 := hT.four
    have hlt_hb := hb.lt
    refine wp_seq_k fun KK1 hKK1 => rl_begin fun hgK hgo => tk 4 (.int .i64 0) ?_
    simp only [pp]
    refine rl_end hgo <| hKK1 _ _ <| wp_seq_k fun KK2 hKK2 => wp_seq_k fun KK3 hKK3 => rl_begin fun hgK hgo => tk 18 (.func (.func k) #[] caps) <| tk 19 (.bool false) ?_
    simp only [pp]
    refine rl_end hgo <| hKK3 _ _ <| wp_cond_false (by kernel_rfl) <| wp_skip <| hKK2 _ _ <| wp_seq_k fun KK4 hKK4 => rl_begin fun hgK hgo => ?_
    refine rl_call (some 20) 60 #[.slice none 0 0] rfl (by kernel_rfl) (by kernel_rfl) (Of_wv none 0 [] _ hT (BytesAt.nil _ _) (Nat.zero_le _) (by simp)) ?_
    rintro e w5 ⟨rfl, hL5⟩
    refine ⟨_, rfl, ?_⟩
    have hz5 := hL5.size
    try simp only [pp]
    refine rl_alloc (some 5) 36 #[.int .i64 0, .int .i64 0, .int .i64 0, .int .i64 0, .string ⟨#[]⟩, .string ⟨#[]⟩] rfl (by kernel_rfl) (fun W => by kernel_rfl) fun q w6 hL6 hp6 hq => ?_
    have hz6 := hL6.size
    have hlt6 := hq.lt
    try simp only [pp]
    refine rl_store q #[.int .i64 (@List.nil UInt8).length, .int .i64 (runesN (@List.nil UInt8)), .int .i64 (unitsN (@List.nil UInt8)), .int .i64 (endsN (@List.nil UInt8)), .string (bs (headOf (@List.nil UInt8))), .string (bs (tailOf (@List.nil UInt8)))] rfl rfl (by kernel_rfl) rfl rfl (by kernel_rfl) hq rfl (by kernel_rfl) fun w7 hU7 hn7 => ?_
    have hz7 := hU7.size
    replace hT := (hT.later hL5).later hL6
    replace hT := hT.upd hU7 (by omega)
    replace hB := (hB.later hL5).later hL6
    replace hB := hB.upd hU7 (by omega)
    replace hJJ := (hJJ.later hL5).later hL6
    replace hJJ := hJJ.upd hU7 (by omega)
    replace hr := (hr.later hL5).later hL6
    replace hr := hr.upd hU7 (by omega)
    replace hb := (hb.later hL5).later hL6
    replace hb := hb.upd hU7 (by omega)
    clear hq
    have hq := hn7
    clear hn7
    try simp only [pp]
    refine rl_end hgo <| hKK4 _ _ <| wp_seq_k fun KK8 hKK8 => wp_seq_k fun KK9 hKK9 => rl_begin fun hgK hgo => tk 21 (.func (.func k) #[] caps) ?_
    simp only [pp]
    refine tx 22 (.agg #[.int .i64 (@List.nil UInt8).length, .int .i64 (runesN (@List.nil UInt8)), .int .i64 (unitsN (@List.nil UInt8)), .int .i64 (endsN (@List.nil UInt8)), .string (bs (headOf (@List.nil UInt8))), .string (bs (tailOf (@List.nil UInt8)))]) (by exact ldN 36 _ rfl q 0 rfl (fun _ => by kernel_rfl) [] [.int .i64 (@List.nil UInt8).length, .int .i64 (runesN (@List.nil UInt8)), .int .i64 (unitsN (@List.nil UInt8)), .int .i64 (endsN (@List.nil UInt8)), .string (bs (headOf (@List.nil UInt8))), .string (bs (tailOf (@List.nil UInt8)))] [] (by kernel_rfl) hq rfl rfl) ?_
    simp only [pp]
    refine rl_call (some 23) k _ rfl (by kernel_rfl) (by ((apply ex_callv eg) <;> rfl)) (hAsk.at hnm (q := []) (r := []) rfl hJJ) ?_
    rintro e w10 (⟨rfl, hp, hM, hJJ⟩ | ⟨rfl, hp, hM, hJJ⟩)
    ·refine ⟨_, rfl, ?_⟩
     replace hT := hT.mid hM (by omega)
     replace hB := hB.mid hM (by omega)
     replace hr := hr.mid hM (by omega)
     replace hb := hb.mid hM (by omega)
     replace hq := hq.mid hM (by omega)
     have hz10 := (hM).size
     try simp only [pp]
     refine rl_end hgo <| hKK9 _ _ <| wp_cond_true (by kernel_rfl) <| wp_seq_k fun KK11 hKK11 => rl_begin fun hgK hgo => tk 4 (.int .i64 0) ?_
     simp only [pp]
     refine rl_end hgo <| hKK11 _ _ ?_
     refine wp_ret ?_
     try simp only [Exit.then, Exit.inBlock]
     refine bp_ret (v := .int .i64 0) (res1 rfl (res_tmp (by kernel_rfl))) ?_
     exact ⟨.inr ⟨[], [], rfl, rfl, hp, .inl rfl⟩, hB.2, hJJ.2.2⟩
    ·refine ⟨_, rfl, ?_⟩
     replace hT := hT.mid hM (by omega)
     replace hB := hB.mid hM (by omega)
     replace hr := hr.mid hM (by omega)
     replace hb := hb.mid hM (by omega)
     replace hq := hq.mid hM (by omega)
     have hz10 := (hM).size
     try simp only [pp]
     refine rl_end hgo <| hKK9 _ _ <| wp_cond_false (by kernel_rfl) <| wp_skip <| hKK8 _ _ <| wp_seq_k fun KK12 hKK12 => wp_seq_k fun KK13 hKK13 => rl_begin fun hgK hgo => tk 24 (.pointer (some ⟨b, 0, none⟩)) ?_
     simp only [pp]
     refine rl_call (some 25) 45 #[.pointer (some ⟨b, 0, none⟩)] rfl (by kernel_rfl) (by kernel_rfl) (Len_any b [] _ hr.at) ?_
     rintro e w14 ⟨rfl, hL14⟩
     refine ⟨_, rfl, ?_⟩
     have hz14 := hL14.size
     try simp only [pp]
     refine tx 26 (.bool true) (by exact eqt (x := 0) (y := 0) (by omega)) <| tk 27 (.bool true) ?_
     simp only [pp]
     refine rl_pass (some 28) rfl (by kernel_rfl) ?_
     try simp only [pp]
     refine rl_pass (some 29) rfl (by kernel_rfl) ?_
     try simp only [pp]
     refine rl_pass (some 30) rfl (by kernel_rfl) ?_
     try simp only [pp]
     refine rl_pass (some 31) rfl (by kernel_rfl) ?_
     try simp only [pp]
     refine rl_pass (some 32) rfl (by kernel_rfl) ?_
     try simp only [pp]
     refine tk 33 (.bool true) ?_
     simp only [pp]
     refine rl_end hgo <| hKK13 _ _ <| wp_cond_true (by kernel_rfl) <| wp_seq_k fun KK15 hKK15 => rl_begin fun hgK hgo => tk 4 (.int .i64 (-1)) ?_
     simp only [pp]
     refine rl_end hgo <| hKK15 _ _ ?_
     refine wp_ret ?_
     try simp only [Exit.then, Exit.inBlock]
     refine bp_ret (v := .int .i64 (-1)) (res1 rfl (res_tmp (by kernel_rfl))) ?_
     replace hB := hB.later hL14
     replace hJJ := hJJ.later hL14
     exact ⟨.inl ⟨rfl, hp, .inl rfl⟩, hB.2, hJJ.2.2⟩
  · obtain ⟨ot, rfl, ht⟩ := hr.2.2.2
    have hl0 := t.len_pos ot
    go_enter Tryd.func21, Tryd.ntmps21
    have h4 := hT.four
    have hlt_hb := hb.lt
    refine wp_seq_k fun KK1 hKK1 => rl_begin fun hgK hgo => tk 4 (.int .i64 0) ?_
    simp only [pp]
    refine rl_end hgo <| hKK1 _ _ <| wp_seq_k fun KK2 hKK2 => wp_seq_k fun KK3 hKK3 => rl_begin fun hgK hgo => tk 18 (.func (.func k) #[] caps) <| tk 19 (.bool false) ?_
    simp only [pp]
    refine rl_end hgo <| hKK3 _ _ <| wp_cond_false (by kernel_rfl) <| wp_skip <| hKK2 _ _ <| wp_seq_k fun KK4 hKK4 => rl_begin fun hgK hgo => ?_
    refine rl_call (some 20) 60 #[.slice none 0 0] rfl (by kernel_rfl) (by kernel_rfl) (Of_wv none 0 [] _ hT (BytesAt.nil _ _) (Nat.zero_le _) (by simp)) ?_
    rintro e w5 ⟨rfl, hL5⟩
    refine ⟨_, rfl, ?_⟩
    have hz5 := hL5.size
    try simp only [pp]
    refine rl_alloc (some 5) 36 #[.int .i64 0, .int .i64 0, .int .i64 0, .int .i64 0, .string ⟨#[]⟩, .string ⟨#[]⟩] rfl (by kernel_rfl) (fun W => by kernel_rfl) fun q w6 hL6 hp6 hq => ?_
    have hz6 := hL6.size
    have hlt6 := hq.lt
    try simp only [pp]
    refine rl_store q #[.int .i64 (@List.nil UInt8).length, .int .i64 (runesN (@List.nil UInt8)), .int .i64 (unitsN (@List.nil UInt8)), .int .i64 (endsN (@List.nil UInt8)), .string (bs (headOf (@List.nil UInt8))), .string (bs (tailOf (@List.nil UInt8)))] rfl rfl (by kernel_rfl) rfl rfl (by kernel_rfl) hq rfl (by kernel_rfl) fun w7 hU7 hn7 => ?_
    have hz7 := hU7.size
    replace hT := (hT.later hL5).later hL6
    replace hT := hT.upd hU7 (by omega)
    replace hB := (hB.later hL5).later hL6
    replace hB := hB.upd hU7 (by omega)
    replace hJJ := (hJJ.later hL5).later hL6
    replace hJJ := hJJ.upd hU7 (by omega)
    replace hr0 := (hr0.later hL5).later hL6
    replace hr0 := hr0.upd hU7 (by omega)
    replace ht := (ht.later hL5).later hL6
    replace ht := ht.upd hU7 (by omega)
    replace hb := (hb.later hL5).later hL6
    replace hb := hb.upd hU7 (by omega)
    clear hq
    have hq := hn7
    clear hn7
    try simp only [pp]
    refine rl_end hgo <| hKK4 _ _ <| wp_seq_k fun KK8 hKK8 => wp_seq_k fun KK9 hKK9 => rl_begin fun hgK hgo => tk 21 (.func (.func k) #[] caps) ?_
    simp only [pp]
    refine tx 22 (.agg #[.int .i64 (@List.nil UInt8).length, .int .i64 (runesN (@List.nil UInt8)), .int .i64 (unitsN (@List.nil UInt8)), .int .i64 (endsN (@List.nil UInt8)), .string (bs (headOf (@List.nil UInt8))), .string (bs (tailOf (@List.nil UInt8)))]) (by exact ldN 36 _ rfl q 0 rfl (fun _ => by kernel_rfl) [] [.int .i64 (@List.nil UInt8).length, .int .i64 (runesN (@List.nil UInt8)), .int .i64 (unitsN (@List.nil UInt8)), .int .i64 (endsN (@List.nil UInt8)), .string (bs (headOf (@List.nil UInt8))), .string (bs (tailOf (@List.nil UInt8)))] [] (by kernel_rfl) hq rfl rfl) ?_
    simp only [pp]
    refine rl_call (some 23) k _ rfl (by kernel_rfl) (by ((apply ex_callv eg) <;> rfl)) (hAsk.at hnm (q := []) (r := t.bytes) rfl hJJ) ?_
    rintro e w10 (⟨rfl, hp0, hM, hJJ⟩ | ⟨rfl, hp0, hM, hJJ⟩)
    ·refine ⟨_, rfl, ?_⟩
     replace hT := hT.mid hM (by omega)
     replace hB := hB.mid hM (by omega)
     replace hr0 := hr0.mid hM (by omega)
     replace ht := ht.mid hM (by omega)
     replace hb := hb.mid hM (by omega)
     replace hq := hq.mid hM (by omega)
     have hz10 := (hM).size
     try simp only [pp]
     refine rl_end hgo <| hKK9 _ _ <| wp_cond_true (by kernel_rfl) <| wp_seq_k fun KK11 hKK11 => rl_begin fun hgK hgo => tk 4 (.int .i64 0) ?_
     simp only [pp]
     refine rl_end hgo <| hKK11 _ _ ?_
     refine wp_ret ?_
     try simp only [Exit.then, Exit.inBlock]
     refine bp_ret (v := .int .i64 0) (res1 rfl (res_tmp (by kernel_rfl))) ?_
     exact ⟨.inr ⟨[], t.bytes, rfl, rfl, hp0, .inl rfl⟩, hB.2, hJJ.2.2⟩
    ·refine ⟨_, rfl, ?_⟩
     replace hT := hT.mid hM (by omega)
     replace hB := hB.mid hM (by omega)
     replace hr0 := hr0.mid hM (by omega)
     replace ht := ht.mid hM (by omega)
     replace hb := hb.mid hM (by omega)
     replace hq := hq.mid hM (by omega)
     have hz10 := (hM).size
     try simp only [pp]
     refine rl_end hgo <| hKK9 _ _ <| wp_cond_false (by kernel_rfl) <| wp_skip <| hKK8 _ _ <| wp_seq_k fun KK12 hKK12 => wp_seq_k fun KK13 hKK13 => rl_begin fun hgK hgo => tk 24 (.pointer (some ⟨b, 0, none⟩)) ?_
     simp only [pp]
     refine rl_call (some 25) 45 #[.pointer (some ⟨b, 0, none⟩)] rfl (by kernel_rfl) (by kernel_rfl) (Len_any b t.bytes _ hr0.at) ?_
     rintro e w14 ⟨rfl, hL14⟩
     refine ⟨_, rfl, ?_⟩
     have hz14 := hL14.size
     try simp only [pp]
     refine tx 26 (.bool false) (by exact eqf (x := t.bytes.length) (y := 0) (by omega)) <| tk 27 (.bool false) <| tk 28 (.func (.func k) #[] caps) <| tk 29 (.pointer (some ⟨b, 0, none⟩)) ?_
     simp only [pp]
     replace hT := hT.later hL14
     replace hr0 := hr0.later hL14
     refine rl_call (some 30) 41 #[.pointer (some ⟨b, 0, none⟩)] rfl (by kernel_rfl) (by kernel_rfl) (RWeld_any b t.bytes _ hT hr0.at) ?_
     rintro e w15 ⟨rfl, hL15⟩
     refine ⟨_, rfl, ?_⟩
     have hz15 := hL15.size
     try simp only [pp]
     replace hJJ := (hJJ.later hL14).later hL15
     refine rl_call (some 31) k _ rfl (by kernel_rfl) (by ((apply ex_callv eg) <;> rfl)) (hAsk.at hnm (q := t.bytes) (r := []) (List.append_nil _) hJJ) ?_
     replace hB := (hB.later hL14).later hL15
     replace ht := (ht.later hL14).later hL15
     replace hb := (hb.later hL14).later hL15
     replace hq := (hq.later hL14).later hL15
     replace hT := hT.later hL15
     replace hr0 := hr0.later hL15
     rintro e w16 (⟨rfl, hp1, hM, hJJ⟩ | ⟨rfl, hp1, hM, hJJ⟩)
     ·refine ⟨_, rfl, ?_⟩
      replace hT := hT.mid hM (by omega)
      replace hB := hB.mid hM (by omega)
      replace hr0 := hr0.mid hM (by omega)
      replace ht := ht.mid hM (by omega)
      replace hb := hb.mid hM (by omega)
      replace hq := hq.mid hM (by omega)
      have hz16 := (hM).size
      try simp only [pp]
      refine tk 32 (.bool false) <| tk 33 (.bool false) ?_
      simp only [pp]
      refine rl_end hgo <| hKK13 _ _ <| wp_cond_false (by kernel_rfl) <| wp_skip <| hKK12 _ _ <| wp_seq_k fun KK17 hKK17 => rl_begin fun hgK hgo => tk 34 (.pointer (some ⟨b, 0, none⟩)) ?_
      simp only [pp]
      refine rl_call (some 35) 45 #[.pointer (some ⟨b, 0, none⟩)] rfl (by kernel_rfl) (by kernel_rfl) (Len_any b t.bytes _ hr0.at) ?_
      rintro e w18 ⟨rfl, hL18⟩
      refine ⟨_, rfl, ?_⟩
      have hz18 := hL18.size
      try simp only [pp]
      refine tk 6 (.int .i64 0) <| tk 7 (.int .i64 t.bytes.length) ?_
      simp only [pp]
      refine rl_end hgo <| hKK17 _ _ <| wp_seq_k fun KK19 hKK19 => rl_begin fun hgK hgo => tk 36 (.pointer (some ⟨b, 0, none⟩)) <| tk 37 (.pointer (some ⟨b, 0, none⟩)) <| tk 38 (.pointer (some ⟨b, 0, none⟩)) ?_
      simp only [pp]
      replace hb := hb.later hL18
      refine tx 39 v (by exact ld 108 b 0 (hb.cell 0)) <| tk 8 v ?_
      simp only [pp]
      refine rl_end hgo <| hKK19 _ _ <| wp_seq_k fun KK20 hKK20 => wp_block ?_
      replace hT := hT.later hL18
      replace hB := hB.later hL18
      replace hr0 := hr0.later hL18
      replace ht := ht.later hL18
      replace hq := hq.later hL18
      replace hJJ := hJJ.later hL18
      refine wp_loop_ghost (fun gn ga wl => ∃ (u : Nat → Value) (s : Tr) (vs : Value) (pre rest : List UInt8) (fr fd : Nat), gn = s.h ∧ ga = ⟨#[.pointer (some ⟨b, 0, none⟩), .func (.func k) #[] caps, undef, undef, .int .i64 0, .pointer (some ⟨q, 0, none⟩), .int .i64 fr, .int .i64 fd, vs, u 9, u 10, u 11, undef, undef, undef, undef, undef, undef, .func (.func k) #[] caps, .bool false, .agg #[.int .i64 (@List.nil UInt8).length, .int .i64 (runesN (@List.nil UInt8)), .int .i64 (unitsN (@List.nil UInt8)), .int .i64 (endsN (@List.nil UInt8)), .string (bs (headOf (@List.nil UInt8))), .string (bs (tailOf (@List.nil UInt8)))], .func (.func k) #[] caps, .agg #[.int .i64 (@List.nil UInt8).length, .int .i64 (runesN (@List.nil UInt8)), .int .i64 (unitsN (@List.nil UInt8)), .int .i64 (endsN (@List.nil UInt8)), .string (bs (headOf (@List.nil UInt8))), .string (bs (tailOf (@List.nil UInt8)))], .bool false, .pointer (some ⟨b, 0, none⟩), .int .i64 t.bytes.length, .bool false, .bool false, .func (.func k) #[] caps, .pointer (some ⟨b, 0, none⟩), .agg #[.int .i64 (t.bytes).length, .int .i64 (runesN (t.bytes)), .int .i64 (unitsN (t.bytes)), .int .i64 (endsN (t.bytes)), .string (bs (headOf (t.bytes))), .string (bs (tailOf (t.bytes)))], .bool true, .bool false, .bool false, .pointer (some ⟨b, 0, none⟩), .int .i64 t.bytes.length, .pointer (some ⟨b, 0, none⟩), .pointer (some ⟨b, 0, none⟩), .pointer (some ⟨b, 0, none⟩), v, u 40, u 41, u 42, u 43, u 44, u 45, u 46, u 47, u 48, u 49, u 50, u 51, u 52, u 53, u 54, u 55, u 56, u 57, u 58, u 59, u 60, u 61, u 62, u 63, u 64, u 65, u 66, u 67, u 68, u 69, u 70, u 71, u 72, u 73, u 74, u 75, u 76, u 77, u 78, u 79, undef, undef, undef, undef, undef, undef, undef, undef, undef, undef, undef, undef, undef, undef, undef, undef, undef, undef, undef, undef, undef, undef, undef, undef, undef, undef, undef, undef, undef, undef, undef], []⟩ ∧ (Tabs wl) ∧ (MidF n m w wl) ∧ (JW J m wl) ∧ (TreeN n wl s vs) ∧ (Blk wl q 36 #[.int .i64 pre.length, .int .i64 (runesN pre), .int .i64 (unitsN pre), .int .i64 (endsN pre), .string (bs (headOf pre)), .string (bs (tailOf pre))]) ∧ (s.ok) ∧ (pre ++ s.bytes ++ rest = t.bytes) ∧ (p (pre ++ s.bytes) = true) ∧ (p pre = false) ∧ (w.heap.size ≤ q) ∧ (fr = pre.length) ∧ (fd = pre.length + s.bytes.length)) ((fun (s : Tr) (vs : Value) (pre rest : List UInt8) (fr fd : Nat) => (s.h : Nat)) t v [] [] 0 t.bytes.length) ?_ ?_
      ·exact ⟨fun gj => (#[.pointer (some ⟨b, 0, none⟩), .func (.func k) #[] caps, undef, undef, .int .i64 0, .pointer (some ⟨q, 0, none⟩), .int .i64 0, .int .i64 t.bytes.length, v, undef, undef, undef, undef, undef, undef, undef, undef, undef, .func (.func k) #[] caps, .bool false, .agg #[.int .i64 (@List.nil UInt8).length, .int .i64 (runesN (@List.nil UInt8)), .int .i64 (unitsN (@List.nil UInt8)), .int .i64 (endsN (@List.nil UInt8)), .string (bs (headOf (@List.nil UInt8))), .string (bs (tailOf (@List.nil UInt8)))], .func (.func k) #[] caps, .agg #[.int .i64 (@List.nil UInt8).length, .int .i64 (runesN (@List.nil UInt8)), .int .i64 (unitsN (@List.nil UInt8)), .int .i64 (endsN (@List.nil UInt8)), .string (bs (headOf (@List.nil UInt8))), .string (bs (tailOf (@List.nil UInt8)))], .bool false, .pointer (some ⟨b, 0, none⟩), .int .i64 t.bytes.length, .bool false, .bool false, .func (.func k) #[] caps, .pointer (some ⟨b, 0, none⟩), .agg #[.int .i64 (t.bytes).length, .int .i64 (runesN (t.bytes)), .int .i64 (unitsN (t.bytes)), .int .i64 (endsN (t.bytes)), .string (bs (headOf (t.bytes))), .string (bs (tailOf (t.bytes)))], .bool true, .bool false, .bool false, .pointer (some ⟨b, 0, none⟩), .int .i64 t.bytes.length, .pointer (some ⟨b, 0, none⟩), .pointer (some ⟨b, 0, none⟩), .pointer (some ⟨b, 0, none⟩), v, undef, undef, undef, undef, undef, undef, undef, undef, undef, undef, undef, undef, undef, undef, undef, undef, undef, undef, undef, undef, undef, undef, undef, undef, undef, undef, undef, undef, undef, undef, undef, undef, undef, undef, undef, undef, undef, undef, undef, undef, undef, undef, undef, undef, undef, undef, undef, undef, undef, undef, undef, undef, undef, undef, undef, undef, undef, undef, undef, undef, undef, undef, undef, undef, undef, undef, undef, undef, undef, undef, undef]).getD gj undef, t, v, [], [], 0, t.bytes.length, rfl, rfl, by assumption, by assumption, by assumption, by assumption, by assumption, by assumption, (by simp), hp1, hp0, (by omega), rfl, (by simp)⟩
      rintro n21 a21 w21 ⟨u, s, vs, pre, rest, fr, fd, rfl, rfl, hT', hB', hJJ', hs', hq', os', hpre', hpt', hpf', hqN', hfr', hfd'⟩
      clear hJJ hq hb ht hr0 hB hT
      have hT := hT'
      clear hT'
      have hB := hB'
      clear hB'
      have hJJ := hJJ'
      clear hJJ'
      have hs := hs'
      clear hs'
      have hq := hq'
      clear hq'
      have os := os'
      clear os'
      have hpre := hpre'
      clear hpre'
      have hpt := hpt'
      clear hpt'
      have hpf := hpf'
      clear hpf'
      have hqN := hqN'
      clear hqN'
      have hfr := hfr'
      clear hfr'
      have hfd := hfd'
      clear hfd'
      have hlt_hq_21 := hq.lt
      refine wp_block <| wp_seq_k fun KK22 hKK22 => ?_
      rcases hs.open with ⟨ub, a, rfl, rfl, ha, hlf⟩|⟨x, y, a, vx, vy, rfl, rfl, ha, hfk, hx, hy⟩
      ·skip
       clear hs
       (have hul := congrArg List.length hpre); (have hu0 : 0 < ub.length := Tr.len_pos _ os); (simp only [List.length_append, Tr.bytes] at hul hfd hpt)
       refine rl_begin fun hgK hgo => tk 41 (.iface 118 (.agg #[.pointer (some ⟨a, 0, none⟩)])) <| tk 42 (.tuple #[.pointer none, .bool false]) <| tk 40 (.tuple #[.pointer none, .bool false]) <| tk 43 (.pointer none) <| tk 44 (.bool false) <| tk 9 (.pointer none) <| tk 10 (.bool false) ?_
       simp only [pp]
       refine rl_end hgo <| hKK22 _ _ <| wp_seq_k fun KK23 hKK23 => wp_seq_k fun KK24 hKK24 => rl_begin fun hgK hgo => tk 45 (.bool false) <| tk 46 (.bool true) ?_
       simp only [pp]
       refine rl_end hgo <| hKK24 _ _ <| wp_cond_true (by kernel_rfl) <| wp_exit <| hKK20 _ _ <| wp_seq_k fun KK25 hKK25 => rl_begin fun hgK hgo => tk 80 (.iface 118 (.agg #[.pointer (some ⟨a, 0, none⟩)])) <| tk 81 (.agg #[.pointer (some ⟨a, 0, none⟩)]) <| tk 82 (.pointer (some ⟨a, 0, none⟩)) <| tk 12 (.pointer (some ⟨a, 0, none⟩)) ?_
       simp only [pp]
       refine rl_end hgo <| hKK25 _ _ <| wp_seq_k fun KK26 hKK26 => wp_seq_k fun KK27 hKK27 => rl_begin fun hgK hgo => tk 83 (.int .i64 fd) <| tk 84 (.int .i64 fr) ?_
       simp only [pp]
       refine tx 85 (.int .i64 ((ub.length : Int))) (by exact ex_arith (e := (fd : Int) - fr) (r := (ub.length : Int)) (by kernel_rfl) (by omega) (by omega)) <| tk 13 (.int .i64 1) <| tk 14 (.int .i64 ((ub.length : Int))) ?_
       simp only [pp]
       refine rl_end hgo <| hKK27 _ _ <| wp_block ?_
       refine wp_loop_ghost (fun gn ga wl => ∃ (u : Nat → Value) (lo hi fd2 : Nat), gn = hi - lo ∧ ga = ⟨#[.pointer (some ⟨b, 0, none⟩), .func (.func k) #[] caps, undef, undef, .int .i64 0, .pointer (some ⟨q, 0, none⟩), .int .i64 fr, .int .i64 fd2, .iface 118 (.agg #[.pointer (some ⟨a, 0, none⟩)]), .pointer none, .bool false, u 11, .pointer (some ⟨a, 0, none⟩), .int .i64 lo, .int .i64 hi, u 15, u 16, u 17, .func (.func k) #[] caps, .bool false, .agg #[.int .i64 (@List.nil UInt8).length, .int .i64 (runesN (@List.nil UInt8)), .int .i64 (unitsN (@List.nil UInt8)), .int .i64 (endsN (@List.nil UInt8)), .string (bs (headOf (@List.nil UInt8))), .string (bs (tailOf (@List.nil UInt8)))], .func (.func k) #[] caps, .agg #[.int .i64 (@List.nil UInt8).length, .int .i64 (runesN (@List.nil UInt8)), .int .i64 (unitsN (@List.nil UInt8)), .int .i64 (endsN (@List.nil UInt8)), .string (bs (headOf (@List.nil UInt8))), .string (bs (tailOf (@List.nil UInt8)))], .bool false, .pointer (some ⟨b, 0, none⟩), .int .i64 t.bytes.length, .bool false, .bool false, .func (.func k) #[] caps, .pointer (some ⟨b, 0, none⟩), .agg #[.int .i64 (t.bytes).length, .int .i64 (runesN (t.bytes)), .int .i64 (unitsN (t.bytes)), .int .i64 (endsN (t.bytes)), .string (bs (headOf (t.bytes))), .string (bs (tailOf (t.bytes)))], .bool true, .bool false, .bool false, .pointer (some ⟨b, 0, none⟩), .int .i64 t.bytes.length, .pointer (some ⟨b, 0, none⟩), .pointer (some ⟨b, 0, none⟩), .pointer (some ⟨b, 0, none⟩), v, .tuple #[.pointer none, .bool false], .iface 118 (.agg #[.pointer (some ⟨a, 0, none⟩)]), .tuple #[.pointer none, .bool false], .pointer none, .bool false, .bool false, .bool true, u 47, u 48, u 49, u 50, u 51, u 52, u 53, u 54, u 55, u 56, u 57, u 58, u 59, u 60, u 61, u 62, u 63, u 64, u 65, u 66, u 67, u 68, u 69, u 70, u 71, u 72, u 73, u 74, u 75, u 76, u 77, u 78, u 79, .iface 118 (.agg #[.pointer (some ⟨a, 0, none⟩)]), .agg #[.pointer (some ⟨a, 0, none⟩)], .pointer (some ⟨a, 0, none⟩), .int .i64 fd, .int .i64 fr, .int .i64 ((ub.length : Int)), u 86, u 87, u 88, u 89, u 90, u 91, u 92, u 93, u 94, u 95, u 96, u 97, u 98, u 99, u 100, u 101, u 102, u 103, u 104, u 105, u 106, u 107, u 108, u 109, undef], []⟩ ∧ (Tabs wl) ∧ (MidF n m w wl) ∧ (JW J m wl) ∧ (LeafAt wl a ub) ∧ (Blk wl q 36 #[.int .i64 pre.length, .int .i64 (runesN pre), .int .i64 (unitsN pre), .int .i64 (endsN pre), .string (bs (headOf pre)), .string (bs (tailOf pre))]) ∧ (1 ≤ lo ∧ lo ≤ hi ∧ hi ≤ ub.length) ∧ (fd2 = pre.length + hi) ∧ (p (pre ++ ub.take hi) = true) ∧ (p (pre ++ ub.take (lo - 1)) = false)) ((fun (lo hi fd2 : Nat) => (hi - lo : Nat)) 1 ub.length fd) ?_ ?_
       ·exact ⟨fun gj => (#[.pointer (some ⟨b, 0, none⟩), .func (.func k) #[] caps, undef, undef, .int .i64 0, .pointer (some ⟨q, 0, none⟩), .int .i64 fr, .int .i64 fd, .iface 118 (.agg #[.pointer (some ⟨a, 0, none⟩)]), .pointer none, .bool false, u 11, .pointer (some ⟨a, 0, none⟩), .int .i64 1, .int .i64 ((ub.length : Int)), undef, undef, undef, .func (.func k) #[] caps, .bool false, .agg #[.int .i64 (@List.nil UInt8).length, .int .i64 (runesN (@List.nil UInt8)), .int .i64 (unitsN (@List.nil UInt8)), .int .i64 (endsN (@List.nil UInt8)), .string (bs (headOf (@List.nil UInt8))), .string (bs (tailOf (@List.nil UInt8)))], .func (.func k) #[] caps, .agg #[.int .i64 (@List.nil UInt8).length, .int .i64 (runesN (@List.nil UInt8)), .int .i64 (unitsN (@List.nil UInt8)), .int .i64 (endsN (@List.nil UInt8)), .string (bs (headOf (@List.nil UInt8))), .string (bs (tailOf (@List.nil UInt8)))], .bool false, .pointer (some ⟨b, 0, none⟩), .int .i64 t.bytes.length, .bool false, .bool false, .func (.func k) #[] caps, .pointer (some ⟨b, 0, none⟩), .agg #[.int .i64 (t.bytes).length, .int .i64 (runesN (t.bytes)), .int .i64 (unitsN (t.bytes)), .int .i64 (endsN (t.bytes)), .string (bs (headOf (t.bytes))), .string (bs (tailOf (t.bytes)))], .bool true, .bool false, .bool false, .pointer (some ⟨b, 0, none⟩), .int .i64 t.bytes.length, .pointer (some ⟨b, 0, none⟩), .pointer (some ⟨b, 0, none⟩), .pointer (some ⟨b, 0, none⟩), v, .tuple #[.pointer none, .bool false], .iface 118 (.agg #[.pointer (some ⟨a, 0, none⟩)]), .tuple #[.pointer none, .bool false], .pointer none, .bool false, .bool false, .bool true, u 47, u 48, u 49, u 50, u 51, u 52, u 53, u 54, u 55, u 56, u 57, u 58, u 59, u 60, u 61, u 62, u 63, u 64, u 65, u 66, u 67, u 68, u 69, u 70, u 71, u 72, u 73, u 74, u 75, u 76, u 77, u 78, u 79, .iface 118 (.agg #[.pointer (some ⟨a, 0, none⟩)]), .agg #[.pointer (some ⟨a, 0, none⟩)], .pointer (some ⟨a, 0, none⟩), .int .i64 fd, .int .i64 fr, .int .i64 ((ub.length : Int)), undef, undef, undef, undef, undef, undef, undef, undef, undef, undef, undef, undef, undef, undef, undef, undef, undef, undef, undef, undef, undef, undef, undef, undef, undef]).getD gj undef, 1, ub.length, fd, rfl, rfl, by assumption, by assumption, by assumption, by assumption, by assumption, (by omega), (by omega), (by rw [List.take_length]; exact hpt), (by simpa using hpf)⟩
       rintro n28 a28 w28 ⟨u, lo, hi, fd2, rfl, rfl, hT', hB', hJJ', hlf', hq', hlo', hfd2', hpt2', hpf2'⟩
       clear hlf hq hJJ hB hT
       have hT := hT'
       clear hT'
       have hB := hB'
       clear hB'
       have hJJ := hJJ'
       clear hJJ'
       have hlf := hlf'
       clear hlf'
       have hq := hq'
       clear hq'
       have hlo := hlo'
       clear hlo'
       have hfd2 := hfd2'
       clear hfd2'
       have hpt2 := hpt2'
       clear hpt2'
       have hpf2 := hpf2'
       clear hpf2'
       have hlt_hq_28 := hq.lt
       refine wp_seq_k fun KK29 hKK29 => wp_seq_k fun KK30 hKK30 => rl_begin fun hgK hgo => tk 86 (.int .i64 lo) <| tk 87 (.int .i64 hi) ?_
       simp only [pp]
       by_cases hlt : (lo : Int) < hi
       ·refine tx 88 (.bool true) (by exact ebt (c := (lo : Int) < hi) (by omega)) ?_
        simp only [pp]
        refine rl_end hgo <| hKK30 _ _ <| wp_cond_true (by kernel_rfl) <| wp_skip <| hKK29 _ _ <| wp_block <| wp_seq_k fun KK31 hKK31 => ?_
        obtain ⟨md, hmd⟩ : ∃ md, md = (lo + hi) / 2 := ⟨_, rfl⟩
        refine rl_begin fun hgK hgo => tk 89 (.int .i64 lo) <| tk 90 (.int .i64 hi) ?_
        simp only [pp]
        refine tx 91 (.int .i64 (((lo + hi : Nat) : Int))) (by exact ex_arith (e := (lo : Int) + hi) (r := ((lo + hi : Nat) : Int)) (by kernel_rfl) (by omega) (by omega)) ?_
        simp only [pp]
        refine tx 92 (.int .i64 (md : Int)) (by rw [hmd]; exact ex_half (lo + hi) rfl rfl rfl (by kernel_rfl) (by omega) _) <| tk 15 (.int .i64 (md : Int)) ?_
        simp only [pp]
        refine rl_end hgo <| hKK31 _ _ <| wp_seq_k fun KK32 hKK32 => rl_begin fun hgK hgo => tk 94 (.pointer (some ⟨a, 0, none⟩)) <| tk 95 (.int .i64 (md : Int)) ?_
        simp only [pp]
        refine rl_call (some 96) 62 #[.pointer (some ⟨a, 0, none⟩), .int .i64 (md : Int)] rfl (by kernel_rfl) (by kernel_rfl) (LBefore_any a ub md (by omega) (by omega) _ hT hlf) ?_
        rintro e w33 ⟨rfl, hL33⟩
        refine ⟨_, rfl, ?_⟩
        have hz33 := hL33.size
        try simp only [pp]
        refine tk 93 (.tuple #[.agg #[.int .i64 (ub.take md).length, .int .i64 (runesN (ub.take md)), .int .i64 (unitsN (ub.take md)), .int .i64 (endsN (ub.take md)), .string (bs (headOf (ub.take md))), .string (bs (tailOf (ub.take md)))], .int .i64 0]) <| tk 97 (.agg #[.int .i64 (ub.take md).length, .int .i64 (runesN (ub.take md)), .int .i64 (unitsN (ub.take md)), .int .i64 (endsN (ub.take md)), .string (bs (headOf (ub.take md))), .string (bs (tailOf (ub.take md)))]) <| tk 98 (.int .i64 0) ?_
        simp only [pp]
        refine rl_alloc (some 16) 36 #[.int .i64 0, .int .i64 0, .int .i64 0, .int .i64 0, .string ⟨#[]⟩, .string ⟨#[]⟩] rfl (by kernel_rfl) (fun W => by kernel_rfl) fun p34 w34 hL34 hp34 hb34 => ?_
        have hz34 := hL34.size
        have hlt34 := hb34.lt
        try simp only [pp]
        refine rl_store p34 #[.int .i64 (ub.take md).length, .int .i64 (runesN (ub.take md)), .int .i64 (unitsN (ub.take md)), .int .i64 (endsN (ub.take md)), .string (bs (headOf (ub.take md))), .string (bs (tailOf (ub.take md)))] rfl rfl (by kernel_rfl) rfl rfl (by kernel_rfl) hb34 rfl (by kernel_rfl) fun w35 hU35 hn35 => ?_
        have hz35 := hU35.size
        replace hT := (hT.later hL33).later hL34
        replace hT := hT.upd hU35 (by omega)
        replace hB := (hB.later hL33).later hL34
        replace hB := hB.upd hU35 (by omega)
        replace hJJ := (hJJ.later hL33).later hL34
        replace hJJ := hJJ.upd hU35 (by omega)
        replace hlf := (hlf.later hL33).later hL34
        replace hlf := hlf.upd hU35 (by omega)
        replace hq := (hq.later hL33).later hL34
        replace hq := hq.upd hU35 (by omega)
        clear hb34
        have hb34 := hn35
        clear hn35
        try simp only [pp]
        refine tk 17 (.int .i64 0) ?_
        simp only [pp]
        refine rl_end hgo <| hKK32 _ _ <| wp_seq_k fun KK36 hKK36 => rl_begin fun hgK hgo => tk 99 (.func (.func k) #[] caps) ?_
        simp only [pp]
        refine tx 100 (.agg #[.int .i64 pre.length, .int .i64 (runesN pre), .int .i64 (unitsN pre), .int .i64 (endsN pre), .string (bs (headOf pre)), .string (bs (tailOf pre))]) (by exact ldN 36 _ rfl q 0 rfl (fun _ => by kernel_rfl) [] [.int .i64 pre.length, .int .i64 (runesN pre), .int .i64 (unitsN pre), .int .i64 (endsN pre), .string (bs (headOf pre)), .string (bs (tailOf pre))] [] (by kernel_rfl) hq rfl rfl) ?_
        simp only [pp]
        refine tx 101 (.agg #[.int .i64 (ub.take md).length, .int .i64 (runesN (ub.take md)), .int .i64 (unitsN (ub.take md)), .int .i64 (endsN (ub.take md)), .string (bs (headOf (ub.take md))), .string (bs (tailOf (ub.take md)))]) (by exact ldN 36 _ rfl p34 0 rfl (fun _ => by kernel_rfl) [] [.int .i64 (ub.take md).length, .int .i64 (runesN (ub.take md)), .int .i64 (unitsN (ub.take md)), .int .i64 (endsN (ub.take md)), .string (bs (headOf (ub.take md))), .string (bs (tailOf (ub.take md)))] [] (by kernel_rfl) hb34 rfl rfl) ?_
        simp only [pp]
        refine rl_call (some 102) 61 #[.agg #[.int .i64 pre.length, .int .i64 (runesN pre), .int .i64 (unitsN pre), .int .i64 (endsN pre), .string (bs (headOf pre)), .string (bs (tailOf pre))], .agg #[.int .i64 (ub.take md).length, .int .i64 (runesN (ub.take md)), .int .i64 (unitsN (ub.take md)), .int .i64 (endsN (ub.take md)), .string (bs (headOf (ub.take md))), .string (bs (tailOf (ub.take md)))]] rfl (by kernel_rfl) (by kernel_rfl) (rboth_any pre (ub.take md) (by rw [List.length_take]; omega) _ hT) ?_
        rintro e w37 ⟨rfl, hL37⟩
        refine ⟨_, rfl, ?_⟩
        have hz37 := hL37.size
        try simp only [pp]
        replace hJJ := hJJ.later hL37
        refine rl_call (some 103) k _ rfl (by kernel_rfl) (by ((apply ex_callv eg) <;> rfl)) (hAsk.at hnm (q := pre ++ ub.take md) (r := ub.drop md ++ rest) (by rw [← hpre, List.append_assoc, ← List.append_assoc (ub.take md), List.take_append_drop, ← List.append_assoc]; rfl) hJJ) ?_
        replace hT := hT.later hL37
        replace hB := hB.later hL37
        replace hlf := hlf.later hL37
        replace hq := hq.later hL37
        replace hb34 := hb34.later hL37
        rintro e w38 (⟨rfl, hp4, hM, hJJ⟩ | ⟨rfl, hp4, hM, hJJ⟩)
        ·refine ⟨_, rfl, ?_⟩
         replace hT := hT.mid hM (by omega)
         replace hB := hB.mid hM (by omega)
         replace hlf := hlf.mid hM (by omega)
         replace hq := hq.mid hM (by omega)
         replace hb34 := hb34.mid hM (by omega)
         have hz38 := (hM).size
         try simp only [pp]
         refine rl_end hgo <| hKK36 _ _ <| wp_cond_true (by kernel_rfl) <| rl_begin fun hgK hgo => tk 104 (.int .i64 fr) <| tk 105 (.int .i64 (md : Int)) ?_
         simp only [pp]
         refine tx 106 (.int .i64 (((fr + md : Nat) : Int))) (by exact ex_arith (e := (fr : Int) + (md : Int)) (r := ((fr + md : Nat) : Int)) (by kernel_rfl) (by omega) (by omega)) <| tk 107 (.int .i64 (md : Int)) <| tk 7 (.int .i64 (((fr + md : Nat) : Int))) <| tk 14 (.int .i64 (md : Int)) ?_
         simp only [pp]
         refine rl_end hgo ?_
         exact ⟨_, (by omega), fun gj => (#[.pointer (some ⟨b, 0, none⟩), .func (.func k) #[] caps, undef, undef, .int .i64 0, .pointer (some ⟨q, 0, none⟩), .int .i64 fr, .int .i64 (((fr + md : Nat) : Int)), .iface 118 (.agg #[.pointer (some ⟨a, 0, none⟩)]), .pointer none, .bool false, u 11, .pointer (some ⟨a, 0, none⟩), .int .i64 lo, .int .i64 (md : Int), .int .i64 (md : Int), .pointer (some ⟨p34, 0, none⟩), .int .i64 0, .func (.func k) #[] caps, .bool false, .agg #[.int .i64 (@List.nil UInt8).length, .int .i64 (runesN (@List.nil UInt8)), .int .i64 (unitsN (@List.nil UInt8)), .int .i64 (endsN (@List.nil UInt8)), .string (bs (headOf (@List.nil UInt8))), .string (bs (tailOf (@List.nil UInt8)))], .func (.func k) #[] caps, .agg #[.int .i64 (@List.nil UInt8).length, .int .i64 (runesN (@List.nil UInt8)), .int .i64 (unitsN (@List.nil UInt8)), .int .i64 (endsN (@List.nil UInt8)), .string (bs (headOf (@List.nil UInt8))), .string (bs (tailOf (@List.nil UInt8)))], .bool false, .pointer (some ⟨b, 0, none⟩), .int .i64 t.bytes.length, .bool false, .bool false, .func (.func k) #[] caps, .pointer (some ⟨b, 0, none⟩), .agg #[.int .i64 (t.bytes).length, .int .i64 (runesN (t.bytes)), .int .i64 (unitsN (t.bytes)), .int .i64 (endsN (t.bytes)), .string (bs (headOf (t.bytes))), .string (bs (tailOf (t.bytes)))], .bool true, .bool false, .bool false, .pointer (some ⟨b, 0, none⟩), .int .i64 t.bytes.length, .pointer (some ⟨b, 0, none⟩), .pointer (some ⟨b, 0, none⟩), .pointer (some ⟨b, 0, none⟩), v, .tuple #[.pointer none, .bool false], .iface 118 (.agg #[.pointer (some ⟨a, 0, none⟩)]), .tuple #[.pointer none, .bool false], .pointer none, .bool false, .bool false, .bool true, u 47, u 48, u 49, u 50, u 51, u 52, u 53, u 54, u 55, u 56, u 57, u 58, u 59, u 60, u 61, u 62, u 63, u 64, u 65, u 66, u 67, u 68, u 69, u 70, u 71, u 72, u 73, u 74, u 75, u 76, u 77, u 78, u 79, .iface 118 (.agg #[.pointer (some ⟨a, 0, none⟩)]), .agg #[.pointer (some ⟨a, 0, none⟩)], .pointer (some ⟨a, 0, none⟩), .int .i64 fd, .int .i64 fr, .int .i64 ((ub.length : Int)), .int .i64 lo, .int .i64 hi, .bool true, .int .i64 lo, .int .i64 hi, .int .i64 (((lo + hi : Nat) : Int)), .int .i64 (md : Int), .tuple #[.agg #[.int .i64 (ub.take md).length, .int .i64 (runesN (ub.take md)), .int .i64 (unitsN (ub.take md)), .int .i64 (endsN (ub.take md)), .string (bs (headOf (ub.take md))), .string (bs (tailOf (ub.take md)))], .int .i64 0], .pointer (some ⟨a, 0, none⟩), .int .i64 (md : Int), .tuple #[.agg #[.int .i64 (ub.take md).length, .int .i64 (runesN (ub.take md)), .int .i64 (unitsN (ub.take md)), .int .i64 (endsN (ub.take md)), .string (bs (headOf (ub.take md))), .string (bs (tailOf (ub.take md)))], .int .i64 0], .agg #[.int .i64 (ub.take md).length, .int .i64 (runesN (ub.take md)), .int .i64 (unitsN (ub.take md)), .int .i64 (endsN (ub.take md)), .string (bs (headOf (ub.take md))), .string (bs (tailOf (ub.take md)))], .int .i64 0, .func (.func k) #[] caps, .agg #[.int .i64 pre.length, .int .i64 (runesN pre), .int .i64 (unitsN pre), .int .i64 (endsN pre), .string (bs (headOf pre)), .string (bs (tailOf pre))], .agg #[.int .i64 (ub.take md).length, .int .i64 (runesN (ub.take md)), .int .i64 (unitsN (ub.take md)), .int .i64 (endsN (ub.take md)), .string (bs (headOf (ub.take md))), .string (bs (tailOf (ub.take md)))], .agg #[.int .i64 (pre ++ ub.take md).length, .int .i64 (runesN (pre ++ ub.take md)), .int .i64 (unitsN (pre ++ ub.take md)), .int .i64 (endsN (pre ++ ub.take md)), .string (bs (headOf (pre ++ ub.take md))), .string (bs (tailOf (pre ++ ub.take md)))], .bool true, .int .i64 fr, .int .i64 (md : Int), .int .i64 (((fr + md : Nat) : Int)), .int .i64 (md : Int), u 108, u 109, undef]).getD gj undef, lo, md, fr + md, rfl, rfl, by assumption, by assumption, by assumption, by assumption, by assumption, (by omega), (by omega), hp4, hpf2⟩
        ·refine ⟨_, rfl, ?_⟩
         replace hT := hT.mid hM (by omega)
         replace hB := hB.mid hM (by omega)
         replace hlf := hlf.mid hM (by omega)
         replace hq := hq.mid hM (by omega)
         replace hb34 := hb34.mid hM (by omega)
         have hz38 := (hM).size
         try simp only [pp]
         refine rl_end hgo <| hKK36 _ _ <| wp_cond_false (by kernel_rfl) <| rl_begin fun hgK hgo => tk 108 (.int .i64 (md : Int)) ?_
         simp only [pp]
         refine tx 109 (.int .i64 (((md + 1 : Nat) : Int))) (by exact ex_arith (e := ((md : Int) : Int) + 1) (r := ((md + 1 : Nat) : Int)) (by kernel_rfl) (by omega) (by omega)) <| tk 13 (.int .i64 (((md + 1 : Nat) : Int))) ?_
         simp only [pp]
         refine rl_end hgo ?_
         exact ⟨_, (by omega), fun gj => (#[.pointer (some ⟨b, 0, none⟩), .func (.func k) #[] caps, undef, undef, .int .i64 0, .pointer (some ⟨q, 0, none⟩), .int .i64 fr, .int .i64 fd2, .iface 118 (.agg #[.pointer (some ⟨a, 0, none⟩)]), .pointer none, .bool false, u 11, .pointer (some ⟨a, 0, none⟩), .int .i64 (((md + 1 : Nat) : Int)), .int .i64 hi, .int .i64 (md : Int), .pointer (some ⟨p34, 0, none⟩), .int .i64 0, .func (.func k) #[] caps, .bool false, .agg #[.int .i64 (@List.nil UInt8).length, .int .i64 (runesN (@List.nil UInt8)), .int .i64 (unitsN (@List.nil UInt8)), .int .i64 (endsN (@List.nil UInt8)), .string (bs (headOf (@List.nil UInt8))), .string (bs (tailOf (@List.nil UInt8)))], .func (.func k) #[] caps, .agg #[.int .i64 (@List.nil UInt8).length, .int .i64 (runesN (@List.nil UInt8)), .int .i64 (unitsN (@List.nil UInt8)), .int .i64 (endsN (@List.nil UInt8)), .string (bs (headOf (@List.nil UInt8))), .string (bs (tailOf (@List.nil UInt8)))], .bool false, .pointer (some ⟨b, 0, none⟩), .int .i64 t.bytes.length, .bool false, .bool false, .func (.func k) #[] caps, .pointer (some ⟨b, 0, none⟩), .agg #[.int .i64 (t.bytes).length, .int .i64 (runesN (t.bytes)), .int .i64 (unitsN (t.bytes)), .int .i64 (endsN (t.bytes)), .string (bs (headOf (t.bytes))), .string (bs (tailOf (t.bytes)))], .bool true, .bool false, .bool false, .pointer (some ⟨b, 0, none⟩), .int .i64 t.bytes.length, .pointer (some ⟨b, 0, none⟩), .pointer (some ⟨b, 0, none⟩), .pointer (some ⟨b, 0, none⟩), v, .tuple #[.pointer none, .bool false], .iface 118 (.agg #[.pointer (some ⟨a, 0, none⟩)]), .tuple #[.pointer none, .bool false], .pointer none, .bool false, .bool false, .bool true, u 47, u 48, u 49, u 50, u 51, u 52, u 53, u 54, u 55, u 56, u 57, u 58, u 59, u 60, u 61, u 62, u 63, u 64, u 65, u 66, u 67, u 68, u 69, u 70, u 71, u 72, u 73, u 74, u 75, u 76, u 77, u 78, u 79, .iface 118 (.agg #[.pointer (some ⟨a, 0, none⟩)]), .agg #[.pointer (some ⟨a, 0, none⟩)], .pointer (some ⟨a, 0, none⟩), .int .i64 fd, .int .i64 fr, .int .i64 ((ub.length : Int)), .int .i64 lo, .int .i64 hi, .bool true, .int .i64 lo, .int .i64 hi, .int .i64 (((lo + hi : Nat) : Int)), .int .i64 (md : Int), .tuple #[.agg #[.int .i64 (ub.take md).length, .int .i64 (runesN (ub.take md)), .int .i64 (unitsN (ub.take md)), .int .i64 (endsN (ub.take md)), .string (bs (headOf (ub.take md))), .string (bs (tailOf (ub.take md)))], .int .i64 0], .pointer (some ⟨a, 0, none⟩), .int .i64 (md : Int), .tuple #[.agg #[.int .i64 (ub.take md).length, .int .i64 (runesN (ub.take md)), .int .i64 (unitsN (ub.take md)), .int .i64 (endsN (ub.take md)), .string (bs (headOf (ub.take md))), .string (bs (tailOf (ub.take md)))], .int .i64 0], .agg #[.int .i64 (ub.take md).length, .int .i64 (runesN (ub.take md)), .int .i64 (unitsN (ub.take md)), .int .i64 (endsN (ub.take md)), .string (bs (headOf (ub.take md))), .string (bs (tailOf (ub.take md)))], .int .i64 0, .func (.func k) #[] caps, .agg #[.int .i64 pre.length, .int .i64 (runesN pre), .int .i64 (unitsN pre), .int .i64 (endsN pre), .string (bs (headOf pre)), .string (bs (tailOf pre))], .agg #[.int .i64 (ub.take md).length, .int .i64 (runesN (ub.take md)), .int .i64 (unitsN (ub.take md)), .int .i64 (endsN (ub.take md)), .string (bs (headOf (ub.take md))), .string (bs (tailOf (ub.take md)))], .agg #[.int .i64 (pre ++ ub.take md).length, .int .i64 (runesN (pre ++ ub.take md)), .int .i64 (unitsN (pre ++ ub.take md)), .int .i64 (endsN (pre ++ ub.take md)), .string (bs (headOf (pre ++ ub.take md))), .string (bs (tailOf (pre ++ ub.take md)))], .bool false, u 104, u 105, u 106, u 107, .int .i64 (md : Int), .int .i64 (((md + 1 : Nat) : Int)), undef]).getD gj undef, md + 1, hi, fd2, rfl, rfl, by assumption, by assumption, by assumption, by assumption, by assumption, (by omega), by assumption, hpt2, (by rw [Nat.add_sub_cancel]; exact hp4)⟩
       ·refine tx 88 (.bool false) (by exact ebf (c := (lo : Int) < hi) (by omega)) ?_
        simp only [pp]
        refine rl_end hgo <| hKK30 _ _ <| wp_cond_false (by kernel_rfl) <| wp_exit <| hKK26 _ _ <| wp_seq_k fun KK39 hKK39 => rl_begin fun hgK hgo => tk 110 (.int .i64 fd2) <| tk 4 (.int .i64 fd2) ?_
        simp only [pp]
        refine rl_end hgo <| hKK39 _ _ ?_
        refine wp_ret ?_
        try simp only [Exit.then, Exit.inBlock]
        refine bp_ret (v := .int .i64 fd2) (res1 rfl (res_tmp (by kernel_rfl))) ?_
        exact ⟨first_end p pre ub rest t.bytes lo hi fd2 hpre (by omega) (by omega) (by omega) hfd2 hpt2 hpf2, hB.2, hJJ.2.2⟩
      ·skip
       clear hs
       (have hl := Tr.len_fork x y); (obtain ⟨fs, xs, es, cs⟩ := inv_sizeN hx); (obtain ⟨fw, xw, ew, cw⟩ := inv_weldN hx); (have hL0 := Bel.refl n w21 hx.1); (have hul := congrArg List.length hpre); (simp only [List.length_append, hl] at hul hfd)
       have hlt_hfk := hfk.lt
       refine rl_begin fun hgK hgo => tk 41 (.iface 111 (.pointer (some ⟨a, 0, none⟩))) <| tk 42 (.tuple #[.pointer (some ⟨a, 0, none⟩), .bool true]) <| tk 40 (.tuple #[.pointer (some ⟨a, 0, none⟩), .bool true]) <| tk 43 (.pointer (some ⟨a, 0, none⟩)) <| tk 44 (.bool true) <| tk 9 (.pointer (some ⟨a, 0, none⟩)) <| tk 10 (.bool true) ?_
       simp only [pp]
       refine rl_end hgo <| hKK22 _ _ <| wp_seq_k fun KK40 hKK40 => wp_seq_k fun KK41 hKK41 => rl_begin fun hgK hgo => tk 45 (.bool true) <| tk 46 (.bool false) ?_
       simp only [pp]
       refine rl_end hgo <| hKK41 _ _ <| wp_cond_false (by kernel_rfl) <| wp_skip <| hKK40 _ _ <| wp_seq_k fun KK42 hKK42 => ?_
       refine rm_begin (fun W => Ltr w21 W) (by kernel_rfl) (by exact bl_drew (bl_refl _)) fun K43 hgo w43 hE hS43 => ?_
       have hv43 : Ltr w21 w43 := by rw [hE]; exact bl_drew (bl_refl _)
       have hz43 := hv43.size
       clear hE hS43
       refine mx 0 47 (.agg #[.int .i64 pre.length, .int .i64 (runesN pre), .int .i64 (unitsN pre), .int .i64 (endsN pre), .string (bs (headOf pre)), .string (bs (tailOf pre))]) rfl (fun W hW => by (exact ldN 36 _ rfl q 0 rfl (fun _ => by kernel_rfl) [] [.int .i64 pre.length, .int .i64 (runesN pre), .int .i64 (unitsN pre), .int .i64 (endsN pre), .string (bs (headOf pre)), .string (bs (tailOf pre))] [] (by kernel_rfl) (hq.later hW) rfl rfl)) <| mk 1 48 (.pointer (some ⟨a, 0, none⟩)) <| mk 2 49 (.pointer (some ⟨a, 0, none⟩)) <| mk 3 50 (.pointer (some ⟨a, 0, none⟩)) ?_
       try simp only [pp]
       refine mx 4 51 vx rfl (fun W hW => by (exact ld 108 a 0 ((hfk.later hW).cell 0))) ?_
       try simp only [pp]
       refine rm_call 5 (some 52) (.agg #[.int .i64 (x.bytes).length, .int .i64 (runesN (x.bytes)), .int .i64 (unitsN (x.bytes)), .int .i64 (endsN (x.bytes)), .string (bs (headOf (x.bytes))), .string (bs (tailOf (x.bytes)))]) fw #[xw] rfl rfl (by kernel_rfl) (by kernel_rfl) (by kernel_rfl) (by kernel_rfl) (fun W hW => by exact ew _ _ _ _ rfl rfl) (fun W hW => cw _ (hL0.later hW)) (fun _ _ h k => Ltr.trans h k) ?_
       try simp only [pp]
       refine rm_call 6 (some 53) (.agg #[.int .i64 (pre ++ x.bytes).length, .int .i64 (runesN (pre ++ x.bytes)), .int .i64 (unitsN (pre ++ x.bytes)), .int .i64 (endsN (pre ++ x.bytes)), .string (bs (headOf (pre ++ x.bytes))), .string (bs (tailOf (pre ++ x.bytes)))]) 61 #[.agg #[.int .i64 pre.length, .int .i64 (runesN pre), .int .i64 (unitsN pre), .int .i64 (endsN pre), .string (bs (headOf pre)), .string (bs (tailOf pre))], .agg #[.int .i64 (x.bytes).length, .int .i64 (runesN (x.bytes)), .int .i64 (unitsN (x.bytes)), .int .i64 (endsN (x.bytes)), .string (bs (headOf (x.bytes))), .string (bs (tailOf (x.bytes)))]] rfl rfl (by kernel_rfl) (by kernel_rfl) (by kernel_rfl) (by kernel_rfl) (fun W hW => by kernel_rfl) (fun W hW => rboth_any pre x.bytes (by omega) _ (hT.later hW)) (fun _ _ h k => Ltr.trans h k) ?_
       try simp only [pp]
       refine rm_pick1 (i := 7) (by kernel_rfl) ?_
       refine rm_alloc (some 11) 36 #[.int .i64 0, .int .i64 0, .int .i64 0, .int .i64 0, .string ⟨#[]⟩, .string ⟨#[]⟩] rfl rfl (by kernel_rfl) (fun W => by kernel_rfl) (fun _ _ h k => Ltr.trans h k) fun mb w44 hL44 hp44 hmb hS44 => ?_
       have hz44 := hL44.size
       have hlt44 := hmb.lt
       try simp only [pp]
       refine rm_pick1 (i := 8) (by kernel_rfl) ?_
       refine rm_store mb #[.int .i64 (pre ++ x.bytes).length, .int .i64 (runesN (pre ++ x.bytes)), .int .i64 (unitsN (pre ++ x.bytes)), .int .i64 (endsN (pre ++ x.bytes)), .string (bs (headOf (pre ++ x.bytes))), .string (bs (tailOf (pre ++ x.bytes)))] rfl rfl rfl (by kernel_rfl) rfl rfl (by kernel_rfl) (fun W hlz hW => hmb.later hlz) rfl (fun _ _ hX hU => Ltr.upd hX hU (by omega)) (by kernel_rfl) fun q45 w45 hq45 hQ45 hU45 hn45 hS45 => ?_
       have hz45 := hU45.size
       have hy45 := hq45.size
       clear hmb
       have hmb := hn45
       clear hn45
       try simp only [pp]
       refine rm_done (by kernel_rfl) (fun w46 hL46 hS46 => hgo.out _ _ ?_) _
       clear hgo K43
       have hz46 := (show Ltr w21 _ from hS46).size
       have hy46 := hL46.size
       refine hKK42 _ _ <| wp_seq_k fun KK47 hKK47 => wp_seq_k fun KK48 hKK48 => rl_begin fun hgK hgo => tk 54 (.func (.func k) #[] caps) ?_
       simp only [pp]
       replace hmb := hmb.later hL46
       refine tx 55 (.agg #[.int .i64 (pre ++ x.bytes).length, .int .i64 (runesN (pre ++ x.bytes)), .int .i64 (unitsN (pre ++ x.bytes)), .int .i64 (endsN (pre ++ x.bytes)), .string (bs (headOf (pre ++ x.bytes))), .string (bs (tailOf (pre ++ x.bytes)))]) (by exact ldN 36 _ rfl mb 0 rfl (fun _ => by kernel_rfl) [] [.int .i64 (pre ++ x.bytes).length, .int .i64 (runesN (pre ++ x.bytes)), .int .i64 (unitsN (pre ++ x.bytes)), .int .i64 (endsN (pre ++ x.bytes)), .string (bs (headOf (pre ++ x.bytes))), .string (bs (tailOf (pre ++ x.bytes)))] [] (by kernel_rfl) hmb rfl rfl) ?_
       simp only [pp]
       replace hJJ := hJJ.later (show Ltr w21 _ from hS46)
       refine rl_call (some 56) k _ rfl (by kernel_rfl) (by ((apply ex_callv eg) <;> rfl)) (hAsk.at hnm (q := pre ++ x.bytes) (r := y.bytes ++ rest) (by rw [← hpre, Tr.b_fork]; simp only [List.append_assoc]) hJJ) ?_
       replace hT := hT.later (show Ltr w21 _ from hS46)
       replace hB := hB.later (show Ltr w21 _ from hS46)
       replace hq := hq.later (show Ltr w21 _ from hS46)
       replace hx := hx.later (show Ltr w21 _ from hS46)
       replace hy := hy.later (show Ltr w21 _ from hS46)
       replace hL0 := hL0.later (show Ltr w21 _ from hS46)
       replace hfk := hfk.later (show Ltr w21 _ from hS46)
       rintro e w49 (⟨rfl, hp3, hM, hJJ⟩ | ⟨rfl, hp3, hM, hJJ⟩)
       ·refine ⟨_, rfl, ?_⟩
        replace hT := hT.mid hM (by omega)
        replace hB := hB.mid hM (by omega)
        replace hq := hq.mid hM (by omega)
        replace hx := hx.mid hM (by omega)
        replace hy := hy.mid hM (by omega)
        replace hL0 := hL0.mid hM (by omega)
        replace hfk := hfk.mid hM (by omega)
        replace hmb := hmb.mid hM (by omega)
        have hz49 := (hM).size
        try simp only [pp]
        refine rl_end hgo <| hKK48 _ _ <| wp_cond_true (by kernel_rfl) <| wp_seq_k fun KK50 hKK50 => rl_begin fun hgK hgo => tk 57 (.int .i64 fr) <| tk 58 (.pointer (some ⟨a, 0, none⟩)) <| tk 59 (.pointer (some ⟨a, 0, none⟩)) <| tk 60 (.pointer (some ⟨a, 0, none⟩)) ?_
        simp only [pp]
        refine tx 61 vx (by exact ld 108 a 0 (hfk.cell 0)) ?_
        simp only [pp]
        refine rl_call (some 62) fs #[xs] rfl (by kernel_rfl) (by exact es _ _ _ _ rfl rfl) (cs _ hL0) ?_
        rintro e w51 ⟨rfl, hL51⟩
        refine ⟨_, rfl, ?_⟩
        have hz51 := hL51.size
        try simp only [pp]
        refine tx 63 (.int .i64 (((fr + x.bytes.length : Nat) : Int))) (by exact ex_arith (e := (fr : Int) + x.bytes.length) (r := ((fr + x.bytes.length : Nat) : Int)) (by kernel_rfl) (by omega) (by omega)) <| tk 7 (.int .i64 (((fr + x.bytes.length : Nat) : Int))) ?_
        simp only [pp]
        refine rl_end hgo <| hKK50 _ _ <| wp_seq_k fun KK52 hKK52 => rl_begin fun hgK hgo => tk 64 (.pointer (some ⟨a, 0, none⟩)) <| tk 65 (.pointer (some ⟨a, 0, none⟩)) <| tk 66 (.pointer (some ⟨a, 0, none⟩)) ?_
        simp only [pp]
        replace hfk := hfk.later hL51
        refine tx 67 vx (by exact ld 108 a 0 (hfk.cell 0)) <| tk 8 vx ?_
        simp only [pp]
        refine rl_end hgo <| hKK52 _ _ <| wp_exit ?_
        replace hT := hT.later hL51
        replace hB := hB.later hL51
        replace hq := hq.later hL51
        replace hx := hx.later hL51
        replace hy := hy.later hL51
        replace hL0 := hL0.later hL51
        replace hmb := hmb.later hL51
        replace hJJ := hJJ.later hL51
        exact ⟨_, (by simp only [Tr.h]; omega), fun gj => (#[.pointer (some ⟨b, 0, none⟩), .func (.func k) #[] caps, undef, undef, .int .i64 0, .pointer (some ⟨q, 0, none⟩), .int .i64 fr, .int .i64 (((fr + x.bytes.length : Nat) : Int)), vx, .pointer (some ⟨a, 0, none⟩), .bool true, .pointer (some ⟨mb, 0, none⟩), undef, undef, undef, undef, undef, undef, .func (.func k) #[] caps, .bool false, .agg #[.int .i64 (@List.nil UInt8).length, .int .i64 (runesN (@List.nil UInt8)), .int .i64 (unitsN (@List.nil UInt8)), .int .i64 (endsN (@List.nil UInt8)), .string (bs (headOf (@List.nil UInt8))), .string (bs (tailOf (@List.nil UInt8)))], .func (.func k) #[] caps, .agg #[.int .i64 (@List.nil UInt8).length, .int .i64 (runesN (@List.nil UInt8)), .int .i64 (unitsN (@List.nil UInt8)), .int .i64 (endsN (@List.nil UInt8)), .string (bs (headOf (@List.nil UInt8))), .string (bs (tailOf (@List.nil UInt8)))], .bool false, .pointer (some ⟨b, 0, none⟩), .int .i64 t.bytes.length, .bool false, .bool false, .func (.func k) #[] caps, .pointer (some ⟨b, 0, none⟩), .agg #[.int .i64 (t.bytes).length, .int .i64 (runesN (t.bytes)), .int .i64 (unitsN (t.bytes)), .int .i64 (endsN (t.bytes)), .string (bs (headOf (t.bytes))), .string (bs (tailOf (t.bytes)))], .bool true, .bool false, .bool false, .pointer (some ⟨b, 0, none⟩), .int .i64 t.bytes.length, .pointer (some ⟨b, 0, none⟩), .pointer (some ⟨b, 0, none⟩), .pointer (some ⟨b, 0, none⟩), v, .tuple #[.pointer (some ⟨a, 0, none⟩), .bool true], .iface 111 (.pointer (some ⟨a, 0, none⟩)), .tuple #[.pointer (some ⟨a, 0, none⟩), .bool true], .pointer (some ⟨a, 0, none⟩), .bool true, .bool true, .bool false, .agg #[.int .i64 pre.length, .int .i64 (runesN pre), .int .i64 (unitsN pre), .int .i64 (endsN pre), .string (bs (headOf pre)), .string (bs (tailOf pre))], .pointer (some ⟨a, 0, none⟩), .pointer (some ⟨a, 0, none⟩), .pointer (some ⟨a, 0, none⟩), vx, .agg #[.int .i64 (x.bytes).length, .int .i64 (runesN (x.bytes)), .int .i64 (unitsN (x.bytes)), .int .i64 (endsN (x.bytes)), .string (bs (headOf (x.bytes))), .string (bs (tailOf (x.bytes)))], .agg #[.int .i64 (pre ++ x.bytes).length, .int .i64 (runesN (pre ++ x.bytes)), .int .i64 (unitsN (pre ++ x.bytes)), .int .i64 (endsN (pre ++ x.bytes)), .string (bs (headOf (pre ++ x.bytes))), .string (bs (tailOf (pre ++ x.bytes)))], .func (.func k) #[] caps, .agg #[.int .i64 (pre ++ x.bytes).length, .int .i64 (runesN (pre ++ x.bytes)), .int .i64 (unitsN (pre ++ x.bytes)), .int .i64 (endsN (pre ++ x.bytes)), .string (bs (headOf (pre ++ x.bytes))), .string (bs (tailOf (pre ++ x.bytes)))], .bool true, .int .i64 fr, .pointer (some ⟨a, 0, none⟩), .pointer (some ⟨a, 0, none⟩), .pointer (some ⟨a, 0, none⟩), vx, .int .i64 x.bytes.length, .int .i64 (((fr + x.bytes.length : Nat) : Int)), .pointer (some ⟨a, 0, none⟩), .pointer (some ⟨a, 0, none⟩), .pointer (some ⟨a, 0, none⟩), vx, u 68, u 69, u 70, u 71, u 72, u 73, u 74, u 75, u 76, u 77, u 78, u 79, undef, undef, undef, undef, undef, undef, undef, undef, undef, undef, undef, undef, undef, undef, undef, undef, undef, undef, undef, undef, undef, undef, undef, undef, undef, undef, undef, undef, undef, undef, undef]).getD gj undef, x, vx, pre, y.bytes ++ rest, fr, fr + x.bytes.length, rfl, rfl, by assumption, by assumption, by assumption, by assumption, by assumption, os.1, (by rw [← hpre, Tr.b_fork]; simp only [List.append_assoc]), hp3, hpf, by assumption, by assumption, (by omega)⟩
       ·refine ⟨_, rfl, ?_⟩
        replace hT := hT.mid hM (by omega)
        replace hB := hB.mid hM (by omega)
        replace hq := hq.mid hM (by omega)
        replace hx := hx.mid hM (by omega)
        replace hy := hy.mid hM (by omega)
        replace hL0 := hL0.mid hM (by omega)
        replace hfk := hfk.mid hM (by omega)
        replace hmb := hmb.mid hM (by omega)
        have hz49 := (hM).size
        try simp only [pp]
        refine rl_end hgo <| hKK48 _ _ <| wp_cond_false (by kernel_rfl) <| wp_skip <| hKK47 _ _ <| wp_seq_k fun KK53 hKK53 => rl_begin fun hgK hgo => tk 68 (.int .i64 fr) <| tk 69 (.pointer (some ⟨a, 0, none⟩)) <| tk 70 (.pointer (some ⟨a, 0, none⟩)) <| tk 71 (.pointer (some ⟨a, 0, none⟩)) ?_
        simp only [pp]
        refine tx 72 vx (by exact ld 108 a 0 (hfk.cell 0)) ?_
        simp only [pp]
        refine rl_call (some 73) fs #[xs] rfl (by kernel_rfl) (by exact es _ _ _ _ rfl rfl) (cs _ hL0) ?_
        rintro e w54 ⟨rfl, hL54⟩
        refine ⟨_, rfl, ?_⟩
        have hz54 := hL54.size
        try simp only [pp]
        refine tx 74 (.int .i64 (((fr + x.bytes.length : Nat) : Int))) (by exact ex_arith (e := (fr : Int) + x.bytes.length) (r := ((fr + x.bytes.length : Nat) : Int)) (by kernel_rfl) (by omega) (by omega)) <| tk 6 (.int .i64 (((fr + x.bytes.length : Nat) : Int))) ?_
        simp only [pp]
        refine rl_end hgo <| hKK53 _ _ ?_
        have hNz55 : w.heap.size ≤ (w54).heap.size := by omega
        replace hmb := hmb.later hL54
        refine rm_begin (fun W => Below w.heap.size w54 W ∧ Blk W mb 36 #[.int .i64 (pre ++ x.bytes).length, .int .i64 (runesN (pre ++ x.bytes)), .int .i64 (unitsN (pre ++ x.bytes)), .int .i64 (endsN (pre ++ x.bytes)), .string (bs (headOf (pre ++ x.bytes))), .string (bs (tailOf (pre ++ x.bytes)))]) (by kernel_rfl) (by exact ⟨Below.drew (Below.refl _ _), Blk.drew hmb⟩) fun K55 hgo w55 hE hS55 => ?_
        have hv55 : Ltr w54 w55 := by rw [hE]; exact bl_drew (bl_refl _)
        have hz55 := hv55.size
        clear hE hS55
        refine mx 0 75 (.agg #[.int .i64 (pre ++ x.bytes).length, .int .i64 (runesN (pre ++ x.bytes)), .int .i64 (unitsN (pre ++ x.bytes)), .int .i64 (endsN (pre ++ x.bytes)), .string (bs (headOf (pre ++ x.bytes))), .string (bs (tailOf (pre ++ x.bytes)))]) rfl (fun W hW => by (exact ldN 36 _ rfl mb 0 rfl (fun _ => by kernel_rfl) [] [.int .i64 (pre ++ x.bytes).length, .int .i64 (runesN (pre ++ x.bytes)), .int .i64 (unitsN (pre ++ x.bytes)), .int .i64 (endsN (pre ++ x.bytes)), .string (bs (headOf (pre ++ x.bytes))), .string (bs (tailOf (pre ++ x.bytes)))] [] (by kernel_rfl) (hW.2) rfl rfl)) <| mk 1 76 (.pointer (some ⟨a, 0, none⟩)) <| mk 2 77 (.pointer (some ⟨a, 0, none⟩)) <| mk 3 78 (.pointer (some ⟨a, 1, none⟩)) ?_
        try simp only [pp]
        replace hfk := hfk.later hL54
        refine mx 4 79 vy rfl (fun W hW => by (exact ld 108 a 1 ((hfk.bel hW.1 (by omega)).cell 1))) ?_
        try simp only [pp]
        refine rm_pick1 (i := 5) (by kernel_rfl) ?_
        replace hq := hq.later hL54
        have hq_ := hq.later hv55
        clear hq
        have hq := hq_
        clear hq_
        refine rm_store q #[.int .i64 (pre ++ x.bytes).length, .int .i64 (runesN (pre ++ x.bytes)), .int .i64 (unitsN (pre ++ x.bytes)), .int .i64 (endsN (pre ++ x.bytes)), .string (bs (headOf (pre ++ x.bytes))), .string (bs (tailOf (pre ++ x.bytes)))] rfl rfl rfl (by kernel_rfl) rfl rfl (by kernel_rfl) (fun W hlz hW => hq.later hlz) rfl (fun _ _ hX hU => ⟨hU.below hX.1 (by omega), (hX.2).upd hU (by omega)⟩) (by kernel_rfl) fun q56 w56 hq56 hQ56 hU56 hn56 hS56 => ?_
        have hz56 := hU56.size
        have hy56 := hq56.size
        clear hq
        have hq := hn56
        clear hn56
        try simp only [pp]
        refine mk 6 8 vy ?_
        try simp only [pp]
        refine rm_done (by kernel_rfl) (fun w57 hL57 hS57 => hgo.out _ _ ?_) _
        clear hgo K55
        replace hT := hT.later hL54
        replace hT := hT.bel (hS57.1) (by omega)
        replace hB := hB.later hL54
        replace hB := hB.bel (hS57.1) (by omega)
        replace hx := hx.later hL54
        replace hx := hx.bel (hS57.1) (by omega)
        replace hy := hy.later hL54
        replace hy := hy.bel (hS57.1) (by omega)
        replace hL0 := hL0.later hL54
        replace hL0 := hL0.bel (hS57.1) (by omega)
        replace hfk := hfk.bel (hS57.1) (by omega)
        replace hmb := hS57.2
        replace hJJ := hJJ.later hL54
        replace hJJ := hJJ.bel (hS57.1) (by omega)
        have hz57 := (hS57.1).size
        have hy57 := hL57.size
        replace hq := hq.later hL57
        exact ⟨_, (by simp only [Tr.h]; omega), fun gj => (#[.pointer (some ⟨b, 0, none⟩), .func (.func k) #[] caps, undef, undef, .int .i64 0, .pointer (some ⟨q, 0, none⟩), .int .i64 (((fr + x.bytes.length : Nat) : Int)), .int .i64 fd, vy, .pointer (some ⟨a, 0, none⟩), .bool true, .pointer (some ⟨mb, 0, none⟩), undef, undef, undef, undef, undef, undef, .func (.func k) #[] caps, .bool false, .agg #[.int .i64 (@List.nil UInt8).length, .int .i64 (runesN (@List.nil UInt8)), .int .i64 (unitsN (@List.nil UInt8)), .int .i64 (endsN (@List.nil UInt8)), .string (bs (headOf (@List.nil UInt8))), .string (bs (tailOf (@List.nil UInt8)))], .func (.func k) #[] caps, .agg #[.int .i64 (@List.nil UInt8).length, .int .i64 (runesN (@List.nil UInt8)), .int .i64 (unitsN (@List.nil UInt8)), .int .i64 (endsN (@List.nil UInt8)), .string (bs (headOf (@List.nil UInt8))), .string (bs (tailOf (@List.nil UInt8)))], .bool false, .pointer (some ⟨b, 0, none⟩), .int .i64 t.bytes.length, .bool false, .bool false, .func (.func k) #[] caps, .pointer (some ⟨b, 0, none⟩), .agg #[.int .i64 (t.bytes).length, .int .i64 (runesN (t.bytes)), .int .i64 (unitsN (t.bytes)), .int .i64 (endsN (t.bytes)), .string (bs (headOf (t.bytes))), .string (bs (tailOf (t.bytes)))], .bool true, .bool false, .bool false, .pointer (some ⟨b, 0, none⟩), .int .i64 t.bytes.length, .pointer (some ⟨b, 0, none⟩), .pointer (some ⟨b, 0, none⟩), .pointer (some ⟨b, 0, none⟩), v, .tuple #[.pointer (some ⟨a, 0, none⟩), .bool true], .iface 111 (.pointer (some ⟨a, 0, none⟩)), .tuple #[.pointer (some ⟨a, 0, none⟩), .bool true], .pointer (some ⟨a, 0, none⟩), .bool true, .bool true, .bool false, .agg #[.int .i64 pre.length, .int .i64 (runesN pre), .int .i64 (unitsN pre), .int .i64 (endsN pre), .string (bs (headOf pre)), .string (bs (tailOf pre))], .pointer (some ⟨a, 0, none⟩), .pointer (some ⟨a, 0, none⟩), .pointer (some ⟨a, 0, none⟩), vx, .agg #[.int .i64 (x.bytes).length, .int .i64 (runesN (x.bytes)), .int .i64 (unitsN (x.bytes)), .int .i64 (endsN (x.bytes)), .string (bs (headOf (x.bytes))), .string (bs (tailOf (x.bytes)))], .agg #[.int .i64 (pre ++ x.bytes).length, .int .i64 (runesN (pre ++ x.bytes)), .int .i64 (unitsN (pre ++ x.bytes)), .int .i64 (endsN (pre ++ x.bytes)), .string (bs (headOf (pre ++ x.bytes))), .string (bs (tailOf (pre ++ x.bytes)))], .func (.func k) #[] caps, .agg #[.int .i64 (pre ++ x.bytes).length, .int .i64 (runesN (pre ++ x.bytes)), .int .i64 (unitsN (pre ++ x.bytes)), .int .i64 (endsN (pre ++ x.bytes)), .string (bs (headOf (pre ++ x.bytes))), .string (bs (tailOf (pre ++ x.bytes)))], .bool false, u 57, u 58, u 59, u 60, u 61, u 62, u 63, u 64, u 65, u 66, u 67, .int .i64 fr, .pointer (some ⟨a, 0, none⟩), .pointer (some ⟨a, 0, none⟩), .pointer (some ⟨a, 0, none⟩), vx, .int .i64 x.bytes.length, .int .i64 (((fr + x.bytes.length : Nat) : Int)), .agg #[.int .i64 (pre ++ x.bytes).length, .int .i64 (runesN (pre ++ x.bytes)), .int .i64 (unitsN (pre ++ x.bytes)), .int .i64 (endsN (pre ++ x.bytes)), .string (bs (headOf (pre ++ x.bytes))), .string (bs (tailOf (pre ++ x.bytes)))], .pointer (some ⟨a, 0, none⟩), .pointer (some ⟨a, 0, none⟩), .pointer (some ⟨a, 1, none⟩), vy, undef, undef, undef, undef, undef, undef, undef, undef, undef, undef, undef, undef, undef, undef, undef, undef, undef, undef, undef, undef, undef, undef, undef, undef, undef, undef, undef, undef, undef, undef, undef]).getD gj undef, y, vy, pre ++ x.bytes, rest, fr + x.bytes.length, fd, rfl, rfl, by assumption, by assumption, by assumption, by assumption, by assumption, os.2.1, (by rw [← hpre, Tr.b_fork]; simp only [List.append_assoc]), (by rw [← hpt, Tr.b_fork, List.append_assoc]), hp3, by assumption, (by rw [List.length_append]; omega), (by rw [List.length_append]; omega)⟩
     ·refine ⟨_, rfl, ?_⟩
      replace hT := hT.mid hM (by omega)
      replace hB := hB.mid hM (by omega)
      replace hr0 := hr0.mid hM (by omega)
      replace ht := ht.mid hM (by omega)
      replace hb := hb.mid hM (by omega)
      replace hq := hq.mid hM (by omega)
      have hz16 := (hM).size
      try simp only [pp]
      refine tk 32 (.bool true) <| tk 33 (.bool true) ?_
      simp only [pp]
      refine rl_end hgo <| hKK13 _ _ <| wp_cond_true (by kernel_rfl) <| wp_seq_k fun KK58 hKK58 => rl_begin fun hgK hgo => tk 4 (.int .i64 (-1)) ?_
      simp only [pp]
      refine rl_end hgo <| hKK58 _ _ ?_
      refine wp_ret ?_
      try simp only [Exit.then, Exit.inBlock]
      refine bp_ret (v := .int .i64 (-1)) (res1 rfl (res_tmp (by kernel_rfl))) ?_
      exact ⟨.inl ⟨rfl, hp0, .inr hp1⟩, hB.2, hJJ.2.2⟩
end Go.Proofs.YtliphfgiaioebaaDoor
