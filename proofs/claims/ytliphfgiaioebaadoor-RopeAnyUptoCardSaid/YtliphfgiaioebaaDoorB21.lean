/-
  Law 9: RopeAny's function.
  The four laid variables: what the rows' list says of their cells.
  Law 9: an input's acts and bytes, opened; read again behind the call; a world that the cards start from.
  RopeAny, where what it reads is of bulk at most 1048576: whatever the acts and the numbers, it answers true, and its input reads as it did.
-/
import Derived.Test.YtliphfgiaioebaaDoorB20
import Derived.Test.YtliphfgiaioebaaDoorCards
import Derived.Test.YtliphfgiaioebaaDoorTie
import Derived.Lib.LaidTab
import Derived.Deep.Strs
import Derived.OpenShut
import Derived.ProofKit
import Derived.Deep.DeepHandedRow
import Derived.Deep.Slices
import Derived.Deep.Fields
import Derived.ChangeSame
namespace Go.Proofs.YtliphfgiaioebaaDoor
set_option linter.unusedVariables false
set_option linter.unusedSimpArgs false
open Go.RowKit
set_option maxRecDepth 100000
set_option maxHeartbeats 16000000
theorem RopeN.mono {n m : Nat} {w : World} {b : Nat} {l : List UInt8} {v : Value} {ot : Option Tr} (h : RopeN n w b l v ot) (hm : n ≤ m) (hs : m ≤ w.heap.size) : RopeN m w b l v ot := by
  obtain ⟨h1, h2, h3, h4⟩ := h
  refine ⟨hs, by omega, h3, ?_⟩
  cases ot with
  | none => exact h4
  | some t => exact ⟨h4.1, h4.2.1, hs, h4.2.2.2.below hm (Below.refl _ _)⟩
theorem Ltr.mid {a w w' : World} {n m : Nat} (h : Ltr a w) (hm : Mid n m w w') (hk : a.heap.size ≤ n ∧ n ≤ w.heap.size) : Ltr a w' := h.bel (hm.below hk.2) hk.1
theorem firstNone (b : Nat) (w : World) : Calls Tryd.prog 21 #[.pointer (some ⟨b, 0, none⟩), .nilFunc] w fun e w' => e = .returned (.int .i64 (-1)) ∧ Ltr w w' := by
  have hB := Ltr.refl w
  go_enter Tryd.func21, Tryd.ntmps21
  refine wp_seq_k fun KK1 hKK1 => rl_begin fun hgK hgo => tk 4 (.int .i64 0) ?_
  simp only [pp]
  refine rl_end hgo <| hKK1 _ _ <| wp_seq_k fun KK2 hKK2 => wp_seq_k fun KK3 hKK3 => rl_begin fun hgK hgo => tk 18 .nilFunc <| tk 19 (.bool true) ?_
  simp only [pp]
  refine rl_end hgo <| hKK3 _ _ <| wp_cond_true (by kernel_rfl) <| wp_seq_k fun KK4 hKK4 => rl_begin fun hgK hgo => tk 4 (.int .i64 (-1)) ?_
  simp only [pp]
  refine rl_end hgo <| hKK4 _ _ ?_
  refine wp_ret ?_
  try simp only [Exit.then, Exit.inBlock]
  refine bp_ret (v := .int .i64 (-1)) (res1 rfl (res_tmp (by kernel_rfl))) ?_
  exact ⟨rfl, hB⟩
theorem units_pos (q : List UInt8) : 0 ≤ unitsN q := by
  have := (su_bd q (edges q q.length)).1
  rw [← units_edges] at this; exact this
/-- what is asked -/
def anyB (asked k : Int) (q : List UInt8) : Bool := if asked = 0 then decide (runesN q = k) else decide (unitsN q % ((whichV k 7 + 1 : Nat) : Int) = 0 ∧ 0 < q.length)
def AnyJ (r0 b0 a0 k0 : Nat) (t : List UInt8) (asked k : Int) (W : World) : Prop := Blk W r0 4 #[.bool true] ∧ Blk W b0 9 #[.string (bs t)] ∧ Blk W a0 3 #[.int .i64 asked] ∧ Blk W k0 3 #[.int .i64 k] ∧ Tabs W
def AnyQ (r0 b0 a0 k0 : Nat) (t : List UInt8) (asked k : Int) (q : List UInt8) (w : World) (e : Ending) (w' : World) : Prop := e = .returned (.bool (anyB asked k q)) ∧ Mid r0 (r0 + 1) w w' ∧ AnyJ r0 b0 a0 k0 t asked k w'
theorem AnyJ.later {r0 b0 a0 k0 : Nat} {t : List UInt8} {asked k : Int} {w w' : World} (h : AnyJ r0 b0 a0 k0 t asked k w) (hl : Ltr w w') : AnyJ r0 b0 a0 k0 t asked k w' := ⟨h.1.later hl, h.2.1.later hl, h.2.2.1.later hl, h.2.2.2.1.later hl, h.2.2.2.2.later hl⟩
/-- blocks outside n .. m that lay in a stay -/
def MidG (n m : Nat) (a w : World) : Prop := m ≤ a.heap.size ∧ Mid n m a w
theorem MidG.later {n m : Nat} {a w w' : World} (h : MidG n m a w) (hl : Ltr w w') : MidG n m a w' := ⟨h.1, h.2.trans hl.toMid⟩
theorem MidG.upd {n m g : Nat} {a w w' : World} (h : MidG n m a w) (hu : Upd g w w') (hg : (n ≤ g ∧ g < m) ∨ a.heap.size ≤ g) : MidG n m a w' :=
  ⟨h.1, hu.os.trans h.2.os, hu.tape.trans h.2.tape, hu.output.trans h.2.output, by rw [hu.size]; exact h.2.size, fun k hk hn => (hu.block k (by omega)).trans (h.2.block k hk hn)⟩
theorem wp_meet {P : Program} {c : Code} {Q : Exit → Act → World → Prop} {a : Act} {w : World} (I : Act → World → Prop) (h1 : c.wp P (fun e a w => e = .normal ∧ I a w) a w) (h2 : ∀ a w, I a w → Q .normal a w) : c.wp P Q a w :=
  Code.wp_mono (fun e a w h => by obtain ⟨rfl, h⟩ := h; exact h2 a w h) h1
theorem upd_mid {r0 : Nat} {w w' : World} (hu : Upd r0 w w') : Mid r0 (r0 + 1) w w' := ⟨hu.os, hu.tape, hu.output, Nat.le_of_eq hu.size.symm, fun k hk hn => hu.block k (by omega)⟩
theorem ask_any (q t : List UInt8) (asked k : Int) (r0 b0 a0 k0 : Nat) (w : World) (hJ : AnyJ r0 b0 a0 k0 t asked k w) (hb0 : b0 < r0) (ha0 : a0 < r0) (hk0 : k0 < r0) (h4 : 4 ≤ r0) (hq : t.take q.length = q) (ht : t.length ≤ 4000000) :
    Calls Tryd.prog 23 #[.agg #[.int .i64 q.length, .int .i64 (runesN q), .int .i64 (unitsN q), .int .i64 (endsN q), .string (bs (headOf q)), .string (bs (tailOf q))], .pointer (some ⟨r0, 0, none⟩), .pointer (some ⟨b0, 0, none⟩), .pointer (some ⟨a0, 0, none⟩), .pointer (some ⟨k0, 0, none⟩)] w (AnyQ r0 b0 a0 k0 t asked k q w) := by
  have hB : MidG r0 (r0 + 1) w w := ⟨hJ.1.lt, Mid.refl _ _ _⟩
  obtain ⟨hr, hb, ha, hk, hT⟩ := hJ
  have hql : q.length ≤ t.length := by have := congrArg List.length hq; rw [List.length_take] at this; omega
  have hup := units_pos q
  have hw7 := whichV_lt k 7 (by omega)
  go_enter Tryd.func23, Tryd.ntmps23
  have h4 := hT.four
  have hlt_hr := hr.lt
  have hlt_hb := hb.lt
  have hlt_ha := ha.lt
  have hlt_hk := hk.lt
  refine wp_seq_k fun KK1 hKK1 => rl_begin fun hgK hgo => ?_
  refine rl_alloc (some 5) 36 #[.int .i64 q.length, .int .i64 (runesN q), .int .i64 (unitsN q), .int .i64 (endsN q), .string (bs (headOf q)), .string (bs (tailOf q))] rfl (by kernel_rfl) (fun W => by kernel_rfl) fun pb w2 hL2 hp2 hpb => ?_
  have hz2 := hL2.size
  have hlt2 := hpb.lt
  try simp only [pp]
  refine tk 6 (.bool false) ?_
  simp only [pp]
  refine rl_end hgo <| hKK1 _ _ <| wp_seq_k fun KK3 hKK3 => rl_begin fun hgK hgo => tk 8 (.pointer (some ⟨pb, 0, none⟩)) <| tk 9 (.pointer (some ⟨pb, 0, none⟩)) ?_
  simp only [pp]
  refine tx 10 (.int .i64 q.length) (by exact ld 3 pb 0 (hpb.cell 0)) <| tk 7 (.int .i64 q.length) ?_
  simp only [pp]
  refine rl_end hgo <| hKK3 _ _ <| wp_seq_k fun KK4 hKK4 => ?_
  replace hT := hT.later hL2
  replace hB := hB.later hL2
  replace hr := hr.later hL2
  replace hb := hb.later hL2
  replace ha := ha.later hL2
  replace hk := hk.later hL2
  refine wp_meet (fun ga wl => ∃ (u : Nat → Value) , ga = ⟨#[.agg #[.int .i64 q.length, .int .i64 (runesN q), .int .i64 (unitsN q), .int .i64 (endsN q), .string (bs (headOf q)), .string (bs (tailOf q))], .pointer (some ⟨r0, 0, none⟩), .pointer (some ⟨b0, 0, none⟩), .pointer (some ⟨a0, 0, none⟩), .pointer (some ⟨k0, 0, none⟩), .pointer (some ⟨pb, 0, none⟩), .bool false, .int .i64 q.length, .pointer (some ⟨pb, 0, none⟩), .pointer (some ⟨pb, 0, none⟩), .int .i64 q.length, u 11, u 12, u 13, u 14, u 15, u 16, u 17, u 18, u 19, u 20, u 21, u 22, u 23, u 24, u 25, u 26, u 27, u 28, u 29, u 30, undef, undef, undef, undef, undef, undef, undef, undef, undef, undef, undef, undef, undef, undef, undef, undef, undef, undef, undef], []⟩ ∧ (Tabs wl) ∧ (MidG r0 (r0 + 1) w wl) ∧ (Blk wl r0 4 #[.bool true]) ∧ (Blk wl b0 9 #[.string (bs t)]) ∧ (Blk wl a0 3 #[.int .i64 asked]) ∧ (Blk wl k0 3 #[.int .i64 k]) ∧ (Blk wl pb 36 #[.int .i64 q.length, .int .i64 (runesN q), .int .i64 (unitsN q), .int .i64 (endsN q), .string (bs (headOf q)), .string (bs (tailOf q))])) ?_ ?_
  ·refine rm_begin (fun _ => True) (by kernel_rfl) trivial fun K7 hgo w7 hE _ => ?_
   have hv7 : Ltr w2 w7 := by rw [hE]; exact bl_drew (bl_refl _)
   clear hE
   have hz7 := hv7.size
   refine rm_pick1 (i := 0) (by kernel_rfl) ?_
   replace hr := hr.later hv7
   refine rm_read (some 11) (.bool true) rfl rfl (by kernel_rfl) (fun W hlz _ => by exact ld 4 r0 0 ((hr.later hlz).cell 0)) fun w8 hL8 _ => ?_
   have hz8 := hL8.size
   try simp only [pp]
   refine mk 1 12 (.bool true) <| mk 2 13 (.int .i64 q.length) ?_
   try simp only [pp]
   refine mx 3 14 (.bool true) rfl (fun W hW => by (exact ebt (c := (q.length : Int) ≥ 0) (by omega))) <| mk 4 15 (.bool true) <| mk 5 16 (.bool true) <| mk 6 17 (.int .i64 q.length) ?_
   try simp only [pp]
   refine rm_pick1 (i := 7) (by kernel_rfl) ?_
   replace hb := (hb.later hv7).later hL8
   refine rm_read (some 18) (.string (bs t)) rfl rfl (by kernel_rfl) (fun W hlz _ => by exact ld 9 b0 0 ((hb.later hlz).cell 0)) fun w9 hL9 _ => ?_
   have hz9 := hL9.size
   try simp only [pp]
   refine mx 8 19 (.int .i64 t.length) rfl (fun W hW => by (exact ex_len_bs (by kernel_rfl))) ?_
   try simp only [pp]
   refine mx 9 20 (.bool true) rfl (fun W hW => by (exact ebt (c := (q.length : Int) ≤ t.length) (by omega))) <| mk 10 21 (.bool true) <| mk 11 22 (.bool true) <| mk 14 25 (.int .i64 q.length) ?_
   try simp only [pp]
   replace hT := ((hT.later hv7).later hL8).later hL9
   replace hB := ((hB.later hv7).later hL8).later hL9
   replace ha := ((ha.later hv7).later hL8).later hL9
   replace hk := ((hk.later hv7).later hL8).later hL9
   replace hpb := ((hpb.later hv7).later hL8).later hL9
   replace hr := (hr.later hL8).later hL9
   replace hb := hb.later hL9
   refine rm_pick2 (i := 12) (j := 13) (by kernel_rfl) ?_ ?_
   ·refine rm_read (some 23) (.agg #[.int .i64 q.length, .int .i64 (runesN q), .int .i64 (unitsN q), .int .i64 (endsN q), .string (bs (headOf q)), .string (bs (tailOf q))]) rfl rfl (by kernel_rfl) (fun W hlz _ => by exact ldN 36 _ rfl pb 0 rfl (fun _ => by kernel_rfl) [] [.int .i64 q.length, .int .i64 (runesN q), .int .i64 (unitsN q), .int .i64 (endsN q), .string (bs (headOf q)), .string (bs (tailOf q))] [] (by kernel_rfl) (hpb.later hlz) rfl rfl) fun w10 hL10 _ => ?_
    have hz10 := hL10.size
    try simp only [pp]
    refine rm_pick1 (i := 13) (by kernel_rfl) ?_
    replace hb := hb.later hL10
    refine rm_read (some 24) (.string (bs t)) rfl rfl (by kernel_rfl) (fun W hlz _ => by exact ld 9 b0 0 ((hb.later hlz).cell 0)) fun w11 hL11 _ => ?_
    have hz11 := hL11.size
    try simp only [pp]
    refine mx 15 26 (.string (bs (t.take q.length))) rfl (fun W hW => by (exact ex_str_take t q.length rfl rfl rfl (by kernel_rfl) hql (by omega) _)) ?_
    try simp only [pp]
    refine rm_pick1 (i := 16) (by kernel_rfl) ?_
    refine rm_new (some 27) _ rfl rfl (by kernel_rfl) (fun W hlz _ => ex_conv_ownD _ rfl (t.take q.length) rfl W) (fun _ _ _ _ => trivial) ?_
    rintro v12 w12 hL12 ⟨A7, c7, rfl, hbS, hl7⟩ -
    have hz12 := hL12.size
    try simp only [pp]
    refine rm_pick1 (i := 17) (by kernel_rfl) ?_
    refine rm_callz (some 28) 24 #[.slice A7 (t.take q.length).length c7] rfl rfl (by kernel_rfl) (fun W hlz => by kernel_rfl) (fun W hlz => Of_ref A7 c7 (t.take q.length) W (hbS.later hlz) hl7 (by rw [hq]; omega)) ?_
    replace hT := ((hT.later hL10).later hL11).later hL12
    replace hB := ((hB.later hL10).later hL11).later hL12
    replace hr := ((hr.later hL10).later hL11).later hL12
    replace ha := ((ha.later hL10).later hL11).later hL12
    replace hk := ((hk.later hL10).later hL11).later hL12
    replace hpb := ((hpb.later hL10).later hL11).later hL12
    replace hb := (hb.later hL11).later hL12
    rintro W13 e w13 hL13 (⟨rfl, hM13⟩)
    ·refine ⟨_, rfl, ?_⟩
     replace hT := (hT.later hL13).later hM13
     replace hB := (hB.later hL13).later hM13
     replace hr := (hr.later hL13).later hM13
     replace hb := (hb.later hL13).later hM13
     replace ha := (ha.later hL13).later hM13
     replace hk := (hk.later hL13).later hM13
     replace hpb := (hpb.later hL13).later hM13
     replace hbS := (hbS.later hL13).later hM13
     have hz13 := hL13.size
     try simp only [pp]
     refine mx 18 29 (.bool true) rfl (fun W hW => by (exact ex_weq' q rfl rfl (by rw [hq]; rfl) _)) <| mk 19 30 (.bool true) ?_
     try simp only [pp]
     refine rm_pick1 (i := 20) (by kernel_rfl) ?_
     refine rm_store1 r0 (.bool true) rfl rfl rfl (by kernel_rfl) rfl rfl (by kernel_rfl) (fun W hlz _ => hr.later hlz) (fun _ _ _ _ => trivial) (by kernel_rfl) fun q14 w14 hq14 _ hU14 hn14 _ => ?_
     have hz14 := hU14.size
     have hy14 := hq14.size
     replace hT := (hT.later hq14).upd hU14 (by omega)
     replace hB := (hB.later hq14).upd hU14 (by omega)
     replace hb := (hb.later hq14).upd hU14 (by omega)
     replace ha := (ha.later hq14).upd hU14 (by omega)
     replace hk := (hk.later hq14).upd hU14 (by omega)
     replace hpb := (hpb.later hq14).upd hU14 (by omega)
     clear hr
     have hr := hn14
     clear hn14
     try simp only [pp]
     refine rm_done (by kernel_rfl) (fun w15 hL15 _ => hgo.out _ _ ?_) _
     clear hgo K7
     have hz15 := hL15.size
     replace hT := hT.later hL15
     replace hB := hB.later hL15
     replace hr := hr.later hL15
     replace hb := hb.later hL15
     replace ha := ha.later hL15
     replace hk := hk.later hL15
     replace hpb := hpb.later hL15
     exact ⟨rfl, fun gj => (#[.agg #[.int .i64 q.length, .int .i64 (runesN q), .int .i64 (unitsN q), .int .i64 (endsN q), .string (bs (headOf q)), .string (bs (tailOf q))], .pointer (some ⟨r0, 0, none⟩), .pointer (some ⟨b0, 0, none⟩), .pointer (some ⟨a0, 0, none⟩), .pointer (some ⟨k0, 0, none⟩), .pointer (some ⟨pb, 0, none⟩), .bool false, .int .i64 q.length, .pointer (some ⟨pb, 0, none⟩), .pointer (some ⟨pb, 0, none⟩), .int .i64 q.length, .bool true, .bool true, .int .i64 q.length, .bool true, .bool true, .bool true, .int .i64 q.length, .string (bs t), .int .i64 t.length, .bool true, .bool true, .bool true, .agg #[.int .i64 q.length, .int .i64 (runesN q), .int .i64 (unitsN q), .int .i64 (endsN q), .string (bs (headOf q)), .string (bs (tailOf q))], .string (bs t), .int .i64 q.length, .string (bs (t.take q.length)), .slice A7 (t.take q.length).length c7, .agg #[.int .i64 (t.take q.length).length, .int .i64 (runesN (t.take q.length)), .int .i64 (unitsN (t.take q.length)), .int .i64 (endsN (t.take q.length)), .string (bs (headOf (t.take q.length))), .string (bs (tailOf (t.take q.length)))], .bool true, .bool true, undef, undef, undef, undef, undef, undef, undef, undef, undef, undef, undef, undef, undef, undef, undef, undef, undef, undef, undef]).getD gj undef, rfl, by assumption, by assumption, by assumption, by assumption, by assumption, by assumption, by assumption⟩
   ·refine rm_read (some 24) (.string (bs t)) rfl rfl (by kernel_rfl) (fun W hlz _ => by exact ld 9 b0 0 ((hb.later hlz).cell 0)) fun w16 hL16 _ => ?_
    have hz16 := hL16.size
    try simp only [pp]
    refine mx 15 26 (.string (bs (t.take q.length))) rfl (fun W hW => by (exact ex_str_take t q.length rfl rfl rfl (by kernel_rfl) hql (by omega) _)) ?_
    try simp only [pp]
    replace hT := hT.later hL16
    replace hB := hB.later hL16
    replace hr := hr.later hL16
    replace hb := hb.later hL16
    replace ha := ha.later hL16
    replace hk := hk.later hL16
    replace hpb := hpb.later hL16
    refine rm_pick2 (i := 12) (j := 16) (by kernel_rfl) ?_ ?_
    ·refine rm_read (some 23) (.agg #[.int .i64 q.length, .int .i64 (runesN q), .int .i64 (unitsN q), .int .i64 (endsN q), .string (bs (headOf q)), .string (bs (tailOf q))]) rfl rfl (by kernel_rfl) (fun W hlz _ => by exact ldN 36 _ rfl pb 0 rfl (fun _ => by kernel_rfl) [] [.int .i64 q.length, .int .i64 (runesN q), .int .i64 (unitsN q), .int .i64 (endsN q), .string (bs (headOf q)), .string (bs (tailOf q))] [] (by kernel_rfl) (hpb.later hlz) rfl rfl) fun w17 hL17 _ => ?_
     have hz17 := hL17.size
     try simp only [pp]
     refine rm_pick1 (i := 16) (by kernel_rfl) ?_
     refine rm_new (some 27) _ rfl rfl (by kernel_rfl) (fun W hlz _ => ex_conv_ownD _ rfl (t.take q.length) rfl W) (fun _ _ _ _ => trivial) ?_
     rintro v18 w18 hL18 ⟨A7, c7, rfl, hbS, hl7⟩ -
     have hz18 := hL18.size
     try simp only [pp]
     refine rm_pick1 (i := 17) (by kernel_rfl) ?_
     refine rm_callz (some 28) 24 #[.slice A7 (t.take q.length).length c7] rfl rfl (by kernel_rfl) (fun W hlz => by kernel_rfl) (fun W hlz => Of_ref A7 c7 (t.take q.length) W (hbS.later hlz) hl7 (by rw [hq]; omega)) ?_
     replace hT := (hT.later hL17).later hL18
     replace hB := (hB.later hL17).later hL18
     replace hr := (hr.later hL17).later hL18
     replace hb := (hb.later hL17).later hL18
     replace ha := (ha.later hL17).later hL18
     replace hk := (hk.later hL17).later hL18
     replace hpb := (hpb.later hL17).later hL18
     rintro W19 e w19 hL19 (⟨rfl, hM19⟩)
     ·refine ⟨_, rfl, ?_⟩
      replace hT := (hT.later hL19).later hM19
      replace hB := (hB.later hL19).later hM19
      replace hr := (hr.later hL19).later hM19
      replace hb := (hb.later hL19).later hM19
      replace ha := (ha.later hL19).later hM19
      replace hk := (hk.later hL19).later hM19
      replace hpb := (hpb.later hL19).later hM19
      replace hbS := (hbS.later hL19).later hM19
      have hz19 := hL19.size
      try simp only [pp]
      refine mx 18 29 (.bool true) rfl (fun W hW => by (exact ex_weq' q rfl rfl (by rw [hq]; rfl) _)) <| mk 19 30 (.bool true) ?_
      try simp only [pp]
      refine rm_pick1 (i := 20) (by kernel_rfl) ?_
      refine rm_store1 r0 (.bool true) rfl rfl rfl (by kernel_rfl) rfl rfl (by kernel_rfl) (fun W hlz _ => hr.later hlz) (fun _ _ _ _ => trivial) (by kernel_rfl) fun q20 w20 hq20 _ hU20 hn20 _ => ?_
      have hz20 := hU20.size
      have hy20 := hq20.size
      replace hT := (hT.later hq20).upd hU20 (by omega)
      replace hB := (hB.later hq20).upd hU20 (by omega)
      replace hb := (hb.later hq20).upd hU20 (by omega)
      replace ha := (ha.later hq20).upd hU20 (by omega)
      replace hk := (hk.later hq20).upd hU20 (by omega)
      replace hpb := (hpb.later hq20).upd hU20 (by omega)
      clear hr
      have hr := hn20
      clear hn20
      try simp only [pp]
      refine rm_done (by kernel_rfl) (fun w21 hL21 _ => hgo.out _ _ ?_) _
      clear hgo K7
      have hz21 := hL21.size
      replace hT := hT.later hL21
      replace hB := hB.later hL21
      replace hr := hr.later hL21
      replace hb := hb.later hL21
      replace ha := ha.later hL21
      replace hk := hk.later hL21
      replace hpb := hpb.later hL21
      exact ⟨rfl, fun gj => (#[.agg #[.int .i64 q.length, .int .i64 (runesN q), .int .i64 (unitsN q), .int .i64 (endsN q), .string (bs (headOf q)), .string (bs (tailOf q))], .pointer (some ⟨r0, 0, none⟩), .pointer (some ⟨b0, 0, none⟩), .pointer (some ⟨a0, 0, none⟩), .pointer (some ⟨k0, 0, none⟩), .pointer (some ⟨pb, 0, none⟩), .bool false, .int .i64 q.length, .pointer (some ⟨pb, 0, none⟩), .pointer (some ⟨pb, 0, none⟩), .int .i64 q.length, .bool true, .bool true, .int .i64 q.length, .bool true, .bool true, .bool true, .int .i64 q.length, .string (bs t), .int .i64 t.length, .bool true, .bool true, .bool true, .agg #[.int .i64 q.length, .int .i64 (runesN q), .int .i64 (unitsN q), .int .i64 (endsN q), .string (bs (headOf q)), .string (bs (tailOf q))], .string (bs t), .int .i64 q.length, .string (bs (t.take q.length)), .slice A7 (t.take q.length).length c7, .agg #[.int .i64 (t.take q.length).length, .int .i64 (runesN (t.take q.length)), .int .i64 (unitsN (t.take q.length)), .int .i64 (endsN (t.take q.length)), .string (bs (headOf (t.take q.length))), .string (bs (tailOf (t.take q.length)))], .bool true, .bool true, undef, undef, undef, undef, undef, undef, undef, undef, undef, undef, undef, undef, undef, undef, undef, undef, undef, undef, undef]).getD gj undef, rfl, by assumption, by assumption, by assumption, by assumption, by assumption, by assumption, by assumption⟩
    ·refine rm_new (some 27) _ rfl rfl (by kernel_rfl) (fun W hlz _ => ex_conv_ownD _ rfl (t.take q.length) rfl W) (fun _ _ _ _ => trivial) ?_
     rintro v22 w22 hL22 ⟨A7, c7, rfl, hbS, hl7⟩ -
     have hz22 := hL22.size
     try simp only [pp]
     replace hT := hT.later hL22
     replace hB := hB.later hL22
     replace hr := hr.later hL22
     replace hb := hb.later hL22
     replace ha := ha.later hL22
     replace hk := hk.later hL22
     replace hpb := hpb.later hL22
     refine rm_pick2 (i := 12) (j := 17) (by kernel_rfl) ?_ ?_
     ·refine rm_read (some 23) (.agg #[.int .i64 q.length, .int .i64 (runesN q), .int .i64 (unitsN q), .int .i64 (endsN q), .string (bs (headOf q)), .string (bs (tailOf q))]) rfl rfl (by kernel_rfl) (fun W hlz _ => by exact ldN 36 _ rfl pb 0 rfl (fun _ => by kernel_rfl) [] [.int .i64 q.length, .int .i64 (runesN q), .int .i64 (unitsN q), .int .i64 (endsN q), .string (bs (headOf q)), .string (bs (tailOf q))] [] (by kernel_rfl) (hpb.later hlz) rfl rfl) fun w23 hL23 _ => ?_
      have hz23 := hL23.size
      try simp only [pp]
      refine rm_pick1 (i := 17) (by kernel_rfl) ?_
      replace hbS := hbS.later hL23
      refine rm_callz (some 28) 24 #[.slice A7 (t.take q.length).length c7] rfl rfl (by kernel_rfl) (fun W hlz => by kernel_rfl) (fun W hlz => Of_ref A7 c7 (t.take q.length) W (hbS.later hlz) hl7 (by rw [hq]; omega)) ?_
      replace hT := hT.later hL23
      replace hB := hB.later hL23
      replace hr := hr.later hL23
      replace hb := hb.later hL23
      replace ha := ha.later hL23
      replace hk := hk.later hL23
      replace hpb := hpb.later hL23
      rintro W24 e w24 hL24 (⟨rfl, hM24⟩)
      ·refine ⟨_, rfl, ?_⟩
       replace hT := (hT.later hL24).later hM24
       replace hB := (hB.later hL24).later hM24
       replace hr := (hr.later hL24).later hM24
       replace hb := (hb.later hL24).later hM24
       replace ha := (ha.later hL24).later hM24
       replace hk := (hk.later hL24).later hM24
       replace hpb := (hpb.later hL24).later hM24
       replace hbS := (hbS.later hL24).later hM24
       have hz24 := hL24.size
       try simp only [pp]
       refine mx 18 29 (.bool true) rfl (fun W hW => by (exact ex_weq' q rfl rfl (by rw [hq]; rfl) _)) <| mk 19 30 (.bool true) ?_
       try simp only [pp]
       refine rm_pick1 (i := 20) (by kernel_rfl) ?_
       refine rm_store1 r0 (.bool true) rfl rfl rfl (by kernel_rfl) rfl rfl (by kernel_rfl) (fun W hlz _ => hr.later hlz) (fun _ _ _ _ => trivial) (by kernel_rfl) fun q25 w25 hq25 _ hU25 hn25 _ => ?_
       have hz25 := hU25.size
       have hy25 := hq25.size
       replace hT := (hT.later hq25).upd hU25 (by omega)
       replace hB := (hB.later hq25).upd hU25 (by omega)
       replace hb := (hb.later hq25).upd hU25 (by omega)
       replace ha := (ha.later hq25).upd hU25 (by omega)
       replace hk := (hk.later hq25).upd hU25 (by omega)
       replace hpb := (hpb.later hq25).upd hU25 (by omega)
       clear hr
       have hr := hn25
       clear hn25
       try simp only [pp]
       refine rm_done (by kernel_rfl) (fun w26 hL26 _ => hgo.out _ _ ?_) _
       clear hgo K7
       have hz26 := hL26.size
       replace hT := hT.later hL26
       replace hB := hB.later hL26
       replace hr := hr.later hL26
       replace hb := hb.later hL26
       replace ha := ha.later hL26
       replace hk := hk.later hL26
       replace hpb := hpb.later hL26
       exact ⟨rfl, fun gj => (#[.agg #[.int .i64 q.length, .int .i64 (runesN q), .int .i64 (unitsN q), .int .i64 (endsN q), .string (bs (headOf q)), .string (bs (tailOf q))], .pointer (some ⟨r0, 0, none⟩), .pointer (some ⟨b0, 0, none⟩), .pointer (some ⟨a0, 0, none⟩), .pointer (some ⟨k0, 0, none⟩), .pointer (some ⟨pb, 0, none⟩), .bool false, .int .i64 q.length, .pointer (some ⟨pb, 0, none⟩), .pointer (some ⟨pb, 0, none⟩), .int .i64 q.length, .bool true, .bool true, .int .i64 q.length, .bool true, .bool true, .bool true, .int .i64 q.length, .string (bs t), .int .i64 t.length, .bool true, .bool true, .bool true, .agg #[.int .i64 q.length, .int .i64 (runesN q), .int .i64 (unitsN q), .int .i64 (endsN q), .string (bs (headOf q)), .string (bs (tailOf q))], .string (bs t), .int .i64 q.length, .string (bs (t.take q.length)), .slice A7 (t.take q.length).length c7, .agg #[.int .i64 (t.take q.length).length, .int .i64 (runesN (t.take q.length)), .int .i64 (unitsN (t.take q.length)), .int .i64 (endsN (t.take q.length)), .string (bs (headOf (t.take q.length))), .string (bs (tailOf (t.take q.length)))], .bool true, .bool true, undef, undef, undef, undef, undef, undef, undef, undef, undef, undef, undef, undef, undef, undef, undef, undef, undef, undef, undef]).getD gj undef, rfl, by assumption, by assumption, by assumption, by assumption, by assumption, by assumption, by assumption⟩
     ·refine rm_callz (some 28) 24 #[.slice A7 (t.take q.length).length c7] rfl rfl (by kernel_rfl) (fun W hlz => by kernel_rfl) (fun W hlz => Of_ref A7 c7 (t.take q.length) W (hbS.later hlz) hl7 (by rw [hq]; omega)) ?_
      rintro W27 e w27 hL27 (⟨rfl, hM27⟩)
      ·refine ⟨_, rfl, ?_⟩
       replace hT := (hT.later hL27).later hM27
       replace hB := (hB.later hL27).later hM27
       replace hr := (hr.later hL27).later hM27
       replace hb := (hb.later hL27).later hM27
       replace ha := (ha.later hL27).later hM27
       replace hk := (hk.later hL27).later hM27
       replace hpb := (hpb.later hL27).later hM27
       replace hbS := (hbS.later hL27).later hM27
       have hz27 := hL27.size
       try simp only [pp]
       refine rm_pick1 (i := 12) (by kernel_rfl) ?_
       refine rm_read (some 23) (.agg #[.int .i64 q.length, .int .i64 (runesN q), .int .i64 (unitsN q), .int .i64 (endsN q), .string (bs (headOf q)), .string (bs (tailOf q))]) rfl rfl (by kernel_rfl) (fun W hlz _ => by exact ldN 36 _ rfl pb 0 rfl (fun _ => by kernel_rfl) [] [.int .i64 q.length, .int .i64 (runesN q), .int .i64 (unitsN q), .int .i64 (endsN q), .string (bs (headOf q)), .string (bs (tailOf q))] [] (by kernel_rfl) (hpb.later hlz) rfl rfl) fun w28 hL28 _ => ?_
       have hz28 := hL28.size
       try simp only [pp]
       refine mx 18 29 (.bool true) rfl (fun W hW => by (exact ex_weq' q rfl rfl (by rw [hq]; rfl) _)) <| mk 19 30 (.bool true) ?_
       try simp only [pp]
       refine rm_pick1 (i := 20) (by kernel_rfl) ?_
       replace hr := hr.later hL28
       refine rm_store1 r0 (.bool true) rfl rfl rfl (by kernel_rfl) rfl rfl (by kernel_rfl) (fun W hlz _ => hr.later hlz) (fun _ _ _ _ => trivial) (by kernel_rfl) fun q29 w29 hq29 _ hU29 hn29 _ => ?_
       have hz29 := hU29.size
       have hy29 := hq29.size
       replace hT := hT.later hL28
       replace hT := (hT.later hq29).upd hU29 (by omega)
       replace hB := hB.later hL28
       replace hB := (hB.later hq29).upd hU29 (by omega)
       replace hb := hb.later hL28
       replace hb := (hb.later hq29).upd hU29 (by omega)
       replace ha := ha.later hL28
       replace ha := (ha.later hq29).upd hU29 (by omega)
       replace hk := hk.later hL28
       replace hk := (hk.later hq29).upd hU29 (by omega)
       replace hpb := hpb.later hL28
       replace hpb := (hpb.later hq29).upd hU29 (by omega)
       clear hr
       have hr := hn29
       clear hn29
       try simp only [pp]
       refine rm_done (by kernel_rfl) (fun w30 hL30 _ => hgo.out _ _ ?_) _
       clear hgo K7
       have hz30 := hL30.size
       replace hbS := hbS.later hL28
       replace hT := hT.later hL30
       replace hB := hB.later hL30
       replace hr := hr.later hL30
       replace hb := hb.later hL30
       replace ha := ha.later hL30
       replace hk := hk.later hL30
       replace hpb := hpb.later hL30
       exact ⟨rfl, fun gj => (#[.agg #[.int .i64 q.length, .int .i64 (runesN q), .int .i64 (unitsN q), .int .i64 (endsN q), .string (bs (headOf q)), .string (bs (tailOf q))], .pointer (some ⟨r0, 0, none⟩), .pointer (some ⟨b0, 0, none⟩), .pointer (some ⟨a0, 0, none⟩), .pointer (some ⟨k0, 0, none⟩), .pointer (some ⟨pb, 0, none⟩), .bool false, .int .i64 q.length, .pointer (some ⟨pb, 0, none⟩), .pointer (some ⟨pb, 0, none⟩), .int .i64 q.length, .bool true, .bool true, .int .i64 q.length, .bool true, .bool true, .bool true, .int .i64 q.length, .string (bs t), .int .i64 t.length, .bool true, .bool true, .bool true, .agg #[.int .i64 q.length, .int .i64 (runesN q), .int .i64 (unitsN q), .int .i64 (endsN q), .string (bs (headOf q)), .string (bs (tailOf q))], .string (bs t), .int .i64 q.length, .string (bs (t.take q.length)), .slice A7 (t.take q.length).length c7, .agg #[.int .i64 (t.take q.length).length, .int .i64 (runesN (t.take q.length)), .int .i64 (unitsN (t.take q.length)), .int .i64 (endsN (t.take q.length)), .string (bs (headOf (t.take q.length))), .string (bs (tailOf (t.take q.length)))], .bool true, .bool true, undef, undef, undef, undef, undef, undef, undef, undef, undef, undef, undef, undef, undef, undef, undef, undef, undef, undef, undef]).getD gj undef, rfl, by assumption, by assumption, by assumption, by assumption, by assumption, by assumption, by assumption⟩
  rintro a5 w5 ⟨u, rfl, hT', hB', hr', hb', ha', hk', hpb'⟩
  clear hpb hk ha hb hr hB hT
  have hT := hT'
  clear hT'
  have hB := hB'
  clear hB'
  have hr := hr'
  clear hr'
  have hb := hb'
  clear hb'
  have ha := ha'
  clear ha'
  have hk := hk'
  clear hk'
  have hpb := hpb'
  clear hpb'
  have hlt_hr_5 := hr.lt
  have hlt_hb_5 := hb.lt
  have hlt_ha_5 := ha.lt
  have hlt_hk_5 := hk.lt
  have hlt_hpb_5 := hpb.lt
  refine hKK4 _ _ <| wp_seq_k fun KK31 hKK31 => wp_seq_k fun KK32 hKK32 => rl_begin fun hgK hgo => ?_
  refine tx 31 (.int .i64 asked) (by exact ld 3 a0 0 (ha.cell 0)) ?_
  simp only [pp]
  by_cases h1 : asked = 0
  ·refine tx 32 (.bool true) (by exact eqt (x := asked) (y := 0) (by omega)) ?_
   simp only [pp]
   refine rl_end hgo <| hKK32 _ _ <| wp_cond_true (by kernel_rfl) <| wp_seq_k fun KK33 hKK33 => rl_begin fun hgK hgo => tk 33 (.pointer (some ⟨pb, 0, none⟩)) <| tk 34 (.pointer (some ⟨pb, 1, none⟩)) ?_
   simp only [pp]
   refine tx 35 (.int .i64 (runesN q)) (by exact ld 3 pb 1 (hpb.cell 1)) ?_
   simp only [pp]
   refine tx 36 (.int .i64 k) (by exact ld 3 k0 0 (hk.cell 0)) ?_
   simp only [pp]
   by_cases h2 : runesN q = k
   ·refine tx 37 (.bool true) (by exact eqt (x := runesN q) (y := k) (by omega)) <| tk 6 (.bool true) ?_
    simp only [pp]
    refine rl_end hgo <| hKK33 _ _ ?_
    refine wp_ret ?_
    try simp only [Exit.then, Exit.inBlock]
    refine bp_ret (v := .bool true) (res1 rfl (res_tmp (by kernel_rfl))) ?_
    exact ⟨by rw [anyB, if_pos h1, decide_eq_true h2], hB.2, hr, hb, ha, hk, hT⟩
   ·refine tx 37 (.bool false) (by exact eqf (x := runesN q) (y := k) (by omega)) <| tk 6 (.bool false) ?_
    simp only [pp]
    refine rl_end hgo <| hKK33 _ _ ?_
    refine wp_ret ?_
    try simp only [Exit.then, Exit.inBlock]
    refine bp_ret (v := .bool false) (res1 rfl (res_tmp (by kernel_rfl))) ?_
    exact ⟨by rw [anyB, if_pos h1, decide_eq_false h2], hB.2, hr, hb, ha, hk, hT⟩
  ·refine tx 32 (.bool false) (by exact eqf (x := asked) (y := 0) (by omega)) ?_
   simp only [pp]
   refine rl_end hgo <| hKK32 _ _ <| wp_cond_false (by kernel_rfl) <| wp_skip <| hKK31 _ _ <| wp_seq_k fun KK34 hKK34 => ?_
   refine rm_begin (fun W => Ltr w5 W) (by kernel_rfl) (by exact bl_drew (bl_refl _)) fun K35 hgo w35 hE hS35 => ?_
   have hv35 : Ltr w5 w35 := by rw [hE]; exact bl_drew (bl_refl _)
   have hz35 := hv35.size
   clear hE hS35
   refine mk 0 38 (.pointer (some ⟨pb, 0, none⟩)) <| mk 1 39 (.pointer (some ⟨pb, 2, none⟩)) ?_
   try simp only [pp]
   refine mx 2 40 (.int .i64 (unitsN q)) rfl (fun W hW => by (exact ld 3 pb 2 ((hpb.later hW).cell 2))) ?_
   try simp only [pp]
   refine mx 3 41 (.int .i64 k) rfl (fun W hW => by (exact ld 3 k0 0 ((hk.later hW).cell 0))) ?_
   try simp only [pp]
   refine rm_call 4 (some 42) (.int .i64 (whichV k 7)) 25 #[.int .i64 k, .int .i64 7] rfl rfl (by kernel_rfl) (by kernel_rfl) (by kernel_rfl) (by kernel_rfl) (fun W hW => by kernel_rfl) (fun W hW => which_any k 7 (by omega) (by omega) W) (fun _ _ h k => Ltr.trans h k) ?_
   try simp only [pp]
   refine mx 5 43 (.int .i64 (((whichV k 7 + 1 : Nat) : Int))) rfl (fun W hW => by (exact ex_arith (e := (whichV k 7 : Int) + 1) (r := ((whichV k 7 + 1 : Nat) : Int)) (by kernel_rfl) (by omega) (by omega))) ?_
   try simp only [pp]
   refine mx 6 44 (.int .i64 (unitsN q % ((whichV k 7 + 1 : Nat) : Int))) rfl (fun W hW => by (exact ex_mod (unitsN q) (whichV k 7 + 1) rfl rfl rfl (by kernel_rfl) (by omega) hup _)) ?_
   try simp only [pp]
   by_cases h3 : unitsN q % ((whichV k 7 + 1 : Nat) : Int) = 0
   ·refine mx 7 45 (.bool true) rfl (fun W hW => by (exact ex_beq (x := (unitsN q % ((whichV k 7 + 1 : Nat) : Int))) (y := 0) (by kernel_rfl) ⟨fun _ => by omega, fun _ => rfl⟩)) <| mk 8 46 (.bool true) <| mk 9 47 (.int .i64 q.length) ?_
    try simp only [pp]
    by_cases h4' : (q.length : Int) > 0
    ·refine mx 10 48 (.bool true) rfl (fun W hW => by (exact ebt (c := (q.length : Int) > 0) (by omega))) <| mk 11 49 (.bool true) <| mk 12 6 (.bool true) ?_
     try simp only [pp]
     refine rm_done (by kernel_rfl) (fun w36 hL36 hS36 => hgo.out _ _ ?_) _
     clear hgo K35
     have hz36 := (show Ltr w5 _ from hS36).size
     have hy36 := hL36.size
     refine hKK34 _ _ ?_
     refine wp_ret ?_
     try simp only [Exit.then, Exit.inBlock]
     refine bp_ret (v := .bool true) (res1 rfl (res_tmp (by kernel_rfl))) ?_
     replace hT := hT.later (show Ltr w5 _ from hS36)
     replace hB := hB.later (show Ltr w5 _ from hS36)
     replace hr := hr.later (show Ltr w5 _ from hS36)
     replace hb := hb.later (show Ltr w5 _ from hS36)
     replace ha := ha.later (show Ltr w5 _ from hS36)
     replace hk := hk.later (show Ltr w5 _ from hS36)
     replace hpb := hpb.later (show Ltr w5 _ from hS36)
     exact ⟨by rw [anyB, if_neg h1, decide_eq_true ⟨h3, by omega⟩], hB.2, hr, hb, ha, hk, hT⟩
    ·refine mx 10 48 (.bool false) rfl (fun W hW => by (exact ebf (c := (q.length : Int) > 0) (by omega))) <| mk 11 49 (.bool false) <| mk 12 6 (.bool false) ?_
     try simp only [pp]
     refine rm_done (by kernel_rfl) (fun w37 hL37 hS37 => hgo.out _ _ ?_) _
     clear hgo K35
     have hz37 := (show Ltr w5 _ from hS37).size
     have hy37 := hL37.size
     refine hKK34 _ _ ?_
     refine wp_ret ?_
     try simp only [Exit.then, Exit.inBlock]
     refine bp_ret (v := .bool false) (res1 rfl (res_tmp (by kernel_rfl))) ?_
     replace hT := hT.later (show Ltr w5 _ from hS37)
     replace hB := hB.later (show Ltr w5 _ from hS37)
     replace hr := hr.later (show Ltr w5 _ from hS37)
     replace hb := hb.later (show Ltr w5 _ from hS37)
     replace ha := ha.later (show Ltr w5 _ from hS37)
     replace hk := hk.later (show Ltr w5 _ from hS37)
     replace hpb := hpb.later (show Ltr w5 _ from hS37)
     exact ⟨by rw [anyB, if_neg h1, decide_eq_false (fun h => h4' (by have := h.2; omega))], hB.2, hr, hb, ha, hk, hT⟩
   ·refine mx 7 45 (.bool false) rfl (fun W hW => by (exact ex_beq (x := (unitsN q % ((whichV k 7 + 1 : Nat) : Int))) (y := 0) (by kernel_rfl) ⟨fun q => (by cases q), fun q => absurd q (by omega)⟩)) <| mk 8 46 (.bool false) ?_
    try simp only [pp]
    refine rm_pass 9 (some 47) rfl rfl (by kernel_rfl) (by kernel_rfl) ?_
    try simp only [pp]
    refine rm_pass 10 (some 48) rfl rfl (by kernel_rfl) (by kernel_rfl) ?_
    try simp only [pp]
    refine mk 11 49 (.bool false) <| mk 12 6 (.bool false) ?_
    try simp only [pp]
    refine rm_done (by kernel_rfl) (fun w38 hL38 hS38 => hgo.out _ _ ?_) _
    clear hgo K35
    have hz38 := (show Ltr w5 _ from hS38).size
    have hy38 := hL38.size
    refine hKK34 _ _ ?_
    refine wp_ret ?_
    try simp only [Exit.then, Exit.inBlock]
    refine bp_ret (v := .bool false) (res1 rfl (res_tmp (by kernel_rfl))) ?_
    replace hT := hT.later (show Ltr w5 _ from hS38)
    replace hB := hB.later (show Ltr w5 _ from hS38)
    replace hr := hr.later (show Ltr w5 _ from hS38)
    replace hb := hb.later (show Ltr w5 _ from hS38)
    replace ha := ha.later (show Ltr w5 _ from hS38)
    replace hk := hk.later (show Ltr w5 _ from hS38)
    exact ⟨by rw [anyB, if_neg h1, decide_eq_false (fun h => h3 h.1)], hB.2, hr, hb, ha, hk, hT⟩
def AnyF (r0 b0 a0 k0 : Nat) (t : List UInt8) (asked k : Int) (w : World) (e : Ending) (w' : World) : Prop :=
  (e = .returned (.int .i64 (-1)) ∧ Mid r0 (r0 + 1) w w' ∧ AnyJ r0 b0 a0 k0 t asked k w') ∨ (∃ q : List UInt8, e = .returned (.int .i64 q.length) ∧ t.take q.length = q ∧ anyB asked k q = true ∧ Mid r0 (r0 + 1) w w' ∧ AnyJ r0 b0 a0 k0 t asked k w')
theorem any_law (b : Nat) (t : List UInt8) (asked k : Int) (r0 b0 a0 k0 N : Nat) (v : Value) (ot : Option Tr) (w : World) (hro : RopeN N w b t v ot) (hN : N ≤ r0) (hJ : AnyJ r0 b0 a0 k0 t asked k w) (hb0 : b0 < r0) (ha0 : a0 < r0) (hk0 : k0 < r0) (h4 : 4 ≤ r0) (ht : t.length ≤ 4000000) :
    Calls Tryd.prog 21 #[.pointer (some ⟨b, 0, none⟩), .func (.func 23) #[] #[.pointer (some ⟨r0, 0, none⟩), .pointer (some ⟨b0, 0, none⟩), .pointer (some ⟨a0, 0, none⟩), .pointer (some ⟨k0, 0, none⟩)]] w (AnyF r0 b0 a0 k0 t asked k w) := by
  have hlt := hJ.1.lt
  have hAsk : Asks 23 #[.pointer (some ⟨r0, 0, none⟩), .pointer (some ⟨b0, 0, none⟩), .pointer (some ⟨a0, 0, none⟩), .pointer (some ⟨k0, 0, none⟩)] r0 (r0 + 1) t (anyB asked k) (AnyJ r0 b0 a0 k0 t asked k) :=
    ⟨fun A B hJ hm hb => ⟨hJ.1.bel hb (by omega), hJ.2.1.bel hb (by omega), hJ.2.2.1.bel hb (by omega), hJ.2.2.2.1.bel hb (by omega), hJ.2.2.2.2.bel hb (by omega)⟩, enters_of Tryd.func23 (by kernel_rfl) rfl, fun q s W hq hJ _ _ =>
      (ask_any q t asked k r0 b0 a0 k0 W hJ hb0 ha0 hk0 h4 (by rw [← hq, List.take_left']; rfl) ht).mono fun e w' h => by
        obtain ⟨rfl, hm, hj⟩ := h
        cases hp : anyB asked k q
        · exact .inr ⟨rfl, rfl, hm, hj⟩
        · exact .inl ⟨rfl, rfl, hm, hj⟩⟩
  refine (First_any _ _ r0 (r0 + 1) b t v ot _ _ hAsk w hJ.2.2.2.2 h4 (by omega) hlt (hro.mono hN (by omega)) hJ (by omega)).mono fun e w' h => ?_
  obtain ⟨h1, hm, hj⟩ := h
  rcases h1 with ⟨rfl, -, -⟩ | ⟨q, s, hq, rfl, hp, -⟩
  · exact .inl ⟨rfl, hm, hj⟩
  · exact .inr ⟨q, rfl, by rw [← hq, List.take_left']; rfl, hp, hm, hj⟩
theorem ask_true (q t : List UInt8) (asked k : Int) (r0 b0 a0 k0 : Nat) (w : World) (hJ : AnyJ r0 b0 a0 k0 t asked k w) (hb0 : b0 < r0) (ha0 : a0 < r0) (hk0 : k0 < r0) (h4 : 4 ≤ r0) (hq : t.take q.length = q) (ht : t.length ≤ 4000000) (hp : anyB asked k q = true) :
    Calls Tryd.prog 23 #[.agg #[.int .i64 (t.take q.length).length, .int .i64 (runesN (t.take q.length)), .int .i64 (unitsN (t.take q.length)), .int .i64 (endsN (t.take q.length)), .string (bs (headOf (t.take q.length))), .string (bs (tailOf (t.take q.length)))], .pointer (some ⟨r0, 0, none⟩), .pointer (some ⟨b0, 0, none⟩), .pointer (some ⟨a0, 0, none⟩), .pointer (some ⟨k0, 0, none⟩)] w fun e w' => e = .returned (.bool true) ∧ Mid r0 (r0 + 1) w w' ∧ AnyJ r0 b0 a0 k0 t asked k w' := by
  rw [hq]
  have := ask_any q t asked k r0 b0 a0 k0 w hJ hb0 ha0 hk0 h4 hq ht
  unfold AnyQ at this
  rwa [hp] at this
theorem RopeAny_walk {n : Nat} (A : Option Addr) (c : Nat) (l : List ActD) (k asked : Int) (w : World) (hT : Tabs w) (hA : ActsAt n w A l) (hc : l.length ≤ c) (hm : l.length ≤ 1100000) :
    Calls Tryd.prog 5 #[.slice A l.length c, .int .i64 k, .int .i64 asked] w fun e w' => e = .returned (.bool true) ∧ Ltr w w' := by
  have hB := Ltr.refl w
  go_enter Tryd.func5, Tryd.ntmps5
  have h4 := hT.four
  refine wp_seq_k fun KK1 hKK1 => rl_begin fun hgK hgo => ?_
  refine rl_alloc (some 4) 3 #[.int .i64 k] rfl (by kernel_rfl) (fun W => by kernel_rfl) fun kb w2 hL2 hp2 hkb => ?_
  have hz2 := hL2.size
  have hlt2 := hkb.lt
  try simp only [pp]
  refine rl_alloc (some 5) 3 #[.int .i64 asked] rfl (by kernel_rfl) (fun W => by kernel_rfl) fun ab w3 hL3 hp3 hab => ?_
  have hz3 := hL3.size
  have hlt3 := hab.lt
  try simp only [pp]
  refine tk 6 (.bool false) ?_
  simp only [pp]
  refine rl_end hgo <| hKK1 _ _ <| wp_seq_k fun KK4 hKK4 => wp_seq_k fun KK5 hKK5 => rl_begin fun hgK hgo => ?_
  replace hT := (hT.later hL2).later hL3
  refine rl_call (some 14) 17 #[] rfl (by kernel_rfl) (by kernel_rfl) (wakes_any _ hT) ?_
  rintro e w6 ⟨rfl, hL6⟩
  refine ⟨_, rfl, ?_⟩
  have hz6 := hL6.size
  try simp only [pp]
  refine tk 15 (.bool false) ?_
  simp only [pp]
  refine rl_end hgo <| hKK5 _ _ <| wp_cond_false (by kernel_rfl) <| wp_skip <| hKK4 _ _ <| wp_seq_k fun KK7 hKK7 => rl_begin fun hgK hgo => tk 17 (.slice A l.length c) ?_
  simp only [pp]
  replace hA := ((hA.later hL2).later hL3).later hL6
  replace hT := hT.later hL6
  refine rl_call (some 18) 18 #[.slice A l.length c] rfl (by kernel_rfl) (by kernel_rfl) (play_r A c l _ hT hA hc hm) ?_
  rintro e w8 ⟨A1, A2, c1, c2, rs, N, rfl, hL8, hP, hN⟩
  refine ⟨_, rfl, ?_⟩
  have hz8 := hL8.size
  have hrl := hP.len
  clear hA
  try simp only [pp]
  refine tk 16 (.tuple #[.agg #[.slice A1 rs.length c1, .slice A2 rs.length c2], .bool true]) <| tk 19 (.agg #[.slice A1 rs.length c1, .slice A2 rs.length c2]) <| tk 20 (.bool true) ?_
  simp only [pp]
  refine rl_alloc (some 7) 27 #[.slice none 0 0, .slice none 0 0] rfl (by kernel_rfl) (fun W => by kernel_rfl) fun bk w9 hL9 hp9 hbk => ?_
  have hz9 := hL9.size
  have hlt9 := hbk.lt
  try simp only [pp]
  refine rl_store bk #[.slice A1 rs.length c1, .slice A2 rs.length c2] rfl rfl (by kernel_rfl) rfl rfl (by kernel_rfl) hbk rfl (by kernel_rfl) fun w10 hU10 hn10 => ?_
  have hz10 := hU10.size
  replace hT := (hT.later hL8).later hL9
  replace hT := hT.upd hU10 (by omega)
  replace hB := ((((hB.later hL2).later hL3).later hL6).later hL8).later hL9
  replace hB := hB.upd hU10 (by omega)
  replace hkb := (((hkb.later hL3).later hL6).later hL8).later hL9
  replace hkb := hkb.upd hU10 (by omega)
  replace hab := ((hab.later hL6).later hL8).later hL9
  replace hab := hab.upd hU10 (by omega)
  replace hP := hP.later hL9
  replace hP := hP.upd hU10 (by omega)
  clear hbk
  have hbk := hn10
  clear hn10
  try simp only [pp]
  refine tk 8 (.bool true) ?_
  simp only [pp]
  refine rl_end hgo <| hKK7 _ _ <| wp_seq_k fun KK11 hKK11 => wp_seq_k fun KK12 hKK12 => rl_begin fun hgK hgo => tk 21 (.bool true) <| tk 22 (.bool false) ?_
  simp only [pp]
  refine rl_end hgo <| hKK12 _ _ <| wp_cond_false (by kernel_rfl) <| wp_skip <| hKK11 _ _ <| wp_seq_k fun KK13 hKK13 => wp_seq_k fun KK14 hKK14 => rl_begin fun hgK hgo => tk 23 (.pointer (some ⟨bk, 0, none⟩)) ?_
  simp only [pp]
  refine tx 24 (.slice A1 rs.length c1) (by exact ld 24 bk 0 (hbk.cell 0)) <| tk 25 (.int .i64 rs.length) <| tk 26 (.int .i64 0) ?_
  simp only [pp]
  refine rl_end hgo <| hKK14 _ _ <| wp_block ?_
  refine wp_loop_ghost (fun gn ga wl => ∃ (u : Nat → Value) (i : Nat), gn = rs.length - i ∧ ga = ⟨#[.slice A l.length c, .int .i64 k, .int .i64 asked, undef, .pointer (some ⟨kb, 0, none⟩), .pointer (some ⟨ab, 0, none⟩), u 6, .pointer (some ⟨bk, 0, none⟩), .bool true, u 9, u 10, u 11, u 12, u 13, .bool true, .bool false, .tuple #[.agg #[.slice A1 rs.length c1, .slice A2 rs.length c2], .bool true], .slice A l.length c, .tuple #[.agg #[.slice A1 rs.length c1, .slice A2 rs.length c2], .bool true], .agg #[.slice A1 rs.length c1, .slice A2 rs.length c2], .bool true, .bool true, .bool false, .pointer (some ⟨bk, 0, none⟩), .slice A1 rs.length c1, .int .i64 rs.length, .int .i64 i, u 27, u 28, u 29, u 30, u 31, u 32, u 33, u 34, u 35, u 36, u 37, u 38, u 39, u 40, u 41, u 42, u 43, u 44, u 45, u 46, u 47, u 48, u 49, u 50, u 51, u 52, u 53, u 54, u 55, u 56, u 57, u 58, u 59, u 60, u 61, u 62, u 63, u 64, u 65, u 66, u 67, u 68, u 69, u 70, u 71, u 72, u 73, u 74, u 75], []⟩ ∧ (i ≤ rs.length) ∧ (Tabs wl) ∧ (Ltr w wl) ∧ (Ropes N A1 A2 rs wl) ∧ (Blk wl bk 27 #[.slice A1 rs.length c1, .slice A2 rs.length c2]) ∧ (Blk wl kb 3 #[.int .i64 k]) ∧ (Blk wl ab 3 #[.int .i64 asked])) ((fun (i : Nat) => (rs.length - i : Nat)) 0) ?_ ?_
  ·exact ⟨fun gj => (#[.slice A l.length c, .int .i64 k, .int .i64 asked, undef, .pointer (some ⟨kb, 0, none⟩), .pointer (some ⟨ab, 0, none⟩), .bool false, .pointer (some ⟨bk, 0, none⟩), .bool true, undef, undef, undef, undef, undef, .bool true, .bool false, .tuple #[.agg #[.slice A1 rs.length c1, .slice A2 rs.length c2], .bool true], .slice A l.length c, .tuple #[.agg #[.slice A1 rs.length c1, .slice A2 rs.length c2], .bool true], .agg #[.slice A1 rs.length c1, .slice A2 rs.length c2], .bool true, .bool true, .bool false, .pointer (some ⟨bk, 0, none⟩), .slice A1 rs.length c1, .int .i64 rs.length, .int .i64 0, undef, undef, undef, undef, undef, undef, undef, undef, undef, undef, undef, undef, undef, undef, undef, undef, undef, undef, undef, undef, undef, undef, undef, undef, undef, undef, undef, undef, undef, undef, undef, undef, undef, undef, undef, undef, undef, undef, undef, undef, undef, undef, undef, undef, undef, undef, undef, undef, undef]).getD gj undef, 0, rfl, rfl, Nat.zero_le _, by assumption, by assumption, by assumption, by assumption, by assumption, by assumption⟩
  rintro n15 a15 w15 ⟨u, i, rfl, rfl, hil', hT', hB', hP', hbk', hkb', hab'⟩
  clear hbk hP hab hkb hB hT
  have hil := hil'
  clear hil'
  have hT := hT'
  clear hT'
  have hB := hB'
  clear hB'
  have hP := hP'
  clear hP'
  have hbk := hbk'
  clear hbk'
  have hkb := hkb'
  clear hkb'
  have hab := hab'
  clear hab'
  have hlt_hbk_15 := hbk.lt
  have hlt_hkb_15 := hkb.lt
  have hlt_hab_15 := hab.lt
  refine wp_seq_k fun KK16 hKK16 => rl_begin fun hgK hgo => ?_
  by_cases h1 : (i : Int) < rs.length
  ·refine tx 27 (.bool true) (by exact ebt (c := (i : Int) < rs.length) (by omega)) ?_
   simp only [pp]
   refine rl_end hgo <| hKK16 _ _ <| wp_seq_k fun KK17 hKK17 => wp_cond_true (by kernel_rfl) <| wp_skip <| hKK17 _ _ <| wp_seq_k fun KK18 hKK18 => wp_block <| wp_seq_k fun KK19 hKK19 => rl_begin fun hgK hgo => ?_
   (obtain ⟨b, t, hbt⟩ := rope_i i (by omega : i < rs.length)); (have htl := hP.lt hbt); (obtain ⟨gb, go', he1, hgn, -⟩ := hP.p i (by omega)); (obtain ⟨gs, gt, he2, hgn2, -⟩ := hP.s i (by omega)); (have hNs := hP.size); (have hT4 := hT.four)
   refine tk 28 (.int .i64 i) <| tk 9 (.int .i64 i) ?_
   simp only [pp]
   refine rl_end hgo <| hKK19 _ _ <| wp_seq_k fun KK20 hKK20 => rl_begin fun hgK hgo => tk 29 (.pointer (some ⟨bk, 1, none⟩)) ?_
   simp only [pp]
   refine tx 30 (.slice A2 rs.length c2) (by exact ld 25 bk 1 (hbk.cell 1)) <| tk 31 (.int .i64 i) ?_
   simp only [pp]
   refine tx 32 (.pointer (some ⟨gs, gt + i, none⟩)) (by exact ex_indexA i rfl rfl he2 rfl (by kernel_rfl) (fun _ => by kernel_rfl) (by omega) _) ?_
   simp only [pp]
   refine tx 33 (.string (bs t)) (by exact ld1 9 _ rfl gs (gt + i) rfl (fun _ => by kernel_rfl) _ (hP.sc he2 (strs_at hbt))) ?_
   simp only [pp]
   refine rl_alloc (some 10) 9 #[.string ⟨#[]⟩] rfl (by kernel_rfl) (fun W => by kernel_rfl) fun tb w21 hL21 hp21 htb => ?_
   have hz21 := hL21.size
   have hlt21 := htb.lt
   try simp only [pp]
   refine rl_store1 tb (.string (bs t)) rfl rfl (by kernel_rfl) rfl rfl (by kernel_rfl) htb (by kernel_rfl) fun w22 hU22 hn22 => ?_
   have hz22 := hU22.size
   replace hT := hT.later hL21
   replace hT := hT.upd hU22 (by omega)
   replace hB := hB.later hL21
   replace hB := hB.upd hU22 (by omega)
   replace hP := hP.later hL21
   replace hP := hP.upd hU22 (by omega)
   replace hbk := hbk.later hL21
   replace hbk := hbk.upd hU22 (by omega)
   replace hkb := hkb.later hL21
   replace hkb := hkb.upd hU22 (by omega)
   replace hab := hab.later hL21
   replace hab := hab.upd hU22 (by omega)
   clear htb
   have htb := hn22
   clear hn22
   try simp only [pp]
   refine rl_end hgo <| hKK20 _ _ <| wp_seq_k fun KK23 hKK23 => rl_begin fun hgK hgo => ?_
   refine rl_alloc (some 11) 4 #[.bool false] rfl (by kernel_rfl) (fun W => by kernel_rfl) fun rb w24 hL24 hp24 hrb => ?_
   have hz24 := hL24.size
   have hlt24 := hrb.lt
   try simp only [pp]
   refine rl_store1 rb (.bool true) rfl rfl (by kernel_rfl) rfl rfl (by kernel_rfl) hrb (by kernel_rfl) fun w25 hU25 hn25 => ?_
   have hz25 := hU25.size
   replace hT := hT.later hL24
   replace hT := hT.upd hU25 (by omega)
   replace hB := hB.later hL24
   replace hB := hB.upd hU25 (by omega)
   replace hP := hP.later hL24
   replace hP := hP.upd hU25 (by omega)
   replace hbk := hbk.later hL24
   replace hbk := hbk.upd hU25 (by omega)
   replace hkb := hkb.later hL24
   replace hkb := hkb.upd hU25 (by omega)
   replace hab := hab.later hL24
   replace hab := hab.upd hU25 (by omega)
   replace htb := htb.later hL24
   replace htb := htb.upd hU25 (by omega)
   clear hrb
   have hrb := hn25
   clear hn25
   try simp only [pp]
   refine rl_end hgo <| hKK23 _ _ <| wp_seq_k fun KK26 hKK26 => rl_begin fun hgK hgo => tk 34 (.func (.func 23) #[] #[.pointer (some ⟨rb, 0, none⟩), .pointer (some ⟨tb, 0, none⟩), .pointer (some ⟨ab, 0, none⟩), .pointer (some ⟨kb, 0, none⟩)]) <| tk 12 (.func (.func 23) #[] #[.pointer (some ⟨rb, 0, none⟩), .pointer (some ⟨tb, 0, none⟩), .pointer (some ⟨ab, 0, none⟩), .pointer (some ⟨kb, 0, none⟩)]) ?_
   simp only [pp]
   refine rl_end hgo <| hKK26 _ _ <| wp_seq_k fun KK27 hKK27 => rl_begin fun hgK hgo => tk 35 (.pointer (some ⟨bk, 0, none⟩)) ?_
   simp only [pp]
   refine tx 36 (.slice A1 rs.length c1) (by exact ld 24 bk 0 (hbk.cell 0)) <| tk 37 (.int .i64 i) ?_
   simp only [pp]
   refine tx 38 (.pointer (some ⟨gb, go' + i, none⟩)) (by exact ex_indexA i rfl rfl he1 rfl (by kernel_rfl) (fun _ => by kernel_rfl) (by omega) _) ?_
   simp only [pp]
   refine tx 39 (.pointer (some ⟨b, 0, none⟩)) (by exact ld1 31 _ rfl gb (go' + i) rfl (fun _ => by kernel_rfl) _ (hP.pc he1 (ptrs_at hbt))) <| tk 40 (.func (.func 23) #[] #[.pointer (some ⟨rb, 0, none⟩), .pointer (some ⟨tb, 0, none⟩), .pointer (some ⟨ab, 0, none⟩), .pointer (some ⟨kb, 0, none⟩)]) ?_
   simp only [pp]
   (obtain ⟨rv, rt, hro⟩ := hP.rn hbt)
   refine rl_call (some 41) 21 #[.pointer (some ⟨b, 0, none⟩), .func (.func 23) #[] #[.pointer (some ⟨rb, 0, none⟩), .pointer (some ⟨tb, 0, none⟩), .pointer (some ⟨ab, 0, none⟩), .pointer (some ⟨kb, 0, none⟩)]] rfl (by kernel_rfl) (by kernel_rfl) (any_law b t asked k rb tb ab kb N _ _ _ hro (by omega) ⟨hrb, htb, hab, hkb, hT⟩ (by omega) (by omega) (by omega) (by omega) htl) ?_
   rintro e w28 (⟨rfl, hM28, hJ⟩ | ⟨q, rfl, hqt, hqp, hM28, hJ⟩)
   ·refine ⟨_, rfl, ?_⟩
    replace hB := hB.mid hM28 (by omega)
    replace hP := hP.mid hM28 (by omega)
    replace hbk := hbk.mid hM28 (by omega)
    have hz28 := (hM28).size
    try simp only [pp]
    refine tk 13 (.int .i64 (-1)) ?_
    simp only [pp]
    refine rl_end hgo <| hKK27 _ _ <| wp_seq_k fun KK29 hKK29 => wp_seq_k fun KK30 hKK30 => rl_begin fun hgK hgo => ?_
    refine tx 42 (.bool true) (by exact ld 4 rb 0 (hJ.1.cell 0)) <| tk 43 (.bool false) <| tk 44 (.bool false) <| tk 45 (.int .i64 (-1)) <| tk 46 (.bool false) <| tk 47 (.bool false) <| tk 48 (.bool false) <| tk 49 (.int .i64 (-1)) ?_
    simp only [pp]
    refine tx 50 (.string (bs t)) (by exact ld 9 tb 0 (hJ.2.1.cell 0)) ?_
    simp only [pp]
    refine tx 51 (.int .i64 t.length) (by exact ex_len_bs (by kernel_rfl)) ?_
    simp only [pp]
    refine tx 52 (.bool false) (by exact ebf (c := (-1 : Int) > t.length) (by omega)) <| tk 53 (.bool false) <| tk 54 (.bool false) <| tk 55 (.int .i64 (-1)) ?_
    simp only [pp]
    refine tx 56 (.bool false) (by exact ebf (c := (-1 : Int) ≥ 0) (by omega)) <| tk 57 (.bool false) ?_
    simp only [pp]
    refine rl_pass (some 58) rfl (by kernel_rfl) ?_
    try simp only [pp]
    refine rl_pass (some 59) rfl (by kernel_rfl) ?_
    try simp only [pp]
    refine rl_pass (some 60) rfl (by kernel_rfl) ?_
    try simp only [pp]
    refine rl_pass (some 61) rfl (by kernel_rfl) ?_
    try simp only [pp]
    refine rl_pass (some 62) rfl (by kernel_rfl) ?_
    try simp only [pp]
    refine rl_pass (some 63) rfl (by kernel_rfl) ?_
    try simp only [pp]
    refine rl_pass (some 64) rfl (by kernel_rfl) ?_
    try simp only [pp]
    refine rl_pass (some 65) rfl (by kernel_rfl) ?_
    try simp only [pp]
    refine tk 66 (.bool false) <| tk 67 (.bool false) ?_
    simp only [pp]
    refine rl_end hgo <| hKK30 _ _ <| wp_cond_false (by kernel_rfl) <| wp_skip <| hKK29 _ _ <| wp_seq_k fun KK31 hKK31 => rl_begin fun hgK hgo => ?_
    (obtain ⟨hrb, htb, hab, hkb, hT⟩ := hJ)
    refine tk 68 (.pointer (some ⟨bk, 0, none⟩)) ?_
    simp only [pp]
    refine tx 69 (.slice A1 rs.length c1) (by exact ld 24 bk 0 (hbk.cell 0)) <| tk 70 (.int .i64 i) ?_
    simp only [pp]
    refine tx 71 (.pointer (some ⟨gb, go' + i, none⟩)) (by exact ex_indexA i rfl rfl he1 rfl (by kernel_rfl) (fun _ => by kernel_rfl) (by omega) _) ?_
    simp only [pp]
    refine tx 72 (.pointer (some ⟨b, 0, none⟩)) (by exact ld1 31 _ rfl gb (go' + i) rfl (fun _ => by kernel_rfl) _ (hP.pc he1 (ptrs_at hbt))) ?_
    simp only [pp]
    refine rl_call (some 73) 21 #[.pointer (some ⟨b, 0, none⟩), .nilFunc] rfl (by kernel_rfl) (by kernel_rfl) (firstNone b _) ?_
    rintro e w32 ⟨rfl, hL32⟩
    refine ⟨_, rfl, ?_⟩
    have hz32 := hL32.size
    (replace hT := hT.later hL32); (replace hab := hab.later hL32); (replace hkb := hkb.later hL32)
    try simp only [pp]
    refine tk 74 (.bool false) ?_
    simp only [pp]
    refine rl_end hgo <| hKK31 _ _ <| wp_cond_false (by kernel_rfl) <| wp_skip <| hKK18 _ _ <| rl_begin fun hgK hgo => ?_
    refine tx 75 (.int .i64 (((i + 1 : Nat) : Int))) (by exact ex_arith (e := (i : Int) + 1) (r := ((i + 1 : Nat) : Int)) (by kernel_rfl) (by omega) (by omega)) <| tk 26 (.int .i64 (((i + 1 : Nat) : Int))) ?_
    simp only [pp]
    refine rl_end hgo ?_
    replace hB := hB.later hL32
    replace hP := hP.later hL32
    replace hbk := hbk.later hL32
    exact ⟨_, (by omega), fun gj => (#[.slice A l.length c, .int .i64 k, .int .i64 asked, undef, .pointer (some ⟨kb, 0, none⟩), .pointer (some ⟨ab, 0, none⟩), u 6, .pointer (some ⟨bk, 0, none⟩), .bool true, .int .i64 i, .pointer (some ⟨tb, 0, none⟩), .pointer (some ⟨rb, 0, none⟩), .func (.func 23) #[] #[.pointer (some ⟨rb, 0, none⟩), .pointer (some ⟨tb, 0, none⟩), .pointer (some ⟨ab, 0, none⟩), .pointer (some ⟨kb, 0, none⟩)], .int .i64 (-1), .bool true, .bool false, .tuple #[.agg #[.slice A1 rs.length c1, .slice A2 rs.length c2], .bool true], .slice A l.length c, .tuple #[.agg #[.slice A1 rs.length c1, .slice A2 rs.length c2], .bool true], .agg #[.slice A1 rs.length c1, .slice A2 rs.length c2], .bool true, .bool true, .bool false, .pointer (some ⟨bk, 0, none⟩), .slice A1 rs.length c1, .int .i64 rs.length, .int .i64 (((i + 1 : Nat) : Int)), .bool true, .int .i64 i, .pointer (some ⟨bk, 1, none⟩), .slice A2 rs.length c2, .int .i64 i, .pointer (some ⟨gs, gt + i, none⟩), .string (bs t), .func (.func 23) #[] #[.pointer (some ⟨rb, 0, none⟩), .pointer (some ⟨tb, 0, none⟩), .pointer (some ⟨ab, 0, none⟩), .pointer (some ⟨kb, 0, none⟩)], .pointer (some ⟨bk, 0, none⟩), .slice A1 rs.length c1, .int .i64 i, .pointer (some ⟨gb, go' + i, none⟩), .pointer (some ⟨b, 0, none⟩), .func (.func 23) #[] #[.pointer (some ⟨rb, 0, none⟩), .pointer (some ⟨tb, 0, none⟩), .pointer (some ⟨ab, 0, none⟩), .pointer (some ⟨kb, 0, none⟩)], .int .i64 (-1), .bool true, .bool false, .bool false, .int .i64 (-1), .bool false, .bool false, .bool false, .int .i64 (-1), .string (bs t), .int .i64 t.length, .bool false, .bool false, .bool false, .int .i64 (-1), .bool false, .bool false, undef, undef, undef, undef, undef, undef, undef, undef, .bool false, .bool false, .pointer (some ⟨bk, 0, none⟩), .slice A1 rs.length c1, .int .i64 i, .pointer (some ⟨gb, go' + i, none⟩), .pointer (some ⟨b, 0, none⟩), .int .i64 (-1), .bool false, .int .i64 (((i + 1 : Nat) : Int))]).getD gj undef, i + 1, rfl, rfl, by omega, by assumption, by assumption, by assumption, by assumption, by assumption, by assumption⟩
   ·refine ⟨_, rfl, ?_⟩
    replace hB := hB.mid hM28 (by omega)
    replace hP := hP.mid hM28 (by omega)
    replace hbk := hbk.mid hM28 (by omega)
    have hz28 := (hM28).size
    try simp only [pp]
    refine tk 13 (.int .i64 q.length) ?_
    simp only [pp]
    refine rl_end hgo <| hKK27 _ _ <| wp_seq_k fun KK33 hKK33 => wp_seq_k fun KK34 hKK34 => rl_begin fun hgK hgo => ?_
    have hql : q.length ≤ t.length := by have := congrArg List.length hqt; rw [List.length_take] at this; omega
    refine tx 42 (.bool true) (by exact ld 4 rb 0 (hJ.1.cell 0)) <| tk 43 (.bool false) <| tk 44 (.bool false) <| tk 45 (.int .i64 q.length) ?_
    simp only [pp]
    refine tx 46 (.bool false) (by exact ebf (c := (q.length : Int) < (-1)) (by omega)) <| tk 47 (.bool false) <| tk 48 (.bool false) <| tk 49 (.int .i64 q.length) ?_
    simp only [pp]
    refine tx 50 (.string (bs t)) (by exact ld 9 tb 0 (hJ.2.1.cell 0)) ?_
    simp only [pp]
    refine tx 51 (.int .i64 t.length) (by exact ex_len_bs (by kernel_rfl)) ?_
    simp only [pp]
    refine tx 52 (.bool false) (by exact ebf (c := (q.length : Int) > t.length) (by omega)) <| tk 53 (.bool false) <| tk 54 (.bool false) <| tk 55 (.int .i64 q.length) ?_
    simp only [pp]
    refine tx 56 (.bool true) (by exact ebt (c := (q.length : Int) ≥ 0) (by omega)) <| tk 57 (.bool true) <| tk 58 (.func (.func 23) #[] #[.pointer (some ⟨rb, 0, none⟩), .pointer (some ⟨tb, 0, none⟩), .pointer (some ⟨ab, 0, none⟩), .pointer (some ⟨kb, 0, none⟩)]) ?_
    simp only [pp]
    refine tx 59 (.string (bs t)) (by exact ld 9 tb 0 (hJ.2.1.cell 0)) <| tk 60 (.int .i64 q.length) ?_
    simp only [pp]
    refine tx 61 (.string (bs (t.take q.length))) (by exact ex_str_take t q.length rfl rfl rfl (by kernel_rfl) hql (by omega) _) ?_
    simp only [pp]
    refine rl_new (some 62) rfl (by kernel_rfl) (ex_conv_ownD _ rfl (t.take q.length) rfl _) ?_
    rintro v35 w35 ⟨hL35, A7, c7, rfl, hbS, hl7⟩
    have hz35 := hL35.size
    (replace hJ := hJ.later hL35)
    try simp only [pp]
    refine rl_call (some 63) 24 #[.slice A7 (t.take q.length).length c7] rfl (by kernel_rfl) (by kernel_rfl) (Of_ref A7 c7 (t.take q.length) _ hbS hl7 (by rw [hqt]; omega)) ?_
    rintro e w36 ⟨rfl, hL36⟩
    refine ⟨_, rfl, ?_⟩
    have hz36 := hL36.size
    (replace hJ := hJ.later hL36)
    clear hbS
    try simp only [pp]
    refine rl_call (some 64) 23 #[.agg #[.int .i64 (t.take q.length).length, .int .i64 (runesN (t.take q.length)), .int .i64 (unitsN (t.take q.length)), .int .i64 (endsN (t.take q.length)), .string (bs (headOf (t.take q.length))), .string (bs (tailOf (t.take q.length)))], .pointer (some ⟨rb, 0, none⟩), .pointer (some ⟨tb, 0, none⟩), .pointer (some ⟨ab, 0, none⟩), .pointer (some ⟨kb, 0, none⟩)] rfl (by kernel_rfl) (by kernel_rfl) (ask_true q t asked k rb tb ab kb _ hJ (by omega) (by omega) (by omega) (by omega) hqt htl hqp) ?_
    replace hB := (hB.later hL35).later hL36
    replace hP := (hP.later hL35).later hL36
    replace hbk := (hbk.later hL35).later hL36
    rintro e w37 (⟨rfl, hM37, hJ⟩)
    ·refine ⟨_, rfl, ?_⟩
     replace hB := hB.mid hM37 (by omega)
     replace hP := hP.mid hM37 (by omega)
     replace hbk := hbk.mid hM37 (by omega)
     have hz37 := (hM37).size
     try simp only [pp]
     refine tk 65 (.bool false) <| tk 66 (.bool false) <| tk 67 (.bool false) ?_
     simp only [pp]
     refine rl_end hgo <| hKK34 _ _ <| wp_cond_false (by kernel_rfl) <| wp_skip <| hKK33 _ _ <| wp_seq_k fun KK38 hKK38 => rl_begin fun hgK hgo => ?_
     (obtain ⟨hrb, htb, hab, hkb, hT⟩ := hJ)
     refine tk 68 (.pointer (some ⟨bk, 0, none⟩)) ?_
     simp only [pp]
     refine tx 69 (.slice A1 rs.length c1) (by exact ld 24 bk 0 (hbk.cell 0)) <| tk 70 (.int .i64 i) ?_
     simp only [pp]
     refine tx 71 (.pointer (some ⟨gb, go' + i, none⟩)) (by exact ex_indexA i rfl rfl he1 rfl (by kernel_rfl) (fun _ => by kernel_rfl) (by omega) _) ?_
     simp only [pp]
     refine tx 72 (.pointer (some ⟨b, 0, none⟩)) (by exact ld1 31 _ rfl gb (go' + i) rfl (fun _ => by kernel_rfl) _ (hP.pc he1 (ptrs_at hbt))) ?_
     simp only [pp]
     refine rl_call (some 73) 21 #[.pointer (some ⟨b, 0, none⟩), .nilFunc] rfl (by kernel_rfl) (by kernel_rfl) (firstNone b _) ?_
     rintro e w39 ⟨rfl, hL39⟩
     refine ⟨_, rfl, ?_⟩
     have hz39 := hL39.size
     (replace hT := hT.later hL39); (replace hab := hab.later hL39); (replace hkb := hkb.later hL39)
     try simp only [pp]
     refine tx 74 (.bool false) (by exact nef (x := -1) (y := -1) (by omega)) ?_
     simp only [pp]
     refine rl_end hgo <| hKK38 _ _ <| wp_cond_false (by kernel_rfl) <| wp_skip <| hKK18 _ _ <| rl_begin fun hgK hgo => ?_
     refine tx 75 (.int .i64 (((i + 1 : Nat) : Int))) (by exact ex_arith (e := (i : Int) + 1) (r := ((i + 1 : Nat) : Int)) (by kernel_rfl) (by omega) (by omega)) <| tk 26 (.int .i64 (((i + 1 : Nat) : Int))) ?_
     simp only [pp]
     refine rl_end hgo ?_
     replace hB := hB.later hL39
     replace hP := hP.later hL39
     replace hbk := hbk.later hL39
     exact ⟨_, (by omega), fun gj => (#[.slice A l.length c, .int .i64 k, .int .i64 asked, undef, .pointer (some ⟨kb, 0, none⟩), .pointer (some ⟨ab, 0, none⟩), u 6, .pointer (some ⟨bk, 0, none⟩), .bool true, .int .i64 i, .pointer (some ⟨tb, 0, none⟩), .pointer (some ⟨rb, 0, none⟩), .func (.func 23) #[] #[.pointer (some ⟨rb, 0, none⟩), .pointer (some ⟨tb, 0, none⟩), .pointer (some ⟨ab, 0, none⟩), .pointer (some ⟨kb, 0, none⟩)], .int .i64 q.length, .bool true, .bool false, .tuple #[.agg #[.slice A1 rs.length c1, .slice A2 rs.length c2], .bool true], .slice A l.length c, .tuple #[.agg #[.slice A1 rs.length c1, .slice A2 rs.length c2], .bool true], .agg #[.slice A1 rs.length c1, .slice A2 rs.length c2], .bool true, .bool true, .bool false, .pointer (some ⟨bk, 0, none⟩), .slice A1 rs.length c1, .int .i64 rs.length, .int .i64 (((i + 1 : Nat) : Int)), .bool true, .int .i64 i, .pointer (some ⟨bk, 1, none⟩), .slice A2 rs.length c2, .int .i64 i, .pointer (some ⟨gs, gt + i, none⟩), .string (bs t), .func (.func 23) #[] #[.pointer (some ⟨rb, 0, none⟩), .pointer (some ⟨tb, 0, none⟩), .pointer (some ⟨ab, 0, none⟩), .pointer (some ⟨kb, 0, none⟩)], .pointer (some ⟨bk, 0, none⟩), .slice A1 rs.length c1, .int .i64 i, .pointer (some ⟨gb, go' + i, none⟩), .pointer (some ⟨b, 0, none⟩), .func (.func 23) #[] #[.pointer (some ⟨rb, 0, none⟩), .pointer (some ⟨tb, 0, none⟩), .pointer (some ⟨ab, 0, none⟩), .pointer (some ⟨kb, 0, none⟩)], .int .i64 q.length, .bool true, .bool false, .bool false, .int .i64 q.length, .bool false, .bool false, .bool false, .int .i64 q.length, .string (bs t), .int .i64 t.length, .bool false, .bool false, .bool false, .int .i64 q.length, .bool true, .bool true, .func (.func 23) #[] #[.pointer (some ⟨rb, 0, none⟩), .pointer (some ⟨tb, 0, none⟩), .pointer (some ⟨ab, 0, none⟩), .pointer (some ⟨kb, 0, none⟩)], .string (bs t), .int .i64 q.length, .string (bs (t.take q.length)), .slice A7 (t.take q.length).length c7, .agg #[.int .i64 (t.take q.length).length, .int .i64 (runesN (t.take q.length)), .int .i64 (unitsN (t.take q.length)), .int .i64 (endsN (t.take q.length)), .string (bs (headOf (t.take q.length))), .string (bs (tailOf (t.take q.length)))], .bool true, .bool false, .bool false, .bool false, .pointer (some ⟨bk, 0, none⟩), .slice A1 rs.length c1, .int .i64 i, .pointer (some ⟨gb, go' + i, none⟩), .pointer (some ⟨b, 0, none⟩), .int .i64 (-1), .bool false, .int .i64 (((i + 1 : Nat) : Int))]).getD gj undef, i + 1, rfl, rfl, by omega, by assumption, by assumption, by assumption, by assumption, by assumption, by assumption⟩
  ·refine tx 27 (.bool false) (by exact ebf (c := (i : Int) < rs.length) (by omega)) ?_
   simp only [pp]
   refine rl_end hgo <| hKK16 _ _ <| wp_seq_k fun KK40 hKK40 => wp_cond_false (by kernel_rfl) <| wp_exit <| hKK13 _ _ <| wp_seq_k fun KK41 hKK41 => rl_begin fun hgK hgo => tk 6 (.bool true) ?_
   simp only [pp]
   refine rl_end hgo <| hKK41 _ _ ?_
   refine wp_ret ?_
   try simp only [Exit.then, Exit.inBlock]
   refine bp_ret (v := .bool true) (res1 rfl (res_tmp (by kernel_rfl))) ?_
   exact ⟨rfl, hB⟩
end Go.Proofs.YtliphfgiaioebaaDoor
namespace Go.Proofs.YtliphfgiaioebaaDoor
set_option linter.unusedVariables false
set_option linter.unusedSimpArgs false
open Go.ChangeShapes Go.WideShapes Go.ChangeAt Go.RowKit Go.Deep
theorem chunks (k : Nat) : ∀ (n : Nat) (cs : List Value) (T : Nat → List Value), cs.length = n * k → (∀ i, i < n → (cs.drop (i * k)).take k = T i) → cs = (List.range n).flatMap T
  | 0, cs, T, h, _ => by simp at h; simp [h]
  | n + 1, cs, T, h, hT => by
    rw [List.range_succ_eq_map, List.flatMap_cons, List.flatMap_map]
    have h0 := hT 0 (by omega)
    simp only [Nat.zero_mul, List.drop_zero] at h0
    have ih := chunks k n (cs.drop k) (fun i => T (i + 1)) (by rw [List.length_drop, h, Nat.add_mul]; omega) fun i hi => by
      have := hT (i + 1) (by omega)
      rw [List.drop_drop, show k + i * k = (i + 1) * k by rw [Nat.add_mul]; omega]
      exact this
    conv => lhs; rw [← List.take_append_drop k cs, h0, ih]
theorem three {cs : List Value} (h : cs.length = 3) : ∃ x y z, cs = [x, y, z] := by
  match cs, h with
  | [x, y, z], _ => exact ⟨x, y, z, rfl⟩
section
variable {H : Type} {enc : TypeId × Value → H} {W : World} {base : Nat} {sp : Nat → Bool} {held : Bool} {fuel : Nat} {cs : List Value} {p : List MemPlace}
theorem span_cells {a b c : Int} (h : DataW.trod enc Tryd.prog W base sp held fuel 201 cs = some (.agg [.lit (.int .i64 a), .lit (.int .i64 b), .lit (.int .i64 c)], p)) : cs = [.int .i64 a, .int .i64 b, .int .i64 c] := by
  obtain ⟨y0, y1, y2, n, hx, hl, h0, h1, h2⟩ := trod_struct3 (show Tryd.prog.underlying 201 = some (.struct #[_, _, _]) from Tryd.underlying201) h
  obtain ⟨z0, c0, e0, -⟩ := DataW.trod_int (k := .i64) (by kernel_rfl) h0
  obtain ⟨z1, c1, e1, -⟩ := DataW.trod_int (k := .i64) (by kernel_rfl) h1
  obtain ⟨z2, c2, e2, -⟩ := DataW.trod_int (k := .i64) (by kernel_rfl) h2
  subst e0 e1 e2
  simp only [Prod.mk.injEq, DataW.agg.injEq, List.cons.injEq, DataW.lit.injEq, Lit.int.injEq, true_and, and_true] at hx
  obtain ⟨⟨rfl, rfl, rfl⟩, -⟩ := hx
  rw [show Tryd.prog.cellsOf 201 = 3 by kernel_rfl] at hl
  clear h h0 h1 h2
  obtain ⟨x, y, z, rfl⟩ := three hl
  rw [show Tryd.prog.cellsOf 3 = 1 by kernel_rfl] at c0 c1
  rw [show Tryd.prog.cellsOf 196 = 1 by kernel_rfl] at c2
  simp at c0 c1 c2
  rw [c0, c1, c2]
theorem step_cells {a b : Int} {c : Bool} (h : DataW.trod enc Tryd.prog W base sp held fuel 158 cs = some (.agg [.lit (.int .i32 a), .lit (.int .i64 b), .lit (.bool c)], p)) : cs = [.int .i32 a, .int .i64 b, .bool c] := by
  obtain ⟨y0, y1, y2, n, hx, hl, h0, h1, h2⟩ := trod_struct3 (show Tryd.prog.underlying 158 = some (.struct #[_, _, _]) from Tryd.underlying158) h
  obtain ⟨z0, c0, e0, -⟩ := DataW.trod_int (k := .i32) (by kernel_rfl) h0
  obtain ⟨z1, c1, e1, -⟩ := DataW.trod_int (k := .i64) (by kernel_rfl) h1
  obtain ⟨z2, c2, e2⟩ := DataW.trod_bool (by kernel_rfl) h2
  subst e0 e1 e2
  simp only [Prod.mk.injEq, DataW.agg.injEq, List.cons.injEq, DataW.lit.injEq, Lit.int.injEq, Lit.bool.injEq, true_and, and_true] at hx
  obtain ⟨⟨rfl, rfl, rfl⟩, -⟩ := hx
  rw [show Tryd.prog.cellsOf 158 = 3 by kernel_rfl] at hl
  clear h h0 h1 h2
  obtain ⟨x, y, z, rfl⟩ := three hl
  rw [show Tryd.prog.cellsOf 21 = 1 by kernel_rfl] at c0
  rw [show Tryd.prog.cellsOf 3 = 1 by kernel_rfl] at c1
  rw [show Tryd.prog.cellsOf 4 = 1 by kernel_rfl] at c2
  simp at c0 c1 c2
  rw [c0, c1, c2]
theorem spans_cells {T : List (Int × Int × Int)} (hT : T.length = 7) (h : DataW.trod enc Tryd.prog W base sp held fuel 202 cs = some (.agg (T.map fun x => .agg [.lit (.int .i64 x.1), .lit (.int .i64 x.2.1), .lit (.int .i64 x.2.2)]), p)) :
    cs = (List.range 7).flatMap fun i => (match T[i]? with | some x => [.int .i64 x.1, .int .i64 x.2.1, .int .i64 x.2.2] | none => []) := by
  obtain ⟨xs, m, -, hx, hl, hlen, hi⟩ := DataW.trod_array Tryd.underlying202 h
  rw [show Tryd.prog.cellsOf 202 = 7 * 3 by kernel_rfl] at hl
  simp only [show Tryd.prog.cellsOf 201 = 3 by kernel_rfl] at hi
  simp only [Prod.mk.injEq, DataW.agg.injEq] at hx
  refine chunks 3 7 cs _ hl fun i hi7 => ?_
  have h1 := hi i hi7
  have h2 := congrArg (·[i]?) hx.1
  simp only [List.getElem?_map] at h2
  rw [List.getElem?_eq_getElem (by omega : i < T.length), List.getElem?_eq_getElem (by omega : i < xs.length)] at h2
  rw [List.getElem?_eq_getElem (by omega : i < xs.length)] at h1
  rw [List.getElem?_eq_getElem (by omega : i < T.length)]
  simp only [Option.map_some, Option.some.injEq] at h2
  refine span_cells (p := xs[i].2) (h1.trans ?_)
  rw [h2]
end
theorem tabs_laid {W : World} (h : laidMetH Tryd.prog Rows.ropeNilUptoRow.laid W) : Tabs W := by
  have h' : laidMet Tryd.prog [("galley/octet.spans", Rows.laid_galley_octet_spans), ("galley/octet.needs", Rows.laid_galley_octet_needs), ("galley/octet.masks", Rows.laid_galley_octet_masks), ("galley/step.bad", Rows.laid_galley_step_bad)] W := h
  obtain ⟨ps, ⟨g1, t1, cs1, f1, p1, q1, hg1, ht1, hv1, hd1, ⟨g2, t2, cs2, f2, p2, q2, hg2, ht2, hv2, hd2, ⟨g3, t3, cs3, f3, p3, q3, hg3, ht3, hv3, hd3, ⟨g4, t4, cs4, f4, p4, q4, hg4, ht4, hv4, hd4, -, -⟩, -⟩, -⟩, -⟩, -⟩ := h'
  obtain rfl := Option.some.inj ((show Tryd.prog.globalNamed "galley/octet.spans" = some 3 by kernel_rfl).symm.trans hg1)
  obtain rfl := Option.some.inj ((show Tryd.prog.globalNamed "galley/octet.needs" = some 2 by kernel_rfl).symm.trans hg2)
  obtain rfl := Option.some.inj ((show Tryd.prog.globalNamed "galley/octet.masks" = some 0 by kernel_rfl).symm.trans hg3)
  obtain rfl := Option.some.inj ((show Tryd.prog.globalNamed "galley/step.bad" = some 1 by kernel_rfl).symm.trans hg4)
  obtain rfl := Option.some.inj ((show (Tryd.prog.globals[3]?).map (·.type) = some 202 by kernel_rfl).symm.trans ht1)
  obtain rfl := Option.some.inj ((show (Tryd.prog.globals[2]?).map (·.type) = some 199 by kernel_rfl).symm.trans ht2)
  obtain rfl := Option.some.inj ((show (Tryd.prog.globals[0]?).map (·.type) = some 192 by kernel_rfl).symm.trans ht3)
  obtain rfl := Option.some.inj ((show (Tryd.prog.globals[1]?).map (·.type) = some 158 by kernel_rfl).symm.trans ht4)
  have e1 : cs1.toList = spanCells := spans_cells (T := [(0, 127, 1), (128, 191, 2), (192, 193, 6), (194, 223, 3), (224, 239, 4), (240, 244, 5), (245, 255, 6)]) rfl hd1
  have e2 : cs2.toList = needCells := Lib.cells_of_tab (k := .i64) (zs := [0, 1, 0, 2, 3, 4, 0]) Tryd.underlying199 Tryd.underlying3 (by kernel_rfl) (by kernel_rfl) hd2
  have e3 : cs3.toList = maskCells := Lib.cells_of_tab (k := .u8) (zs := [0, 127, 31, 15, 7]) Tryd.underlying192 Tryd.underlying5 (by kernel_rfl) (by kernel_rfl) hd3
  have e4 : cs4.toList = badCells := step_cells hd4
  have key : ∀ {n : String} {g : Nat} {cs : Array Value} {l : List Value}, Tryd.prog.globalNamed n = some g → W.var? Tryd.prog n = some cs → cs.toList = l → ∀ i v, l[i]? = some v → W.cell? ⟨g, i, none⟩ = some v := fun hg hv e i v hi => by
    rw [World.var?_cell hg hv i, ← Array.getElem?_toList, e]; exact hi
  exact ⟨key hg1 hv1 e1, key hg2 hv2 e2, key hg3 hv3 e3, key hg4 hv4 e4⟩
end Go.Proofs.YtliphfgiaioebaaDoor
namespace Go.Proofs.YtliphfgiaioebaaDoor
set_option linter.unusedVariables false
set_option linter.unusedSimpArgs false
open Go.ChangeShapes Go.WideShapes Go.ChangeAt Go.RowKit Go.Deep
set_option maxRecDepth 100000
namespace glue
theorem one_le {H : Type} (d : DataW H) : 1 ≤ Rows.uptoBulk d := by
  cases d with
  | lit l => cases l <;> simp [Rows.uptoBulk]
  | nil => simp [Rows.uptoBulk]
  | ptr d => simp [Rows.uptoBulk]
  | slice elems spare => simp [Rows.uptoBulk]
  | agg parts => simp [Rows.uptoBulk]
  | iface t d => simp [Rows.uptoBulk]
  | map entries => simp [Rows.uptoBulk]
  | held h => simp [Rows.uptoBulk]
theorem length_le {H : Type} (l : List (DataW H)) : l.length ≤ Rows.uptoBulkAll l := by
  induction l with
  | nil => simp [Rows.uptoBulkAll]
  | cons x r ih => have := one_le x; simp only [Rows.uptoBulkAll, List.length_cons]; omega
theorem mem_le {H : Type} {l : List (DataW H)} {d : DataW H} (h : d ∈ l) : Rows.uptoBulk d ≤ Rows.uptoBulkAll l := by
  induction l with
  | nil => cases h
  | cons x r ih =>
    simp only [Rows.uptoBulkAll]
    rcases List.mem_cons.1 h with rfl | h
    · omega
    · have := ih h; omega
theorem slice_le {H : Type} (elems spare : List (DataW H)) : elems.length + spare.length + 1 ≤ Rows.uptoBulk (.slice elems spare) := by
  have h1 := length_le elems
  have h2 := length_le spare
  simp only [Rows.uptoBulk]
  omega
def setG (h : Array Obj) (g : Nat) (cs : List Value) : Array Obj := h.modify g fun
  | .cells _ t frozen => .cells cs.toArray t frozen
  | o => o
/-- a world that holds the four laid variables -/
noncomputable def laidWorld (os : Os) : World :=
  { World.holding Tryd.prog os ⟨#[], #[], []⟩ with heap := setG (setG (setG (setG (World.holding Tryd.prog os ⟨#[], #[], []⟩).heap 3 spanCells) 2 needCells) 0 maskCells) 1 badCells }
theorem own : ownKnob Tryd.prog.godebug = none := by kernel_rfl
theorem laidOut : laidOutB Tryd.prog = true := by kernel_rfl
section
variable {H : Type} {enc : TypeId × Value → H}
theorem back {W W' : World} (hb : Below W.heap.size W W') : ∀ (ts : List TypeId) (vs : List Value) (ds : List (DataW H)) (p : List MemPlace), DataW.TrodAll enc Tryd.prog W 0 (fun _ => true) true ts vs ds p →
    (∀ t ∈ ts, Tryd.prog.readableRec t = true ∧ t < Tryd.prog.types.size) → (∀ x ∈ p, x.block < W.heap.size) → DataW.TrodAll enc Tryd.prog W' 0 (fun b => decide (b < W.heap.size)) true ts vs ds p
  | [], [], [], p, h, _, _ => h
  | t :: ts, v :: vs, d :: ds, p, ⟨p1, p2, h1, h2, e⟩, ht, hp =>
    ⟨p1, p2, Below.trod laidOut (ht t (by simp)).1 (ht t (by simp)).2 h1 hb (fun x hx => hp x (by rw [e]; simp [hx])), back hb ts vs ds p2 h2 (fun t h => ht t (by simp [h])) (fun x hx => hp x (by rw [e]; simp [hx])), e⟩
  | [], _ :: _, _, _, h, _, _ => by cases h
  | [], [], _ :: _, _, h, _, _ => by cases h
  | _ :: _, [], _, _, h, _, _ => by cases h
  | _ :: _, _ :: _, [], _, h, _, _ => by cases h
/-- a slice of bytes that came in -/
theorem open_bytes0 {W : World} {a1 : Value} {fuel : Nat} {x : DataW H × List MemPlace} (hf : DataW.trod enc Tryd.prog W 0 (fun _ => true) true fuel 41 [a1] = some x) :
    ∃ (A : Option Addr) (c : Nat) (l : List UInt8), a1 = .slice A l.length c ∧ BytesAt W A l ∧ l.length ≤ c ∧ (A = none → c = 0) ∧ l.length ≤ Rows.uptoBulk x.1 := by
  rcases open_ints Tryd.underlying41 Tryd.underlying5 (by kernel_rfl) hf with ⟨hcs, hx⟩ | ⟨a, len', cap', zs, hcs, _, hl, hm, hz, hx, hcell, hwz⟩
  · simp only [List.cons.injEq, and_true] at hcs
    subst hcs
    exact ⟨none, 0, [], rfl, BytesAt.nil _ _, Nat.le_refl _, fun _ => rfl, Nat.zero_le _⟩
  · simp only [List.cons.injEq, and_true] at hcs
    subst hcs hx
    simp only [if_true] at hz
    have hlen : ((zs.take len').map fun n => UInt8.ofNat n.toNat).length = len' := by simp; omega
    refine ⟨some a, cap', (zs.take len').map fun n => UInt8.ofNat n.toNat, by rw [hlen], fun h0 => ?_, by rw [hlen]; exact hl, (fun e => by cases e), ?_⟩
    · rw [hlen] at h0
      obtain ⟨ab, ao, spot⟩ := a
      have hspot : spot = none := by simpa [Addr.add] using World.cell?_spot (hcell 0 (by omega))
      subst hspot
      refine ⟨ab, ao, rfl, fun i hi => ?_⟩
      rw [hlen] at hi
      have hc := hcell i (by omega)
      rw [Addr.add_lit] at hc
      rw [hc]
      have hb := range_u8 hwz i
      have e : zs[i]? = some (zs[i]'(by omega)) := List.getElem?_eq_getElem (by omega)
      have hg : gb ((zs.take len').map fun n => UInt8.ofNat n.toNat) i = zs.getD i 0 := by
        unfold gb
        rw [List.getD_eq_getElem?_getD, List.getElem?_map, List.getElem?_take, if_pos hi, e, List.getD_eq_getElem?_getD, e]
        rw [e] at hb
        simp only [Option.map_some, Option.getD_some, UInt8.toNat_ofNat'] at hb ⊢
        omega
      rw [hg]
    · rw [hlen]
      have := slice_le (lits (H := H) .u8 (zs.take len')) (lits .u8 (zs.drop len'))
      have h1 : (lits (H := H) .u8 (zs.take len')).length = len' := by simp [lits]; omega
      simp only
      omega
theorem open_bytes {W : World} {base : Nat} {v : Value} {d : DataW H} {p : List MemPlace} (hval : Value.okWide Tryd.prog W .any base 41 v) (h : DataW.Trod enc Tryd.prog W 0 (fun _ => true) true 41 v d p) :
    ∃ (A : Option Addr) (c : Nat) (l : List UInt8), v = .slice A l.length c ∧ BytesAt W A l ∧ l.length ≤ c ∧ (A = none → c = 0) ∧ l.length ≤ Rows.uptoBulk d := by
  obtain ⟨a1, len, cap, rfl⟩ := okWide_slice Tryd.underlying41 hval
  obtain ⟨fuel, hf⟩ := h
  exact open_bytes0 (x := (d, p)) (hf : DataW.trod enc Tryd.prog W 0 (fun _ => true) true fuel 41 [.slice a1 len cap] = some (d, p))
theorem list_of {α : Type} {P : Nat → α → Prop} : ∀ n : Nat, (∀ i, i < n → ∃ x, P i x) → ∃ l : List α, l.length = n ∧ ∀ i x, l[i]? = some x → P i x
  | 0, _ => ⟨[], rfl, fun i x h => by simp at h⟩
  | n + 1, h => by
    obtain ⟨l, h1, h2⟩ := list_of n fun i hi => h i (by omega)
    obtain ⟨x, hx⟩ := h n (by omega)
    refine ⟨l ++ [x], by simp [h1], fun i y hy => ?_⟩
    rcases Nat.lt_or_ge i l.length with hi | hi
    · rw [List.getElem?_append_left hi] at hy; exact h2 i y hy
    · rw [List.getElem?_append_right hi] at hy
      have : i - l.length = 0 := by
        have := (List.getElem?_eq_some_iff.1 hy).1; simp at this; omega
      rw [this] at hy; simp at hy; subst hy
      rwa [show i = n by omega]
theorem open_slice_fields {P : Program} {w : World} {base : Nat} {spare : Nat → Bool} {held : Bool} {t e : TypeId} {fs : Array Field} {fuel : Nat} {cs : List Value} {x : DataW H × List MemPlace} (ht : P.underlying t = some (.slice e)) (he : P.underlying e = some (.struct fs))
    (hone : oneCellFields P fs = true) (hC : P.cellsOf e = fs.size) (h : DataW.trod enc P w base spare held fuel t cs = some x) :
    (cs = [.slice none 0 0] ∧ x = (.nil, [])) ∨
    ∃ (a : Addr) (len cap m : Nat) (D : Nat → DataW H) (Pl : Nat → List MemPlace), cs = [.slice (some a) len cap] ∧ base ≤ a.block ∧ len ≤ cap ∧ cap ≤ maxLen ∧ m = (if spare a.block then cap else len) ∧
      x = (.slice ((List.range len).map D) ((List.range (m - len)).map fun j => D (len + j)), MemPlace.row a (m * fs.size) ++ (List.range m).flatMap Pl) ∧
      ∀ i, i < m → ∃ (ys : List (DataW H × List MemPlace)) (n : Nat), D i = .agg (ys.map (·.1)) ∧ Pl i = ys.flatMap (·.2) ∧ ys.length = fs.size ∧
        ∀ (j : Nat) (f : Field), fs[j]? = some f → ∃ (v : Value) (y : DataW H × List MemPlace), w.cell? (a.add (i * fs.size + j)) = some v ∧ ys[j]? = some y ∧ DataW.trod enc P w base spare held n f.type [v] = some y := by
  rcases open_slice ht h with h0 | ⟨a, len, cap, m, n, D, Pl, hcs, hb, hl, hm, hmm, hx, hi⟩
  · exact .inl h0
  · refine .inr ⟨a, len, cap, m, D, Pl, hcs, hb, hl, hm, hmm, by rw [hC] at hx; exact hx, fun i him => ?_⟩
    obtain ⟨cs', hc, ht'⟩ := hi i him
    rw [hC] at hc
    obtain ⟨ys, n', hn', hy, hlen, hyl, hf⟩ := DataW.trod_struct he ht'
    obtain ⟨_, hcl, hat⟩ := World.cells?_some hc
    simp only [Prod.mk.injEq] at hy
    refine ⟨ys, n', hy.1, hy.2, hyl, fun j f hj => ?_⟩
    obtain ⟨ho, hk⟩ := hone_of hone j f hj
    have hjl : j < fs.size := (Array.getElem?_eq_some_iff.1 hj).1
    have hcell := hat j hjl
    have hv : cs'[j]? = some (cs'[j]'(by omega)) := List.getElem?_eq_getElem (by omega)
    have h1 := hf j f hj
    rw [ho, hk] at h1
    have hone' : (cs'.drop j).take 1 = [cs'[j]'(by omega)] := by
      rw [List.drop_eq_getElem_cons (by omega)]
      rfl
    rw [hone'] at h1
    have hys : ys[j]? = some (ys[j]'(by omega)) := List.getElem?_eq_getElem (by omega)
    refine ⟨_, _, ?_, hys, h1.trans hys⟩
    rw [← Go.Deep.add_add, hcell, hv]
/-- acts that came in -/
theorem open_acts {W : World} {base : Nat} {v : Value} {d : DataW H} {p : List MemPlace} (hval : Value.okWide Tryd.prog W .any base 22 v) (h : DataW.Trod enc Tryd.prog W 0 (fun _ => true) true 22 v d p) (hk : Rows.uptoBulk d ≤ 1048576) :
    ∃ (A : Option Addr) (c : Nat) (l : List ActD), v = .slice A l.length c ∧ ActsAt W.heap.size W A l ∧ l.length ≤ c ∧ l.length ≤ 1100000 := by
  obtain ⟨a1, len, cap, rfl⟩ := okWide_slice Tryd.underlying22 hval
  obtain ⟨fuel, hf⟩ := h
  rcases open_slice_fields Tryd.underlying22 Tryd.underlying105 (by kernel_rfl) (by kernel_rfl) hf with ⟨hcs, hx⟩ | ⟨a, len', cap', m, D, Pl, hcs, _, hl, _, hm, hx, hi⟩
  · simp [Value.cells] at hcs
    obtain ⟨rfl, rfl, rfl⟩ := hcs
    exact ⟨none, 0, [], rfl, ⟨Nat.le_refl _, by simp, fun h => absurd h (by simp)⟩, Nat.le_refl _, Nat.zero_le _⟩
  · simp [Value.cells] at hcs
    obtain ⟨rfl, rfl, rfl⟩ := hcs
    simp only [Prod.mk.injEq] at hx
    obtain ⟨rfl, rfl⟩ := hx
    simp only [if_true] at hm
    have hbulk := slice_le ((List.range len).map D) ((List.range (m - len)).map fun j => D (len + j))
    simp only [List.length_map, List.length_range] at hbulk
    have hall : Rows.uptoBulkAll ((List.range len).map D) ≤ 1048576 := by simp only [Rows.uptoBulk] at hk; omega
    have key : ∀ i, i < len → ∃ x : ActD, x.ok W.heap.size W ∧ ∀ j v, x.v[j]? = some v → W.cell? (a.add (i * 6 + j)) = some v := fun i hil => by
      obtain ⟨ys, n, hD, -, hyl, hj⟩ := hi i (by omega)
      obtain ⟨v0, y0, k0, g0, t0⟩ := hj 0 _ rfl
      obtain ⟨v1, y1, k1, g1, t1⟩ := hj 1 _ rfl
      obtain ⟨v2, y2, k2, g2, t2⟩ := hj 2 _ rfl
      obtain ⟨v3, y3, k3, g3, t3⟩ := hj 3 _ rfl
      obtain ⟨v4, y4, k4, g4, t4⟩ := hj 4 _ rfl
      obtain ⟨v5, y5, k5, g5, t5⟩ := hj 5 _ rfl
      obtain ⟨z0, e0, -⟩ := DataW.trod_int (k := .i64) Tryd.underlying3 t0
      obtain ⟨z1, e1, -⟩ := DataW.trod_int (k := .i64) Tryd.underlying3 t1
      obtain ⟨z2, e2, -⟩ := DataW.trod_int (k := .i64) Tryd.underlying3 t2
      obtain ⟨z3, e3, -⟩ := DataW.trod_int (k := .i64) Tryd.underlying3 t3
      obtain ⟨z4, e4, -⟩ := DataW.trod_int (k := .i64) Tryd.underlying3 t4
      simp only [List.cons.injEq, and_true] at e0 e1 e2 e3 e4
      obtain ⟨A, c, l, rfl, hb, hc, hn, hu⟩ := open_bytes0 t5
      have hle : Rows.uptoBulk y5.1 ≤ 1048576 := by
        have h1 : y5.1 ∈ ys.map (·.1) := List.mem_map.2 ⟨y5, List.mem_of_getElem? g5, rfl⟩
        have h2 := mem_le h1
        have h3 : D i ∈ (List.range len).map D := List.mem_map.2 ⟨i, List.mem_range.2 hil, rfl⟩
        have h4 := mem_le h3
        rw [hD] at h4
        simp only [Rows.uptoBulk] at h4
        omega
      refine ⟨⟨z0, z1, z2, z3, z4, A, c, l⟩, ⟨hb.n, hc, hn, by show l.length ≤ 2000000; omega⟩, fun j v hv => ?_⟩
      subst e0 e1 e2 e3 e4
      simp only [ActD.v] at hv
      match j, hv with
      | 0, hv => cases hv; exact k0
      | 1, hv => cases hv; exact k1
      | 2, hv => cases hv; exact k2
      | 3, hv => cases hv; exact k3
      | 4, hv => cases hv; exact k4
      | 5, hv => cases hv; exact k5
      | _ + 6, hv => simp at hv
    obtain ⟨l, rfl, hll⟩ := list_of len key
    refine ⟨some a, cap, l, rfl, ⟨Nat.le_refl _, fun x hx => ?_, fun h0 => ?_⟩, hl, by omega⟩
    · obtain ⟨i, hi'⟩ := List.getElem?_of_mem hx
      exact (hll i x hi').1
    · obtain ⟨x, hx⟩ : ∃ x, l[0]? = some x := ⟨_, List.getElem?_eq_getElem h0⟩
      have hc0 := (hll 0 x hx).2 0 _ rfl
      obtain ⟨ab, ao, spot⟩ := a
      have hspot : spot = none := by simpa [Addr.add] using World.cell?_spot hc0
      subst hspot
      have hlt := World.block_lt_of_cell? W _ hc0
      rw [add_none] at hlt
      refine ⟨ab, ao, rfl, hlt, fun i x j v hx hv => ?_⟩
      have := (hll i x hx).2 j v hv
      rwa [add_none, ← Nat.add_assoc] at this
end
end glue
end Go.Proofs.YtliphfgiaioebaaDoor
namespace Go.Proofs.YtliphfgiaioebaaDoor.ropeAny
set_option linter.unusedVariables false
set_option linter.unusedSimpArgs false
open Go.ChangeShapes Go.WideShapes Go.ChangeAt Go.RowKit Go.Deep Go.Proofs.YtliphfgiaioebaaDoor
set_option maxRecDepth 100000
section
variable {H : Type} {enc : TypeId × Value → H}
theorem contract (W : World) (base : Nat) (args : Array Value) (ds gs : List (DataW H)) (before : List MemPlace)
    (hval : ∀ (j : Nat) t v, Tryd.f5.params[j]? = some t → args[j]? = some v → Value.okWide Tryd.prog W .any base t v)
    (hW : DataW.Whole enc Tryd.prog Tryd.f5.params.toList Rows.ropeAnySpec.vars false W args.toList ds gs before) (hL : laidMetH Tryd.prog Rows.ropeAnyUptoRow.laid W) (hk : Rows.uptoSmall H (ds ++ gs) = true) :
    Calls Tryd.prog 5 args W fun e W' => ∃ v, e = .returned v ∧ Rows.ropeAnySpec.post enc Tryd.prog Tryd.f5 false true false false W args v W' := by
  have hW' := hW
  obtain ⟨p, q, hA0, hV, rfl, hfz, hnd⟩ := hW
  have hlt : ∀ x ∈ p, x.block < W.heap.size := fun x hx => hW'.lt x (List.mem_append_left _ hx)
  have hA : DataW.TrodAll enc Tryd.prog W 0 (fun _ => true) true Tryd.f5.params.toList args.toList ds p := hA0
  rw [Tryd.params5] at hA hval
  obtain ⟨v0, v1, v2, d0, d1, d2, p0, p1, p2, hargs, rfl, rfl, h0, h1, h2⟩ := trodAll_three hA
  obtain rfl : args = #[v0, v1, v2] := by cases args; simp_all
  obtain ⟨rfl, rfl⟩ := trodVars_none hV
  have hsm : Rows.uptoBulkAll [d0, d1, d2] ≤ 1048576 := by simpa [Rows.uptoSmall] using hk
  simp only [Rows.uptoBulkAll] at hsm
  obtain ⟨A0, c0, l0, rfl, hb0, hc0, hm0⟩ := glue.open_acts (hval 0 22 v0 rfl rfl) h0 (by omega)
  obtain ⟨a1, rfl, rfl, -, w1⟩ := open_int Tryd.underlying3 (hval 1 3 v1 rfl rfl) h1
  obtain ⟨a2, rfl, rfl, -, w2⟩ := open_int Tryd.underlying3 (hval 2 3 v2 rfl rfl) h2
  refine (RopeAny_walk A0 c0 l0 a1 a2 W (tabs_laid hL) hb0 hc0 hm0).mono fun e W' ⟨he, hl⟩ => ?_
  subst he
  have ht : ∀ t ∈ Tryd.f5.params.toList, Tryd.prog.readableRec t = true ∧ t < Tryd.prog.types.size := by
    rw [Tryd.params5]
    intro t ht
    simp only [List.mem_cons, List.not_mem_nil, or_false] at ht
    rcases ht with rfl | rfl | rfl
    all_goals exact ⟨by kernel_rfl, of_decide_eq_true (by kernel_rfl)⟩
  exact ⟨_, rfl, _, _, _, _, _, _, hW', trodAll_cons_mk (shut_bool Tryd.underlying4 _) trodAll_mk0, glue.back hl _ _ _ _ hA0 ht hlt, rfl, Below.frame hl _, fun h => by cases h⟩
end
end Go.Proofs.YtliphfgiaioebaaDoor.ropeAny
