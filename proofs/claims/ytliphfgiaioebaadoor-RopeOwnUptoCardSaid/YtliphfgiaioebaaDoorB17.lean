/-
  Law 9: RopeOwn's function.
-/
import Derived.Test.YtliphfgiaioebaaDoorB16
namespace Go.Proofs.YtliphfgiaioebaaDoor
set_option linter.unusedVariables false
set_option linter.unusedSimpArgs false
open Go.RowKit
set_option maxRecDepth 100000
set_option maxHeartbeats 16000000
def RowU (l : List UInt8) (w : World) (e : Ending) (w' : World) : Prop := ∃ A c n m, e = .returned (.slice A l.length c) ∧ Ltr w w' ∧ n = w.heap.size ∧ m = w'.heap.size ∧ BytesU n m w' A l
theorem Replaced_u (A T : Option Addr) (c d lo hi : Nat) (b t : List UInt8) (w : World) (h1 : lo ≤ hi) (h2 : hi ≤ b.length) (hA : BytesAt w A b) (hc : b.length ≤ c) (hAc : A = none → c = 0) (hU : BytesAt w T t) (hd : t.length ≤ d) (hTd : T = none → d = 0) (hm : b.length + t.length ≤ 200000000) :
    Calls Tryd.prog 48 #[.slice A b.length c, .int .i64 lo, .int .i64 hi, .slice T t.length d] w (RowU (repl b lo hi t) w) := by
  have hB := Ltr.refl w
  replace hA := hA.n
  replace hU := hU.n
  have hO := Own.nil w.heap.size 5 w (Nat.le_refl _)
  have l1 : (b.take lo).length = lo := by rw [List.length_take]; omega
  have l2 : (b.take lo ++ t).length = lo + t.length := by rw [List.length_append, l1]
  have l3 : (repl b lo hi t).length = lo + t.length + (b.length - hi) := by unfold repl; rw [List.length_append, l2, List.length_drop]
  go_enter Tryd.func48, Tryd.ntmps48
  refine wp_seq_k fun KK1 hKK1 => rl_begin fun hgK hgo => tk 8 (.slice none 0 0) ?_
  simp only [pp]
  refine rl_end hgo <| hKK1 _ _ <| wp_seq_k fun KK2 hKK2 => rl_begin fun hgK hgo => tk 9 (.slice none 0 0) ?_
  simp only [pp]
  refine rl_end hgo <| hKK2 _ _ <| wp_seq_k fun KK3 hKK3 => rl_begin fun hgK hgo => tk 10 (.slice none 0 0) <| tk 11 (.slice A b.length c) <| tk 12 (.int .i64 lo) ?_
  simp only [pp]
  refine tx 13 (.slice (cutA A c 0) lo (c - 0)) (by exact ex_cutN 0 lo lo (by omega) rfl rfl (.inr ⟨rfl, rfl⟩) (.inl rfl) (by kernel_rfl) (fun _ => by kernel_rfl) (by omega) (by omega) (by omega) _) ?_
  simp only [pp]
  have hrow4 := hO.row
  refine rl_appendF (z := .int .u8 0) (bytes := 1) (ys := bvals ((b.take lo).drop 0)) (zs := bvals (b.take lo)) (k := lo) (n' := lo) (some 14) rfl (by kernel_rfl) rfl rfl rfl (by kernel_rfl) (by kernel_rfl) (by kernel_rfl) hO (bytesAt_iff.1 (hA.at.cut c 0 lo (by omega) (by omega) hc)) (by rw [bvals_len, List.drop_zero, l1]) (by rfl) (by rw [bvals_len, l1]) (cutA_none hAc 0) (one_bvals) (by (simp only [bvals_len, List.length_nil, List.drop_zero]; omega)) (by (simp only [bvals_len, List.length_nil, List.drop_zero]; omega)) fun A5 c5 w4 ho4 hG4 => ?_
  replace hB := hB.gr hG4 (fun k hk => by have := hrow4 k hk; omega)
  replace hA := hA.gr hG4 (fun k hk => by have := hrow4 k hk; omega)
  replace hU := hU.gr hG4 (fun k hk => by have := hrow4 k hk; omega)
  clear hO
  have hO := ho4
  clear ho4
  have hz4 := hG4.size
  try simp only [pp]
  refine tk 9 (.slice A5 lo c5) ?_
  simp only [pp]
  refine rl_end hgo <| hKK3 _ _ <| wp_seq_k fun KK5 hKK5 => rl_begin fun hgK hgo => tk 15 (.slice A5 lo c5) <| tk 16 (.slice T t.length d) ?_
  simp only [pp]
  have hrow6 := hO.row
  refine rl_appendF (z := .int .u8 0) (bytes := 1) (ys := bvals t) (zs := bvals (b.take lo ++ t)) (k := t.length) (n' := (lo + t.length)) (some 17) rfl (by kernel_rfl) rfl rfl rfl (by kernel_rfl) (by kernel_rfl) (by kernel_rfl) hO (bytesAt_iff.1 hU.at) (by rw [bvals_len]) (by rw [bvals_append]) (by rw [bvals_len, l2]) (hTd) (one_bvals) (by (simp only [bvals_len]; omega)) (by (simp only [bvals_len]; omega)) fun A6 c6 w6 ho6 hG6 => ?_
  replace hB := hB.gr hG6 (fun k hk => by have := hrow6 k hk; omega)
  replace hA := hA.gr hG6 (fun k hk => by have := hrow6 k hk; omega)
  replace hU := hU.gr hG6 (fun k hk => by have := hrow6 k hk; omega)
  clear hO
  have hO := ho6
  clear ho6
  have hz6 := hG6.size
  try simp only [pp]
  refine tk 9 (.slice A6 (lo + t.length) c6) ?_
  simp only [pp]
  refine rl_end hgo <| hKK5 _ _ <| wp_seq_k fun KK7 hKK7 => rl_begin fun hgK hgo => tk 18 (.slice A6 (lo + t.length) c6) <| tk 19 (.slice A b.length c) <| tk 20 (.int .i64 hi) ?_
  simp only [pp]
  refine tx 21 (.slice (cutA A c hi) (b.length - hi) (c - hi)) (by exact ex_cutN hi b.length (b.length - hi) (by omega) rfl rfl (.inl rfl) (.inr ⟨rfl, rfl⟩) (by kernel_rfl) (fun _ => by kernel_rfl) (by omega) (by omega) (by omega) _) ?_
  simp only [pp]
  have hrow8 := hO.row
  refine rl_appendF (z := .int .u8 0) (bytes := 1) (ys := bvals ((b.take b.length).drop hi)) (zs := bvals (repl b lo hi t)) (k := (b.length - hi)) (n' := (repl b lo hi t).length) (some 22) rfl (by kernel_rfl) rfl rfl rfl (by kernel_rfl) (by kernel_rfl) (by kernel_rfl) hO (bytesAt_iff.1 (hA.at.cut c hi b.length (by omega) (by omega) hc)) (by rw [bvals_len, List.take_length, List.length_drop]) (by rw [← bvals_append, List.take_length]; rfl) (by rw [bvals_len]) (cutA_none hAc hi) (one_bvals) (by (simp only [bvals_len, List.length_drop, List.length_take]; omega)) (by (simp only [bvals_len, List.length_drop, List.length_take]; omega)) fun A7 c7 w8 ho8 hG8 => ?_
  replace hB := hB.gr hG8 (fun k hk => by have := hrow8 k hk; omega)
  replace hA := hA.gr hG8 (fun k hk => by have := hrow8 k hk; omega)
  replace hU := hU.gr hG8 (fun k hk => by have := hrow8 k hk; omega)
  clear hO
  have hO := ho8
  clear ho8
  have hz8 := hG8.size
  try simp only [pp]
  refine tk 8 (.slice A7 ((repl b lo hi t).length) c7) ?_
  simp only [pp]
  refine rl_end hgo <| hKK7 _ _ ?_
  refine wp_ret ?_
  try simp only [Exit.then, Exit.inBlock]
  refine bp_ret (v := .slice A7 ((repl b lo hi t).length) c7) (res1 rfl (res_tmp (by kernel_rfl))) ?_
  exact ⟨A7, c7, _, _, rfl, hB, rfl, rfl, hO.bytes, (fun _ a ha => hO.row a.block (by rw [ha]; rfl)), Nat.le_refl _⟩
theorem own_in {n k c : Nat} {w : World} {A : Option Addr} {b : List UInt8} (h : Own n 5 w (.slice A k c) (bvals (b ++ [65, 66]))) : BytesAt w (cutA A c 0) b := by
  have hk := h.len
  have hc := h.cap
  rw [bvals_len, List.length_append] at hk hc
  simp only [List.length_cons, List.length_nil] at hk hc
  have := h.bytes.cut c 0 b.length (Nat.zero_le _) (by rw [List.length_append]; omega) (by rw [List.length_append]; simp only [List.length_cons, List.length_nil]; omega)
  rwa [List.drop_zero, List.take_left'] at this
  rfl
theorem RopeOwn_walk {n : Nat} (A0 : Option Addr) (c0 : Nat) (l : List ActD) (A : Option Addr) (c : Nat) (b : List UInt8) (w : World) (hT : Tabs w) (hX : ActsAt n w A0 l) (hc0 : l.length ≤ c0) (hm : l.length ≤ 1100000) (hA : BytesAt w A b) (hc : b.length ≤ c) (hAc : A = none → c = 0) (hbm : b.length ≤ 1100000) :
    Calls Tryd.prog 13 #[.slice A0 l.length c0, .slice A b.length c] w fun e w' => e = .returned (.bool true) ∧ Ltr w w' := by
  have hB := Ltr.refl w
  replace hA := hA.n
  obtain ⟨k2, hk2⟩ : ∃ k2, k2 = b.length + 2 := ⟨_, rfl⟩
  have hrl : (repl b (b.length / 2) (b.length / 2) b).length = b.length + b.length := by unfold repl; simp only [List.length_append, List.length_take, List.length_drop]; omega
  go_enter Tryd.func13, Tryd.ntmps13
  have h4 := hT.four
  refine wp_seq_k fun KK1 hKK1 => rl_begin fun hgK hgo => tk 4 (.bool false) ?_
  simp only [pp]
  refine rl_end hgo <| hKK1 _ _ <| wp_seq_k fun KK2 hKK2 => wp_seq_k fun KK3 hKK3 => rl_begin fun hgK hgo => ?_
  refine rl_call (some 22) 17 #[] rfl (by kernel_rfl) (by kernel_rfl) (wakes_any _ hT) ?_
  rintro e w4 ⟨rfl, hL4⟩
  refine ⟨_, rfl, ?_⟩
  have hz4 := hL4.size
  try simp only [pp]
  refine tk 23 (.bool false) ?_
  simp only [pp]
  refine rl_end hgo <| hKK3 _ _ <| wp_cond_false (by kernel_rfl) <| wp_skip <| hKK2 _ _ <| wp_seq_k fun KK5 hKK5 => rl_begin fun hgK hgo => tk 25 (.slice A0 l.length c0) ?_
  simp only [pp]
  replace hT := hT.later hL4
  replace hX := hX.later hL4
  refine rl_call (some 26) 18 #[.slice A0 l.length c0] rfl (by kernel_rfl) (by kernel_rfl) (play_r A0 c0 l _ hT hX hc0 hm) ?_
  rintro e w6 ⟨A1, A2, c1, c2, rs, N, rfl, hL6, hP, hN⟩
  refine ⟨_, rfl, ?_⟩
  have hz6 := hL6.size
  have hrsl := hP.len
  clear hX
  try simp only [pp]
  refine tk 24 (.tuple #[.agg #[.slice A1 rs.length c1, .slice A2 rs.length c2], .bool true]) <| tk 27 (.agg #[.slice A1 rs.length c1, .slice A2 rs.length c2]) <| tk 28 (.bool true) ?_
  simp only [pp]
  refine rl_alloc (some 5) 27 #[.slice none 0 0, .slice none 0 0] rfl (by kernel_rfl) (fun W => by kernel_rfl) fun bk w7 hL7 hp7 hbk => ?_
  have hz7 := hL7.size
  have hlt7 := hbk.lt
  try simp only [pp]
  refine rl_store bk #[.slice A1 rs.length c1, .slice A2 rs.length c2] rfl rfl (by kernel_rfl) rfl rfl (by kernel_rfl) hbk rfl (by kernel_rfl) fun w8 hU8 hn8 => ?_
  have hz8 := hU8.size
  replace hT := (hT.later hL6).later hL7
  replace hT := hT.upd hU8 (by omega)
  replace hB := ((hB.later hL4).later hL6).later hL7
  replace hB := hB.upd hU8 (by omega)
  replace hA := ((hA.later hL4).later hL6).later hL7
  replace hA := hA.upd hU8 (by omega)
  replace hP := hP.later hL7
  replace hP := hP.upd hU8 (by omega)
  clear hbk
  have hbk := hn8
  clear hn8
  try simp only [pp]
  refine tk 6 (.bool true) ?_
  simp only [pp]
  refine rl_end hgo <| hKK5 _ _ <| wp_seq_k fun KK9 hKK9 => wp_seq_k fun KK10 hKK10 => rl_begin fun hgK hgo => tk 29 (.bool true) <| tk 30 (.bool false) ?_
  simp only [pp]
  refine rl_end hgo <| hKK10 _ _ <| wp_cond_false (by kernel_rfl) <| wp_skip <| hKK9 _ _ <| wp_seq_k fun KK11 hKK11 => wp_seq_k fun KK12 hKK12 => rl_begin fun hgK hgo => tk 31 (.slice A b.length c) <| tk 32 (.int .i64 b.length) ?_
  simp only [pp]
  by_cases h0 : (b.length : Int) > 32768
  ·refine tx 33 (.bool true) (by exact ebt (c := (b.length : Int) > 32768) (by omega)) ?_
   simp only [pp]
   refine rl_end hgo <| hKK12 _ _ <| wp_cond_true (by kernel_rfl) <| wp_seq_k fun KK13 hKK13 => rl_begin fun hgK hgo => tk 4 (.bool true) ?_
   simp only [pp]
   refine rl_end hgo <| hKK13 _ _ ?_
   refine wp_ret ?_
   try simp only [Exit.then, Exit.inBlock]
   refine bp_ret (v := .bool true) (res1 rfl (res_tmp (by kernel_rfl))) ?_
   exact ⟨rfl, hB⟩
  ·refine tx 33 (.bool false) (by exact ebf (c := (b.length : Int) > 32768) (by omega)) ?_
   simp only [pp]
   refine rl_end hgo <| hKK12 _ _ <| wp_cond_false (by kernel_rfl) <| wp_skip <| hKK11 _ _ <| wp_seq_k fun KK14 hKK14 => rl_begin fun hgK hgo => ?_
   refine rl_bslice (some 34) 5 #[] 0 rfl (by kernel_rfl) (fun W => by kernel_rfl) fun z0 w15 hL15 hp15 hz0 => ?_
   have hz15 := hL15.size
   have hlt15 := hz0.lt
   try simp only [pp]
   refine tk 35 (.slice A b.length c) ?_
   simp only [pp]
   have hO := own_empty (n := z0) hz0 (Nat.le_refl _)
   have hrow16 := hO.row
   replace hA := hA.later hL15
   refine rl_appendF (z := .int .u8 0) (bytes := 1) (ys := bvals b) (zs := bvals b) (k := b.length) (n' := b.length) (some 36) rfl (by kernel_rfl) rfl rfl rfl (by kernel_rfl) (by kernel_rfl) (by kernel_rfl) hO (bytesAt_iff.1 hA.at) (by rw [bvals_len]) (by rfl) (by rw [bvals_len]) (hAc) (one_bvals) (by (simp only [bvals_len, List.length_nil]; omega)) (by (simp only [bvals_len, List.length_nil]; omega)) fun A5 c5 w16 ho16 hG16 => ?_
   replace hT := hT.later hL15
   replace hT := hT.gr hG16 (fun k hk => by have := hrow16 k hk; omega)
   replace hB := hB.later hL15
   replace hB := hB.gr hG16 (fun k hk => by have := hrow16 k hk; omega)
   replace hA := hA.gr hG16 (fun k hk => by have := hrow16 k hk; omega)
   replace hP := hP.later hL15
   replace hP := hP.gr hG16 (fun k hk => by have := hrow16 k hk; omega)
   replace hbk := hbk.later hL15
   replace hbk := hbk.gr hG16 (blk_ne hO hbk (by decide))
   clear hz0
   clear hO
   have hO := ho16
   clear ho16
   have hz16 := hG16.size
   try simp only [pp]
   refine rl_bslice (some 37) 5 #[.int .u8 65, .int .u8 66] 2 rfl (by kernel_rfl) (fun W => by kernel_rfl) fun z1 w17 hL17 hp17 hz1 => ?_
   have hz17 := hL17.size
   have hlt17 := hz1.lt
   try simp only [pp]
   replace hO := hO.later hL17
   have hrow18 := hO.row
   refine rl_appendF (z := .int .u8 0) (bytes := 1) (ys := [.int .u8 65, .int .u8 66]) (zs := bvals (b ++ [65, 66])) (k := 2) (n' := k2) (some 38) rfl (by kernel_rfl) rfl rfl rfl (by kernel_rfl) (by kernel_rfl) (by kernel_rfl) hO (cells_blk (cs := [.int .u8 65, .int .u8 66]) hz1) (by rfl) (by (rw [bvals_append]; rfl)) (by (rw [bvals_len, List.length_append, hk2]; rfl)) (fun h => by cases h) ((by simp [Value.oneCell'])) (by (simp only [bvals_len, List.length_cons, List.length_nil]; omega)) (by (simp only [bvals_len, List.length_cons, List.length_nil]; omega)) fun A6 c6 w18 ho18 hG18 => ?_
   replace hT := hT.later hL17
   replace hT := hT.gr hG18 (fun k hk => by have := hrow18 k hk; omega)
   replace hB := hB.later hL17
   replace hB := hB.gr hG18 (fun k hk => by have := hrow18 k hk; omega)
   replace hA := hA.later hL17
   replace hA := hA.gr hG18 (fun k hk => by have := hrow18 k hk; omega)
   replace hP := hP.later hL17
   replace hP := hP.gr hG18 (fun k hk => by have := hrow18 k hk; omega)
   replace hbk := hbk.later hL17
   replace hbk := hbk.gr hG18 (blk_ne hO hbk (by decide))
   clear hz1
   clear hO
   have hO := ho18
   clear ho18
   have hz18 := hG18.size
   (obtain ⟨g6, rfl⟩ := own_some hO (by omega)); (have hg6 := hO.row g6 rfl); (have hcap6 := hO.cap); rw [bvals_len, List.length_append] at hcap6; simp only [List.length_cons, List.length_nil] at hcap6
   try simp only [pp]
   refine tk 7 (.slice (some ⟨g6, 0, none⟩) k2 c6) ?_
   simp only [pp]
   refine rl_end hgo <| hKK14 _ _ <| wp_seq_k fun KK19 hKK19 => rl_begin fun hgK hgo => tk 39 (.slice (some ⟨g6, 0, none⟩) k2 c6) <| tk 40 (.slice A b.length c) <| tk 41 (.int .i64 b.length) ?_
   simp only [pp]
   refine tx 42 (.slice (cutA (some ⟨g6, 0, none⟩) c6 0) b.length (c6 - 0)) (by exact ex_cutN 0 b.length b.length (by omega) rfl rfl (.inr ⟨rfl, rfl⟩) (.inl rfl) (by kernel_rfl) (fun _ => by kernel_rfl) (by omega) (by omega) (by omega) _) <| tk 8 (.slice (cutA (some ⟨g6, 0, none⟩) c6 0) b.length (c6 - 0)) ?_
   simp only [pp]
   refine rl_end hgo <| hKK19 _ _ <| wp_seq_k fun KK20 hKK20 => rl_begin fun hgK hgo => tk 44 (.slice (cutA (some ⟨g6, 0, none⟩) c6 0) b.length (c6 - 0)) ?_
   simp only [pp]
   refine rl_call (some 45) 36 #[.slice (cutA (some ⟨g6, 0, none⟩) c6 0) b.length (c6 - 0)] rfl (by kernel_rfl) (by kernel_rfl) (New_any (cutA (some ⟨g6, 0, none⟩) c6 0) (c6 - 0) b _ hT (own_in hO) (by omega) (by omega)) ?_
   rintro e w21 ⟨r1, rfl, hL21, hr1, -⟩
   refine ⟨_, rfl, ?_⟩
   have hz21 := hL21.size
   try simp only [pp]
   refine tk 43 (.tuple #[.pointer (some ⟨r1, 0, none⟩), .int .i64 0]) <| tk 46 (.pointer (some ⟨r1, 0, none⟩)) <| tk 47 (.int .i64 0) <| tk 9 (.pointer (some ⟨r1, 0, none⟩)) <| tk 10 (.int .i64 0) ?_
   simp only [pp]
   refine rl_end hgo <| hKK20 _ _ <| wp_seq_k fun KK22 hKK22 => wp_seq_k fun KK23 hKK23 => rl_begin fun hgK hgo => tk 48 (.int .i64 0) ?_
   simp only [pp]
   refine tx 49 (.bool false) (by exact nef (x := 0) (y := 0) (by omega)) <| tk 50 (.bool false) <| tk 51 (.pointer (some ⟨r1, 0, none⟩)) <| tk 52 (.bool false) <| tk 53 (.bool false) ?_
   simp only [pp]
   refine rl_end hgo <| hKK23 _ _ <| wp_cond_false (by kernel_rfl) <| wp_skip <| hKK22 _ _ <| wp_seq_k fun KK24 hKK24 => rl_begin fun hgK hgo => tk 55 (.pointer (some ⟨r1, 0, none⟩)) <| tk 56 (.slice A b.length c) <| tk 57 (.int .i64 b.length) ?_
   simp only [pp]
   refine tx 58 (.int .i64 ((b.length / 2 : Nat) : Int)) (by exact ex_half b.length rfl rfl rfl (by kernel_rfl) (by omega) _) <| tk 59 (.slice A b.length c) <| tk 60 (.int .i64 b.length) ?_
   simp only [pp]
   refine tx 61 (.int .i64 ((b.length / 2 : Nat) : Int)) (by exact ex_half b.length rfl rfl rfl (by kernel_rfl) (by omega) _) <| tk 62 (.slice (cutA (some ⟨g6, 0, none⟩) c6 0) b.length (c6 - 0)) ?_
   simp only [pp]
   replace hT := hT.later hL21
   replace hO := hO.later hL21
   refine rl_call (some 63) 37 #[.pointer (some ⟨r1, 0, none⟩), .int .i64 ((b.length / 2 : Nat) : Int), .int .i64 ((b.length / 2 : Nat) : Int), .slice (cutA (some ⟨g6, 0, none⟩) c6 0) b.length (c6 - 0)] rfl (by kernel_rfl) (by kernel_rfl) (Replace_any r1 b (b.length / 2) (b.length / 2) (cutA (some ⟨g6, 0, none⟩) c6 0) (c6 - 0) b _ hT hr1 (Nat.le_refl _) (by omega) (own_in hO) (by omega) (by omega)) ?_
   rintro e w25 ⟨r2, rfl, hL25, hr2, -⟩
   refine ⟨_, rfl, ?_⟩
   have hz25 := hL25.size
   try simp only [pp]
   refine tk 54 (.tuple #[.pointer (some ⟨r2, 0, none⟩), .int .i64 0]) <| tk 64 (.pointer (some ⟨r2, 0, none⟩)) <| tk 65 (.int .i64 0) <| tk 11 (.pointer (some ⟨r2, 0, none⟩)) <| tk 12 (.int .i64 0) ?_
   simp only [pp]
   refine rl_end hgo <| hKK24 _ _ <| wp_seq_k fun KK26 hKK26 => rl_begin fun hgK hgo => tk 66 (.slice A b.length c) <| tk 67 (.slice A b.length c) <| tk 68 (.int .i64 b.length) ?_
   simp only [pp]
   refine tx 69 (.int .i64 ((b.length / 2 : Nat) : Int)) (by exact ex_half b.length rfl rfl rfl (by kernel_rfl) (by omega) _) <| tk 70 (.slice A b.length c) <| tk 71 (.int .i64 b.length) ?_
   simp only [pp]
   refine tx 72 (.int .i64 ((b.length / 2 : Nat) : Int)) (by exact ex_half b.length rfl rfl rfl (by kernel_rfl) (by omega) _) <| tk 73 (.slice A b.length c) ?_
   simp only [pp]
   replace hA := (hA.later hL21).later hL25
   refine rl_call (some 74) 48 #[.slice A b.length c, .int .i64 ((b.length / 2 : Nat) : Int), .int .i64 ((b.length / 2 : Nat) : Int), .slice A b.length c] rfl (by kernel_rfl) (by kernel_rfl) (Replaced_u A A c c (b.length / 2) (b.length / 2) b b _ (Nat.le_refl _) (by omega) hA.at hc hAc hA.at hc hAc (by omega)) ?_
   rintro e w27 ⟨A8, c8, n8, m8, rfl, hL27, hn8, hm8, hH⟩
   refine ⟨_, rfl, ?_⟩
   have hz27 := hL27.size
   try simp only [pp]
   refine tk 13 (.slice A8 (repl b (b.length / 2) (b.length / 2) b).length c8) ?_
   simp only [pp]
   refine rl_end hgo <| hKK26 _ _ <| wp_seq_k fun KK28 hKK28 => rl_begin fun hgK hgo => tk 76 (.pointer (some ⟨r1, 0, none⟩)) <| tk 77 (.slice A b.length c) <| tk 78 (.int .i64 b.length) ?_
   simp only [pp]
   replace hr1 := (hr1.later hL25).later hL27
   refine rl_call (some 79) 44 #[.pointer (some ⟨r1, 0, none⟩), .int .i64 0, .int .i64 b.length] rfl (by kernel_rfl) (by kernel_rfl) (Bytes_o r1 b _ hr1 (by omega)) ?_
   rintro e w29 ⟨A9, c9, n9, m9, rfl, hL29, hn9, hm9, hC, hg9⟩
   refine ⟨_, rfl, ?_⟩
   have hz29 := hL29.size
   try simp only [pp]
   refine tk 75 (.tuple #[.slice A9 b.length c9, .int .i64 0]) <| tk 80 (.slice A9 b.length c9) <| tk 81 (.int .i64 0) <| tk 14 (.slice A9 b.length c9) <| tk 15 (.int .i64 0) ?_
   simp only [pp]
   refine rl_end hgo <| hKK28 _ _ <| wp_seq_k fun KK30 hKK30 => rl_begin fun hgK hgo => tk 83 (.pointer (some ⟨r1, 0, none⟩)) <| tk 84 (.slice A b.length c) <| tk 85 (.int .i64 b.length) ?_
   simp only [pp]
   replace hr1 := hr1.later hL29
   refine rl_call (some 86) 44 #[.pointer (some ⟨r1, 0, none⟩), .int .i64 0, .int .i64 b.length] rfl (by kernel_rfl) (by kernel_rfl) (Bytes_o r1 b _ hr1 (by omega)) ?_
   rintro e w31 ⟨A10, c10, n10, m10, rfl, hL31, hn10, hm10, hD, hg10⟩
   refine ⟨_, rfl, ?_⟩
   have hz31 := hL31.size
   (replace hD := hD.bu hg10 (by omega))
   try simp only [pp]
   refine tk 82 (.tuple #[.slice A10 b.length c10, .int .i64 0]) <| tk 87 (.slice A10 b.length c10) <| tk 88 (.int .i64 0) <| tk 16 (.slice A10 b.length c10) <| tk 17 (.int .i64 0) ?_
   simp only [pp]
   refine rl_end hgo <| hKK30 _ _ <| wp_seq_k fun KK32 hKK32 => wp_seq_k fun KK33 hKK33 => rl_begin fun hgK hgo => tk 89 (.pointer (some ⟨r2, 0, none⟩)) <| tk 90 (.bool false) <| tk 91 (.bool false) <| tk 92 (.slice (some ⟨g6, 0, none⟩) k2 c6) ?_
   simp only [pp]
   replace hO := (((hO.later hL25).later hL27).later hL29).later hL31
   refine tx 93 (.string (bs (b ++ [65, 66]))) (by exact ex_conv_str _ rfl (some ⟨g6, 0, none⟩) c6 (b ++ [65, 66]) (by rw [List.length_append]; show Value.slice _ k2 c6 = _; rw [hk2]; rfl) hO.bytes) <| tk 94 (.slice A b.length c) ?_
   simp only [pp]
   replace hA := ((hA.later hL27).later hL29).later hL31
   refine tx 95 (.string (bs b)) (by exact ex_conv_str _ rfl A c b rfl hA.at) ?_
   simp only [pp]
   refine tx 96 (.string (bs (b ++ [65, 66]))) (by exact ex_str_add b [65, 66] rfl rfl rfl (by simp only [List.length_cons, List.length_nil]; omega) _) ?_
   simp only [pp]
   refine tx 97 (.bool false) (by exact ex_ne_lit (a := b ++ [65, 66]) (b := b ++ [65, 66]) (by kernel_rfl) rfl) <| tk 98 (.bool false) <| tk 99 (.bool false) <| tk 100 (.slice A9 b.length c9) ?_
   simp only [pp]
   replace hC := hC.later hL31
   refine tx 101 (.string (bs b)) (by exact ex_conv_str _ rfl A9 c9 b rfl hC.bytes) <| tk 102 (.slice A b.length c) ?_
   simp only [pp]
   refine tx 103 (.string (bs b)) (by exact ex_conv_str _ rfl A c b rfl hA.at) ?_
   simp only [pp]
   refine tx 104 (.bool false) (by exact ex_ne_lit (a := b) (b := b) (by kernel_rfl) rfl) <| tk 105 (.bool false) ?_
   simp only [pp]
   refine rl_end hgo <| hKK33 _ _ <| wp_cond_false (by kernel_rfl) <| wp_skip <| hKK32 _ _ <| wp_seq_k fun KK34 hKK34 => wp_seq_k fun KK35 hKK35 => rl_begin fun hgK hgo => tk 106 (.slice (some ⟨g6, 0, none⟩) k2 c6) <| tk 107 (.int .i64 k2) <| tk 108 (.int .i64 0) ?_
   simp only [pp]
   refine rl_end hgo <| hKK35 _ _ <| wp_block ?_
   replace hB := ((((hB.later hL21).later hL25).later hL27).later hL29).later hL31
   replace hP := ((((hP.later hL21).later hL25).later hL27).later hL29).later hL31
   replace hbk := ((((hbk.later hL21).later hL25).later hL27).later hL29).later hL31
   replace hT := (((hT.later hL25).later hL27).later hL29).later hL31
   replace hr2 := ((hr2.later hL27).later hL29).later hL31
   replace hH := (hH.later hL29).later hL31
   replace hr1 := hr1.later hL31
   refine wp_loop_ghost (fun gn ga wl => ∃ (u : Nat → Value) (i : Nat), gn = k2 - i ∧ ga = ⟨#[.slice A0 l.length c0, .slice A b.length c, undef, undef, .bool false, .pointer (some ⟨bk, 0, none⟩), .bool true, .slice (some ⟨g6, 0, none⟩) k2 c6, .slice (cutA (some ⟨g6, 0, none⟩) c6 0) b.length (c6 - 0), .pointer (some ⟨r1, 0, none⟩), .int .i64 0, .pointer (some ⟨r2, 0, none⟩), .int .i64 0, .slice A8 (repl b (b.length / 2) (b.length / 2) b).length c8, .slice A9 b.length c9, .int .i64 0, .slice A10 b.length c10, .int .i64 0, u 18, undef, undef, undef, .bool true, .bool false, .tuple #[.agg #[.slice A1 rs.length c1, .slice A2 rs.length c2], .bool true], .slice A0 l.length c0, .tuple #[.agg #[.slice A1 rs.length c1, .slice A2 rs.length c2], .bool true], .agg #[.slice A1 rs.length c1, .slice A2 rs.length c2], .bool true, .bool true, .bool false, .slice A b.length c, .int .i64 b.length, .bool false, .slice (some ⟨z0, 0, none⟩) 0 0, .slice A b.length c, .slice A5 b.length c5, .slice (some ⟨z1, 0, none⟩) 2 2, .slice (some ⟨g6, 0, none⟩) k2 c6, .slice (some ⟨g6, 0, none⟩) k2 c6, .slice A b.length c, .int .i64 b.length, .slice (cutA (some ⟨g6, 0, none⟩) c6 0) b.length (c6 - 0), .tuple #[.pointer (some ⟨r1, 0, none⟩), .int .i64 0], .slice (cutA (some ⟨g6, 0, none⟩) c6 0) b.length (c6 - 0), .tuple #[.pointer (some ⟨r1, 0, none⟩), .int .i64 0], .pointer (some ⟨r1, 0, none⟩), .int .i64 0, .int .i64 0, .bool false, .bool false, .pointer (some ⟨r1, 0, none⟩), .bool false, .bool false, .tuple #[.pointer (some ⟨r2, 0, none⟩), .int .i64 0], .pointer (some ⟨r1, 0, none⟩), .slice A b.length c, .int .i64 b.length, .int .i64 ((b.length / 2 : Nat) : Int), .slice A b.length c, .int .i64 b.length, .int .i64 ((b.length / 2 : Nat) : Int), .slice (cutA (some ⟨g6, 0, none⟩) c6 0) b.length (c6 - 0), .tuple #[.pointer (some ⟨r2, 0, none⟩), .int .i64 0], .pointer (some ⟨r2, 0, none⟩), .int .i64 0, .slice A b.length c, .slice A b.length c, .int .i64 b.length, .int .i64 ((b.length / 2 : Nat) : Int), .slice A b.length c, .int .i64 b.length, .int .i64 ((b.length / 2 : Nat) : Int), .slice A b.length c, .slice A8 (repl b (b.length / 2) (b.length / 2) b).length c8, .tuple #[.slice A9 b.length c9, .int .i64 0], .pointer (some ⟨r1, 0, none⟩), .slice A b.length c, .int .i64 b.length, .tuple #[.slice A9 b.length c9, .int .i64 0], .slice A9 b.length c9, .int .i64 0, .tuple #[.slice A10 b.length c10, .int .i64 0], .pointer (some ⟨r1, 0, none⟩), .slice A b.length c, .int .i64 b.length, .tuple #[.slice A10 b.length c10, .int .i64 0], .slice A10 b.length c10, .int .i64 0, .pointer (some ⟨r2, 0, none⟩), .bool false, .bool false, .slice (some ⟨g6, 0, none⟩) k2 c6, .string (bs (b ++ [65, 66])), .slice A b.length c, .string (bs b), .string (bs (b ++ [65, 66])), .bool false, .bool false, .bool false, .slice A9 b.length c9, .string (bs b), .slice A b.length c, .string (bs b), .bool false, .bool false, .slice (some ⟨g6, 0, none⟩) k2 c6, .int .i64 k2, .int .i64 i, u 109, u 110, u 111, u 112, u 113, u 114, undef, undef, undef, undef, undef, undef, undef, undef, undef, undef, undef, undef, undef, undef, undef, undef, undef, undef, undef, undef, undef, undef, undef, undef, undef, undef, undef, undef, undef, undef, undef, undef, undef, undef, undef, undef, undef, undef, undef, undef, undef, undef, undef, undef, undef, undef, undef, undef, undef, undef, undef, undef, undef, undef], []⟩ ∧ (i ≤ k2) ∧ (Tabs wl) ∧ (Ltr w wl) ∧ (Ropes N A1 A2 rs wl) ∧ (Blk wl bk 27 #[.slice A1 rs.length c1, .slice A2 rs.length c2]) ∧ (BytesN w.heap.size wl A b) ∧ (RopeAt wl r1 b) ∧ (RopeAt wl r2 (repl b (b.length / 2) (b.length / 2) b)) ∧ (BytesU n8 m8 wl A8 (repl b (b.length / 2) (b.length / 2) b)) ∧ (BytesU n10 m10 wl A10 b) ∧ (Own n9 5 wl (.slice A9 b.length c9) (bvals b)) ∧ (OwnE z0 wl (.slice (some ⟨g6, 0, none⟩) k2 c6))) ((fun (i : Nat) => (k2 - i : Nat)) 0) ?_ ?_
   ·exact ⟨fun gj => (#[.slice A0 l.length c0, .slice A b.length c, undef, undef, .bool false, .pointer (some ⟨bk, 0, none⟩), .bool true, .slice (some ⟨g6, 0, none⟩) k2 c6, .slice (cutA (some ⟨g6, 0, none⟩) c6 0) b.length (c6 - 0), .pointer (some ⟨r1, 0, none⟩), .int .i64 0, .pointer (some ⟨r2, 0, none⟩), .int .i64 0, .slice A8 (repl b (b.length / 2) (b.length / 2) b).length c8, .slice A9 b.length c9, .int .i64 0, .slice A10 b.length c10, .int .i64 0, undef, undef, undef, undef, .bool true, .bool false, .tuple #[.agg #[.slice A1 rs.length c1, .slice A2 rs.length c2], .bool true], .slice A0 l.length c0, .tuple #[.agg #[.slice A1 rs.length c1, .slice A2 rs.length c2], .bool true], .agg #[.slice A1 rs.length c1, .slice A2 rs.length c2], .bool true, .bool true, .bool false, .slice A b.length c, .int .i64 b.length, .bool false, .slice (some ⟨z0, 0, none⟩) 0 0, .slice A b.length c, .slice A5 b.length c5, .slice (some ⟨z1, 0, none⟩) 2 2, .slice (some ⟨g6, 0, none⟩) k2 c6, .slice (some ⟨g6, 0, none⟩) k2 c6, .slice A b.length c, .int .i64 b.length, .slice (cutA (some ⟨g6, 0, none⟩) c6 0) b.length (c6 - 0), .tuple #[.pointer (some ⟨r1, 0, none⟩), .int .i64 0], .slice (cutA (some ⟨g6, 0, none⟩) c6 0) b.length (c6 - 0), .tuple #[.pointer (some ⟨r1, 0, none⟩), .int .i64 0], .pointer (some ⟨r1, 0, none⟩), .int .i64 0, .int .i64 0, .bool false, .bool false, .pointer (some ⟨r1, 0, none⟩), .bool false, .bool false, .tuple #[.pointer (some ⟨r2, 0, none⟩), .int .i64 0], .pointer (some ⟨r1, 0, none⟩), .slice A b.length c, .int .i64 b.length, .int .i64 ((b.length / 2 : Nat) : Int), .slice A b.length c, .int .i64 b.length, .int .i64 ((b.length / 2 : Nat) : Int), .slice (cutA (some ⟨g6, 0, none⟩) c6 0) b.length (c6 - 0), .tuple #[.pointer (some ⟨r2, 0, none⟩), .int .i64 0], .pointer (some ⟨r2, 0, none⟩), .int .i64 0, .slice A b.length c, .slice A b.length c, .int .i64 b.length, .int .i64 ((b.length / 2 : Nat) : Int), .slice A b.length c, .int .i64 b.length, .int .i64 ((b.length / 2 : Nat) : Int), .slice A b.length c, .slice A8 (repl b (b.length / 2) (b.length / 2) b).length c8, .tuple #[.slice A9 b.length c9, .int .i64 0], .pointer (some ⟨r1, 0, none⟩), .slice A b.length c, .int .i64 b.length, .tuple #[.slice A9 b.length c9, .int .i64 0], .slice A9 b.length c9, .int .i64 0, .tuple #[.slice A10 b.length c10, .int .i64 0], .pointer (some ⟨r1, 0, none⟩), .slice A b.length c, .int .i64 b.length, .tuple #[.slice A10 b.length c10, .int .i64 0], .slice A10 b.length c10, .int .i64 0, .pointer (some ⟨r2, 0, none⟩), .bool false, .bool false, .slice (some ⟨g6, 0, none⟩) k2 c6, .string (bs (b ++ [65, 66])), .slice A b.length c, .string (bs b), .string (bs (b ++ [65, 66])), .bool false, .bool false, .bool false, .slice A9 b.length c9, .string (bs b), .slice A b.length c, .string (bs b), .bool false, .bool false, .slice (some ⟨g6, 0, none⟩) k2 c6, .int .i64 k2, .int .i64 0, undef, undef, undef, undef, undef, undef, undef, undef, undef, undef, undef, undef, undef, undef, undef, undef, undef, undef, undef, undef, undef, undef, undef, undef, undef, undef, undef, undef, undef, undef, undef, undef, undef, undef, undef, undef, undef, undef, undef, undef, undef, undef, undef, undef, undef, undef, undef, undef, undef, undef, undef, undef, undef, undef, undef, undef, undef, undef, undef, undef]).getD gj undef, 0, rfl, rfl, Nat.zero_le _, by assumption, by assumption, by assumption, by assumption, by assumption, by assumption, hr2, by assumption, by assumption, by assumption, ⟨_, hO⟩⟩
   rintro n36 a36 w36 ⟨u, i, rfl, rfl, hil', hT', hB', hP', hbk', hA', hr1', hr2', hH', hD', hC', hO'⟩
   clear hD hC hH hr2 hr1 hO hbk hP hA hB hT
   have hil := hil'
   clear hil'
   have hT := hT'
   clear hT'
   have hB := hB'
   clear hB'
   have hP := hP'
   clear hP'
   have hbk := hbk'
   clear hbk'
   have hA := hA'
   clear hA'
   have hr1 := hr1'
   clear hr1'
   have hr2 := hr2'
   clear hr2'
   have hH := hH'
   clear hH'
   have hD := hD'
   clear hD'
   have hC := hC'
   clear hC'
   have hO := hO'
   clear hO'
   have hlt_hbk_36 := hbk.lt
   refine wp_seq_k fun KK37 hKK37 => rl_begin fun hgK hgo => ?_
   by_cases h1 : (i : Int) < k2
   ·refine tx 109 (.bool true) (by exact ebt (c := (i : Int) < k2) (by omega)) ?_
    simp only [pp]
    refine rl_end hgo <| hKK37 _ _ <| wp_seq_k fun KK38 hKK38 => wp_cond_true (by kernel_rfl) <| wp_skip <| hKK38 _ _ <| wp_seq_k fun KK39 hKK39 => wp_block <| wp_seq_k fun KK40 hKK40 => rl_begin fun hgK hgo => tk 110 (.int .i64 i) <| tk 18 (.int .i64 i) ?_
    simp only [pp]
    refine rl_end hgo <| hKK40 _ _ <| rl_begin fun hgK hgo => tk 111 (.slice (some ⟨g6, 0, none⟩) k2 c6) <| tk 112 (.int .i64 i) ?_
    simp only [pp]
    (obtain ⟨xs, hO9⟩ := hO)
    refine tx 113 (.pointer (some ⟨g6, i, none⟩)) (by exact ex_val (ex_index i rfl rfl rfl (by kernel_rfl) (fun _ => by kernel_rfl) (by omega) _) (by rw [Nat.zero_add])) ?_
    simp only [pp]
    refine rl_upd rfl (by kernel_rfl) (ex_storeO (i := i) rfl hO9 (by omega) rfl rfl (by kernel_rfl) rfl) ?_
    rintro w41 ⟨hU41, hO8⟩
    replace hT := hT.upd hU41 (by omega)
    replace hB := hB.upd hU41 (by omega)
    replace hP := hP.upd hU41 (by omega)
    replace hbk := hbk.upd hU41 (by omega)
    replace hA := hA.upd hU41 (by omega)
    replace hr1 := hr1.updU hU41 ((own_blk hO9).2.2)
    replace hr2 := hr2.updU hU41 ((own_blk hO9).2.2)
    replace hH := hH.upd hU41 (by omega)
    replace hD := hD.upd hU41 (by omega)
    replace hC := hC.upd hU41 (fun e => by have := hC.row _ e; omega)
    have hz41 := hU41.size
    have hO : OwnE z0 w41 (.slice (some ⟨g6, 0, none⟩) k2 c6) := ⟨_, hO8⟩
    try simp only [pp]
    refine rl_end hgo <| hKK39 _ _ <| rl_begin fun hgK hgo => ?_
    refine tx 114 (.int .i64 (((i + 1 : Nat) : Int))) (by exact ex_arith (e := (i : Int) + 1) (r := ((i + 1 : Nat) : Int)) (by kernel_rfl) (by omega) (by omega)) <| tk 108 (.int .i64 (((i + 1 : Nat) : Int))) ?_
    simp only [pp]
    refine rl_end hgo ?_
    exact ⟨_, (by omega), fun gj => (#[.slice A0 l.length c0, .slice A b.length c, undef, undef, .bool false, .pointer (some ⟨bk, 0, none⟩), .bool true, .slice (some ⟨g6, 0, none⟩) k2 c6, .slice (cutA (some ⟨g6, 0, none⟩) c6 0) b.length (c6 - 0), .pointer (some ⟨r1, 0, none⟩), .int .i64 0, .pointer (some ⟨r2, 0, none⟩), .int .i64 0, .slice A8 (repl b (b.length / 2) (b.length / 2) b).length c8, .slice A9 b.length c9, .int .i64 0, .slice A10 b.length c10, .int .i64 0, .int .i64 i, undef, undef, undef, .bool true, .bool false, .tuple #[.agg #[.slice A1 rs.length c1, .slice A2 rs.length c2], .bool true], .slice A0 l.length c0, .tuple #[.agg #[.slice A1 rs.length c1, .slice A2 rs.length c2], .bool true], .agg #[.slice A1 rs.length c1, .slice A2 rs.length c2], .bool true, .bool true, .bool false, .slice A b.length c, .int .i64 b.length, .bool false, .slice (some ⟨z0, 0, none⟩) 0 0, .slice A b.length c, .slice A5 b.length c5, .slice (some ⟨z1, 0, none⟩) 2 2, .slice (some ⟨g6, 0, none⟩) k2 c6, .slice (some ⟨g6, 0, none⟩) k2 c6, .slice A b.length c, .int .i64 b.length, .slice (cutA (some ⟨g6, 0, none⟩) c6 0) b.length (c6 - 0), .tuple #[.pointer (some ⟨r1, 0, none⟩), .int .i64 0], .slice (cutA (some ⟨g6, 0, none⟩) c6 0) b.length (c6 - 0), .tuple #[.pointer (some ⟨r1, 0, none⟩), .int .i64 0], .pointer (some ⟨r1, 0, none⟩), .int .i64 0, .int .i64 0, .bool false, .bool false, .pointer (some ⟨r1, 0, none⟩), .bool false, .bool false, .tuple #[.pointer (some ⟨r2, 0, none⟩), .int .i64 0], .pointer (some ⟨r1, 0, none⟩), .slice A b.length c, .int .i64 b.length, .int .i64 ((b.length / 2 : Nat) : Int), .slice A b.length c, .int .i64 b.length, .int .i64 ((b.length / 2 : Nat) : Int), .slice (cutA (some ⟨g6, 0, none⟩) c6 0) b.length (c6 - 0), .tuple #[.pointer (some ⟨r2, 0, none⟩), .int .i64 0], .pointer (some ⟨r2, 0, none⟩), .int .i64 0, .slice A b.length c, .slice A b.length c, .int .i64 b.length, .int .i64 ((b.length / 2 : Nat) : Int), .slice A b.length c, .int .i64 b.length, .int .i64 ((b.length / 2 : Nat) : Int), .slice A b.length c, .slice A8 (repl b (b.length / 2) (b.length / 2) b).length c8, .tuple #[.slice A9 b.length c9, .int .i64 0], .pointer (some ⟨r1, 0, none⟩), .slice A b.length c, .int .i64 b.length, .tuple #[.slice A9 b.length c9, .int .i64 0], .slice A9 b.length c9, .int .i64 0, .tuple #[.slice A10 b.length c10, .int .i64 0], .pointer (some ⟨r1, 0, none⟩), .slice A b.length c, .int .i64 b.length, .tuple #[.slice A10 b.length c10, .int .i64 0], .slice A10 b.length c10, .int .i64 0, .pointer (some ⟨r2, 0, none⟩), .bool false, .bool false, .slice (some ⟨g6, 0, none⟩) k2 c6, .string (bs (b ++ [65, 66])), .slice A b.length c, .string (bs b), .string (bs (b ++ [65, 66])), .bool false, .bool false, .bool false, .slice A9 b.length c9, .string (bs b), .slice A b.length c, .string (bs b), .bool false, .bool false, .slice (some ⟨g6, 0, none⟩) k2 c6, .int .i64 k2, .int .i64 (((i + 1 : Nat) : Int)), .bool true, .int .i64 i, .slice (some ⟨g6, 0, none⟩) k2 c6, .int .i64 i, .pointer (some ⟨g6, i, none⟩), .int .i64 (((i + 1 : Nat) : Int)), undef, undef, undef, undef, undef, undef, undef, undef, undef, undef, undef, undef, undef, undef, undef, undef, undef, undef, undef, undef, undef, undef, undef, undef, undef, undef, undef, undef, undef, undef, undef, undef, undef, undef, undef, undef, undef, undef, undef, undef, undef, undef, undef, undef, undef, undef, undef, undef, undef, undef, undef, undef, undef, undef]).getD gj undef, i + 1, rfl, (by kernel_rfl), by omega, by assumption, by assumption, by assumption, by assumption, by assumption, by assumption, by assumption, by assumption, by assumption, by assumption, hO⟩
   ·refine tx 109 (.bool false) (by exact ebf (c := (i : Int) < k2) (by omega)) ?_
    simp only [pp]
    refine rl_end hgo <| hKK37 _ _ <| wp_seq_k fun KK42 hKK42 => wp_cond_false (by kernel_rfl) <| wp_exit <| hKK34 _ _ <| wp_seq_k fun KK43 hKK43 => wp_seq_k fun KK44 hKK44 => rl_begin fun hgK hgo => tk 115 (.slice A9 b.length c9) <| tk 116 (.int .i64 b.length) <| tk 117 (.int .i64 0) ?_
    simp only [pp]
    refine rl_end hgo <| hKK44 _ _ <| wp_block ?_
    refine wp_loop_ghost (fun gn ga wl => ∃ (u : Nat → Value) (j : Nat), gn = b.length - j ∧ ga = ⟨#[.slice A0 l.length c0, .slice A b.length c, undef, undef, .bool false, .pointer (some ⟨bk, 0, none⟩), .bool true, .slice (some ⟨g6, 0, none⟩) k2 c6, .slice (cutA (some ⟨g6, 0, none⟩) c6 0) b.length (c6 - 0), .pointer (some ⟨r1, 0, none⟩), .int .i64 0, .pointer (some ⟨r2, 0, none⟩), .int .i64 0, .slice A8 (repl b (b.length / 2) (b.length / 2) b).length c8, .slice A9 b.length c9, .int .i64 0, .slice A10 b.length c10, .int .i64 0, u 18, u 19, undef, undef, .bool true, .bool false, .tuple #[.agg #[.slice A1 rs.length c1, .slice A2 rs.length c2], .bool true], .slice A0 l.length c0, .tuple #[.agg #[.slice A1 rs.length c1, .slice A2 rs.length c2], .bool true], .agg #[.slice A1 rs.length c1, .slice A2 rs.length c2], .bool true, .bool true, .bool false, .slice A b.length c, .int .i64 b.length, .bool false, .slice (some ⟨z0, 0, none⟩) 0 0, .slice A b.length c, .slice A5 b.length c5, .slice (some ⟨z1, 0, none⟩) 2 2, .slice (some ⟨g6, 0, none⟩) k2 c6, .slice (some ⟨g6, 0, none⟩) k2 c6, .slice A b.length c, .int .i64 b.length, .slice (cutA (some ⟨g6, 0, none⟩) c6 0) b.length (c6 - 0), .tuple #[.pointer (some ⟨r1, 0, none⟩), .int .i64 0], .slice (cutA (some ⟨g6, 0, none⟩) c6 0) b.length (c6 - 0), .tuple #[.pointer (some ⟨r1, 0, none⟩), .int .i64 0], .pointer (some ⟨r1, 0, none⟩), .int .i64 0, .int .i64 0, .bool false, .bool false, .pointer (some ⟨r1, 0, none⟩), .bool false, .bool false, .tuple #[.pointer (some ⟨r2, 0, none⟩), .int .i64 0], .pointer (some ⟨r1, 0, none⟩), .slice A b.length c, .int .i64 b.length, .int .i64 ((b.length / 2 : Nat) : Int), .slice A b.length c, .int .i64 b.length, .int .i64 ((b.length / 2 : Nat) : Int), .slice (cutA (some ⟨g6, 0, none⟩) c6 0) b.length (c6 - 0), .tuple #[.pointer (some ⟨r2, 0, none⟩), .int .i64 0], .pointer (some ⟨r2, 0, none⟩), .int .i64 0, .slice A b.length c, .slice A b.length c, .int .i64 b.length, .int .i64 ((b.length / 2 : Nat) : Int), .slice A b.length c, .int .i64 b.length, .int .i64 ((b.length / 2 : Nat) : Int), .slice A b.length c, .slice A8 (repl b (b.length / 2) (b.length / 2) b).length c8, .tuple #[.slice A9 b.length c9, .int .i64 0], .pointer (some ⟨r1, 0, none⟩), .slice A b.length c, .int .i64 b.length, .tuple #[.slice A9 b.length c9, .int .i64 0], .slice A9 b.length c9, .int .i64 0, .tuple #[.slice A10 b.length c10, .int .i64 0], .pointer (some ⟨r1, 0, none⟩), .slice A b.length c, .int .i64 b.length, .tuple #[.slice A10 b.length c10, .int .i64 0], .slice A10 b.length c10, .int .i64 0, .pointer (some ⟨r2, 0, none⟩), .bool false, .bool false, .slice (some ⟨g6, 0, none⟩) k2 c6, .string (bs (b ++ [65, 66])), .slice A b.length c, .string (bs b), .string (bs (b ++ [65, 66])), .bool false, .bool false, .bool false, .slice A9 b.length c9, .string (bs b), .slice A b.length c, .string (bs b), .bool false, .bool false, .slice (some ⟨g6, 0, none⟩) k2 c6, .int .i64 k2, .int .i64 i, .bool false, u 110, u 111, u 112, u 113, u 114, .slice A9 b.length c9, .int .i64 b.length, .int .i64 j, u 118, u 119, u 120, u 121, u 122, u 123, undef, undef, undef, undef, undef, undef, undef, undef, undef, undef, undef, undef, undef, undef, undef, undef, undef, undef, undef, undef, undef, undef, undef, undef, undef, undef, undef, undef, undef, undef, undef, undef, undef, undef, undef, undef, undef, undef, undef, undef, undef, undef, undef, undef, undef], []⟩ ∧ (j ≤ b.length) ∧ (Tabs wl) ∧ (Ltr w wl) ∧ (Ropes N A1 A2 rs wl) ∧ (Blk wl bk 27 #[.slice A1 rs.length c1, .slice A2 rs.length c2]) ∧ (BytesN w.heap.size wl A b) ∧ (RopeAt wl r1 b) ∧ (RopeAt wl r2 (repl b (b.length / 2) (b.length / 2) b)) ∧ (BytesU n8 m8 wl A8 (repl b (b.length / 2) (b.length / 2) b)) ∧ (BytesU n10 m10 wl A10 b) ∧ (OwnE n9 wl (.slice A9 b.length c9))) ((fun (j : Nat) => (b.length - j : Nat)) 0) ?_ ?_
    ·exact ⟨fun gj => (#[.slice A0 l.length c0, .slice A b.length c, undef, undef, .bool false, .pointer (some ⟨bk, 0, none⟩), .bool true, .slice (some ⟨g6, 0, none⟩) k2 c6, .slice (cutA (some ⟨g6, 0, none⟩) c6 0) b.length (c6 - 0), .pointer (some ⟨r1, 0, none⟩), .int .i64 0, .pointer (some ⟨r2, 0, none⟩), .int .i64 0, .slice A8 (repl b (b.length / 2) (b.length / 2) b).length c8, .slice A9 b.length c9, .int .i64 0, .slice A10 b.length c10, .int .i64 0, u 18, undef, undef, undef, .bool true, .bool false, .tuple #[.agg #[.slice A1 rs.length c1, .slice A2 rs.length c2], .bool true], .slice A0 l.length c0, .tuple #[.agg #[.slice A1 rs.length c1, .slice A2 rs.length c2], .bool true], .agg #[.slice A1 rs.length c1, .slice A2 rs.length c2], .bool true, .bool true, .bool false, .slice A b.length c, .int .i64 b.length, .bool false, .slice (some ⟨z0, 0, none⟩) 0 0, .slice A b.length c, .slice A5 b.length c5, .slice (some ⟨z1, 0, none⟩) 2 2, .slice (some ⟨g6, 0, none⟩) k2 c6, .slice (some ⟨g6, 0, none⟩) k2 c6, .slice A b.length c, .int .i64 b.length, .slice (cutA (some ⟨g6, 0, none⟩) c6 0) b.length (c6 - 0), .tuple #[.pointer (some ⟨r1, 0, none⟩), .int .i64 0], .slice (cutA (some ⟨g6, 0, none⟩) c6 0) b.length (c6 - 0), .tuple #[.pointer (some ⟨r1, 0, none⟩), .int .i64 0], .pointer (some ⟨r1, 0, none⟩), .int .i64 0, .int .i64 0, .bool false, .bool false, .pointer (some ⟨r1, 0, none⟩), .bool false, .bool false, .tuple #[.pointer (some ⟨r2, 0, none⟩), .int .i64 0], .pointer (some ⟨r1, 0, none⟩), .slice A b.length c, .int .i64 b.length, .int .i64 ((b.length / 2 : Nat) : Int), .slice A b.length c, .int .i64 b.length, .int .i64 ((b.length / 2 : Nat) : Int), .slice (cutA (some ⟨g6, 0, none⟩) c6 0) b.length (c6 - 0), .tuple #[.pointer (some ⟨r2, 0, none⟩), .int .i64 0], .pointer (some ⟨r2, 0, none⟩), .int .i64 0, .slice A b.length c, .slice A b.length c, .int .i64 b.length, .int .i64 ((b.length / 2 : Nat) : Int), .slice A b.length c, .int .i64 b.length, .int .i64 ((b.length / 2 : Nat) : Int), .slice A b.length c, .slice A8 (repl b (b.length / 2) (b.length / 2) b).length c8, .tuple #[.slice A9 b.length c9, .int .i64 0], .pointer (some ⟨r1, 0, none⟩), .slice A b.length c, .int .i64 b.length, .tuple #[.slice A9 b.length c9, .int .i64 0], .slice A9 b.length c9, .int .i64 0, .tuple #[.slice A10 b.length c10, .int .i64 0], .pointer (some ⟨r1, 0, none⟩), .slice A b.length c, .int .i64 b.length, .tuple #[.slice A10 b.length c10, .int .i64 0], .slice A10 b.length c10, .int .i64 0, .pointer (some ⟨r2, 0, none⟩), .bool false, .bool false, .slice (some ⟨g6, 0, none⟩) k2 c6, .string (bs (b ++ [65, 66])), .slice A b.length c, .string (bs b), .string (bs (b ++ [65, 66])), .bool false, .bool false, .bool false, .slice A9 b.length c9, .string (bs b), .slice A b.length c, .string (bs b), .bool false, .bool false, .slice (some ⟨g6, 0, none⟩) k2 c6, .int .i64 k2, .int .i64 i, .bool false, u 110, u 111, u 112, u 113, u 114, .slice A9 b.length c9, .int .i64 b.length, .int .i64 0, undef, undef, undef, undef, undef, undef, undef, undef, undef, undef, undef, undef, undef, undef, undef, undef, undef, undef, undef, undef, undef, undef, undef, undef, undef, undef, undef, undef, undef, undef, undef, undef, undef, undef, undef, undef, undef, undef, undef, undef, undef, undef, undef, undef, undef, undef, undef, undef, undef, undef, undef]).getD gj undef, 0, rfl, rfl, Nat.zero_le _, by assumption, by assumption, by assumption, by assumption, by assumption, by assumption, by assumption, by assumption, by assumption, ⟨_, hC⟩⟩
    rintro n45 a45 w45 ⟨u, j, rfl, rfl, hil', hT', hB', hP', hbk', hA', hr1', hr2', hH', hD', hC'⟩
    clear hO hC hD hH hr2 hr1 hA hbk hP hB hT
    have hil := hil'
    clear hil'
    have hT := hT'
    clear hT'
    have hB := hB'
    clear hB'
    have hP := hP'
    clear hP'
    have hbk := hbk'
    clear hbk'
    have hA := hA'
    clear hA'
    have hr1 := hr1'
    clear hr1'
    have hr2 := hr2'
    clear hr2'
    have hH := hH'
    clear hH'
    have hD := hD'
    clear hD'
    have hC := hC'
    clear hC'
    have hlt_hbk_45 := hbk.lt
    refine wp_seq_k fun KK46 hKK46 => rl_begin fun hgK hgo => ?_
    by_cases h1 : (j : Int) < b.length
    ·refine tx 118 (.bool true) (by exact ebt (c := (j : Int) < b.length) (by omega)) ?_
     simp only [pp]
     refine rl_end hgo <| hKK46 _ _ <| wp_seq_k fun KK47 hKK47 => wp_cond_true (by kernel_rfl) <| wp_skip <| hKK47 _ _ <| wp_seq_k fun KK48 hKK48 => wp_block <| wp_seq_k fun KK49 hKK49 => rl_begin fun hgK hgo => tk 119 (.int .i64 j) <| tk 19 (.int .i64 j) ?_
     simp only [pp]
     refine rl_end hgo <| hKK49 _ _ <| rl_begin fun hgK hgo => tk 120 (.slice A9 b.length c9) <| tk 121 (.int .i64 j) ?_
     simp only [pp]
     (obtain ⟨xs, hC9⟩ := hC); (obtain ⟨g9, hA9⟩ := own_some hC9 (by omega)); (have hg9' := hg9 _ hA9); simp only at hg9'; rw [hA9] at hC9
     refine tx 122 (.pointer (some ⟨g9, j, none⟩)) (by exact ex_val (ex_indexA j rfl rfl hA9 rfl (by kernel_rfl) (fun _ => by kernel_rfl) (by omega) _) (by rw [Nat.zero_add])) ?_
     simp only [pp]
     refine rl_upd rfl (by kernel_rfl) (ex_storeO (i := j) rfl hC9 (by omega) rfl rfl (by kernel_rfl) rfl) ?_
     rintro w50 ⟨hU50, hC8⟩
     replace hT := hT.upd hU50 (by omega)
     replace hB := hB.upd hU50 (by omega)
     replace hP := hP.upd hU50 (by omega)
     replace hbk := hbk.upd hU50 (by omega)
     replace hA := hA.upd hU50 (by omega)
     replace hr1 := hr1.updU hU50 ((own_blk hC9).2.2)
     replace hr2 := hr2.updU hU50 ((own_blk hC9).2.2)
     replace hH := hH.upd hU50 (by omega)
     replace hD := hD.upd hU50 (by omega)
     have hz50 := hU50.size
     have hC : OwnE n9 w50 (.slice A9 b.length c9) := ⟨_, by rw [hA9]; exact hC8⟩
     try simp only [pp]
     refine rl_end hgo <| hKK48 _ _ <| rl_begin fun hgK hgo => ?_
     refine tx 123 (.int .i64 (((j + 1 : Nat) : Int))) (by exact ex_arith (e := (j : Int) + 1) (r := ((j + 1 : Nat) : Int)) (by kernel_rfl) (by omega) (by omega)) <| tk 117 (.int .i64 (((j + 1 : Nat) : Int))) ?_
     simp only [pp]
     refine rl_end hgo ?_
     exact ⟨_, (by omega), fun gj => (#[.slice A0 l.length c0, .slice A b.length c, undef, undef, .bool false, .pointer (some ⟨bk, 0, none⟩), .bool true, .slice (some ⟨g6, 0, none⟩) k2 c6, .slice (cutA (some ⟨g6, 0, none⟩) c6 0) b.length (c6 - 0), .pointer (some ⟨r1, 0, none⟩), .int .i64 0, .pointer (some ⟨r2, 0, none⟩), .int .i64 0, .slice A8 (repl b (b.length / 2) (b.length / 2) b).length c8, .slice A9 b.length c9, .int .i64 0, .slice A10 b.length c10, .int .i64 0, u 18, .int .i64 j, undef, undef, .bool true, .bool false, .tuple #[.agg #[.slice A1 rs.length c1, .slice A2 rs.length c2], .bool true], .slice A0 l.length c0, .tuple #[.agg #[.slice A1 rs.length c1, .slice A2 rs.length c2], .bool true], .agg #[.slice A1 rs.length c1, .slice A2 rs.length c2], .bool true, .bool true, .bool false, .slice A b.length c, .int .i64 b.length, .bool false, .slice (some ⟨z0, 0, none⟩) 0 0, .slice A b.length c, .slice A5 b.length c5, .slice (some ⟨z1, 0, none⟩) 2 2, .slice (some ⟨g6, 0, none⟩) k2 c6, .slice (some ⟨g6, 0, none⟩) k2 c6, .slice A b.length c, .int .i64 b.length, .slice (cutA (some ⟨g6, 0, none⟩) c6 0) b.length (c6 - 0), .tuple #[.pointer (some ⟨r1, 0, none⟩), .int .i64 0], .slice (cutA (some ⟨g6, 0, none⟩) c6 0) b.length (c6 - 0), .tuple #[.pointer (some ⟨r1, 0, none⟩), .int .i64 0], .pointer (some ⟨r1, 0, none⟩), .int .i64 0, .int .i64 0, .bool false, .bool false, .pointer (some ⟨r1, 0, none⟩), .bool false, .bool false, .tuple #[.pointer (some ⟨r2, 0, none⟩), .int .i64 0], .pointer (some ⟨r1, 0, none⟩), .slice A b.length c, .int .i64 b.length, .int .i64 ((b.length / 2 : Nat) : Int), .slice A b.length c, .int .i64 b.length, .int .i64 ((b.length / 2 : Nat) : Int), .slice (cutA (some ⟨g6, 0, none⟩) c6 0) b.length (c6 - 0), .tuple #[.pointer (some ⟨r2, 0, none⟩), .int .i64 0], .pointer (some ⟨r2, 0, none⟩), .int .i64 0, .slice A b.length c, .slice A b.length c, .int .i64 b.length, .int .i64 ((b.length / 2 : Nat) : Int), .slice A b.length c, .int .i64 b.length, .int .i64 ((b.length / 2 : Nat) : Int), .slice A b.length c, .slice A8 (repl b (b.length / 2) (b.length / 2) b).length c8, .tuple #[.slice A9 b.length c9, .int .i64 0], .pointer (some ⟨r1, 0, none⟩), .slice A b.length c, .int .i64 b.length, .tuple #[.slice A9 b.length c9, .int .i64 0], .slice A9 b.length c9, .int .i64 0, .tuple #[.slice A10 b.length c10, .int .i64 0], .pointer (some ⟨r1, 0, none⟩), .slice A b.length c, .int .i64 b.length, .tuple #[.slice A10 b.length c10, .int .i64 0], .slice A10 b.length c10, .int .i64 0, .pointer (some ⟨r2, 0, none⟩), .bool false, .bool false, .slice (some ⟨g6, 0, none⟩) k2 c6, .string (bs (b ++ [65, 66])), .slice A b.length c, .string (bs b), .string (bs (b ++ [65, 66])), .bool false, .bool false, .bool false, .slice A9 b.length c9, .string (bs b), .slice A b.length c, .string (bs b), .bool false, .bool false, .slice (some ⟨g6, 0, none⟩) k2 c6, .int .i64 k2, .int .i64 i, .bool false, u 110, u 111, u 112, u 113, u 114, .slice A9 b.length c9, .int .i64 b.length, .int .i64 (((j + 1 : Nat) : Int)), .bool true, .int .i64 j, .slice A9 b.length c9, .int .i64 j, .pointer (some ⟨g9, j, none⟩), .int .i64 (((j + 1 : Nat) : Int)), undef, undef, undef, undef, undef, undef, undef, undef, undef, undef, undef, undef, undef, undef, undef, undef, undef, undef, undef, undef, undef, undef, undef, undef, undef, undef, undef, undef, undef, undef, undef, undef, undef, undef, undef, undef, undef, undef, undef, undef, undef, undef, undef, undef, undef]).getD gj undef, j + 1, rfl, (by kernel_rfl), by omega, by assumption, by assumption, by assumption, by assumption, by assumption, by assumption, by assumption, by assumption, by assumption, hC⟩
    ·refine tx 118 (.bool false) (by exact ebf (c := (j : Int) < b.length) (by omega)) ?_
     simp only [pp]
     refine rl_end hgo <| hKK46 _ _ <| wp_seq_k fun KK51 hKK51 => wp_cond_false (by kernel_rfl) <| wp_exit <| hKK43 _ _ <| wp_seq_k fun KK52 hKK52 => wp_seq_k fun KK53 hKK53 => rl_begin fun hgK hgo => tk 20 (.int .i64 0) ?_
     simp only [pp]
     refine rl_end hgo <| hKK53 _ _ <| wp_block ?_
     refine wp_loop_ghost (fun gn ga wl => ∃ (u : Nat → Value) (e5 m11 c11 : Nat) (A11 : Option Addr), gn = 40 - e5 ∧ ga = ⟨#[.slice A0 l.length c0, .slice A b.length c, undef, undef, .bool false, .pointer (some ⟨bk, 0, none⟩), .bool true, .slice (some ⟨g6, 0, none⟩) k2 c6, .slice (cutA (some ⟨g6, 0, none⟩) c6 0) b.length (c6 - 0), .pointer (some ⟨r1, 0, none⟩), .int .i64 0, .pointer (some ⟨r2, 0, none⟩), .int .i64 0, .slice A8 (repl b (b.length / 2) (b.length / 2) b).length c8, .slice A11 m11 c11, .int .i64 0, .slice A10 b.length c10, .int .i64 0, u 18, u 19, .int .i64 e5, undef, .bool true, .bool false, .tuple #[.agg #[.slice A1 rs.length c1, .slice A2 rs.length c2], .bool true], .slice A0 l.length c0, .tuple #[.agg #[.slice A1 rs.length c1, .slice A2 rs.length c2], .bool true], .agg #[.slice A1 rs.length c1, .slice A2 rs.length c2], .bool true, .bool true, .bool false, .slice A b.length c, .int .i64 b.length, .bool false, .slice (some ⟨z0, 0, none⟩) 0 0, .slice A b.length c, .slice A5 b.length c5, .slice (some ⟨z1, 0, none⟩) 2 2, .slice (some ⟨g6, 0, none⟩) k2 c6, .slice (some ⟨g6, 0, none⟩) k2 c6, .slice A b.length c, .int .i64 b.length, .slice (cutA (some ⟨g6, 0, none⟩) c6 0) b.length (c6 - 0), .tuple #[.pointer (some ⟨r1, 0, none⟩), .int .i64 0], .slice (cutA (some ⟨g6, 0, none⟩) c6 0) b.length (c6 - 0), .tuple #[.pointer (some ⟨r1, 0, none⟩), .int .i64 0], .pointer (some ⟨r1, 0, none⟩), .int .i64 0, .int .i64 0, .bool false, .bool false, .pointer (some ⟨r1, 0, none⟩), .bool false, .bool false, .tuple #[.pointer (some ⟨r2, 0, none⟩), .int .i64 0], .pointer (some ⟨r1, 0, none⟩), .slice A b.length c, .int .i64 b.length, .int .i64 ((b.length / 2 : Nat) : Int), .slice A b.length c, .int .i64 b.length, .int .i64 ((b.length / 2 : Nat) : Int), .slice (cutA (some ⟨g6, 0, none⟩) c6 0) b.length (c6 - 0), .tuple #[.pointer (some ⟨r2, 0, none⟩), .int .i64 0], .pointer (some ⟨r2, 0, none⟩), .int .i64 0, .slice A b.length c, .slice A b.length c, .int .i64 b.length, .int .i64 ((b.length / 2 : Nat) : Int), .slice A b.length c, .int .i64 b.length, .int .i64 ((b.length / 2 : Nat) : Int), .slice A b.length c, .slice A8 (repl b (b.length / 2) (b.length / 2) b).length c8, .tuple #[.slice A9 b.length c9, .int .i64 0], .pointer (some ⟨r1, 0, none⟩), .slice A b.length c, .int .i64 b.length, .tuple #[.slice A9 b.length c9, .int .i64 0], .slice A9 b.length c9, .int .i64 0, .tuple #[.slice A10 b.length c10, .int .i64 0], .pointer (some ⟨r1, 0, none⟩), .slice A b.length c, .int .i64 b.length, .tuple #[.slice A10 b.length c10, .int .i64 0], .slice A10 b.length c10, .int .i64 0, .pointer (some ⟨r2, 0, none⟩), .bool false, .bool false, .slice (some ⟨g6, 0, none⟩) k2 c6, .string (bs (b ++ [65, 66])), .slice A b.length c, .string (bs b), .string (bs (b ++ [65, 66])), .bool false, .bool false, .bool false, .slice A9 b.length c9, .string (bs b), .slice A b.length c, .string (bs b), .bool false, .bool false, .slice (some ⟨g6, 0, none⟩) k2 c6, .int .i64 k2, .int .i64 i, .bool false, u 110, u 111, u 112, u 113, u 114, .slice A9 b.length c9, .int .i64 b.length, .int .i64 j, .bool false, u 119, u 120, u 121, u 122, u 123, u 124, u 125, u 126, u 127, u 128, u 129, u 130, undef, undef, undef, undef, undef, undef, undef, undef, undef, undef, undef, undef, undef, undef, undef, undef, undef, undef, undef, undef, undef, undef, undef, undef, undef, undef, undef, undef, undef, undef, undef, undef, undef, undef, undef, undef, undef, undef], []⟩ ∧ (e5 ≤ 40) ∧ (m11 ≤ b.length + e5) ∧ (∀ a, A11 = some a → (n9 ≤ a.block ∧ a.block < m9) ∨ m10 ≤ a.block) ∧ (Tabs wl) ∧ (Ltr w wl) ∧ (Ropes N A1 A2 rs wl) ∧ (Blk wl bk 27 #[.slice A1 rs.length c1, .slice A2 rs.length c2]) ∧ (BytesN w.heap.size wl A b) ∧ (RopeAt wl r1 b) ∧ (RopeAt wl r2 (repl b (b.length / 2) (b.length / 2) b)) ∧ (BytesU n8 m8 wl A8 (repl b (b.length / 2) (b.length / 2) b)) ∧ (BytesU n10 m10 wl A10 b) ∧ (OwnE n9 wl (.slice A11 m11 c11))) ((fun (e5 m11 c11 : Nat) (A11 : Option Addr) => (40 - e5 : Nat)) 0 b.length c9 A9) ?_ ?_
     ·exact ⟨fun gj => (#[.slice A0 l.length c0, .slice A b.length c, undef, undef, .bool false, .pointer (some ⟨bk, 0, none⟩), .bool true, .slice (some ⟨g6, 0, none⟩) k2 c6, .slice (cutA (some ⟨g6, 0, none⟩) c6 0) b.length (c6 - 0), .pointer (some ⟨r1, 0, none⟩), .int .i64 0, .pointer (some ⟨r2, 0, none⟩), .int .i64 0, .slice A8 (repl b (b.length / 2) (b.length / 2) b).length c8, .slice A9 b.length c9, .int .i64 0, .slice A10 b.length c10, .int .i64 0, u 18, u 19, .int .i64 0, undef, .bool true, .bool false, .tuple #[.agg #[.slice A1 rs.length c1, .slice A2 rs.length c2], .bool true], .slice A0 l.length c0, .tuple #[.agg #[.slice A1 rs.length c1, .slice A2 rs.length c2], .bool true], .agg #[.slice A1 rs.length c1, .slice A2 rs.length c2], .bool true, .bool true, .bool false, .slice A b.length c, .int .i64 b.length, .bool false, .slice (some ⟨z0, 0, none⟩) 0 0, .slice A b.length c, .slice A5 b.length c5, .slice (some ⟨z1, 0, none⟩) 2 2, .slice (some ⟨g6, 0, none⟩) k2 c6, .slice (some ⟨g6, 0, none⟩) k2 c6, .slice A b.length c, .int .i64 b.length, .slice (cutA (some ⟨g6, 0, none⟩) c6 0) b.length (c6 - 0), .tuple #[.pointer (some ⟨r1, 0, none⟩), .int .i64 0], .slice (cutA (some ⟨g6, 0, none⟩) c6 0) b.length (c6 - 0), .tuple #[.pointer (some ⟨r1, 0, none⟩), .int .i64 0], .pointer (some ⟨r1, 0, none⟩), .int .i64 0, .int .i64 0, .bool false, .bool false, .pointer (some ⟨r1, 0, none⟩), .bool false, .bool false, .tuple #[.pointer (some ⟨r2, 0, none⟩), .int .i64 0], .pointer (some ⟨r1, 0, none⟩), .slice A b.length c, .int .i64 b.length, .int .i64 ((b.length / 2 : Nat) : Int), .slice A b.length c, .int .i64 b.length, .int .i64 ((b.length / 2 : Nat) : Int), .slice (cutA (some ⟨g6, 0, none⟩) c6 0) b.length (c6 - 0), .tuple #[.pointer (some ⟨r2, 0, none⟩), .int .i64 0], .pointer (some ⟨r2, 0, none⟩), .int .i64 0, .slice A b.length c, .slice A b.length c, .int .i64 b.length, .int .i64 ((b.length / 2 : Nat) : Int), .slice A b.length c, .int .i64 b.length, .int .i64 ((b.length / 2 : Nat) : Int), .slice A b.length c, .slice A8 (repl b (b.length / 2) (b.length / 2) b).length c8, .tuple #[.slice A9 b.length c9, .int .i64 0], .pointer (some ⟨r1, 0, none⟩), .slice A b.length c, .int .i64 b.length, .tuple #[.slice A9 b.length c9, .int .i64 0], .slice A9 b.length c9, .int .i64 0, .tuple #[.slice A10 b.length c10, .int .i64 0], .pointer (some ⟨r1, 0, none⟩), .slice A b.length c, .int .i64 b.length, .tuple #[.slice A10 b.length c10, .int .i64 0], .slice A10 b.length c10, .int .i64 0, .pointer (some ⟨r2, 0, none⟩), .bool false, .bool false, .slice (some ⟨g6, 0, none⟩) k2 c6, .string (bs (b ++ [65, 66])), .slice A b.length c, .string (bs b), .string (bs (b ++ [65, 66])), .bool false, .bool false, .bool false, .slice A9 b.length c9, .string (bs b), .slice A b.length c, .string (bs b), .bool false, .bool false, .slice (some ⟨g6, 0, none⟩) k2 c6, .int .i64 k2, .int .i64 i, .bool false, u 110, u 111, u 112, u 113, u 114, .slice A9 b.length c9, .int .i64 b.length, .int .i64 j, .bool false, u 119, u 120, u 121, u 122, u 123, undef, undef, undef, undef, undef, undef, undef, undef, undef, undef, undef, undef, undef, undef, undef, undef, undef, undef, undef, undef, undef, undef, undef, undef, undef, undef, undef, undef, undef, undef, undef, undef, undef, undef, undef, undef, undef, undef, undef, undef, undef, undef, undef, undef, undef]).getD gj undef, 0, b.length, c9, A9, rfl, rfl, Nat.zero_le _, Nat.le_refl _, (fun a ha => .inl (hg9 a ha)), by assumption, by assumption, by assumption, by assumption, by assumption, by assumption, by assumption, by assumption, by assumption, hC⟩
     rintro n54 a54 w54 ⟨u, e5, m11, c11, A11, rfl, rfl, hil', hm11', hg11', hT', hB', hP', hbk', hA', hr1', hr2', hH', hD', hC'⟩
     clear hC hD hH hr2 hr1 hA hbk hP hB hT
     have hil := hil'
     clear hil'
     have hm11 := hm11'
     clear hm11'
     have hg11 := hg11'
     clear hg11'
     have hT := hT'
     clear hT'
     have hB := hB'
     clear hB'
     have hP := hP'
     clear hP'
     have hbk := hbk'
     clear hbk'
     have hA := hA'
     clear hA'
     have hr1 := hr1'
     clear hr1'
     have hr2 := hr2'
     clear hr2'
     have hH := hH'
     clear hH'
     have hD := hD'
     clear hD'
     have hC := hC'
     clear hC'
     have hlt_hbk_54 := hbk.lt
     refine wp_seq_k fun KK55 hKK55 => wp_seq_k fun KK56 hKK56 => rl_begin fun hgK hgo => tk 124 (.int .i64 e5) ?_
     simp only [pp]
     by_cases h1 : (e5 : Int) < 40
     ·refine tx 125 (.bool true) (by exact ebt (c := (e5 : Int) < 40) (by omega)) ?_
      simp only [pp]
      refine rl_end hgo <| hKK56 _ _ <| wp_cond_true (by kernel_rfl) <| wp_skip <| hKK55 _ _ <| wp_seq_k fun KK57 hKK57 => wp_block <| rl_begin fun hgK hgo => tk 128 (.slice A11 m11 c11) ?_
      simp only [pp]
      refine rl_bslice (some 129) 5 #[.int .u8 44] 1 rfl (by kernel_rfl) (fun W => by kernel_rfl) fun z w58 hL58 hp58 hz => ?_
      have hz58 := hL58.size
      have hlt58 := hz.lt
      try simp only [pp]
      replace hB := hB.later hL58
      replace hD := hD.later hL58
      replace hC := hC.later hL58
      (obtain ⟨xs, hC9⟩ := hC); (have hsz10 := hB.size); (have hsd := hD.2.2)
      have hrow59 := hC9.row
      refine rl_new (some 130) rfl (by kernel_rfl) (ex_appendO rfl rfl rfl hC9 hz rfl (by omega)) ?_
      rintro v59 w59 ⟨A12, c12, rfl, hC8, hG59, hA12⟩
      replace hT := hT.later hL58
      replace hT := hT.gr hG59 (fun k hk => by have := hrow59 k hk; omega)
      replace hB := hB.gr hG59 (fun k hk => by have := hrow59 k hk; omega)
      replace hP := hP.later hL58
      replace hP := hP.gr hG59 (fun k hk => by have := hrow59 k hk; omega)
      replace hbk := hbk.later hL58
      replace hbk := hbk.gr hG59 (blk_nu hC9 hbk (by decide))
      replace hA := hA.later hL58
      replace hA := hA.gr hG59 (fun k hk => by have := hrow59 k hk; omega)
      replace hr1 := hr1.later hL58
      replace hr1 := hr1.grU hG59 (hC9)
      replace hr2 := hr2.later hL58
      replace hr2 := hr2.grU hG59 (hC9)
      replace hH := hH.later hL58
      replace hH := hH.gr hG59 (fun k hk => by have := own_g (P := fun q => (n9 ≤ q ∧ q < m9) ∨ m10 ≤ q) hg11 hk; omega)
      replace hD := hD.gr hG59 (fun k hk => by have := own_g (P := fun q => (n9 ≤ q ∧ q < m9) ∨ m10 ≤ q) hg11 hk; omega)
      have hz59 := hG59.size
      have hC : OwnE n9 w59 (.slice A12 (m11 + 1) c12) := ⟨_, hC8⟩
      try simp only [pp]
      refine tk 14 (.slice A12 (m11 + 1) c12) ?_
      simp only [pp]
      refine rl_end hgo <| hKK57 _ _ <| rl_begin fun hgK hgo => tk 126 (.int .i64 e5) ?_
      simp only [pp]
      refine tx 127 (.int .i64 (((e5 + 1 : Nat) : Int))) (by exact ex_arith (e := (e5 : Int) + 1) (r := ((e5 + 1 : Nat) : Int)) (by kernel_rfl) (by omega) (by omega)) <| tk 20 (.int .i64 (((e5 + 1 : Nat) : Int))) ?_
      simp only [pp]
      refine rl_end hgo ?_
      exact ⟨_, (by omega), fun gj => (#[.slice A0 l.length c0, .slice A b.length c, undef, undef, .bool false, .pointer (some ⟨bk, 0, none⟩), .bool true, .slice (some ⟨g6, 0, none⟩) k2 c6, .slice (cutA (some ⟨g6, 0, none⟩) c6 0) b.length (c6 - 0), .pointer (some ⟨r1, 0, none⟩), .int .i64 0, .pointer (some ⟨r2, 0, none⟩), .int .i64 0, .slice A8 (repl b (b.length / 2) (b.length / 2) b).length c8, .slice A12 (m11 + 1) c12, .int .i64 0, .slice A10 b.length c10, .int .i64 0, u 18, u 19, .int .i64 (((e5 + 1 : Nat) : Int)), undef, .bool true, .bool false, .tuple #[.agg #[.slice A1 rs.length c1, .slice A2 rs.length c2], .bool true], .slice A0 l.length c0, .tuple #[.agg #[.slice A1 rs.length c1, .slice A2 rs.length c2], .bool true], .agg #[.slice A1 rs.length c1, .slice A2 rs.length c2], .bool true, .bool true, .bool false, .slice A b.length c, .int .i64 b.length, .bool false, .slice (some ⟨z0, 0, none⟩) 0 0, .slice A b.length c, .slice A5 b.length c5, .slice (some ⟨z1, 0, none⟩) 2 2, .slice (some ⟨g6, 0, none⟩) k2 c6, .slice (some ⟨g6, 0, none⟩) k2 c6, .slice A b.length c, .int .i64 b.length, .slice (cutA (some ⟨g6, 0, none⟩) c6 0) b.length (c6 - 0), .tuple #[.pointer (some ⟨r1, 0, none⟩), .int .i64 0], .slice (cutA (some ⟨g6, 0, none⟩) c6 0) b.length (c6 - 0), .tuple #[.pointer (some ⟨r1, 0, none⟩), .int .i64 0], .pointer (some ⟨r1, 0, none⟩), .int .i64 0, .int .i64 0, .bool false, .bool false, .pointer (some ⟨r1, 0, none⟩), .bool false, .bool false, .tuple #[.pointer (some ⟨r2, 0, none⟩), .int .i64 0], .pointer (some ⟨r1, 0, none⟩), .slice A b.length c, .int .i64 b.length, .int .i64 ((b.length / 2 : Nat) : Int), .slice A b.length c, .int .i64 b.length, .int .i64 ((b.length / 2 : Nat) : Int), .slice (cutA (some ⟨g6, 0, none⟩) c6 0) b.length (c6 - 0), .tuple #[.pointer (some ⟨r2, 0, none⟩), .int .i64 0], .pointer (some ⟨r2, 0, none⟩), .int .i64 0, .slice A b.length c, .slice A b.length c, .int .i64 b.length, .int .i64 ((b.length / 2 : Nat) : Int), .slice A b.length c, .int .i64 b.length, .int .i64 ((b.length / 2 : Nat) : Int), .slice A b.length c, .slice A8 (repl b (b.length / 2) (b.length / 2) b).length c8, .tuple #[.slice A9 b.length c9, .int .i64 0], .pointer (some ⟨r1, 0, none⟩), .slice A b.length c, .int .i64 b.length, .tuple #[.slice A9 b.length c9, .int .i64 0], .slice A9 b.length c9, .int .i64 0, .tuple #[.slice A10 b.length c10, .int .i64 0], .pointer (some ⟨r1, 0, none⟩), .slice A b.length c, .int .i64 b.length, .tuple #[.slice A10 b.length c10, .int .i64 0], .slice A10 b.length c10, .int .i64 0, .pointer (some ⟨r2, 0, none⟩), .bool false, .bool false, .slice (some ⟨g6, 0, none⟩) k2 c6, .string (bs (b ++ [65, 66])), .slice A b.length c, .string (bs b), .string (bs (b ++ [65, 66])), .bool false, .bool false, .bool false, .slice A9 b.length c9, .string (bs b), .slice A b.length c, .string (bs b), .bool false, .bool false, .slice (some ⟨g6, 0, none⟩) k2 c6, .int .i64 k2, .int .i64 i, .bool false, u 110, u 111, u 112, u 113, u 114, .slice A9 b.length c9, .int .i64 b.length, .int .i64 j, .bool false, u 119, u 120, u 121, u 122, u 123, .int .i64 e5, .bool true, .int .i64 e5, .int .i64 (((e5 + 1 : Nat) : Int)), .slice A11 m11 c11, .slice (some ⟨z, 0, none⟩) 1 1, .slice A12 (m11 + 1) c12, undef, undef, undef, undef, undef, undef, undef, undef, undef, undef, undef, undef, undef, undef, undef, undef, undef, undef, undef, undef, undef, undef, undef, undef, undef, undef, undef, undef, undef, undef, undef, undef, undef, undef, undef, undef, undef, undef]).getD gj undef, e5 + 1, m11 + 1, c12, A12, rfl, (by kernel_rfl), by omega, by omega, (fun a ha => (hA12 a ha).elim (fun e => hg11 a e) (fun e => .inr (by omega))), by assumption, by assumption, by assumption, by assumption, by assumption, by assumption, by assumption, by assumption, by assumption, hC⟩
     ·refine tx 125 (.bool false) (by exact ebf (c := (e5 : Int) < 40) (by omega)) ?_
      simp only [pp]
      refine rl_end hgo <| hKK56 _ _ <| wp_cond_false (by kernel_rfl) <| wp_exit <| hKK52 _ _ <| wp_seq_k fun KK60 hKK60 => wp_seq_k fun KK61 hKK61 => ?_
      refine rm_begin (fun W => Ltr w54 W) (by kernel_rfl) (by exact bl_drew (bl_refl _)) fun K62 hgo w62 hE hS62 => ?_
      have hv62 : Ltr w54 w62 := by rw [hE]; exact bl_drew (bl_refl _)
      have hz62 := hv62.size
      clear hE hS62
      refine mk 0 131 (.slice A10 b.length c10) ?_
      try simp only [pp]
      refine mx 1 132 (.string (bs b)) rfl (fun W hW => by (exact ex_conv_str _ rfl A10 c10 b rfl (hD.later hW).1)) <| mk 2 133 (.slice A b.length c) ?_
      try simp only [pp]
      refine mx 3 134 (.string (bs b)) rfl (fun W hW => by (exact ex_conv_str _ rfl A c b rfl (hA.later hW).at)) ?_
      try simp only [pp]
      refine mx 4 135 (.bool false) rfl (fun W hW => by (exact ex_ne_lit (a := b) (b := b) (by kernel_rfl) rfl)) <| mk 5 136 (.bool false) <| mk 6 137 (.pointer (some ⟨r1, 0, none⟩)) ?_
      try simp only [pp]
      refine rm_call 7 (some 138) (.string (bs b)) 33 #[.pointer (some ⟨r1, 0, none⟩)] rfl rfl (by kernel_rfl) (by kernel_rfl) (by kernel_rfl) (by kernel_rfl) (fun W hW => by kernel_rfl) (fun W hW => text_any r1 b W (hr1.later hW) (by omega)) (fun _ _ h k => Ltr.trans h k) ?_
      try simp only [pp]
      refine mk 8 139 (.slice A b.length c) ?_
      try simp only [pp]
      refine mx 9 140 (.string (bs b)) rfl (fun W hW => by (exact ex_conv_str _ rfl A c b rfl (hA.later hW).at)) ?_
      try simp only [pp]
      refine mx 10 141 (.bool false) rfl (fun W hW => by (exact ex_ne_lit (a := b) (b := b) (by kernel_rfl) rfl)) <| mk 11 142 (.bool false) <| mk 12 143 (.bool false) <| mk 13 144 (.pointer (some ⟨r2, 0, none⟩)) ?_
      try simp only [pp]
      refine rm_call 14 (some 145) (.string (bs (repl b (b.length / 2) (b.length / 2) b))) 33 #[.pointer (some ⟨r2, 0, none⟩)] rfl rfl (by kernel_rfl) (by kernel_rfl) (by kernel_rfl) (by kernel_rfl) (fun W hW => by kernel_rfl) (fun W hW => text_any r2 (repl b (b.length / 2) (b.length / 2) b) W (hr2.later hW) (by omega)) (fun _ _ h k => Ltr.trans h k) ?_
      try simp only [pp]
      refine mk 15 146 (.slice A8 (repl b (b.length / 2) (b.length / 2) b).length c8) ?_
      try simp only [pp]
      refine mx 16 147 (.string (bs (repl b (b.length / 2) (b.length / 2) b))) rfl (fun W hW => by (exact ex_conv_str _ rfl A8 c8 (repl b (b.length / 2) (b.length / 2) b) rfl (hH.later hW).1)) ?_
      try simp only [pp]
      refine mx 17 148 (.bool false) rfl (fun W hW => by (exact ex_ne_lit (a := repl b (b.length / 2) (b.length / 2) b) (b := repl b (b.length / 2) (b.length / 2) b) (by kernel_rfl) rfl)) <| mk 18 149 (.bool false) ?_
      try simp only [pp]
      refine rm_done (by kernel_rfl) (fun w63 hL63 hS63 => hgo.out _ _ ?_) _
      clear hgo K62
      have hz63 := (show Ltr w54 _ from hS63).size
      have hy63 := hL63.size
      refine hKK61 _ _ <| wp_cond_false (by kernel_rfl) <| wp_skip <| hKK60 _ _ <| wp_seq_k fun KK64 hKK64 => wp_seq_k fun KK65 hKK65 => rl_begin fun hgK hgo => tk 150 (.pointer (some ⟨bk, 0, none⟩)) ?_
      simp only [pp]
      replace hbk := hbk.later (show Ltr w54 _ from hS63)
      refine tx 151 (.slice A1 rs.length c1) (by exact ld 24 bk 0 (hbk.cell 0)) <| tk 152 (.int .i64 rs.length) <| tk 153 (.int .i64 0) ?_
      simp only [pp]
      refine rl_end hgo <| hKK65 _ _ <| wp_block ?_
      replace hT := hT.later (show Ltr w54 _ from hS63)
      replace hB := hB.later (show Ltr w54 _ from hS63)
      replace hP := hP.later (show Ltr w54 _ from hS63)
      replace hA := hA.later (show Ltr w54 _ from hS63)
      replace hr1 := hr1.later (show Ltr w54 _ from hS63)
      replace hr2 := hr2.later (show Ltr w54 _ from hS63)
      replace hH := hH.later (show Ltr w54 _ from hS63)
      replace hD := hD.later (show Ltr w54 _ from hS63)
      replace hC := hC.later (show Ltr w54 _ from hS63)
      refine wp_loop_ghost (fun gn ga wl => ∃ (u : Nat → Value) (y5 : Nat), gn = rs.length - y5 ∧ ga = ⟨#[.slice A0 l.length c0, .slice A b.length c, undef, undef, u 4, .pointer (some ⟨bk, 0, none⟩), .bool true, .slice (some ⟨g6, 0, none⟩) k2 c6, .slice (cutA (some ⟨g6, 0, none⟩) c6 0) b.length (c6 - 0), .pointer (some ⟨r1, 0, none⟩), .int .i64 0, .pointer (some ⟨r2, 0, none⟩), .int .i64 0, .slice A8 (repl b (b.length / 2) (b.length / 2) b).length c8, .slice A11 m11 c11, .int .i64 0, .slice A10 b.length c10, .int .i64 0, u 18, u 19, .int .i64 e5, u 21, .bool true, .bool false, .tuple #[.agg #[.slice A1 rs.length c1, .slice A2 rs.length c2], .bool true], .slice A0 l.length c0, .tuple #[.agg #[.slice A1 rs.length c1, .slice A2 rs.length c2], .bool true], .agg #[.slice A1 rs.length c1, .slice A2 rs.length c2], .bool true, .bool true, .bool false, .slice A b.length c, .int .i64 b.length, .bool false, .slice (some ⟨z0, 0, none⟩) 0 0, .slice A b.length c, .slice A5 b.length c5, .slice (some ⟨z1, 0, none⟩) 2 2, .slice (some ⟨g6, 0, none⟩) k2 c6, .slice (some ⟨g6, 0, none⟩) k2 c6, .slice A b.length c, .int .i64 b.length, .slice (cutA (some ⟨g6, 0, none⟩) c6 0) b.length (c6 - 0), .tuple #[.pointer (some ⟨r1, 0, none⟩), .int .i64 0], .slice (cutA (some ⟨g6, 0, none⟩) c6 0) b.length (c6 - 0), .tuple #[.pointer (some ⟨r1, 0, none⟩), .int .i64 0], .pointer (some ⟨r1, 0, none⟩), .int .i64 0, .int .i64 0, .bool false, .bool false, .pointer (some ⟨r1, 0, none⟩), .bool false, .bool false, .tuple #[.pointer (some ⟨r2, 0, none⟩), .int .i64 0], .pointer (some ⟨r1, 0, none⟩), .slice A b.length c, .int .i64 b.length, .int .i64 ((b.length / 2 : Nat) : Int), .slice A b.length c, .int .i64 b.length, .int .i64 ((b.length / 2 : Nat) : Int), .slice (cutA (some ⟨g6, 0, none⟩) c6 0) b.length (c6 - 0), .tuple #[.pointer (some ⟨r2, 0, none⟩), .int .i64 0], .pointer (some ⟨r2, 0, none⟩), .int .i64 0, .slice A b.length c, .slice A b.length c, .int .i64 b.length, .int .i64 ((b.length / 2 : Nat) : Int), .slice A b.length c, .int .i64 b.length, .int .i64 ((b.length / 2 : Nat) : Int), .slice A b.length c, .slice A8 (repl b (b.length / 2) (b.length / 2) b).length c8, .tuple #[.slice A9 b.length c9, .int .i64 0], .pointer (some ⟨r1, 0, none⟩), .slice A b.length c, .int .i64 b.length, .tuple #[.slice A9 b.length c9, .int .i64 0], .slice A9 b.length c9, .int .i64 0, .tuple #[.slice A10 b.length c10, .int .i64 0], .pointer (some ⟨r1, 0, none⟩), .slice A b.length c, .int .i64 b.length, .tuple #[.slice A10 b.length c10, .int .i64 0], .slice A10 b.length c10, .int .i64 0, .pointer (some ⟨r2, 0, none⟩), .bool false, .bool false, .slice (some ⟨g6, 0, none⟩) k2 c6, .string (bs (b ++ [65, 66])), .slice A b.length c, .string (bs b), .string (bs (b ++ [65, 66])), .bool false, .bool false, .bool false, .slice A9 b.length c9, .string (bs b), .slice A b.length c, .string (bs b), .bool false, .bool false, .slice (some ⟨g6, 0, none⟩) k2 c6, .int .i64 k2, .int .i64 i, .bool false, u 110, u 111, u 112, u 113, u 114, .slice A9 b.length c9, .int .i64 b.length, .int .i64 j, .bool false, u 119, u 120, u 121, u 122, u 123, .int .i64 e5, .bool false, u 126, u 127, u 128, u 129, u 130, .slice A10 b.length c10, .string (bs b), .slice A b.length c, .string (bs b), .bool false, .bool false, .pointer (some ⟨r1, 0, none⟩), .string (bs b), .slice A b.length c, .string (bs b), .bool false, .bool false, .bool false, .pointer (some ⟨r2, 0, none⟩), .string (bs (repl b (b.length / 2) (b.length / 2) b)), .slice A8 (repl b (b.length / 2) (b.length / 2) b).length c8, .string (bs (repl b (b.length / 2) (b.length / 2) b)), .bool false, .bool false, .pointer (some ⟨bk, 0, none⟩), .slice A1 rs.length c1, .int .i64 rs.length, .int .i64 y5, u 154, u 155, u 156, u 157, u 158, u 159, u 160, u 161, u 162, u 163, u 164, u 165, u 166, u 167, u 168], []⟩ ∧ (y5 ≤ rs.length) ∧ (Tabs wl) ∧ (Ltr w wl) ∧ (Ropes N A1 A2 rs wl) ∧ (Blk wl bk 27 #[.slice A1 rs.length c1, .slice A2 rs.length c2])) ((fun (y5 : Nat) => (rs.length - y5 : Nat)) 0) ?_ ?_
      ·exact ⟨fun gj => (#[.slice A0 l.length c0, .slice A b.length c, undef, undef, .bool false, .pointer (some ⟨bk, 0, none⟩), .bool true, .slice (some ⟨g6, 0, none⟩) k2 c6, .slice (cutA (some ⟨g6, 0, none⟩) c6 0) b.length (c6 - 0), .pointer (some ⟨r1, 0, none⟩), .int .i64 0, .pointer (some ⟨r2, 0, none⟩), .int .i64 0, .slice A8 (repl b (b.length / 2) (b.length / 2) b).length c8, .slice A11 m11 c11, .int .i64 0, .slice A10 b.length c10, .int .i64 0, u 18, u 19, .int .i64 e5, undef, .bool true, .bool false, .tuple #[.agg #[.slice A1 rs.length c1, .slice A2 rs.length c2], .bool true], .slice A0 l.length c0, .tuple #[.agg #[.slice A1 rs.length c1, .slice A2 rs.length c2], .bool true], .agg #[.slice A1 rs.length c1, .slice A2 rs.length c2], .bool true, .bool true, .bool false, .slice A b.length c, .int .i64 b.length, .bool false, .slice (some ⟨z0, 0, none⟩) 0 0, .slice A b.length c, .slice A5 b.length c5, .slice (some ⟨z1, 0, none⟩) 2 2, .slice (some ⟨g6, 0, none⟩) k2 c6, .slice (some ⟨g6, 0, none⟩) k2 c6, .slice A b.length c, .int .i64 b.length, .slice (cutA (some ⟨g6, 0, none⟩) c6 0) b.length (c6 - 0), .tuple #[.pointer (some ⟨r1, 0, none⟩), .int .i64 0], .slice (cutA (some ⟨g6, 0, none⟩) c6 0) b.length (c6 - 0), .tuple #[.pointer (some ⟨r1, 0, none⟩), .int .i64 0], .pointer (some ⟨r1, 0, none⟩), .int .i64 0, .int .i64 0, .bool false, .bool false, .pointer (some ⟨r1, 0, none⟩), .bool false, .bool false, .tuple #[.pointer (some ⟨r2, 0, none⟩), .int .i64 0], .pointer (some ⟨r1, 0, none⟩), .slice A b.length c, .int .i64 b.length, .int .i64 ((b.length / 2 : Nat) : Int), .slice A b.length c, .int .i64 b.length, .int .i64 ((b.length / 2 : Nat) : Int), .slice (cutA (some ⟨g6, 0, none⟩) c6 0) b.length (c6 - 0), .tuple #[.pointer (some ⟨r2, 0, none⟩), .int .i64 0], .pointer (some ⟨r2, 0, none⟩), .int .i64 0, .slice A b.length c, .slice A b.length c, .int .i64 b.length, .int .i64 ((b.length / 2 : Nat) : Int), .slice A b.length c, .int .i64 b.length, .int .i64 ((b.length / 2 : Nat) : Int), .slice A b.length c, .slice A8 (repl b (b.length / 2) (b.length / 2) b).length c8, .tuple #[.slice A9 b.length c9, .int .i64 0], .pointer (some ⟨r1, 0, none⟩), .slice A b.length c, .int .i64 b.length, .tuple #[.slice A9 b.length c9, .int .i64 0], .slice A9 b.length c9, .int .i64 0, .tuple #[.slice A10 b.length c10, .int .i64 0], .pointer (some ⟨r1, 0, none⟩), .slice A b.length c, .int .i64 b.length, .tuple #[.slice A10 b.length c10, .int .i64 0], .slice A10 b.length c10, .int .i64 0, .pointer (some ⟨r2, 0, none⟩), .bool false, .bool false, .slice (some ⟨g6, 0, none⟩) k2 c6, .string (bs (b ++ [65, 66])), .slice A b.length c, .string (bs b), .string (bs (b ++ [65, 66])), .bool false, .bool false, .bool false, .slice A9 b.length c9, .string (bs b), .slice A b.length c, .string (bs b), .bool false, .bool false, .slice (some ⟨g6, 0, none⟩) k2 c6, .int .i64 k2, .int .i64 i, .bool false, u 110, u 111, u 112, u 113, u 114, .slice A9 b.length c9, .int .i64 b.length, .int .i64 j, .bool false, u 119, u 120, u 121, u 122, u 123, .int .i64 e5, .bool false, u 126, u 127, u 128, u 129, u 130, .slice A10 b.length c10, .string (bs b), .slice A b.length c, .string (bs b), .bool false, .bool false, .pointer (some ⟨r1, 0, none⟩), .string (bs b), .slice A b.length c, .string (bs b), .bool false, .bool false, .bool false, .pointer (some ⟨r2, 0, none⟩), .string (bs (repl b (b.length / 2) (b.length / 2) b)), .slice A8 (repl b (b.length / 2) (b.length / 2) b).length c8, .string (bs (repl b (b.length / 2) (b.length / 2) b)), .bool false, .bool false, .pointer (some ⟨bk, 0, none⟩), .slice A1 rs.length c1, .int .i64 rs.length, .int .i64 0, undef, undef, undef, undef, undef, undef, undef, undef, undef, undef, undef, undef, undef, undef, undef]).getD gj undef, 0, rfl, rfl, Nat.zero_le _, by assumption, by assumption, by assumption, by assumption⟩
      rintro n66 a66 w66 ⟨u, y5, rfl, rfl, hil', hT', hB', hP', hbk'⟩
      clear hC hD hH hr2 hr1 hA hbk hP hB hT
      have hil := hil'
      clear hil'
      have hT := hT'
      clear hT'
      have hB := hB'
      clear hB'
      have hP := hP'
      clear hP'
      have hbk := hbk'
      clear hbk'
      have hlt_hbk_66 := hbk.lt
      refine wp_seq_k fun KK67 hKK67 => rl_begin fun hgK hgo => ?_
      by_cases h1 : (y5 : Int) < rs.length
      ·refine tx 154 (.bool true) (by exact ebt (c := (y5 : Int) < rs.length) (by omega)) ?_
       simp only [pp]
       refine rl_end hgo <| hKK67 _ _ <| wp_seq_k fun KK68 hKK68 => wp_cond_true (by kernel_rfl) <| wp_skip <| hKK68 _ _ <| wp_seq_k fun KK69 hKK69 => wp_block <| wp_seq_k fun KK70 hKK70 => rl_begin fun hgK hgo => ?_
       (obtain ⟨q, t, hbt⟩ := rope_i y5 (by omega : y5 < rs.length)); (have htl := hP.lt hbt); (obtain ⟨gb, go', he1, hgn, -⟩ := hP.p y5 (by omega)); (obtain ⟨gs, gt, he2, hgn2, -⟩ := hP.s y5 (by omega))
       refine tk 155 (.int .i64 y5) <| tk 21 (.int .i64 y5) ?_
       simp only [pp]
       refine rl_end hgo <| hKK70 _ _ <| wp_seq_k fun KK71 hKK71 => ?_
       refine rm_begin (fun W => Ltr w66 W) (by kernel_rfl) (by exact bl_drew (bl_refl _)) fun K72 hgo w72 hE hS72 => ?_
       have hv72 : Ltr w66 w72 := by rw [hE]; exact bl_drew (bl_refl _)
       have hz72 := hv72.size
       clear hE hS72
       refine mk 0 156 (.pointer (some ⟨bk, 0, none⟩)) ?_
       try simp only [pp]
       refine mx 1 157 (.slice A1 rs.length c1) rfl (fun W hW => by (exact ld 24 bk 0 ((hbk.later hW).cell 0))) <| mk 2 158 (.int .i64 y5) ?_
       try simp only [pp]
       refine mx 3 159 (.pointer (some ⟨gb, go' + y5, none⟩)) rfl (fun W hW => by (exact ex_indexA y5 rfl rfl he1 rfl (by kernel_rfl) (fun _ => by kernel_rfl) (by omega) _)) ?_
       try simp only [pp]
       refine mx 4 160 (.pointer (some ⟨q, 0, none⟩)) rfl (fun W hW => by (exact ld1 31 _ rfl gb (go' + y5) rfl (fun _ => by kernel_rfl) _ ((hP.later hW).pc he1 (ptrs_at hbt)))) ?_
       try simp only [pp]
       refine rm_call 5 (some 161) (.string (bs t)) 33 #[.pointer (some ⟨q, 0, none⟩)] rfl rfl (by kernel_rfl) (by kernel_rfl) (by kernel_rfl) (by kernel_rfl) (fun W hW => by kernel_rfl) (fun W hW => text_any q t W ((hP.at hbt).later hW) (by omega)) (fun _ _ h k => Ltr.trans h k) ?_
       try simp only [pp]
       refine mk 6 162 (.pointer (some ⟨bk, 1, none⟩)) ?_
       try simp only [pp]
       refine mx 7 163 (.slice A2 rs.length c2) rfl (fun W hW => by (exact ld 25 bk 1 ((hbk.later hW).cell 1))) <| mk 8 164 (.int .i64 y5) ?_
       try simp only [pp]
       refine mx 9 165 (.pointer (some ⟨gs, gt + y5, none⟩)) rfl (fun W hW => by (exact ex_indexA y5 rfl rfl he2 rfl (by kernel_rfl) (fun _ => by kernel_rfl) (by omega) _)) ?_
       try simp only [pp]
       refine mx 10 166 (.string (bs t)) rfl (fun W hW => by (exact ld1 9 _ rfl gs (gt + y5) rfl (fun _ => by kernel_rfl) _ ((hP.later hW).sc he2 (strs_at hbt)))) ?_
       try simp only [pp]
       refine mx 11 167 (.bool false) rfl (fun W hW => by (exact ex_ne_lit (a := t) (b := t) (by kernel_rfl) rfl)) ?_
       try simp only [pp]
       refine rm_done (by kernel_rfl) (fun w73 hL73 hS73 => hgo.out _ _ ?_) _
       clear hgo K72
       have hz73 := (show Ltr w66 _ from hS73).size
       have hy73 := hL73.size
       refine hKK71 _ _ <| wp_cond_false (by kernel_rfl) <| wp_skip <| hKK69 _ _ <| rl_begin fun hgK hgo => ?_
       refine tx 168 (.int .i64 (((y5 + 1 : Nat) : Int))) (by exact ex_arith (e := (y5 : Int) + 1) (r := ((y5 + 1 : Nat) : Int)) (by kernel_rfl) (by omega) (by omega)) <| tk 153 (.int .i64 (((y5 + 1 : Nat) : Int))) ?_
       simp only [pp]
       refine rl_end hgo ?_
       replace hT := hT.later (show Ltr w66 _ from hS73)
       replace hB := hB.later (show Ltr w66 _ from hS73)
       replace hP := hP.later (show Ltr w66 _ from hS73)
       replace hbk := hbk.later (show Ltr w66 _ from hS73)
       exact ⟨_, (by omega), fun gj => (#[.slice A0 l.length c0, .slice A b.length c, undef, undef, u 4, .pointer (some ⟨bk, 0, none⟩), .bool true, .slice (some ⟨g6, 0, none⟩) k2 c6, .slice (cutA (some ⟨g6, 0, none⟩) c6 0) b.length (c6 - 0), .pointer (some ⟨r1, 0, none⟩), .int .i64 0, .pointer (some ⟨r2, 0, none⟩), .int .i64 0, .slice A8 (repl b (b.length / 2) (b.length / 2) b).length c8, .slice A11 m11 c11, .int .i64 0, .slice A10 b.length c10, .int .i64 0, u 18, u 19, .int .i64 e5, .int .i64 y5, .bool true, .bool false, .tuple #[.agg #[.slice A1 rs.length c1, .slice A2 rs.length c2], .bool true], .slice A0 l.length c0, .tuple #[.agg #[.slice A1 rs.length c1, .slice A2 rs.length c2], .bool true], .agg #[.slice A1 rs.length c1, .slice A2 rs.length c2], .bool true, .bool true, .bool false, .slice A b.length c, .int .i64 b.length, .bool false, .slice (some ⟨z0, 0, none⟩) 0 0, .slice A b.length c, .slice A5 b.length c5, .slice (some ⟨z1, 0, none⟩) 2 2, .slice (some ⟨g6, 0, none⟩) k2 c6, .slice (some ⟨g6, 0, none⟩) k2 c6, .slice A b.length c, .int .i64 b.length, .slice (cutA (some ⟨g6, 0, none⟩) c6 0) b.length (c6 - 0), .tuple #[.pointer (some ⟨r1, 0, none⟩), .int .i64 0], .slice (cutA (some ⟨g6, 0, none⟩) c6 0) b.length (c6 - 0), .tuple #[.pointer (some ⟨r1, 0, none⟩), .int .i64 0], .pointer (some ⟨r1, 0, none⟩), .int .i64 0, .int .i64 0, .bool false, .bool false, .pointer (some ⟨r1, 0, none⟩), .bool false, .bool false, .tuple #[.pointer (some ⟨r2, 0, none⟩), .int .i64 0], .pointer (some ⟨r1, 0, none⟩), .slice A b.length c, .int .i64 b.length, .int .i64 ((b.length / 2 : Nat) : Int), .slice A b.length c, .int .i64 b.length, .int .i64 ((b.length / 2 : Nat) : Int), .slice (cutA (some ⟨g6, 0, none⟩) c6 0) b.length (c6 - 0), .tuple #[.pointer (some ⟨r2, 0, none⟩), .int .i64 0], .pointer (some ⟨r2, 0, none⟩), .int .i64 0, .slice A b.length c, .slice A b.length c, .int .i64 b.length, .int .i64 ((b.length / 2 : Nat) : Int), .slice A b.length c, .int .i64 b.length, .int .i64 ((b.length / 2 : Nat) : Int), .slice A b.length c, .slice A8 (repl b (b.length / 2) (b.length / 2) b).length c8, .tuple #[.slice A9 b.length c9, .int .i64 0], .pointer (some ⟨r1, 0, none⟩), .slice A b.length c, .int .i64 b.length, .tuple #[.slice A9 b.length c9, .int .i64 0], .slice A9 b.length c9, .int .i64 0, .tuple #[.slice A10 b.length c10, .int .i64 0], .pointer (some ⟨r1, 0, none⟩), .slice A b.length c, .int .i64 b.length, .tuple #[.slice A10 b.length c10, .int .i64 0], .slice A10 b.length c10, .int .i64 0, .pointer (some ⟨r2, 0, none⟩), .bool false, .bool false, .slice (some ⟨g6, 0, none⟩) k2 c6, .string (bs (b ++ [65, 66])), .slice A b.length c, .string (bs b), .string (bs (b ++ [65, 66])), .bool false, .bool false, .bool false, .slice A9 b.length c9, .string (bs b), .slice A b.length c, .string (bs b), .bool false, .bool false, .slice (some ⟨g6, 0, none⟩) k2 c6, .int .i64 k2, .int .i64 i, .bool false, u 110, u 111, u 112, u 113, u 114, .slice A9 b.length c9, .int .i64 b.length, .int .i64 j, .bool false, u 119, u 120, u 121, u 122, u 123, .int .i64 e5, .bool false, u 126, u 127, u 128, u 129, u 130, .slice A10 b.length c10, .string (bs b), .slice A b.length c, .string (bs b), .bool false, .bool false, .pointer (some ⟨r1, 0, none⟩), .string (bs b), .slice A b.length c, .string (bs b), .bool false, .bool false, .bool false, .pointer (some ⟨r2, 0, none⟩), .string (bs (repl b (b.length / 2) (b.length / 2) b)), .slice A8 (repl b (b.length / 2) (b.length / 2) b).length c8, .string (bs (repl b (b.length / 2) (b.length / 2) b)), .bool false, .bool false, .pointer (some ⟨bk, 0, none⟩), .slice A1 rs.length c1, .int .i64 rs.length, .int .i64 (((y5 + 1 : Nat) : Int)), .bool true, .int .i64 y5, .pointer (some ⟨bk, 0, none⟩), .slice A1 rs.length c1, .int .i64 y5, .pointer (some ⟨gb, go' + y5, none⟩), .pointer (some ⟨q, 0, none⟩), .string (bs t), .pointer (some ⟨bk, 1, none⟩), .slice A2 rs.length c2, .int .i64 y5, .pointer (some ⟨gs, gt + y5, none⟩), .string (bs t), .bool false, .int .i64 (((y5 + 1 : Nat) : Int))]).getD gj undef, y5 + 1, rfl, (by kernel_rfl), by omega, by assumption, by assumption, by assumption, by assumption⟩
      ·refine tx 154 (.bool false) (by exact ebf (c := (y5 : Int) < rs.length) (by omega)) ?_
       simp only [pp]
       refine rl_end hgo <| hKK67 _ _ <| wp_seq_k fun KK74 hKK74 => wp_cond_false (by kernel_rfl) <| wp_exit <| hKK64 _ _ <| wp_seq_k fun KK75 hKK75 => rl_begin fun hgK hgo => tk 4 (.bool true) ?_
       simp only [pp]
       refine rl_end hgo <| hKK75 _ _ ?_
       refine wp_ret ?_
       try simp only [Exit.then, Exit.inBlock]
       refine bp_ret (v := .bool true) (res1 rfl (res_tmp (by kernel_rfl))) ?_
       exact ⟨rfl, hB⟩
end Go.Proofs.YtliphfgiaioebaaDoor
