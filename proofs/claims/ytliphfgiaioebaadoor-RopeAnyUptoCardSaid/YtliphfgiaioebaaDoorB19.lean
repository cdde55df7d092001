/-
  Chapter 5's reference: Sizes, head, tail, Of.
-/
import Derived.Test.YtliphfgiaioebaaDoorB18
namespace Go.Proofs.YtliphfgiaioebaaDoor
set_option linter.unusedVariables false
set_option linter.unusedSimpArgs false
open Go.RowKit
set_option maxRecDepth 100000
set_option maxHeartbeats 16000000
/-- one cell of a block is written, whatever the order -/
theorem rm_storeP {P : Program} {ops : Array Oper} {K : Act → World → Prop} {S : World → Prop} {i : Nat} (g off : Nat) (v : Value) (cs : Array Value) {ty : TypeId} {x y : Operand} {t : TypeId} {old : Array Value} {oi : Oper} {fuel : Nat} {listed : Array Bool} {a : Act} {w : World} (hi : ops[i]? = some oi) (hd : oi.dst = none)
    (ho : oi.op = .store ty x y) (hw : Region.wanted oi (yielded ops a.tmps) = true) (hx : a.eval x = .pointer (some ⟨g, off, none⟩)) (hy : a.eval y = v) (hn : (P.info? ty).map (·.size) = some 1)
    (hg : ∀ w', Ltr w w' → S w' → Blk w' g t old) (hoff : off < old.size) (hcs : old.setIfInBounds off v = cs) (hS : ∀ w' w'', S w' → Upd g w' w'' → S w'') (h1 : v.oneCell' = true)
    (h : ∀ w' w'', Ltr w w' → S w' → Upd g w' w'' → Blk w'' g t cs → S w'' → wpM P ops K S fuel (listed.setIfInBounds i true) (a.put none undef) w'') : PickM P ops K S fuel listed a w i := by
  unfold PickM
  intro w' hl hS'
  have hb := hg w' hl hS'
  subst hcs
  have hc : v.cells = #[v] := by cases v <;> first | rfl | (simp [Value.oneCell'] at h1)
  have hcell : w'.cell? ⟨g, off, none⟩ = some old[off] := by rw [hb.cell]; simp [hoff]
  have hfro : w'.frozen? ⟨g, off, none⟩ = false := by
    have hg' : w'.heap[g]? = some (.cells old t (0, 0)) := hb
    simp [World.frozen?, hg']
  have hst : (store (⟨g, off, none⟩ : Addr) v).run P w' = .ok () (w'.setRow g (old.setIfInBounds off v)) := by
    rw [run_store P w' _ v _ h1, hcell]
    simp [hfro, setCell_eq_setRow w' g off old t (0, 0) v hb]
  have hs : (storeVar ty ⟨g, off, none⟩ v).run P w' = .ok () (w'.setRow g (old.setIfInBounds off v)) := by
    cases hi' : P.info? ty with
    | none => simp [hi'] at hn
    | some f =>
      have hs : f.size = 1 := by simpa [hi'] using hn
      have ha : (⟨g, off, none⟩ : Addr).add 0 = ⟨g, off, none⟩ := by rw [add_none]; rfl
      simp [storeVar, sizeOf, typeInfo, hi', hs, hc, storeCells, ha, hst]
  have hr : (execOp a.eval oi).run P w' = .ok .skip (w'.setRow g (old.setIfInBounds off v)) := by
    unfold execOp
    simp only [ho, hx, hy, Instr.storeAt, Instr.sureAddr, Sem.run_bind, Sem.run_pure, Result.andThen_ok, hs]
  unfold wpOp
  simp only [hi, hw, if_true]
  exact .inl (upon_step hr (.inr ⟨rfl, rfl⟩) ⟨hS _ _ hS' (setRow_upd _ _ _), hd ▸ h w' _ hl hS' (setRow_upd _ _ _) (setRow_blk _ hb) (hS _ _ hS' (setRow_upd _ _ _))⟩)
/-! ### sums over edges -/
def su (l : List UInt8) (es : List Nat) : Int := (es.map fun q => unitsOf (runeOf (l.drop q))).sum
theorem su_snoc (l : List UInt8) (es : List Nat) (q : Nat) : su l (es ++ [q]) = su l es + unitsOf (runeOf (l.drop q)) := by unfold su; simp
theorem unitsOf_r (r : Int) : 1 ≤ unitsOf r ∧ unitsOf r ≤ 2 := by unfold unitsOf; split <;> omega
theorem su_bd (l : List UInt8) : ∀ es : List Nat, 0 ≤ su l es ∧ su l es ≤ 2 * es.length
  | [] => ⟨Int.le_refl _, Int.le_refl _⟩
  | q :: es => by
    have h1 := su_bd l es
    have h2 := unitsOf_r (runeOf (l.drop q))
    have h3 : su l (q :: es) = unitsOf (runeOf (l.drop q)) + su l es := by unfold su; simp
    rw [h3, List.length_cons]; omega
theorem sm_succ' (f : Nat → Int) (n : Nat) : sm f (n + 1) = sm f n + f n := by
  rw [sm_add f n 1]
  have : sm (fun i => f (n + i)) 1 = f n := by rw [sm_first (by decide) (fun i h1 h2 => by omega)]; rfl
  rw [this]
theorem runes_edges (l : List UInt8) : ∀ k, sm (runesAt l) k = ((edges l k).length : Int)
  | 0 => rfl
  | k + 1 => by
    rw [sm_succ', runes_edges l k]
    unfold runesAt
    cases h : edgeB l k
    · rw [edges_out h]; simp
    · rw [edges_in h, List.length_append]; simp
theorem units_edges (l : List UInt8) : ∀ k, sm (unitsAt l) k = su l (edges l k)
  | 0 => rfl
  | k + 1 => by
    rw [sm_succ', units_edges l k]
    unfold unitsAt
    cases h : edgeB l k
    · rw [edges_out h]; simp
    · rw [edges_in h, su_snoc]; simp
theorem bd_ends (l : List UInt8) : ∀ n : Nat, 0 ≤ sm (endsAt l) n ∧ sm (endsAt l) n ≤ n
  | 0 => ⟨Int.le_refl _, Int.le_refl _⟩
  | n + 1 => by
    have h1 := bd_ends l n
    have h2 : 0 ≤ endsAt l n ∧ endsAt l n ≤ 1 := by unfold endsAt; split <;> omega
    have h3 : sm (endsAt l) (n + 1) = sm (endsAt l) n + endsAt l n := by
      rw [sm_add (endsAt l) n 1]
      have : sm (fun i => endsAt l (n + i)) 1 = endsAt l n := by rw [sm_first (by decide) (fun i h1 h2 => by omega)]; rfl
      rw [this]
    rw [h3]; omega
theorem stps_cell {N : Nat} {w : World} {S1 : Option Addr} {l : List UInt8} {sb so i q j : Nat} {v : Value} (h : CellsU N w S1 (stps l (edges l l.length))) (he : S1 = some ⟨sb, so, none⟩) (hq : (edges l l.length)[i]? = some q) (hv : (stp l q)[j]? = some v) : w.cell? ⟨sb, so + i * 3 + j, none⟩ = some v := by
  have hj : j < 3 := by have := (List.getElem?_eq_some_iff.1 hv).1; simpa [stp] using this
  have key : ∀ (es : List Nat) (i : Nat), es[i]? = some q → (stps l es)[i * 3 + j]? = some v := by
    intro es
    induction es with
    | nil => intro i hi; simp at hi
    | cons x es ih =>
      intro i hi
      have e : stps l (x :: es) = stp l x ++ stps l es := by unfold stps; simp
      rw [e]
      cases i with
      | zero => simp at hi; subst hi; rw [Nat.zero_mul, Nat.zero_add, List.getElem?_append_left (by simp [stp]; omega)]; exact hv
      | succ i =>
        simp at hi
        rw [List.getElem?_append_right (by simp [stp]; omega)]
        have := ih i hi
        rwa [show (i + 1) * 3 + j - (stp l x).length = i * 3 + j by simp [stp]; omega]
  have hk := key _ i hq
  obtain ⟨b', off', e, hc⟩ := h.1 (by have := (List.getElem?_eq_some_iff.1 hk).1; omega)
  rw [he] at e; cases e
  have := hc _ v hk
  rwa [← Nat.add_assoc] at this
theorem ends_succ (l : List UInt8) (n : Nat) : sm (endsAt l) (n + 1) = sm (endsAt l) n + endsAt l n := by
  rw [sm_add (endsAt l) n 1]
  have : sm (fun i => endsAt l (n + i)) 1 = endsAt l n := by rw [sm_first (by decide) (fun i h1 h2 => by omega)]; rfl
  rw [this]
theorem ends_is1 {l : List UInt8} {p : Nat} (h : gb l p = 13 ∨ (gb l p = 10 ∧ (p = 0 ∨ gb l (p - 1) ≠ 13))) : endsAt l p = 1 := by
  unfold endsAt
  rw [if_pos]
  rcases h with h | ⟨h, h'⟩
  · exact .inl h
  · refine .inr ⟨h, fun ⟨h1, h2⟩ => ?_⟩
    rcases h' with h' | h'
    · omega
    · exact h' h2
theorem ends_is0 {l : List UInt8} {p : Nat} (h1 : gb l p ≠ 13) (h : gb l p ≠ 10 ∨ (0 < p ∧ gb l (p - 1) = 13)) : endsAt l p = 0 := by
  unfold endsAt
  rw [if_neg]
  rintro (h2 | ⟨h2, h3⟩)
  · exact h1 h2
  · rcases h with h | h
    · exact h h2
    · exact h3 h
theorem head_min (l : List UInt8) : l.take (min 3 l.length) = l.take 3 := by
  rcases Nat.le_total 3 l.length with h | h
  · rw [Nat.min_eq_left h]
  · rw [Nat.min_eq_right h, List.take_of_length_le (Nat.le_refl _), List.take_of_length_le h]
theorem Sizes_ref (A : Option Addr) (c : Nat) (l : List UInt8) (w : World) (hA : BytesAt w A l) (hc : l.length ≤ c) (hm : l.length ≤ 268435456) :
    Calls Tryd.prog 63 #[.slice A l.length c] w fun e w' => e = .returned (.agg #[.int .i64 l.length, .int .i64 (runesN l), .int .i64 (unitsN l), .int .i64 (endsN l)]) ∧ Ltr w w' := by
  have hB := Ltr.refl w
  replace hA := hA.n
  have hru : runesN l = ((edges l l.length).length : Int) := runes_edges l l.length
  have hun : unitsN l = su l (edges l l.length) := units_edges l l.length
  have hen := edges_len l l.length
  go_enter Tryd.func63, Tryd.ntmps63
  refine wp_seq_k fun KK1 hKK1 => rl_begin fun hgK hgo => ?_
  refine rl_alloc (some 2) 34 #[.int .i64 0, .int .i64 0, .int .i64 0, .int .i64 0] rfl (by kernel_rfl) (fun W => by kernel_rfl) fun rb w2 hL2 hp2 hrb => ?_
  have hz2 := hL2.size
  have hlt2 := hrb.lt
  try simp only [pp]
  refine rl_end hgo <| hKK1 _ _ <| wp_seq_k fun KK3 hKK3 => rl_begin fun hgK hgo => tk 7 (.slice A l.length c) <| tk 8 (.int .i64 l.length) <| tk 9 (.agg #[.int .i64 l.length, .int .i64 0, .int .i64 0, .int .i64 0]) ?_
  simp only [pp]
  refine rl_alloc (some 3) 34 #[.int .i64 0, .int .i64 0, .int .i64 0, .int .i64 0] rfl (by kernel_rfl) (fun W => by kernel_rfl) fun zb w4 hL4 hp4 hzb => ?_
  have hz4 := hL4.size
  have hlt4 := hzb.lt
  try simp only [pp]
  refine rl_store zb #[.int .i64 l.length, .int .i64 0, .int .i64 0, .int .i64 0] rfl rfl (by kernel_rfl) rfl rfl (by kernel_rfl) hzb rfl (by kernel_rfl) fun w5 hU5 hn5 => ?_
  have hz5 := hU5.size
  replace hB := (hB.later hL2).later hL4
  replace hB := hB.upd hU5 (by omega)
  replace hA := (hA.later hL2).later hL4
  replace hA := hA.upd hU5 (by omega)
  replace hrb := hrb.later hL4
  replace hrb := hrb.upd hU5 (by omega)
  clear hzb
  have hzb := hn5
  clear hn5
  try simp only [pp]
  refine rl_end hgo <| hKK3 _ _ <| wp_seq_k fun KK6 hKK6 => rl_begin fun hgK hgo => tk 10 (.slice A l.length c) ?_
  simp only [pp]
  refine rl_call (some 11) 93 #[.slice A l.length c] rfl (by kernel_rfl) (by kernel_rfl) (Steps_any A c l _ hA.at hc (by omega)) ?_
  rintro e w7 ⟨S1, s1, N, rfl, hL7, hN, hS⟩
  refine ⟨_, rfl, ?_⟩
  have hz7 := hL7.size
  try simp only [pp]
  refine tk 4 (.slice S1 (edges l l.length).length s1) ?_
  simp only [pp]
  refine rl_end hgo <| hKK6 _ _ <| wp_seq_k fun KK8 hKK8 => wp_seq_k fun KK9 hKK9 => rl_begin fun hgK hgo => tk 5 (.int .i64 0) ?_
  simp only [pp]
  refine rl_end hgo <| hKK9 _ _ <| wp_block ?_
  replace hB := hB.later hL7
  replace hA := hA.later hL7
  replace hrb := hrb.later hL7
  replace hzb := hzb.later hL7
  refine wp_loop_ghost (fun gn ga wl => ∃ (u : Nat → Value) (i : Nat), gn = (edges l l.length).length - i ∧ ga = ⟨#[.slice A l.length c, undef, .pointer (some ⟨rb, 0, none⟩), .pointer (some ⟨zb, 0, none⟩), .slice S1 (edges l l.length).length s1, .int .i64 i, undef, .slice A l.length c, .int .i64 l.length, .agg #[.int .i64 l.length, .int .i64 0, .int .i64 0, .int .i64 0], .slice A l.length c, .slice S1 (edges l l.length).length s1, u 12, u 13, u 14, u 15, u 16, u 17, u 18, u 19, u 20, u 21, u 22, u 23, u 24, u 25, u 26, u 27, u 28, u 29, u 30, undef, undef, undef, undef, undef, undef, undef, undef, undef, undef, undef, undef, undef, undef, undef, undef, undef, undef, undef, undef, undef, undef, undef, undef, undef, undef, undef, undef, undef, undef, undef, undef, undef, undef, undef], []⟩ ∧ (i ≤ (edges l l.length).length) ∧ (Ltr w wl) ∧ (BytesN w.heap.size wl A l) ∧ (CellsU N wl S1 (stps l (edges l l.length))) ∧ (Blk wl rb 34 #[.int .i64 0, .int .i64 0, .int .i64 0, .int .i64 0]) ∧ (Blk wl zb 34 #[.int .i64 l.length, .int .i64 i, .int .i64 (su l ((edges l l.length).take i)), .int .i64 0])) ((fun (i : Nat) => ((edges l l.length).length - i : Nat)) 0) ?_ ?_
  ·exact ⟨fun gj => (#[.slice A l.length c, undef, .pointer (some ⟨rb, 0, none⟩), .pointer (some ⟨zb, 0, none⟩), .slice S1 (edges l l.length).length s1, .int .i64 0, undef, .slice A l.length c, .int .i64 l.length, .agg #[.int .i64 l.length, .int .i64 0, .int .i64 0, .int .i64 0], .slice A l.length c, .slice S1 (edges l l.length).length s1, undef, undef, undef, undef, undef, undef, undef, undef, undef, undef, undef, undef, undef, undef, undef, undef, undef, undef, undef, undef, undef, undef, undef, undef, undef, undef, undef, undef, undef, undef, undef, undef, undef, undef, undef, undef, undef, undef, undef, undef, undef, undef, undef, undef, undef, undef, undef, undef, undef, undef, undef, undef, undef, undef]).getD gj undef, 0, rfl, rfl, Nat.zero_le _, by assumption, by assumption, by assumption, by assumption, by assumption⟩
  rintro n10 a10 w10 ⟨u, i, rfl, rfl, hil', hB', hA', hS', hrb', hzb'⟩
  clear hS hzb hrb hA hB
  have hil := hil'
  clear hil'
  have hB := hB'
  clear hB'
  have hA := hA'
  clear hA'
  have hS := hS'
  clear hS'
  have hrb := hrb'
  clear hrb'
  have hzb := hzb'
  clear hzb'
  have hlt_hrb_10 := hrb.lt
  have hlt_hzb_10 := hzb.lt
  refine wp_seq_k fun KK11 hKK11 => wp_seq_k fun KK12 hKK12 => rl_begin fun hgK hgo => tk 12 (.int .i64 i) <| tk 13 (.slice S1 (edges l l.length).length s1) <| tk 14 (.int .i64 (edges l l.length).length) ?_
  simp only [pp]
  by_cases h1 : (i : Int) < (edges l l.length).length
  ·refine tx 15 (.bool true) (by exact ebt (c := (i : Int) < ((edges l l.length).length)) (by omega)) ?_
   simp only [pp]
   refine rl_end hgo <| hKK12 _ _ <| wp_cond_true (by kernel_rfl) <| wp_skip <| hKK11 _ _ <| wp_seq_k fun KK13 hKK13 => wp_block <| wp_seq_k fun KK14 hKK14 => rl_begin fun hgK hgo => ?_
   (obtain ⟨q, hq⟩ : ∃ q, (edges l l.length)[i]? = some q := ⟨_, List.getElem?_eq_getElem (by omega)⟩); (obtain ⟨sb, so, hSe, hsc⟩ := hS.1 (by rw [stps_len]; omega)); (have hub := su_bd l ((edges l l.length).take i)); (have hul : ((edges l l.length).take i).length ≤ i := by rw [List.length_take]; omega); (have hur := unitsOf_r (runeOf (l.drop q))); (have hsn : su l ((edges l l.length).take (i + 1)) = su l ((edges l l.length).take i) + unitsOf (runeOf (l.drop q)) := by rw [take_one hq, su_snoc]); (clear hsc)
   refine tk 18 (.pointer (some ⟨zb, 1, none⟩)) ?_
   simp only [pp]
   refine tx 19 (.int .i64 i) (by exact ld 3 zb 1 (hzb.cell 1)) ?_
   simp only [pp]
   refine tx 20 (.int .i64 (((i + 1 : Nat) : Int))) (by exact ex_arith (e := (i : Int) + 1) (r := ((i + 1 : Nat) : Int)) (by kernel_rfl) (by omega) (by omega)) <| tk 21 (.pointer (some ⟨zb, 1, none⟩)) ?_
   simp only [pp]
   refine rl_storeP zb 1 (.int .i64 (((i + 1 : Nat) : Int))) #[.int .i64 l.length, .int .i64 (((i + 1 : Nat) : Int)), .int .i64 (su l ((edges l l.length).take i)), .int .i64 0] rfl rfl (by kernel_rfl) rfl rfl (by kernel_rfl) hzb (by simp) (by kernel_rfl) rfl fun w15 hU15 hn15 => ?_
   have hz15 := hU15.size
   replace hB := hB.upd hU15 (by omega)
   replace hA := hA.upd hU15 (by omega)
   replace hS := hS.upd hU15 (by omega)
   replace hrb := hrb.upd hU15 (by omega)
   clear hzb
   have hzb := hn15
   clear hn15
   try simp only [pp]
   refine rl_end hgo <| hKK14 _ _ ?_
   refine rm_begin (fun _ => True) (by kernel_rfl) trivial fun K17 hgo w17 hE _ => ?_
   have hv17 : Ltr w15 w17 := by rw [hE]; exact bl_drew (bl_refl _)
   clear hE
   have hz17 := hv17.size
   refine mk 0 22 (.pointer (some ⟨zb, 2, none⟩)) <| mk 2 24 (.slice S1 (edges l l.length).length s1) <| mk 3 25 (.int .i64 i) ?_
   try simp only [pp]
   replace hB := hB.later hv17
   replace hA := hA.later hv17
   replace hS := hS.later hv17
   replace hrb := hrb.later hv17
   replace hzb := hzb.later hv17
   refine rm_pick2 (i := 1) (j := 4) (by kernel_rfl) ?_ ?_
   ·refine rm_read (some 23) (.int .i64 (su l ((edges l l.length).take i))) rfl rfl (by kernel_rfl) (fun W hlz _ => by exact ld 3 zb 2 ((hzb.later hlz).cell 2)) fun w18 hL18 _ => ?_
    have hz18 := hL18.size
    try simp only [pp]
    refine rm_pick1 (i := 4) (by kernel_rfl) ?_
    refine rm_read (some 26) (.pointer (some ⟨sb, so + i * 3, none⟩)) rfl rfl (by kernel_rfl) (fun W hlz _ => by exact ex_indexN 3 i rfl rfl hSe rfl (by kernel_rfl) (fun _ => by kernel_rfl) (by omega) _) fun w19 hL19 _ => ?_
    have hz19 := hL19.size
    try simp only [pp]
    refine rm_pick1 (i := 5) (by kernel_rfl) ?_
    replace hS := (hS.later hL18).later hL19
    refine rm_read (some 27) (.agg #[.int .i32 (runeOf (l.drop q)), .int .i64 (stepW (l.drop q)), .bool (decide (eL l q ≠ 0))]) rfl rfl (by kernel_rfl) (fun W hlz _ => by exact ldC 158 _ rfl sb (so + i * 3) (stp l q) rfl (fun _ => by kernel_rfl) (by kernel_rfl) (fun j v hv => stps_cell (hS.later hlz) hSe hq hv)) fun w20 hL20 _ => ?_
    have hz20 := hL20.size
    try simp only [pp]
    refine rm_pick1 (i := 6) (by kernel_rfl) ?_
    refine rm_callz (some 28) 94 #[.agg #[.int .i32 (runeOf (l.drop q)), .int .i64 (stepW (l.drop q)), .bool (decide (eL l q ≠ 0))]] rfl rfl (by kernel_rfl) (fun W hlz => by kernel_rfl) (fun W hlz => units_ref _ _ _ W) ?_
    replace hB := ((hB.later hL18).later hL19).later hL20
    replace hA := ((hA.later hL18).later hL19).later hL20
    replace hrb := ((hrb.later hL18).later hL19).later hL20
    replace hzb := ((hzb.later hL18).later hL19).later hL20
    replace hS := hS.later hL20
    rintro W21 e w21 hL21 (⟨rfl, hM21⟩)
    ·refine ⟨_, rfl, ?_⟩
     replace hB := (hB.later hL21).later hM21
     replace hA := (hA.later hL21).later hM21
     replace hS := (hS.later hL21).later hM21
     replace hrb := (hrb.later hL21).later hM21
     replace hzb := (hzb.later hL21).later hM21
     have hz21 := hL21.size
     try simp only [pp]
     refine mx 7 29 (.int .i64 (su l ((edges l l.length).take (i + 1)))) rfl (fun W hW => by (exact ex_arith (e := (su l ((edges l l.length).take i) : Int) + (unitsOf (runeOf (l.drop q)))) (r := su l ((edges l l.length).take (i + 1))) (by kernel_rfl) (by omega) (by omega))) <| mk 8 30 (.pointer (some ⟨zb, 2, none⟩)) ?_
     try simp only [pp]
     refine rm_pick1 (i := 9) (by kernel_rfl) ?_
     refine rm_storeP zb 2 (.int .i64 (su l ((edges l l.length).take (i + 1)))) #[.int .i64 l.length, .int .i64 (((i + 1 : Nat) : Int)), .int .i64 (su l ((edges l l.length).take (i + 1))), .int .i64 0] rfl rfl rfl (by kernel_rfl) rfl rfl (by kernel_rfl) (fun W hlz _ => hzb.later hlz) (by simp) rfl (fun _ _ _ _ => trivial) (by kernel_rfl) fun q22 w22 hq22 _ hU22 hn22 _ => ?_
     have hz22 := hU22.size
     have hy22 := hq22.size
     replace hB := (hB.later hq22).upd hU22 (by omega)
     replace hA := (hA.later hq22).upd hU22 (by omega)
     replace hS := (hS.later hq22).upd hU22 (by omega)
     replace hrb := (hrb.later hq22).upd hU22 (by omega)
     clear hzb
     have hzb := hn22
     clear hn22
     try simp only [pp]
     refine rm_done (by kernel_rfl) (fun w23 hL23 _ => hgo.out _ _ ?_) _
     clear hgo K17
     have hz23 := hL23.size
     refine hKK13 _ _ <| rl_begin fun hgK hgo => tk 16 (.int .i64 i) ?_
     simp only [pp]
     refine tx 17 (.int .i64 (((i + 1 : Nat) : Int))) (by exact ex_arith (e := (i : Int) + 1) (r := ((i + 1 : Nat) : Int)) (by kernel_rfl) (by omega) (by omega)) <| tk 5 (.int .i64 (((i + 1 : Nat) : Int))) ?_
     simp only [pp]
     refine rl_end hgo ?_
     replace hB := hB.later hL23
     replace hA := hA.later hL23
     replace hS := hS.later hL23
     replace hrb := hrb.later hL23
     replace hzb := hzb.later hL23
     exact ⟨_, (by omega), fun gj => (#[.slice A l.length c, undef, .pointer (some ⟨rb, 0, none⟩), .pointer (some ⟨zb, 0, none⟩), .slice S1 (edges l l.length).length s1, .int .i64 (((i + 1 : Nat) : Int)), undef, .slice A l.length c, .int .i64 l.length, .agg #[.int .i64 l.length, .int .i64 0, .int .i64 0, .int .i64 0], .slice A l.length c, .slice S1 (edges l l.length).length s1, .int .i64 i, .slice S1 (edges l l.length).length s1, .int .i64 (edges l l.length).length, .bool true, .int .i64 i, .int .i64 (((i + 1 : Nat) : Int)), .pointer (some ⟨zb, 1, none⟩), .int .i64 i, .int .i64 (((i + 1 : Nat) : Int)), .pointer (some ⟨zb, 1, none⟩), .pointer (some ⟨zb, 2, none⟩), .int .i64 (su l ((edges l l.length).take i)), .slice S1 (edges l l.length).length s1, .int .i64 i, .pointer (some ⟨sb, so + i * 3, none⟩), .agg #[.int .i32 (runeOf (l.drop q)), .int .i64 (stepW (l.drop q)), .bool (decide (eL l q ≠ 0))], .int .i64 (unitsOf (runeOf (l.drop q))), .int .i64 (su l ((edges l l.length).take (i + 1))), .pointer (some ⟨zb, 2, none⟩), undef, undef, undef, undef, undef, undef, undef, undef, undef, undef, undef, undef, undef, undef, undef, undef, undef, undef, undef, undef, undef, undef, undef, undef, undef, undef, undef, undef, undef, undef, undef, undef, undef, undef, undef]).getD gj undef, i + 1, rfl, rfl, by omega, by assumption, by assumption, by assumption, by assumption, by assumption⟩
   ·refine rm_read (some 26) (.pointer (some ⟨sb, so + i * 3, none⟩)) rfl rfl (by kernel_rfl) (fun W hlz _ => by exact ex_indexN 3 i rfl rfl hSe rfl (by kernel_rfl) (fun _ => by kernel_rfl) (by omega) _) fun w24 hL24 _ => ?_
    have hz24 := hL24.size
    try simp only [pp]
    replace hB := hB.later hL24
    replace hA := hA.later hL24
    replace hS := hS.later hL24
    replace hrb := hrb.later hL24
    replace hzb := hzb.later hL24
    refine rm_pick2 (i := 1) (j := 5) (by kernel_rfl) ?_ ?_
    ·refine rm_read (some 23) (.int .i64 (su l ((edges l l.length).take i))) rfl rfl (by kernel_rfl) (fun W hlz _ => by exact ld 3 zb 2 ((hzb.later hlz).cell 2)) fun w25 hL25 _ => ?_
     have hz25 := hL25.size
     try simp only [pp]
     refine rm_pick1 (i := 5) (by kernel_rfl) ?_
     replace hS := hS.later hL25
     refine rm_read (some 27) (.agg #[.int .i32 (runeOf (l.drop q)), .int .i64 (stepW (l.drop q)), .bool (decide (eL l q ≠ 0))]) rfl rfl (by kernel_rfl) (fun W hlz _ => by exact ldC 158 _ rfl sb (so + i * 3) (stp l q) rfl (fun _ => by kernel_rfl) (by kernel_rfl) (fun j v hv => stps_cell (hS.later hlz) hSe hq hv)) fun w26 hL26 _ => ?_
     have hz26 := hL26.size
     try simp only [pp]
     refine rm_pick1 (i := 6) (by kernel_rfl) ?_
     refine rm_callz (some 28) 94 #[.agg #[.int .i32 (runeOf (l.drop q)), .int .i64 (stepW (l.drop q)), .bool (decide (eL l q ≠ 0))]] rfl rfl (by kernel_rfl) (fun W hlz => by kernel_rfl) (fun W hlz => units_ref _ _ _ W) ?_
     replace hB := (hB.later hL25).later hL26
     replace hA := (hA.later hL25).later hL26
     replace hrb := (hrb.later hL25).later hL26
     replace hzb := (hzb.later hL25).later hL26
     replace hS := hS.later hL26
     rintro W27 e w27 hL27 (⟨rfl, hM27⟩)
     ·refine ⟨_, rfl, ?_⟩
      replace hB := (hB.later hL27).later hM27
      replace hA := (hA.later hL27).later hM27
      replace hS := (hS.later hL27).later hM27
      replace hrb := (hrb.later hL27).later hM27
      replace hzb := (hzb.later hL27).later hM27
      have hz27 := hL27.size
      try simp only [pp]
      refine mx 7 29 (.int .i64 (su l ((edges l l.length).take (i + 1)))) rfl (fun W hW => by (exact ex_arith (e := (su l ((edges l l.length).take i) : Int) + (unitsOf (runeOf (l.drop q)))) (r := su l ((edges l l.length).take (i + 1))) (by kernel_rfl) (by omega) (by omega))) <| mk 8 30 (.pointer (some ⟨zb, 2, none⟩)) ?_
      try simp only [pp]
      refine rm_pick1 (i := 9) (by kernel_rfl) ?_
      refine rm_storeP zb 2 (.int .i64 (su l ((edges l l.length).take (i + 1)))) #[.int .i64 l.length, .int .i64 (((i + 1 : Nat) : Int)), .int .i64 (su l ((edges l l.length).take (i + 1))), .int .i64 0] rfl rfl rfl (by kernel_rfl) rfl rfl (by kernel_rfl) (fun W hlz _ => hzb.later hlz) (by simp) rfl (fun _ _ _ _ => trivial) (by kernel_rfl) fun q28 w28 hq28 _ hU28 hn28 _ => ?_
      have hz28 := hU28.size
      have hy28 := hq28.size
      replace hB := (hB.later hq28).upd hU28 (by omega)
      replace hA := (hA.later hq28).upd hU28 (by omega)
      replace hS := (hS.later hq28).upd hU28 (by omega)
      replace hrb := (hrb.later hq28).upd hU28 (by omega)
      clear hzb
      have hzb := hn28
      clear hn28
      try simp only [pp]
      refine rm_done (by kernel_rfl) (fun w29 hL29 _ => hgo.out _ _ ?_) _
      clear hgo K17
      have hz29 := hL29.size
      refine hKK13 _ _ <| rl_begin fun hgK hgo => tk 16 (.int .i64 i) ?_
      simp only [pp]
      refine tx 17 (.int .i64 (((i + 1 : Nat) : Int))) (by exact ex_arith (e := (i : Int) + 1) (r := ((i + 1 : Nat) : Int)) (by kernel_rfl) (by omega) (by omega)) <| tk 5 (.int .i64 (((i + 1 : Nat) : Int))) ?_
      simp only [pp]
      refine rl_end hgo ?_
      replace hB := hB.later hL29
      replace hA := hA.later hL29
      replace hS := hS.later hL29
      replace hrb := hrb.later hL29
      replace hzb := hzb.later hL29
      exact ⟨_, (by omega), fun gj => (#[.slice A l.length c, undef, .pointer (some ⟨rb, 0, none⟩), .pointer (some ⟨zb, 0, none⟩), .slice S1 (edges l l.length).length s1, .int .i64 (((i + 1 : Nat) : Int)), undef, .slice A l.length c, .int .i64 l.length, .agg #[.int .i64 l.length, .int .i64 0, .int .i64 0, .int .i64 0], .slice A l.length c, .slice S1 (edges l l.length).length s1, .int .i64 i, .slice S1 (edges l l.length).length s1, .int .i64 (edges l l.length).length, .bool true, .int .i64 i, .int .i64 (((i + 1 : Nat) : Int)), .pointer (some ⟨zb, 1, none⟩), .int .i64 i, .int .i64 (((i + 1 : Nat) : Int)), .pointer (some ⟨zb, 1, none⟩), .pointer (some ⟨zb, 2, none⟩), .int .i64 (su l ((edges l l.length).take i)), .slice S1 (edges l l.length).length s1, .int .i64 i, .pointer (some ⟨sb, so + i * 3, none⟩), .agg #[.int .i32 (runeOf (l.drop q)), .int .i64 (stepW (l.drop q)), .bool (decide (eL l q ≠ 0))], .int .i64 (unitsOf (runeOf (l.drop q))), .int .i64 (su l ((edges l l.length).take (i + 1))), .pointer (some ⟨zb, 2, none⟩), undef, undef, undef, undef, undef, undef, undef, undef, undef, undef, undef, undef, undef, undef, undef, undef, undef, undef, undef, undef, undef, undef, undef, undef, undef, undef, undef, undef, undef, undef, undef, undef, undef, undef, undef]).getD gj undef, i + 1, rfl, rfl, by omega, by assumption, by assumption, by assumption, by assumption, by assumption⟩
    ·refine rm_read (some 27) (.agg #[.int .i32 (runeOf (l.drop q)), .int .i64 (stepW (l.drop q)), .bool (decide (eL l q ≠ 0))]) rfl rfl (by kernel_rfl) (fun W hlz _ => by exact ldC 158 _ rfl sb (so + i * 3) (stp l q) rfl (fun _ => by kernel_rfl) (by kernel_rfl) (fun j v hv => stps_cell (hS.later hlz) hSe hq hv)) fun w30 hL30 _ => ?_
     have hz30 := hL30.size
     try simp only [pp]
     replace hB := hB.later hL30
     replace hA := hA.later hL30
     replace hS := hS.later hL30
     replace hrb := hrb.later hL30
     replace hzb := hzb.later hL30
     refine rm_pick2 (i := 1) (j := 6) (by kernel_rfl) ?_ ?_
     ·refine rm_read (some 23) (.int .i64 (su l ((edges l l.length).take i))) rfl rfl (by kernel_rfl) (fun W hlz _ => by exact ld 3 zb 2 ((hzb.later hlz).cell 2)) fun w31 hL31 _ => ?_
      have hz31 := hL31.size
      try simp only [pp]
      refine rm_pick1 (i := 6) (by kernel_rfl) ?_
      refine rm_callz (some 28) 94 #[.agg #[.int .i32 (runeOf (l.drop q)), .int .i64 (stepW (l.drop q)), .bool (decide (eL l q ≠ 0))]] rfl rfl (by kernel_rfl) (fun W hlz => by kernel_rfl) (fun W hlz => units_ref _ _ _ W) ?_
      replace hB := hB.later hL31
      replace hA := hA.later hL31
      replace hS := hS.later hL31
      replace hrb := hrb.later hL31
      replace hzb := hzb.later hL31
      rintro W32 e w32 hL32 (⟨rfl, hM32⟩)
      ·refine ⟨_, rfl, ?_⟩
       replace hB := (hB.later hL32).later hM32
       replace hA := (hA.later hL32).later hM32
       replace hS := (hS.later hL32).later hM32
       replace hrb := (hrb.later hL32).later hM32
       replace hzb := (hzb.later hL32).later hM32
       have hz32 := hL32.size
       try simp only [pp]
       refine mx 7 29 (.int .i64 (su l ((edges l l.length).take (i + 1)))) rfl (fun W hW => by (exact ex_arith (e := (su l ((edges l l.length).take i) : Int) + (unitsOf (runeOf (l.drop q)))) (r := su l ((edges l l.length).take (i + 1))) (by kernel_rfl) (by omega) (by omega))) <| mk 8 30 (.pointer (some ⟨zb, 2, none⟩)) ?_
       try simp only [pp]
       refine rm_pick1 (i := 9) (by kernel_rfl) ?_
       refine rm_storeP zb 2 (.int .i64 (su l ((edges l l.length).take (i + 1)))) #[.int .i64 l.length, .int .i64 (((i + 1 : Nat) : Int)), .int .i64 (su l ((edges l l.length).take (i + 1))), .int .i64 0] rfl rfl rfl (by kernel_rfl) rfl rfl (by kernel_rfl) (fun W hlz _ => hzb.later hlz) (by simp) rfl (fun _ _ _ _ => trivial) (by kernel_rfl) fun q33 w33 hq33 _ hU33 hn33 _ => ?_
       have hz33 := hU33.size
       have hy33 := hq33.size
       replace hB := (hB.later hq33).upd hU33 (by omega)
       replace hA := (hA.later hq33).upd hU33 (by omega)
       replace hS := (hS.later hq33).upd hU33 (by omega)
       replace hrb := (hrb.later hq33).upd hU33 (by omega)
       clear hzb
       have hzb := hn33
       clear hn33
       try simp only [pp]
       refine rm_done (by kernel_rfl) (fun w34 hL34 _ => hgo.out _ _ ?_) _
       clear hgo K17
       have hz34 := hL34.size
       refine hKK13 _ _ <| rl_begin fun hgK hgo => tk 16 (.int .i64 i) ?_
       simp only [pp]
       refine tx 17 (.int .i64 (((i + 1 : Nat) : Int))) (by exact ex_arith (e := (i : Int) + 1) (r := ((i + 1 : Nat) : Int)) (by kernel_rfl) (by omega) (by omega)) <| tk 5 (.int .i64 (((i + 1 : Nat) : Int))) ?_
       simp only [pp]
       refine rl_end hgo ?_
       replace hB := hB.later hL34
       replace hA := hA.later hL34
       replace hS := hS.later hL34
       replace hrb := hrb.later hL34
       replace hzb := hzb.later hL34
       exact ⟨_, (by omega), fun gj => (#[.slice A l.length c, undef, .pointer (some ⟨rb, 0, none⟩), .pointer (some ⟨zb, 0, none⟩), .slice S1 (edges l l.length).length s1, .int .i64 (((i + 1 : Nat) : Int)), undef, .slice A l.length c, .int .i64 l.length, .agg #[.int .i64 l.length, .int .i64 0, .int .i64 0, .int .i64 0], .slice A l.length c, .slice S1 (edges l l.length).length s1, .int .i64 i, .slice S1 (edges l l.length).length s1, .int .i64 (edges l l.length).length, .bool true, .int .i64 i, .int .i64 (((i + 1 : Nat) : Int)), .pointer (some ⟨zb, 1, none⟩), .int .i64 i, .int .i64 (((i + 1 : Nat) : Int)), .pointer (some ⟨zb, 1, none⟩), .pointer (some ⟨zb, 2, none⟩), .int .i64 (su l ((edges l l.length).take i)), .slice S1 (edges l l.length).length s1, .int .i64 i, .pointer (some ⟨sb, so + i * 3, none⟩), .agg #[.int .i32 (runeOf (l.drop q)), .int .i64 (stepW (l.drop q)), .bool (decide (eL l q ≠ 0))], .int .i64 (unitsOf (runeOf (l.drop q))), .int .i64 (su l ((edges l l.length).take (i + 1))), .pointer (some ⟨zb, 2, none⟩), undef, undef, undef, undef, undef, undef, undef, undef, undef, undef, undef, undef, undef, undef, undef, undef, undef, undef, undef, undef, undef, undef, undef, undef, undef, undef, undef, undef, undef, undef, undef, undef, undef, undef, undef]).getD gj undef, i + 1, rfl, rfl, by omega, by assumption, by assumption, by assumption, by assumption, by assumption⟩
     ·refine rm_callz (some 28) 94 #[.agg #[.int .i32 (runeOf (l.drop q)), .int .i64 (stepW (l.drop q)), .bool (decide (eL l q ≠ 0))]] rfl rfl (by kernel_rfl) (fun W hlz => by kernel_rfl) (fun W hlz => units_ref _ _ _ W) ?_
      rintro W35 e w35 hL35 (⟨rfl, hM35⟩)
      ·refine ⟨_, rfl, ?_⟩
       replace hB := (hB.later hL35).later hM35
       replace hA := (hA.later hL35).later hM35
       replace hS := (hS.later hL35).later hM35
       replace hrb := (hrb.later hL35).later hM35
       replace hzb := (hzb.later hL35).later hM35
       have hz35 := hL35.size
       try simp only [pp]
       refine rm_pick1 (i := 1) (by kernel_rfl) ?_
       refine rm_read (some 23) (.int .i64 (su l ((edges l l.length).take i))) rfl rfl (by kernel_rfl) (fun W hlz _ => by exact ld 3 zb 2 ((hzb.later hlz).cell 2)) fun w36 hL36 _ => ?_
       have hz36 := hL36.size
       try simp only [pp]
       refine mx 7 29 (.int .i64 (su l ((edges l l.length).take (i + 1)))) rfl (fun W hW => by (exact ex_arith (e := (su l ((edges l l.length).take i) : Int) + (unitsOf (runeOf (l.drop q)))) (r := su l ((edges l l.length).take (i + 1))) (by kernel_rfl) (by omega) (by omega))) <| mk 8 30 (.pointer (some ⟨zb, 2, none⟩)) ?_
       try simp only [pp]
       refine rm_pick1 (i := 9) (by kernel_rfl) ?_
       replace hzb := hzb.later hL36
       refine rm_storeP zb 2 (.int .i64 (su l ((edges l l.length).take (i + 1)))) #[.int .i64 l.length, .int .i64 (((i + 1 : Nat) : Int)), .int .i64 (su l ((edges l l.length).take (i + 1))), .int .i64 0] rfl rfl rfl (by kernel_rfl) rfl rfl (by kernel_rfl) (fun W hlz _ => hzb.later hlz) (by simp) rfl (fun _ _ _ _ => trivial) (by kernel_rfl) fun q37 w37 hq37 _ hU37 hn37 _ => ?_
       have hz37 := hU37.size
       have hy37 := hq37.size
       replace hB := hB.later hL36
       replace hB := (hB.later hq37).upd hU37 (by omega)
       replace hA := hA.later hL36
       replace hA := (hA.later hq37).upd hU37 (by omega)
       replace hS := hS.later hL36
       replace hS := (hS.later hq37).upd hU37 (by omega)
       replace hrb := hrb.later hL36
       replace hrb := (hrb.later hq37).upd hU37 (by omega)
       clear hzb
       have hzb := hn37
       clear hn37
       try simp only [pp]
       refine rm_done (by kernel_rfl) (fun w38 hL38 _ => hgo.out _ _ ?_) _
       clear hgo K17
       have hz38 := hL38.size
       refine hKK13 _ _ <| rl_begin fun hgK hgo => tk 16 (.int .i64 i) ?_
       simp only [pp]
       refine tx 17 (.int .i64 (((i + 1 : Nat) : Int))) (by exact ex_arith (e := (i : Int) + 1) (r := ((i + 1 : Nat) : Int)) (by kernel_rfl) (by omega) (by omega)) <| tk 5 (.int .i64 (((i + 1 : Nat) : Int))) ?_
       simp only [pp]
       refine rl_end hgo ?_
       replace hB := hB.later hL38
       replace hA := hA.later hL38
       replace hS := hS.later hL38
       replace hrb := hrb.later hL38
       replace hzb := hzb.later hL38
       exact ⟨_, (by omega), fun gj => (#[.slice A l.length c, undef, .pointer (some ⟨rb, 0, none⟩), .pointer (some ⟨zb, 0, none⟩), .slice S1 (edges l l.length).length s1, .int .i64 (((i + 1 : Nat) : Int)), undef, .slice A l.length c, .int .i64 l.length, .agg #[.int .i64 l.length, .int .i64 0, .int .i64 0, .int .i64 0], .slice A l.length c, .slice S1 (edges l l.length).length s1, .int .i64 i, .slice S1 (edges l l.length).length s1, .int .i64 (edges l l.length).length, .bool true, .int .i64 i, .int .i64 (((i + 1 : Nat) : Int)), .pointer (some ⟨zb, 1, none⟩), .int .i64 i, .int .i64 (((i + 1 : Nat) : Int)), .pointer (some ⟨zb, 1, none⟩), .pointer (some ⟨zb, 2, none⟩), .int .i64 (su l ((edges l l.length).take i)), .slice S1 (edges l l.length).length s1, .int .i64 i, .pointer (some ⟨sb, so + i * 3, none⟩), .agg #[.int .i32 (runeOf (l.drop q)), .int .i64 (stepW (l.drop q)), .bool (decide (eL l q ≠ 0))], .int .i64 (unitsOf (runeOf (l.drop q))), .int .i64 (su l ((edges l l.length).take (i + 1))), .pointer (some ⟨zb, 2, none⟩), undef, undef, undef, undef, undef, undef, undef, undef, undef, undef, undef, undef, undef, undef, undef, undef, undef, undef, undef, undef, undef, undef, undef, undef, undef, undef, undef, undef, undef, undef, undef, undef, undef, undef, undef]).getD gj undef, i + 1, rfl, rfl, by omega, by assumption, by assumption, by assumption, by assumption, by assumption⟩
  ·refine tx 15 (.bool false) (by exact ebf (c := (i : Int) < ((edges l l.length).length)) (by omega)) ?_
   simp only [pp]
   refine rl_end hgo <| hKK12 _ _ <| wp_cond_false (by kernel_rfl) <| wp_exit <| hKK8 _ _ <| wp_seq_k fun KK39 hKK39 => wp_seq_k fun KK40 hKK40 => rl_begin fun hgK hgo => ?_
   (have hie : i = (edges l l.length).length := by omega); (have htk : (edges l l.length).take i = edges l l.length := List.take_of_length_le (by omega)); (rw [htk] at hzb); (rw [hie] at hzb)
   refine tk 6 (.int .i64 0) ?_
   simp only [pp]
   refine rl_end hgo <| hKK40 _ _ <| wp_block ?_
   refine wp_loop_ghost (fun gn ga wl => ∃ (u : Nat → Value) (j : Nat), gn = l.length - j ∧ ga = ⟨#[.slice A l.length c, undef, .pointer (some ⟨rb, 0, none⟩), .pointer (some ⟨zb, 0, none⟩), .slice S1 (edges l l.length).length s1, .int .i64 i, .int .i64 j, .slice A l.length c, .int .i64 l.length, .agg #[.int .i64 l.length, .int .i64 0, .int .i64 0, .int .i64 0], .slice A l.length c, .slice S1 (edges l l.length).length s1, .int .i64 i, .slice S1 (edges l l.length).length s1, .int .i64 (edges l l.length).length, .bool false, u 16, u 17, u 18, u 19, u 20, u 21, u 22, u 23, u 24, u 25, u 26, u 27, u 28, u 29, u 30, u 31, u 32, u 33, u 34, u 35, u 36, u 37, u 38, u 39, u 40, u 41, u 42, u 43, u 44, u 45, u 46, u 47, u 48, u 49, u 50, u 51, u 52, u 53, u 54, u 55, u 56, u 57, u 58, u 59, u 60, u 61, u 62, u 63, u 64, undef], []⟩ ∧ (j ≤ l.length) ∧ (Ltr w wl) ∧ (BytesN w.heap.size wl A l) ∧ (Blk wl rb 34 #[.int .i64 0, .int .i64 0, .int .i64 0, .int .i64 0]) ∧ (Blk wl zb 34 #[.int .i64 l.length, .int .i64 (edges l l.length).length, .int .i64 (su l (edges l l.length)), .int .i64 (sm (endsAt l) j)])) ((fun (j : Nat) => (l.length - j : Nat)) 0) ?_ ?_
   ·exact ⟨fun gj => (#[.slice A l.length c, undef, .pointer (some ⟨rb, 0, none⟩), .pointer (some ⟨zb, 0, none⟩), .slice S1 (edges l l.length).length s1, .int .i64 i, .int .i64 0, .slice A l.length c, .int .i64 l.length, .agg #[.int .i64 l.length, .int .i64 0, .int .i64 0, .int .i64 0], .slice A l.length c, .slice S1 (edges l l.length).length s1, .int .i64 i, .slice S1 (edges l l.length).length s1, .int .i64 (edges l l.length).length, .bool false, u 16, u 17, u 18, u 19, u 20, u 21, u 22, u 23, u 24, u 25, u 26, u 27, u 28, u 29, u 30, undef, undef, undef, undef, undef, undef, undef, undef, undef, undef, undef, undef, undef, undef, undef, undef, undef, undef, undef, undef, undef, undef, undef, undef, undef, undef, undef, undef, undef, undef, undef, undef, undef, undef, undef]).getD gj undef, 0, rfl, rfl, Nat.zero_le _, by assumption, by assumption, by assumption, hzb⟩
   rintro n41 a41 w41 ⟨u, j, rfl, rfl, hjl', hB', hA', hrb', hzb'⟩
   clear hzb hrb hS hA hB
   have hjl := hjl'
   clear hjl'
   have hB := hB'
   clear hB'
   have hA := hA'
   clear hA'
   have hrb := hrb'
   clear hrb'
   have hzb := hzb'
   clear hzb'
   have hlt_hrb_41 := hrb.lt
   have hlt_hzb_41 := hzb.lt
   refine wp_seq_k fun KK42 hKK42 => wp_seq_k fun KK43 hKK43 => rl_begin fun hgK hgo => tk 31 (.int .i64 j) <| tk 32 (.slice A l.length c) <| tk 33 (.int .i64 l.length) ?_
   simp only [pp]
   by_cases h2 : (j : Int) < l.length
   ·refine tx 34 (.bool true) (by exact ebt (c := (j : Int) < l.length) (by omega)) ?_
    simp only [pp]
    refine rl_end hgo <| hKK43 _ _ <| wp_cond_true (by kernel_rfl) <| wp_skip <| hKK42 _ _ <| wp_seq_k fun KK44 hKK44 => wp_block <| wp_seq_k fun KK45 hKK45 => rl_begin fun hgK hgo => tk 37 (.slice A l.length c) <| tk 38 (.int .i64 j) ?_
    simp only [pp]
    (obtain ⟨ab, ao, hAe, hac⟩ := hA.at (by omega)); (have hsb := bd_ends l j); (have hss := ends_succ l j)
    refine tx 39 (.pointer (some ⟨ab, ao + j, none⟩)) (by exact ex_indexA j rfl rfl hAe rfl (by kernel_rfl) (fun _ => by kernel_rfl) (by omega) _) ?_
    simp only [pp]
    refine tx 40 (.int .u8 (gb l j)) (by exact ld1 5 _ rfl ab (ao + j) rfl (fun _ => by kernel_rfl) _ (hac j (by omega))) ?_
    simp only [pp]
    by_cases h3 : gb l j = 10
    ·refine tx 41 (.bool true) (by exact eqt (x := gb l j) (y := 10) (by omega)) <| tk 42 (.bool true) <| tk 43 (.int .i64 j) ?_
     simp only [pp]
     by_cases h4 : (j : Int) = 0
     ·refine tx 44 (.bool true) (by exact eqt (x := j) (y := 0) (by omega)) <| tk 45 (.bool true) ?_
      simp only [pp]
      refine rl_pass (some 46) rfl (by kernel_rfl) ?_
      try simp only [pp]
      refine rl_pass (some 47) rfl (by kernel_rfl) ?_
      try simp only [pp]
      refine rl_pass (some 48) rfl (by kernel_rfl) ?_
      try simp only [pp]
      refine rl_pass (some 49) rfl (by kernel_rfl) ?_
      try simp only [pp]
      refine rl_pass (some 50) rfl (by kernel_rfl) ?_
      try simp only [pp]
      refine rl_pass (some 51) rfl (by kernel_rfl) ?_
      try simp only [pp]
      refine tk 52 (.bool true) <| tk 53 (.bool true) <| tk 54 (.bool true) ?_
      simp only [pp]
      refine rl_pass (some 55) rfl (by kernel_rfl) ?_
      try simp only [pp]
      refine rl_pass (some 56) rfl (by kernel_rfl) ?_
      try simp only [pp]
      refine rl_pass (some 57) rfl (by kernel_rfl) ?_
      try simp only [pp]
      refine rl_pass (some 58) rfl (by kernel_rfl) ?_
      try simp only [pp]
      refine rl_pass (some 59) rfl (by kernel_rfl) ?_
      try simp only [pp]
      refine tk 60 (.bool true) ?_
      simp only [pp]
      refine rl_end hgo <| hKK45 _ _ <| wp_cond_true (by kernel_rfl) <| rl_begin fun hgK hgo => tk 61 (.pointer (some ⟨zb, 3, none⟩)) ?_
      simp only [pp]
      refine tx 62 (.int .i64 (sm (endsAt l) j)) (by exact ld 3 zb 3 (hzb.cell 3)) ?_
      simp only [pp]
      refine tx 63 (.int .i64 (sm (endsAt l) (j + 1))) (by exact ex_arith (e := (sm (endsAt l) j : Int) + 1) (r := sm (endsAt l) (j + 1)) (by kernel_rfl) (by (have h9 := ends_is1 (l := l) (p := j) (.inr ⟨h3, .inl (by omega)⟩); omega)) (by (have h9 := ends_is1 (l := l) (p := j) (.inr ⟨h3, .inl (by omega)⟩); omega))) <| tk 64 (.pointer (some ⟨zb, 3, none⟩)) ?_
      simp only [pp]
      refine rl_storeP zb 3 (.int .i64 (sm (endsAt l) (j + 1))) #[.int .i64 l.length, .int .i64 (edges l l.length).length, .int .i64 (su l (edges l l.length)), .int .i64 (sm (endsAt l) (j + 1))] rfl rfl (by kernel_rfl) rfl rfl (by kernel_rfl) hzb (by simp) (by kernel_rfl) rfl fun w46 hU46 hn46 => ?_
      have hz46 := hU46.size
      replace hB := hB.upd hU46 (by omega)
      replace hA := hA.upd hU46 (by omega)
      replace hrb := hrb.upd hU46 (by omega)
      clear hzb
      have hzb := hn46
      clear hn46
      try simp only [pp]
      refine rl_end hgo <| hKK44 _ _ <| rl_begin fun hgK hgo => tk 35 (.int .i64 j) ?_
      simp only [pp]
      refine tx 36 (.int .i64 (((j + 1 : Nat) : Int))) (by exact ex_arith (e := (j : Int) + 1) (r := ((j + 1 : Nat) : Int)) (by kernel_rfl) (by omega) (by omega)) <| tk 6 (.int .i64 (((j + 1 : Nat) : Int))) ?_
      simp only [pp]
      refine rl_end hgo ?_
      exact ⟨_, (by omega), fun gj => (#[.slice A l.length c, undef, .pointer (some ⟨rb, 0, none⟩), .pointer (some ⟨zb, 0, none⟩), .slice S1 (edges l l.length).length s1, .int .i64 i, .int .i64 (((j + 1 : Nat) : Int)), .slice A l.length c, .int .i64 l.length, .agg #[.int .i64 l.length, .int .i64 0, .int .i64 0, .int .i64 0], .slice A l.length c, .slice S1 (edges l l.length).length s1, .int .i64 i, .slice S1 (edges l l.length).length s1, .int .i64 (edges l l.length).length, .bool false, u 16, u 17, u 18, u 19, u 20, u 21, u 22, u 23, u 24, u 25, u 26, u 27, u 28, u 29, u 30, .int .i64 j, .slice A l.length c, .int .i64 l.length, .bool true, .int .i64 j, .int .i64 (((j + 1 : Nat) : Int)), .slice A l.length c, .int .i64 j, .pointer (some ⟨ab, ao + j, none⟩), .int .u8 (gb l j), .bool true, .bool true, .int .i64 j, .bool true, .bool true, undef, undef, undef, undef, undef, undef, .bool true, .bool true, .bool true, undef, undef, undef, undef, undef, .bool true, .pointer (some ⟨zb, 3, none⟩), .int .i64 (sm (endsAt l) j), .int .i64 (sm (endsAt l) (j + 1)), .pointer (some ⟨zb, 3, none⟩), undef]).getD gj undef, j + 1, rfl, rfl, by omega, by assumption, by assumption, by assumption, by assumption⟩
     ·refine tx 44 (.bool false) (by exact eqf (x := j) (y := 0) (by omega)) <| tk 45 (.bool false) <| tk 46 (.slice A l.length c) <| tk 47 (.int .i64 j) ?_
      simp only [pp]
      refine tx 48 (.int .i64 (((j - 1 : Nat) : Int))) (by exact ex_arith (e := (j : Int) - 1) (r := ((j - 1 : Nat) : Int)) (by kernel_rfl) (by omega) (by omega)) ?_
      simp only [pp]
      refine tx 49 (.pointer (some ⟨ab, ao + (j - 1), none⟩)) (by exact ex_indexA (j - 1) rfl rfl hAe rfl (by kernel_rfl) (fun _ => by kernel_rfl) (by omega) _) ?_
      simp only [pp]
      refine tx 50 (.int .u8 (gb l (j - 1))) (by exact ld1 5 _ rfl ab (ao + (j - 1)) rfl (fun _ => by kernel_rfl) _ (hac (j - 1) (by omega))) ?_
      simp only [pp]
      by_cases h5 : gb l (j - 1) ≠ 13
      ·refine tx 51 (.bool true) (by exact net (x := gb l (j - 1)) (y := 13) (by omega)) <| tk 52 (.bool true) <| tk 53 (.bool true) <| tk 54 (.bool true) ?_
       simp only [pp]
       refine rl_pass (some 55) rfl (by kernel_rfl) ?_
       try simp only [pp]
       refine rl_pass (some 56) rfl (by kernel_rfl) ?_
       try simp only [pp]
       refine rl_pass (some 57) rfl (by kernel_rfl) ?_
       try simp only [pp]
       refine rl_pass (some 58) rfl (by kernel_rfl) ?_
       try simp only [pp]
       refine rl_pass (some 59) rfl (by kernel_rfl) ?_
       try simp only [pp]
       refine tk 60 (.bool true) ?_
       simp only [pp]
       refine rl_end hgo <| hKK45 _ _ <| wp_cond_true (by kernel_rfl) <| rl_begin fun hgK hgo => tk 61 (.pointer (some ⟨zb, 3, none⟩)) ?_
       simp only [pp]
       refine tx 62 (.int .i64 (sm (endsAt l) j)) (by exact ld 3 zb 3 (hzb.cell 3)) ?_
       simp only [pp]
       refine tx 63 (.int .i64 (sm (endsAt l) (j + 1))) (by exact ex_arith (e := (sm (endsAt l) j : Int) + 1) (r := sm (endsAt l) (j + 1)) (by kernel_rfl) (by (have h9 := ends_is1 (l := l) (p := j) (.inr ⟨h3, .inr h5⟩); omega)) (by (have h9 := ends_is1 (l := l) (p := j) (.inr ⟨h3, .inr h5⟩); omega))) <| tk 64 (.pointer (some ⟨zb, 3, none⟩)) ?_
       simp only [pp]
       refine rl_storeP zb 3 (.int .i64 (sm (endsAt l) (j + 1))) #[.int .i64 l.length, .int .i64 (edges l l.length).length, .int .i64 (su l (edges l l.length)), .int .i64 (sm (endsAt l) (j + 1))] rfl rfl (by kernel_rfl) rfl rfl (by kernel_rfl) hzb (by simp) (by kernel_rfl) rfl fun w47 hU47 hn47 => ?_
       have hz47 := hU47.size
       replace hB := hB.upd hU47 (by omega)
       replace hA := hA.upd hU47 (by omega)
       replace hrb := hrb.upd hU47 (by omega)
       clear hzb
       have hzb := hn47
       clear hn47
       try simp only [pp]
       refine rl_end hgo <| hKK44 _ _ <| rl_begin fun hgK hgo => tk 35 (.int .i64 j) ?_
       simp only [pp]
       refine tx 36 (.int .i64 (((j + 1 : Nat) : Int))) (by exact ex_arith (e := (j : Int) + 1) (r := ((j + 1 : Nat) : Int)) (by kernel_rfl) (by omega) (by omega)) <| tk 6 (.int .i64 (((j + 1 : Nat) : Int))) ?_
       simp only [pp]
       refine rl_end hgo ?_
       exact ⟨_, (by omega), fun gj => (#[.slice A l.length c, undef, .pointer (some ⟨rb, 0, none⟩), .pointer (some ⟨zb, 0, none⟩), .slice S1 (edges l l.length).length s1, .int .i64 i, .int .i64 (((j + 1 : Nat) : Int)), .slice A l.length c, .int .i64 l.length, .agg #[.int .i64 l.length, .int .i64 0, .int .i64 0, .int .i64 0], .slice A l.length c, .slice S1 (edges l l.length).length s1, .int .i64 i, .slice S1 (edges l l.length).length s1, .int .i64 (edges l l.length).length, .bool false, u 16, u 17, u 18, u 19, u 20, u 21, u 22, u 23, u 24, u 25, u 26, u 27, u 28, u 29, u 30, .int .i64 j, .slice A l.length c, .int .i64 l.length, .bool true, .int .i64 j, .int .i64 (((j + 1 : Nat) : Int)), .slice A l.length c, .int .i64 j, .pointer (some ⟨ab, ao + j, none⟩), .int .u8 (gb l j), .bool true, .bool true, .int .i64 j, .bool false, .bool false, .slice A l.length c, .int .i64 j, .int .i64 (((j - 1 : Nat) : Int)), .pointer (some ⟨ab, ao + (j - 1), none⟩), .int .u8 (gb l (j - 1)), .bool true, .bool true, .bool true, .bool true, undef, undef, undef, undef, undef, .bool true, .pointer (some ⟨zb, 3, none⟩), .int .i64 (sm (endsAt l) j), .int .i64 (sm (endsAt l) (j + 1)), .pointer (some ⟨zb, 3, none⟩), undef]).getD gj undef, j + 1, rfl, rfl, by omega, by assumption, by assumption, by assumption, by assumption⟩
      ·refine tx 51 (.bool false) (by exact nef (x := gb l (j - 1)) (y := 13) (by omega)) <| tk 52 (.bool false) <| tk 53 (.bool false) <| tk 54 (.bool false) <| tk 55 (.slice A l.length c) <| tk 56 (.int .i64 j) ?_
       simp only [pp]
       refine tx 57 (.pointer (some ⟨ab, ao + j, none⟩)) (by exact ex_indexA j rfl rfl hAe rfl (by kernel_rfl) (fun _ => by kernel_rfl) (by omega) _) ?_
       simp only [pp]
       refine tx 58 (.int .u8 (gb l j)) (by exact ld1 5 _ rfl ab (ao + j) rfl (fun _ => by kernel_rfl) _ (hac j (by omega))) ?_
       simp only [pp]
       refine tx 59 (.bool false) (by exact eqf (x := gb l j) (y := 13) (by omega)) <| tk 60 (.bool false) ?_
       simp only [pp]
       refine rl_end hgo <| hKK45 _ _ <| wp_cond_false (by kernel_rfl) <| wp_skip <| hKK44 _ _ <| rl_begin fun hgK hgo => ?_
       (have hsk : sm (endsAt l) (j + 1) = sm (endsAt l) j := by rw [hss, ends_is0 (by omega) (.inr ⟨by omega, by omega⟩)]; omega); (rw [← hsk] at hzb)
       refine tk 35 (.int .i64 j) ?_
       simp only [pp]
       refine tx 36 (.int .i64 (((j + 1 : Nat) : Int))) (by exact ex_arith (e := (j : Int) + 1) (r := ((j + 1 : Nat) : Int)) (by kernel_rfl) (by omega) (by omega)) <| tk 6 (.int .i64 (((j + 1 : Nat) : Int))) ?_
       simp only [pp]
       refine rl_end hgo ?_
       exact ⟨_, (by omega), fun gj => (#[.slice A l.length c, undef, .pointer (some ⟨rb, 0, none⟩), .pointer (some ⟨zb, 0, none⟩), .slice S1 (edges l l.length).length s1, .int .i64 i, .int .i64 (((j + 1 : Nat) : Int)), .slice A l.length c, .int .i64 l.length, .agg #[.int .i64 l.length, .int .i64 0, .int .i64 0, .int .i64 0], .slice A l.length c, .slice S1 (edges l l.length).length s1, .int .i64 i, .slice S1 (edges l l.length).length s1, .int .i64 (edges l l.length).length, .bool false, u 16, u 17, u 18, u 19, u 20, u 21, u 22, u 23, u 24, u 25, u 26, u 27, u 28, u 29, u 30, .int .i64 j, .slice A l.length c, .int .i64 l.length, .bool true, .int .i64 j, .int .i64 (((j + 1 : Nat) : Int)), .slice A l.length c, .int .i64 j, .pointer (some ⟨ab, ao + j, none⟩), .int .u8 (gb l j), .bool true, .bool true, .int .i64 j, .bool false, .bool false, .slice A l.length c, .int .i64 j, .int .i64 (((j - 1 : Nat) : Int)), .pointer (some ⟨ab, ao + (j - 1), none⟩), .int .u8 (gb l (j - 1)), .bool false, .bool false, .bool false, .bool false, .slice A l.length c, .int .i64 j, .pointer (some ⟨ab, ao + j, none⟩), .int .u8 (gb l j), .bool false, .bool false, u 61, u 62, u 63, u 64, undef]).getD gj undef, j + 1, rfl, rfl, by omega, by assumption, by assumption, by assumption, by assumption⟩
    ·refine tx 41 (.bool false) (by exact eqf (x := gb l j) (y := 10) (by omega)) <| tk 42 (.bool false) ?_
     simp only [pp]
     refine rl_pass (some 43) rfl (by kernel_rfl) ?_
     try simp only [pp]
     refine rl_pass (some 44) rfl (by kernel_rfl) ?_
     try simp only [pp]
     refine rl_pass (some 45) rfl (by kernel_rfl) ?_
     try simp only [pp]
     refine rl_pass (some 46) rfl (by kernel_rfl) ?_
     try simp only [pp]
     refine rl_pass (some 47) rfl (by kernel_rfl) ?_
     try simp only [pp]
     refine rl_pass (some 48) rfl (by kernel_rfl) ?_
     try simp only [pp]
     refine rl_pass (some 49) rfl (by kernel_rfl) ?_
     try simp only [pp]
     refine rl_pass (some 50) rfl (by kernel_rfl) ?_
     try simp only [pp]
     refine rl_pass (some 51) rfl (by kernel_rfl) ?_
     try simp only [pp]
     refine rl_pass (some 52) rfl (by kernel_rfl) ?_
     try simp only [pp]
     refine tk 53 (.bool false) <| tk 54 (.bool false) <| tk 55 (.slice A l.length c) <| tk 56 (.int .i64 j) ?_
     simp only [pp]
     refine tx 57 (.pointer (some ⟨ab, ao + j, none⟩)) (by exact ex_indexA j rfl rfl hAe rfl (by kernel_rfl) (fun _ => by kernel_rfl) (by omega) _) ?_
     simp only [pp]
     refine tx 58 (.int .u8 (gb l j)) (by exact ld1 5 _ rfl ab (ao + j) rfl (fun _ => by kernel_rfl) _ (hac j (by omega))) ?_
     simp only [pp]
     by_cases h6 : gb l j = 13
     ·refine tx 59 (.bool true) (by exact eqt (x := gb l j) (y := 13) (by omega)) <| tk 60 (.bool true) ?_
      simp only [pp]
      refine rl_end hgo <| hKK45 _ _ <| wp_cond_true (by kernel_rfl) <| rl_begin fun hgK hgo => tk 61 (.pointer (some ⟨zb, 3, none⟩)) ?_
      simp only [pp]
      refine tx 62 (.int .i64 (sm (endsAt l) j)) (by exact ld 3 zb 3 (hzb.cell 3)) ?_
      simp only [pp]
      refine tx 63 (.int .i64 (sm (endsAt l) (j + 1))) (by exact ex_arith (e := (sm (endsAt l) j : Int) + 1) (r := sm (endsAt l) (j + 1)) (by kernel_rfl) (by (have h9 := ends_is1 (l := l) (p := j) (.inl h6); omega)) (by (have h9 := ends_is1 (l := l) (p := j) (.inl h6); omega))) <| tk 64 (.pointer (some ⟨zb, 3, none⟩)) ?_
      simp only [pp]
      refine rl_storeP zb 3 (.int .i64 (sm (endsAt l) (j + 1))) #[.int .i64 l.length, .int .i64 (edges l l.length).length, .int .i64 (su l (edges l l.length)), .int .i64 (sm (endsAt l) (j + 1))] rfl rfl (by kernel_rfl) rfl rfl (by kernel_rfl) hzb (by simp) (by kernel_rfl) rfl fun w48 hU48 hn48 => ?_
      have hz48 := hU48.size
      replace hB := hB.upd hU48 (by omega)
      replace hA := hA.upd hU48 (by omega)
      replace hrb := hrb.upd hU48 (by omega)
      clear hzb
      have hzb := hn48
      clear hn48
      try simp only [pp]
      refine rl_end hgo <| hKK44 _ _ <| rl_begin fun hgK hgo => tk 35 (.int .i64 j) ?_
      simp only [pp]
      refine tx 36 (.int .i64 (((j + 1 : Nat) : Int))) (by exact ex_arith (e := (j : Int) + 1) (r := ((j + 1 : Nat) : Int)) (by kernel_rfl) (by omega) (by omega)) <| tk 6 (.int .i64 (((j + 1 : Nat) : Int))) ?_
      simp only [pp]
      refine rl_end hgo ?_
      exact ⟨_, (by omega), fun gj => (#[.slice A l.length c, undef, .pointer (some ⟨rb, 0, none⟩), .pointer (some ⟨zb, 0, none⟩), .slice S1 (edges l l.length).length s1, .int .i64 i, .int .i64 (((j + 1 : Nat) : Int)), .slice A l.length c, .int .i64 l.length, .agg #[.int .i64 l.length, .int .i64 0, .int .i64 0, .int .i64 0], .slice A l.length c, .slice S1 (edges l l.length).length s1, .int .i64 i, .slice S1 (edges l l.length).length s1, .int .i64 (edges l l.length).length, .bool false, u 16, u 17, u 18, u 19, u 20, u 21, u 22, u 23, u 24, u 25, u 26, u 27, u 28, u 29, u 30, .int .i64 j, .slice A l.length c, .int .i64 l.length, .bool true, .int .i64 j, .int .i64 (((j + 1 : Nat) : Int)), .slice A l.length c, .int .i64 j, .pointer (some ⟨ab, ao + j, none⟩), .int .u8 (gb l j), .bool false, .bool false, undef, undef, undef, undef, undef, undef, undef, undef, undef, undef, .bool false, .bool false, .slice A l.length c, .int .i64 j, .pointer (some ⟨ab, ao + j, none⟩), .int .u8 (gb l j), .bool true, .bool true, .pointer (some ⟨zb, 3, none⟩), .int .i64 (sm (endsAt l) j), .int .i64 (sm (endsAt l) (j + 1)), .pointer (some ⟨zb, 3, none⟩), undef]).getD gj undef, j + 1, rfl, rfl, by omega, by assumption, by assumption, by assumption, by assumption⟩
     ·refine tx 59 (.bool false) (by exact eqf (x := gb l j) (y := 13) (by omega)) <| tk 60 (.bool false) ?_
      simp only [pp]
      refine rl_end hgo <| hKK45 _ _ <| wp_cond_false (by kernel_rfl) <| wp_skip <| hKK44 _ _ <| rl_begin fun hgK hgo => ?_
      (have hsk : sm (endsAt l) (j + 1) = sm (endsAt l) j := by rw [hss, ends_is0 h6 (.inl h3)]; omega); (rw [← hsk] at hzb)
      refine tk 35 (.int .i64 j) ?_
      simp only [pp]
      refine tx 36 (.int .i64 (((j + 1 : Nat) : Int))) (by exact ex_arith (e := (j : Int) + 1) (r := ((j + 1 : Nat) : Int)) (by kernel_rfl) (by omega) (by omega)) <| tk 6 (.int .i64 (((j + 1 : Nat) : Int))) ?_
      simp only [pp]
      refine rl_end hgo ?_
      exact ⟨_, (by omega), fun gj => (#[.slice A l.length c, undef, .pointer (some ⟨rb, 0, none⟩), .pointer (some ⟨zb, 0, none⟩), .slice S1 (edges l l.length).length s1, .int .i64 i, .int .i64 (((j + 1 : Nat) : Int)), .slice A l.length c, .int .i64 l.length, .agg #[.int .i64 l.length, .int .i64 0, .int .i64 0, .int .i64 0], .slice A l.length c, .slice S1 (edges l l.length).length s1, .int .i64 i, .slice S1 (edges l l.length).length s1, .int .i64 (edges l l.length).length, .bool false, u 16, u 17, u 18, u 19, u 20, u 21, u 22, u 23, u 24, u 25, u 26, u 27, u 28, u 29, u 30, .int .i64 j, .slice A l.length c, .int .i64 l.length, .bool true, .int .i64 j, .int .i64 (((j + 1 : Nat) : Int)), .slice A l.length c, .int .i64 j, .pointer (some ⟨ab, ao + j, none⟩), .int .u8 (gb l j), .bool false, .bool false, undef, undef, undef, undef, undef, undef, undef, undef, undef, undef, .bool false, .bool false, .slice A l.length c, .int .i64 j, .pointer (some ⟨ab, ao + j, none⟩), .int .u8 (gb l j), .bool false, .bool false, u 61, u 62, u 63, u 64, undef]).getD gj undef, j + 1, rfl, rfl, by omega, by assumption, by assumption, by assumption, by assumption⟩
   ·refine tx 34 (.bool false) (by exact ebf (c := (j : Int) < l.length) (by omega)) ?_
    simp only [pp]
    refine rl_end hgo <| hKK43 _ _ <| wp_cond_false (by kernel_rfl) <| wp_exit <| hKK39 _ _ <| wp_seq_k fun KK49 hKK49 => rl_begin fun hgK hgo => ?_
    refine tx 65 (.agg #[.int .i64 l.length, .int .i64 (edges l l.length).length, .int .i64 (su l (edges l l.length)), .int .i64 (sm (endsAt l) j)]) (by exact ldN 34 _ rfl zb 0 rfl (fun _ => by kernel_rfl) [] [.int .i64 l.length, .int .i64 (edges l l.length).length, .int .i64 (su l (edges l l.length)), .int .i64 (sm (endsAt l) j)] [] (by kernel_rfl) hzb rfl rfl) ?_
    simp only [pp]
    refine rl_store rb #[.int .i64 l.length, .int .i64 (edges l l.length).length, .int .i64 (su l (edges l l.length)), .int .i64 (sm (endsAt l) j)] rfl rfl (by kernel_rfl) rfl rfl (by kernel_rfl) hrb rfl (by kernel_rfl) fun w50 hU50 hn50 => ?_
    have hz50 := hU50.size
    clear hA
    replace hB := hB.upd hU50 (by omega)
    replace hzb := hzb.upd hU50 (by omega)
    clear hrb
    have hrb := hn50
    clear hn50
    try simp only [pp]
    refine rl_end hgo <| hKK49 _ _ ?_
    refine wp_ret ?_
    try simp only [Exit.then, Exit.inBlock]
    refine bp_ret (v := .agg #[.int .i64 l.length, .int .i64 (edges l l.length).length, .int .i64 (su l (edges l l.length)), .int .i64 (sm (endsAt l) j)]) (res1 rfl (res_cell (b := rb) (cs := [.int .i64 l.length, .int .i64 (edges l l.length).length, .int .i64 (su l (edges l l.length)), .int .i64 (sm (endsAt l) j)]) (by kernel_rfl) (fun _ => by kernel_rfl) (by kernel_rfl) hrb)) ?_
    exact ⟨by rw [hru, hun, show j = l.length by omega]; rfl, hB⟩
theorem BytesN.bel {n m : Nat} {w w' : World} {A : Option Addr} {l : List UInt8} (h : BytesN n w A l) (hb : Below m w w') (hm : n ≤ m) : BytesN n w' A l := bytesN_bel h hb hm
theorem head_ref (l : List UInt8) (w : World) (hm : l.length ≤ 268435456) : Calls Tryd.prog 64 #[.string (bs l)] w fun e w' => e = .returned (.string (bs (headOf l))) ∧ Ltr w w' := by
  have hB := Ltr.refl w
  go_enter Tryd.func64, Tryd.ntmps64
  refine wp_seq_k fun KK1 hKK1 => rl_begin fun hgK hgo => tk 2 (.string { data := #[] }) ?_
  simp only [pp]
  refine rl_end hgo <| hKK1 _ _ <| wp_seq_k fun KK2 hKK2 => rl_begin fun hgK hgo => tk 3 (.string (bs l)) <| tk 4 (.string (bs l)) ?_
  simp only [pp]
  refine tx 5 (.int .i64 l.length) (by exact ex_len_bs (by kernel_rfl)) ?_
  simp only [pp]
  refine tx 6 (.int .i64 (((min 3 l.length : Nat) : Int))) (by exact ex_min2 (a := 3) (b := l.length) rfl rfl rfl (r := ((min 3 l.length : Nat) : Int)) (by omega)) ?_
  simp only [pp]
  refine tx 7 (.string (bs (l.take (min 3 l.length)))) (by exact ex_str_take l (min 3 l.length) rfl rfl rfl (by kernel_rfl) (by omega) (by omega) _) <| tk 2 (.string (bs (l.take (min 3 l.length)))) ?_
  simp only [pp]
  refine rl_end hgo <| hKK2 _ _ ?_
  refine wp_ret ?_
  try simp only [Exit.then, Exit.inBlock]
  refine bp_ret (v := .string (bs (l.take (min 3 l.length)))) (res1 rfl (res_tmp (by kernel_rfl))) ?_
  exact ⟨by rw [headOf, head_min], hB⟩
theorem tail_ref (l : List UInt8) (w : World) (hm : l.length ≤ 268435456) : Calls Tryd.prog 65 #[.string (bs l)] w fun e w' => e = .returned (.string (bs (tailOf l))) ∧ Ltr w w' := by
  have hB := Ltr.refl w
  go_enter Tryd.func65, Tryd.ntmps65
  refine wp_seq_k fun KK1 hKK1 => rl_begin fun hgK hgo => tk 2 (.string { data := #[] }) ?_
  simp only [pp]
  refine rl_end hgo <| hKK1 _ _ <| wp_seq_k fun KK2 hKK2 => rl_begin fun hgK hgo => tk 3 (.string (bs l)) <| tk 4 (.string (bs l)) ?_
  simp only [pp]
  refine tx 5 (.int .i64 l.length) (by exact ex_len_bs (by kernel_rfl)) ?_
  simp only [pp]
  refine tx 6 (.int .i64 ((l.length : Int) - 3)) (by exact ex_arith (e := (l.length : Int) - 3) (r := (l.length : Int) - 3) (by kernel_rfl) (by omega) (by omega)) ?_
  simp only [pp]
  refine tx 7 (.int .i64 (((l.length - 3 : Nat) : Int))) (by exact ex_max2 (a := 0) (b := ((l.length : Int) - 3)) rfl rfl rfl (r := ((l.length - 3 : Nat) : Int)) (by omega)) ?_
  simp only [pp]
  refine tx 8 (.string (bs (l.drop (l.length - 3)))) (by exact ex_str_drop l (l.length - 3) rfl rfl rfl (by kernel_rfl) (by omega) (by omega) _) <| tk 2 (.string (bs (l.drop (l.length - 3)))) ?_
  simp only [pp]
  refine rl_end hgo <| hKK2 _ _ ?_
  refine wp_ret ?_
  try simp only [Exit.then, Exit.inBlock]
  refine bp_ret (v := .string (bs (l.drop (l.length - 3)))) (res1 rfl (res_tmp (by kernel_rfl))) ?_
  exact ⟨rfl, hB⟩
theorem Of_ref (A : Option Addr) (c : Nat) (l : List UInt8) (w : World) (hA : BytesAt w A l) (hc : l.length ≤ c) (hm : l.length ≤ 268435456) :
    Calls Tryd.prog 24 #[.slice A l.length c] w fun e w' => e = .returned (wv l) ∧ Ltr w w' := by
  have hB := Ltr.refl w
  replace hA := hA.n
  go_enter Tryd.func24, Tryd.ntmps24
  refine wp_seq_k fun KK1 hKK1 => rl_begin fun hgK hgo => ?_
  refine rl_alloc (some 2) 36 #[.int .i64 0, .int .i64 0, .int .i64 0, .int .i64 0, .string ⟨#[]⟩, .string ⟨#[]⟩] rfl (by kernel_rfl) (fun W => by kernel_rfl) fun rb w2 hL2 hp2 hrb => ?_
  have hz2 := hL2.size
  have hlt2 := hrb.lt
  try simp only [pp]
  refine rl_end hgo <| hKK1 _ _ <| wp_seq_k fun KK3 hKK3 => wp_seq_k fun KK4 hKK4 => rl_begin fun hgK hgo => tk 3 (.slice A l.length c) <| tk 4 (.int .i64 l.length) ?_
  simp only [pp]
  refine tx 5 (.bool false) (by exact ebf (c := (l.length : Int) > 268435456) (by omega)) ?_
  simp only [pp]
  refine rl_end hgo <| hKK4 _ _ <| wp_cond_false (by kernel_rfl) <| wp_skip <| hKK3 _ _ <| wp_seq_k fun KK5 hKK5 => ?_
  have hNz6 : w.heap.size ≤ (w2).heap.size := by omega
  refine rm_begin (fun W => Below w.heap.size w2 W) (by kernel_rfl) (by exact Below.drew (Below.refl _ _)) fun K6 hgo w6 hE hS6 => ?_
  have hv6 : Ltr w2 w6 := by rw [hE]; exact bl_drew (bl_refl _)
  have hz6 := hv6.size
  clear hE hS6
  refine mk 0 7 (.slice A l.length c) ?_
  try simp only [pp]
  replace hA := hA.later hL2
  refine rm_call 1 (some 8) (.agg #[.int .i64 l.length, .int .i64 (runesN l), .int .i64 (unitsN l), .int .i64 (endsN l)]) 63 #[.slice A l.length c] rfl rfl (by kernel_rfl) (by kernel_rfl) (by kernel_rfl) (by kernel_rfl) (fun W hW => by kernel_rfl) (fun W hW => Sizes_ref A c l W (bytesN_bel hA hW (Nat.le_refl _)).at hc hm) (fun _ _ h k => bel_ltr h k hNz6) ?_
  try simp only [pp]
  refine mk 2 9 (.slice A l.length c) ?_
  try simp only [pp]
  refine mx 3 10 (.string (bs l)) rfl (fun W hW => by (exact ex_conv_str _ rfl A c l rfl (bytesN_bel hA hW (Nat.le_refl _)).at)) ?_
  try simp only [pp]
  refine rm_call 4 (some 11) (.string (bs (headOf l))) 64 #[.string (bs l)] rfl rfl (by kernel_rfl) (by kernel_rfl) (by kernel_rfl) (by kernel_rfl) (fun W hW => by kernel_rfl) (fun W hW => head_ref l W hm) (fun _ _ h k => bel_ltr h k hNz6) ?_
  try simp only [pp]
  refine mk 5 12 (.slice A l.length c) ?_
  try simp only [pp]
  refine mx 6 13 (.string (bs l)) rfl (fun W hW => by (exact ex_conv_str _ rfl A c l rfl (bytesN_bel hA hW (Nat.le_refl _)).at)) ?_
  try simp only [pp]
  refine rm_call 7 (some 14) (.string (bs (tailOf l))) 65 #[.string (bs l)] rfl rfl (by kernel_rfl) (by kernel_rfl) (by kernel_rfl) (by kernel_rfl) (fun W hW => by kernel_rfl) (fun W hW => tail_ref l W hm) (fun _ _ h k => bel_ltr h k hNz6) ?_
  try simp only [pp]
  refine mk 8 15 (.agg #[.int .i64 l.length, .int .i64 (runesN l), .int .i64 (unitsN l), .int .i64 (endsN l), .string (bs (headOf l)), .string (bs (tailOf l))]) ?_
  try simp only [pp]
  refine rm_pick1 (i := 9) (by kernel_rfl) ?_
  have hrb_ := hrb.later hv6
  clear hrb
  have hrb := hrb_
  clear hrb_
  refine rm_store rb #[.int .i64 l.length, .int .i64 (runesN l), .int .i64 (unitsN l), .int .i64 (endsN l), .string (bs (headOf l)), .string (bs (tailOf l))] rfl rfl rfl (by kernel_rfl) rfl rfl (by kernel_rfl) (fun W hlz hW => hrb.later hlz) rfl (fun _ _ hX hU => hU.below hX (by omega)) (by kernel_rfl) fun q7 w7 hq7 hQ7 hU7 hn7 hS7 => ?_
  have hz7 := hU7.size
  have hy7 := hq7.size
  clear hrb
  have hrb := hn7
  clear hn7
  try simp only [pp]
  refine rm_done (by kernel_rfl) (fun w8 hL8 hS8 => hgo.out _ _ ?_) _
  clear hgo K6
  replace hB := hB.later hL2
  replace hB := hB.bel (hS8) (by omega)
  replace hA := hA.bel (hS8) (by omega)
  have hz8 := (hS8).size
  have hy8 := hL8.size
  refine hKK5 _ _ ?_
  refine wp_ret ?_
  try simp only [Exit.then, Exit.inBlock]
  replace hrb := hrb.later hL8
  refine bp_ret (v := .agg #[.int .i64 l.length, .int .i64 (runesN l), .int .i64 (unitsN l), .int .i64 (endsN l), .string (bs (headOf l)), .string (bs (tailOf l))]) (res1 rfl (res_cell (b := rb) (cs := [.int .i64 l.length, .int .i64 (runesN l), .int .i64 (unitsN l), .int .i64 (endsN l), .string (bs (headOf l)), .string (bs (tailOf l))]) (by kernel_rfl) (fun _ => by kernel_rfl) (by kernel_rfl) hrb)) ?_
  exact ⟨rfl, hB⟩
end Go.Proofs.YtliphfgiaioebaaDoor
