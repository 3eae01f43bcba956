-- made by a program of this session (wip/tools/myprint.py over the kit's print) out of the translation; Lean checks it
import Derived.Test.YtfdfilgohcbgfaaPM0
namespace Go.Proofs.Ytfdfilgohcbgfaa.PM
open Go.RowKit Go.Proofs.YtfdfilgohcbgfaaW.PrintWords Go.Proofs.YtfdfilgohcbgfaaW.PrintLast Go.Proofs.YtfdfilgohcbgfaaW.PrintMore
attribute [local go_sem] max2_int min2_int max_two min_two max_three min_three max_four min_four   -- for this text's walks alone
attribute [local go_sem high] Go.Proofs.Ytfdfilgohcbgfaa.My.str_leq Go.Proofs.Ytfdfilgohcbgfaa.My.str_gtr
set_option linter.unusedVariables false
set_option linter.unusedSimpArgs false

/-! ### batonref12_Take: function 17 -/
-- (by hand)
def batonref12_Take.f (l0 : List S31) (a1 : Int) : Option (Int × Int × ByteArray × List S31 × Int) :=
  if a1 < 0 then some (0, 0, ⟨#[]⟩, l0, 5) else if (l0.length : Int) ≤ a1 then some (0, 0, ⟨#[]⟩, l0, 5) else if l0.length < 4398046511104 then some ((rd_T31 l0 a1).f0, (rd_T31 l0 a1).f1, (rd_T31 l0 a1).f2, l0.take a1.toNat ++ l0.drop (a1.toNat + 1), 0) else none
def msgCells (x : S31) (cs : List Value) : Prop := cs = [.int .i64 x.f0, .int .i64 x.f1, .string x.f2]
theorem blk_below' {w w1 : World} {g : Nat} {o : Obj} (h : w.heap[g]? = some o) (hb : Below w.heap.size w w1) : w1.heap[g]? = some o := blk_below h hb
theorem msgReads {W : World} {A : Option Addr} {n : Nat} {xs : List S31} (h : k31.C W A n xs) : ReadsRow msgCells k31.sz W A n xs := ReadsRow.imp_ h (Below.refl _ _) (fun _ _ hp => k31_open hp)
theorem msgM {W : World} {base : Nat} {ok : Nat → Prop} (x : S31) (cs : List Value) (h : msgCells x cs) : k31.M W base ok x cs := by subst h; exact k31_mkM _ _ _ x
theorem msgNone {W : World} {base : Nat} {ok : Nat → Prop} (hb : base ≤ W.heap.size) (hok : ok W.heap.size) : Kd.R k31 31 (W.alloc (.cells #[] 31)) base ok (.slice (some ⟨W.heap.size, 0, none⟩) 0 0) [] :=
  ⟨fun k hk => by simp [Value.ownBlock] at hk; subst hk; exact hok, [], World.ownsRow_made W #[] 0 hb (Nat.zero_le _) rfl, Reps.none _ _⟩
def batonref12_Take.T4 : Bool × List (List Nat × List Nat) := (true, [([], []), ([], []), ([0, 1], [0, 1]), ([2], [2]), ([], []), ([], []), ([], []), ([6], [6]), ([5, 7], [5, 7]), ([4, 8], [4, 8]), ([3, 9, 0, 1, 2, 3], [3]), ([9, 10, 0, 1, 2, 3, 4, 5, 6, 7, 8, 9, 10], [9]), ([11, 0, 1, 2, 3, 4, 5, 6, 7, 8, 9, 10, 11], [])])
def batonref12_Take.B4 : List Nat := [0, 0, 3, 7, 0, 0, 0, 64, 224, 496, 1023, 2047, 4095]
theorem batonref12_Take.tab4 : rtab .any (opsOf Try.f17 4) = batonref12_Take.T4 := by kernel_rfl
theorem batonref12_Take.bits4 : waitsOk batonref12_Take.T4.2 batonref12_Take.B4 = true := by kernel_rfl
set_option maxHeartbeats 4000000 in
set_option maxRecDepth 100000 in
theorem batonref12_Take.calls (P0_ : Nat → Prop) (A0 : Option Addr) (c0 : Nat) (l0 : List (S31)) (a1 : Int) (r1 : Int) (r2 : Int) (r3 : ByteArray) (r4 : List (S31)) (r5 : Int) (w : World) (hs0 : Kd.V k31 31 w w.heap.size (fun k_ => P0_ k_) (.slice A0 l0.length c0) l0) (h : batonref12_Take.f l0 a1 = some (r1, r2, r3, r4, r5)) :
    Calls Try.prog 17 #[.slice A0 l0.length c0, .int .i64 a1] w fun e w' => ∃ v3_ : Value, e = .returned (.tuple #[.agg #[.int .i64 r1, .int .i64 r2, .string r3], v3_, .int .i64 r5]) ∧ Kd.V k31 31 w' w.heap.size (fun k_ => (P0_ k_ ∨ w.heap.size ≤ k_)) v3_ r4 ∧ Below w.heap.size w w' := by
  have HV := Aside0.mk (show Kd.V k31 31 w w.heap.size (fun k_ => (P0_ k_ ∨ w.heap.size ≤ k_)) (.slice A0 l0.length c0) l0 from Kd.V_mono hs0 (fun k_ hk => .inl hk))
  have HC := Aside0.mk (Kd.V_reads' hs0)
  have hmx : l0.length ≤ 9223372036854775807 := (Kd.V_reads' hs0).2.2.2.1
  clear hs0
  unfold batonref12_Take.f at h
  by_cases c3 : a1 < 0
  · rw [if_pos c3] at h
    simp only [Option.some.injEq, Prod.mk.injEq] at h
    obtain ⟨rfl, rfl, rfl, rfl, rfl⟩ := h
    have d1 : decide (a1 < 0) = true := decide_eq_true c3
    clear c3
    go_enter Try.func17, Try.ntmps17
    go_wp2
    refine bodyPost_ret (results_ctt rfl _ _ w.heap.size 31 #[.int .i64 0, .int .i64 0, .string (⟨#[]⟩ : ByteArray)] (0, 0) _ rfl (My.blk_new' _ _ _ rfl) Try.underlying31 rfl (by kernel_rfl)) rfl ?_
    exact ⟨_, rfl, Kd.V_alloc HV.out _, below_alloc (Below.refl _ _) _⟩
  have d1 : decide (a1 < 0) = false := decide_eq_false c3
  rw [if_neg c3] at h
  by_cases c4 : (l0.length : Int) ≤ a1
  · rw [if_pos c4] at h
    simp only [Option.some.injEq, Prod.mk.injEq] at h
    obtain ⟨rfl, rfl, rfl, rfl, rfl⟩ := h
    have d2 : decide ((l0.length : Int) ≤ a1) = true := decide_eq_true c4
    clear c3 c4
    go_enter Try.func17, Try.ntmps17
    go_wp2
    refine bodyPost_ret (results_ctt rfl _ _ w.heap.size 31 #[.int .i64 0, .int .i64 0, .string (⟨#[]⟩ : ByteArray)] (0, 0) _ rfl (My.blk_new' _ _ _ rfl) Try.underlying31 rfl (by kernel_rfl)) rfl ?_
    exact ⟨_, rfl, Kd.V_alloc HV.out _, below_alloc (Below.refl _ _) _⟩
  have d2 : decide ((l0.length : Int) ≤ a1) = false := decide_eq_false c4
  rw [if_neg c4] at h
  by_cases c5 : l0.length < 4398046511104
  rotate_left
  · rw [if_neg c5] at h
    exact absurd h (by simp)
  rw [if_pos c5] at h
  simp only [Option.some.injEq, Prod.mk.injEq] at h
  obtain ⟨rfl, rfl, rfl, rfl, rfl⟩ := h
  obtain ⟨i, rfl⟩ := Int.eq_ofNat_of_zero_le (show 0 ≤ a1 by omega)
  have hi : i < l0.length := by omega
  have hlt : (i : Int) < (l0.length : Int) := by omega
  have HL := Aside0.mk c5
  clear c3 c4 c5
  have hC := HC.out.2.2
  obtain ⟨ad, rfl, h0, h1, h2⟩ := at_T31 hC (i : Int) (by omega) (by omega)
  have hcap : l0.length ≤ c0 := HC.out.2.1
  simp only [Int.toNat_natCast] at h0 h1 h2 ⊢
  obtain ⟨y, hy⟩ : ∃ y, y = l0.take i := ⟨_, rfl⟩
  have HY := Aside0.mk (And.intro hy (show y.length = i by rw [hy, List.length_take]; omega))
  have HT : Aside0 (k31.C w (some ad) i y) := ⟨by
    have h_ := Kd.C_take hC (Nat.le_of_lt hi)
    rw [← hy, HY.out.2] at h_
    exact h_⟩
  clear hy
  have HD := Aside0.mk (Kd.C_drop (m := i + 1) hC hi hcap)
  clear hC
  have e1 : IntKind.i64.wrap ((i : Int) + 1) = (i : Int) + 1 := by rw [IntWalk.i64_left]; unfold wrap64; omega
  obtain ⟨i0, hi0, _, hsz0, _⟩ := info_parts info31
  have hcut0 := cut_from (P := Try.prog) 22 31 .i64 Try.underlying22 hi0 3 hsz0 (some ad) l0.length c0 ((i : Int) + 1) (by omega) (by omega)
  obtain ⟨A2, hA2⟩ : ∃ A2, A2 = (if c0 = i + 1 then some ad else (some ad : Option Addr).map (·.add ((i + 1) * 3))) := ⟨_, rfl⟩
  obtain ⟨m2, hm2⟩ : ∃ m2, m2 = l0.length - (i + 1) := ⟨_, rfl⟩
  obtain ⟨c2, hc2⟩ : ∃ c2, c2 = c0 - (i + 1) := ⟨_, rfl⟩
  have hcut : ∀ W : World, (Instr.slice 22 (.slice (some ad) l0.length c0) (some (.int .i64 ((i : Int) + 1))) none none).run Try.prog W = .ok (.slice A2 m2 c2) W := by
    rw [show ((i : Int) + 1).toNat = i + 1 by omega] at hcut0
    rw [hA2, hm2, hc2]; exact hcut0
  have HD2 : Aside0 (k31.C w A2 m2 (l0.drop (i + 1)) ∧ m2 < 4398046511104) := ⟨by
    have h_ := HD.out
    rw [show (l0.drop (i + 1)).length = m2 by rw [List.length_drop, hm2]] at h_
    exact ⟨by rw [hA2]; exact h_, by have := HL.out; omega⟩⟩
  have HM2 : Aside0 (i + m2 < 4398046511104) := ⟨by have := HL.out; omega⟩
  clear hcut0 hA2 hm2 hc2 HD hi0 hsz0
  go_enter Try.func17, Try.ntmps17
  obtain ⟨W0, hW0⟩ : ∃ W0, W0 = w.alloc (.cells #[.int .i64 0, .int .i64 0, .string (⟨#[]⟩ : ByteArray)] 31) := ⟨_, rfl⟩
  have HB0 : Aside0 (Below w.heap.size w W0) := ⟨by rw [hW0]; exact below_alloc (Below.refl _ _) _⟩
  have HK0 : Aside0 (W0.heap[w.heap.size]? = some (.cells #[.int .i64 0, .int .i64 0, .string (⟨#[]⟩ : ByteArray)] 31 (0, 0))) := ⟨by rw [hW0]; exact blk_new _ _⟩
  have HS0 : Aside0 (w.heap.size + 1 = W0.heap.size) := ⟨by rw [hW0]; simp⟩
  have HW := Aside0.mk hW0
  clear hW0
  go_wp2_with (at_builtin; (refine Kd.R_append_rows k31 (Rr := msgCells) (w0 := W0) W0.heap.size rfl (.tmp 18) (.tmp 21) 22 31 (.agg #[(.int .i64 0), (.int .i64 0), (.string ⟨#[]⟩)]) 32 rfl Try.underlying22 info31 rfl (by decide) (by omega) (.slice (some ⟨w.heap.size + 1, 0, none⟩) 0 0) [] y (some ad) i c0 (fun k_ => P0_ k_ ∨ w.heap.size ≤ k_) (fun _ => False) rfl rfl ?_ ?_ msgM (fun _ h => h.elim) ?_ ?_ ?_ ?_ ?_))
  · rw [show w.heap.size + 1 = W0.heap.size from HS0.out, ← HW.out]
    exact msgNone (Nat.le_refl _) (.inr HB0.out.size)
  · exact msgReads (Kd.C_below HT.out (below_alloc (below_alloc (Below.refl _ _) _) _))
  · exact fun k hk => .inr (by omega)
  · rw [← HW.out]; exact below_alloc (Below.refl _ _) _
  · have := HS0.out; omega
  · have := HL.out; omega
  intro v1 w1 hR1 hB1 _ _
  have HR1 := Aside0.mk hR1
  have HB1 := Aside0.mk hB1
  have HB2 := Aside0.mk (below_then HB0.out HB0.out.size hB1)
  have k0 := pw_cell_below HB2.out h0
  have k1 := pw_cell_below HB2.out h1
  have k2 := pw_cell_below HB2.out h2
  have hle : W0.heap.size ≤ w1.heap.size := hB1.size
  have HH := Aside0.mk (And.intro h0 (And.intro h1 h2))
  obtain ⟨A1, n1, rfl⟩ := Kd.R_slice hR1
  clear hR1 hB1 h0 h1 h2
  go_wp2_with fail
  have hne : (ad.add (i * 3)).block ≠ w.heap.size := fun e => by have := World.block_lt_of_cell? w _ HH.out.1; omega
  refine start_ (n := 13) (S := fun w' => w'.cell? (ad.add (i * 3)) = some (.int .i64 ((rd_T31 l0 (i : Int)).f0)) ∧ w'.cell? ⟨(ad.add (i * 3)).block, (ad.add (i * 3)).off + 1, none⟩ = some (.int .i64 ((rd_T31 l0 (i : Int)).f1)) ∧ w'.cell? ⟨(ad.add (i * 3)).block, (ad.add (i * 3)).off + 2, none⟩ = some (.string ((rd_T31 l0 (i : Int)).f2))) (ds := []) #[false, false, false, false, false, false, false, false, false, false, false, false, false] (by kernel_rfl) rfl rfl ⟨k0, k1, k2⟩ (fun hHeld => ?_)
  refine with_tabW batonref12_Take.tab4 batonref12_Take.bits4 (fun HT_ HW_ => ?_)
  have HR2 := Aside0.mk (Kd.R_drew HR1.out)
  have HB5 := Aside0.mk HB1.out.drew
  have HB6 := Aside0.mk (below_drew1 HB2.out)
  have hle2 : W0.heap.size ≤ w1.drew.heap.size := hle
  clear HR1 HB1 HB2 k0 k1 k2 hle
  generalize w1.drew = w2 at HR2 HB5 HB6 hle2 hHeld ⊢
  refine pure_ (i := 0) (N := some 23) (v := ?_) (a' := ?_) #[true, false, false, false, false, false, false, false, false, false, false, false, false] rfl rfl (any_of HT_.out (by kernel_rfl)) (fun _ _ _ h => h) (Or.inl ⟨by rfl, ?_⟩) ?_ ?_
  rotate_left
  · intro w'
    go_simp
    with_reducible rfl
  rotate_left
  · simp only [Act.put, List.setIfInBounds_toArray, List.set_cons_zero, List.set_cons_succ, i64_w, i32_w]
    rfl
  refine pure_ (i := 1) (N := some 24) (v := ?_) (a' := ?_) #[true, true, false, false, false, false, false, false, false, false, false, false, false] rfl rfl (any_of HT_.out (by kernel_rfl)) (fun _ _ _ h => h) (Or.inl ⟨by rfl, ?_⟩) ?_ ?_
  rotate_left
  · intro w'
    go_simp
    with_reducible rfl
  rotate_left
  · simp only [Act.put, List.setIfInBounds_toArray, List.set_cons_zero, List.set_cons_succ, i64_w, i32_w]
    rfl
  refine pure_ (i := 2) (N := some 25) (v := ?_) (a' := ?_) #[true, true, true, false, false, false, false, false, false, false, false, false, false] rfl rfl (any_of HT_.out (by kernel_rfl)) (fun _ _ _ h => h) (Or.inl ⟨by rfl, ?_⟩) ?_ ?_
  rotate_left
  · intro w'
    go_simp
    with_reducible rfl
  rotate_left
  · simp only [Act.put, List.setIfInBounds_toArray, List.set_cons_zero, List.set_cons_succ, i64_w, i32_w]
    rfl
  refine pure_ (i := 4) (N := some 27) (v := ?_) (a' := ?_) #[true, true, true, false, true, false, false, false, false, false, false, false, false] rfl rfl (any_of HT_.out (by kernel_rfl)) (fun _ _ _ h => h) (Or.inl ⟨by rfl, ?_⟩) ?_ ?_
  rotate_left
  · intro w'
    go_simp
    with_reducible rfl
  rotate_left
  · simp only [Act.put, List.setIfInBounds_toArray, List.set_cons_zero, List.set_cons_succ, i64_w, i32_w]
    rfl
  refine pure_ (i := 5) (N := some 28) (v := ?_) (a' := ?_) #[true, true, true, false, true, true, false, false, false, false, false, false, false] rfl rfl (any_of HT_.out (by kernel_rfl)) (fun _ _ _ h => h) (Or.inl ⟨by rfl, ?_⟩) ?_ ?_
  rotate_left
  · intro w'
    go_simp
    with_reducible rfl
  rotate_left
  · simp only [Act.put, List.setIfInBounds_toArray, List.set_cons_zero, List.set_cons_succ, i64_w, i32_w]
    rfl
  refine pure_ (i := 6) (N := some 29) (v := ?_) (a' := ?_) #[true, true, true, false, true, true, true, false, false, false, false, false, false] rfl rfl (any_of HT_.out (by kernel_rfl)) (fun _ _ _ h => h) (Or.inl ⟨by rfl, ?_⟩) ?_ ?_
  rotate_left
  · intro w'
    go_simp
    with_reducible rfl
  rotate_left
  · simp only [Act.put, List.setIfInBounds_toArray, List.set_cons_zero, List.set_cons_succ, i64_w, i32_w]
    rfl
  refine pure_ (i := 7) (N := some 30) (v := ?_) (a' := ?_) #[true, true, true, false, true, true, true, true, false, false, false, false, false] rfl rfl (any_of HT_.out (by kernel_rfl)) (fun _ _ _ h => h) (Or.inl ⟨by rfl, ?_⟩) ?_ ?_
  rotate_left
  · intro w'
    go_simp
    with_reducible rfl
  rotate_left
  · simp only [Act.put, List.setIfInBounds_toArray, List.set_cons_zero, List.set_cons_succ, i64_w, i32_w]
    rfl
  refine pure_ (i := 8) (N := some 31) (v := ?_) (a' := ?_) #[true, true, true, false, true, true, true, true, true, false, false, false, false] rfl rfl (any_of HT_.out (by kernel_rfl)) (fun _ _ _ h => h) (Or.inl ⟨by rfl, ?_⟩) ?_ ?_
  rotate_left
  · intro w'
    go_simp
    with_reducible rfl
  rotate_left
  · simp only [Act.put, List.setIfInBounds_toArray, List.set_cons_zero, List.set_cons_succ, i64_w, i32_w]
    rfl
  refine take_ (i := 3) (N := some 26) (v := ?_) (a' := ?_) #[true, true, true, true, true, true, true, true, true, false, false, false, false] rfl rfl (take_ofW HT_.out HW_.out (by kernel_rfl)) (fun _ _ _ h => h) (Or.inl ⟨by rfl, ?_⟩) hHeld ?_ ?_
  rotate_left
  · rintro w' ⟨s0, s1, s2⟩
    go_simp
    with_reducible rfl
  rotate_left
  · simp only [Act.put, List.setIfInBounds_toArray, List.set_cons_zero, List.set_cons_succ, i64_w, i32_w]
    rfl
  refine one_ (i := 9) (N := some 32) #[true, true, true, true, true, true, true, true, true, true, false, false, false] rfl rfl (one_of HT_.out (by kernel_rfl)) (by decide) (fun K hK => ?_)
  refine Kd.R_append_rows_step k31 (Rr := msgCells) (w0 := W0) W0.heap.size rfl (.tmp 27) (.tmp 31) 22 31 (.agg #[(.int .i64 0), (.int .i64 0), (.string ⟨#[]⟩)]) 32 rfl Try.underlying22 info31 rfl (by decide) (by omega) _ y (l0.drop (i + 1)) A2 m2 c2 (fun k_ => P0_ k_ ∨ w.heap.size ≤ k_) (fun _ => False) rfl rfl HR2.out (msgReads (Kd.C_below HD2.out.1 HB6.out)) msgM (fun _ h => h.elim) (fun k hk => .inr (Nat.le_trans HB6.out.size hk)) HB5.out hle2 (by have h_ := HM2.out; have h2_ := HY.out.2; omega) ?_
  intro v3 w3 hR3 hB3 _ _
  have HB7 := below_then HB0.out HB0.out.size hB3
  have K3 := (hB3.block w.heap.size (by have := HS0.out; omega)).trans HK0.out
  have HR3 := Aside0.mk (Kd.R_bound hR3)
  have HB8 := Aside0.mk HB7
  have HK3 := Aside0.mk K3
  refine hK.out _ _ ⟨pw_cell_below HB7 HH.out.1, pw_cell_below HB7 HH.out.2.1, pw_cell_below HB7 HH.out.2.2⟩ (fun hHeld => ?_)
  clear hK K hR3 hB3 HB7 K3
  refine norm_ (a' := ?_) ?_ ?_
  rotate_left
  · show Act.put _ (some 32) _ = _
    simp only [Act.put, List.setIfInBounds_toArray, List.set_cons_zero, List.set_cons_succ, i64_w, i32_w]
    rfl
  refine one_ (i := 10) (N := none) #[true, true, true, true, true, true, true, true, true, true, true, false, false] rfl rfl (one_of HT_.out (by kernel_rfl)) (by decide) (fun K hK => ?_)
  have hs0 : w3.cell? ⟨w.heap.size, 0, none⟩ = some (.int .i64 0) := (blk_cell HK3.out 0).trans rfl
  have hfs0 := blk_frozen HK3.out 0
  have hs1 : w3.cell? ⟨w.heap.size, 1, none⟩ = some (.int .i64 0) := (blk_cell HK3.out 1).trans rfl
  have hfs1 := blk_frozen HK3.out 1
  have hs2 : w3.cell? ⟨w.heap.size, 2, none⟩ = some (.string (⟨#[]⟩ : ByteArray)) := (blk_cell HK3.out 2).trans rfl
  have hfs2 := blk_frozen HK3.out 2
  refine skip_ (w1 := ?_) (by rfl) rfl ?_ ?_
  rotate_left
  · go_simp
    rfl
  refine hK.out _ _ ⟨(cell_far (p := ⟨w.heap.size, _, none⟩) (by first | exact hne | (show (Addr.add _ _).block ≠ _; exact hne) | (dsimp only; exact hne)) _).trans ((cell_far (p := ⟨w.heap.size, _, none⟩) (by first | exact hne | (show (Addr.add _ _).block ≠ _; exact hne) | (dsimp only; exact hne)) _).trans ((cell_far (p := ⟨w.heap.size, _, none⟩) (by first | exact hne | (show (Addr.add _ _).block ≠ _; exact hne) | (dsimp only; exact hne)) _).trans (hHeld.1))), (cell_far (p := ⟨w.heap.size, _, none⟩) (by first | exact hne | (show (Addr.add _ _).block ≠ _; exact hne) | (dsimp only; exact hne)) _).trans ((cell_far (p := ⟨w.heap.size, _, none⟩) (by first | exact hne | (show (Addr.add _ _).block ≠ _; exact hne) | (dsimp only; exact hne)) _).trans ((cell_far (p := ⟨w.heap.size, _, none⟩) (by first | exact hne | (show (Addr.add _ _).block ≠ _; exact hne) | (dsimp only; exact hne)) _).trans (hHeld.2.1))), (cell_far (p := ⟨w.heap.size, _, none⟩) (by first | exact hne | (show (Addr.add _ _).block ≠ _; exact hne) | (dsimp only; exact hne)) _).trans ((cell_far (p := ⟨w.heap.size, _, none⟩) (by first | exact hne | (show (Addr.add _ _).block ≠ _; exact hne) | (dsimp only; exact hne)) _).trans ((cell_far (p := ⟨w.heap.size, _, none⟩) (by first | exact hne | (show (Addr.add _ _).block ≠ _; exact hne) | (dsimp only; exact hne)) _).trans (hHeld.2.2)))⟩ (fun hHeld => ?_)
  clear hK K
  refine pure_ (i := 11) (N := some 5) (v := ?_) (a' := ?_) #[true, true, true, true, true, true, true, true, true, true, true, true, false] rfl rfl (any_of HT_.out (by kernel_rfl)) (fun _ _ _ h => h) (Or.inl ⟨by rfl, ?_⟩) ?_ ?_
  rotate_left
  · intro w'
    go_simp
    with_reducible rfl
  rotate_left
  · simp only [Act.put, List.setIfInBounds_toArray, List.set_cons_zero, List.set_cons_succ, i64_w, i32_w]
    rfl
  refine pure_ (i := 12) (N := some 6) (v := ?_) (a' := ?_) #[true, true, true, true, true, true, true, true, true, true, true, true, true] rfl rfl (any_of HT_.out (by kernel_rfl)) (fun _ _ _ h => h) (Or.inl ⟨by rfl, ?_⟩) ?_ ?_
  rotate_left
  · intro w'
    go_simp
    with_reducible rfl
  rotate_left
  · simp only [Act.put, List.setIfInBounds_toArray, List.set_cons_zero, List.set_cons_succ, i64_w, i32_w]
    rfl
  refine done_ (done_of HT_.out (by kernel_rfl)) ?_
  try go_wp2
  refine bodyPost_ret (results_ctt rfl _ _ w.heap.size 31 #[.int .i64 ((rd_T31 l0 (i : Int)).f0), .int .i64 ((rd_T31 l0 (i : Int)).f1), .string ((rd_T31 l0 (i : Int)).f2)] (0, 0) _ rfl (by (with_reducible repeat (first | refine blk_drewN ?_ _ | refine blk_drew ?_ | refine blk_alloc ?_ _)); refine blk_put (cs := #[.int .i64 ((rd_T31 l0 (i : Int)).f0), .int .i64 ((rd_T31 l0 (i : Int)).f1), .string (⟨#[]⟩ : ByteArray)]) ?_ 2 _ rfl; (with_reducible repeat (first | refine blk_drewN ?_ _ | refine blk_drew ?_ | refine blk_alloc ?_ _)); refine blk_put (cs := #[.int .i64 ((rd_T31 l0 (i : Int)).f0), .int .i64 0, .string (⟨#[]⟩ : ByteArray)]) ?_ 1 _ rfl; (with_reducible repeat (first | refine blk_drewN ?_ _ | refine blk_drew ?_ | refine blk_alloc ?_ _)); refine blk_put (cs := #[.int .i64 0, .int .i64 0, .string (⟨#[]⟩ : ByteArray)]) ?_ 0 _ rfl; (with_reducible repeat (first | refine blk_drewN ?_ _ | refine blk_drew ?_ | refine blk_alloc ?_ _)); exact HK3.out) Try.underlying31 rfl (by kernel_rfl)) rfl ?_
  have hb3 := HS0.out
  refine ⟨_, rfl, ?_, ?_⟩
  · rw [← HY.out.1]
    exact Kd.V_mono (Kd.R_V (Kd.R_far (p := ⟨w.heap.size, 2, none⟩) (Kd.R_far (p := ⟨w.heap.size, 1, none⟩) (Kd.R_far (p := ⟨w.heap.size, 0, none⟩) HR3.out (fun k hk e => by have := hk.2.1; simp only at e; omega) _) (fun k hk e => by have := hk.2.1; simp only at e; omega) _) (fun k hk e => by have := hk.2.1; simp only at e; omega) _)) (fun _ hk => hk.1)
  · exact below_set (below_set (below_set HB8.out (Nat.le_refl _)) (Nat.le_refl _)) (Nat.le_refl _)


end Go.Proofs.Ytfdfilgohcbgfaa.PM
