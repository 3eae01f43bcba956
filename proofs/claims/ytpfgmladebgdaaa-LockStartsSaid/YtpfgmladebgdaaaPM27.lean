-- made by a program of this session (wip/tools/myprint.py over the kit's print) out of the translation; Lean checks it
import Derived.Test.YtpfgmladebgdaaaPM0
import Derived.Test.YtpfgmladebgdaaaPM10
namespace Go.Proofs.Ytpfgmladebgdaaa.PM
open Go.RowKit Go.Proofs.YtpfgmladebgdaaaW.PrintWords Go.Proofs.YtpfgmladebgdaaaW.PrintLast Go.Proofs.YtpfgmladebgdaaaW.PrintMore
attribute [local go_sem] max2_int min2_int max_two min_two max_three min_three max_four min_four   -- for this text's walks alone
attribute [local go_sem high] Go.Proofs.Ytpfgmladebgdaaa.My.str_leq Go.Proofs.Ytpfgmladebgdaaa.My.str_gtr Go.Proofs.Ytpfgmladebgdaaa.My.str_geq
set_option linter.unusedVariables false
set_option linter.unusedSimpArgs false

/-! ### lock_watched: function 35 -/
-- (by hand)
theorem lock_watched_2.one (x : S49) (k : ByteArray) (g : Nat) (w : World) (hg : w.cell? ⟨g, 4, none⟩ = some (.string k)) : Calls Try.prog 44 #[.agg #[.int .i64 x.f0, .bool x.f1, .string x.f2.f0, .string x.f2.f1, .int .i64 x.f2.f2, .int .i64 x.f2.f3, .int .i64 x.f2.f4, .int .i64 x.f2.f5], .pointer (some ⟨g, 0, none⟩)] w fun e w' => e = .returned (.bool (x.f1 && x.f2.f0.toList == k.toList)) ∧ Below w.heap.size w w' := by
  have hu := Try.underlying49
  have hu2 := Try.underlying47
  have hu3 := Try.underlying24
  have hlt : g < w.heap.size := World.block_lt_of_cell? w _ hg
  obtain ⟨x0, x1, x2, x3, x4, x5, x6, x7⟩ := x
  cases x1 with
  | true =>
    go_enter Try.func44, Try.ntmps44
    go_wp2
    go_ret
    exact ⟨rfl, below_alloc (Below.refl _ _) _⟩
  | false =>
    go_enter Try.func44, Try.ntmps44
    go_wp2
    go_ret
    exact ⟨rfl, below_alloc (Below.refl _ _) _⟩
/-- Is an event's key gone, and that one? -/
def lock_watched_2.p (k : ByteArray) (x : S49) : Bool := x.f1 && x.f2.f0.toList == k.toList
/-- The place of the first such event, from i on; -1. -/
def lock_watched_2.pl (k : ByteArray) : List S49 → Int → Int
  | [], _ => -1
  | x :: l, i => if lock_watched_2.p k x = true then i else lock_watched_2.pl k l (i + 1)
theorem lock_watched_2.idx (A0 : Option Addr) (c0 : Nat) (l0 : List S49) (k : ByteArray) (g : Nat) (w : World) (hr0 : Kd.C k49 w A0 l0.length l0) (hg : w.cell? ⟨g, 4, none⟩ = some (.string k)) :
    Calls Try.prog 51 #[.slice A0 l0.length c0, .func (.func 44) #[] #[.pointer (some ⟨g, 0, none⟩)]] w fun e w' => e = .returned (.int .i64 (lock_watched_2.pl k l0 0)) ∧ Below w.heap.size w w' := by
  have HR0 := Aside0.mk hr0
  have hmx : l0.length ≤ 9223372036854775807 := hr0.2.1
  have HG := Aside0.mk hg
  have hlt : g < w.heap.size := World.block_lt_of_cell? w _ hg
  clear hr0 hg
  obtain ⟨r, hr⟩ : ∃ r, r = lock_watched_2.pl k l0 0 := ⟨_, rfl⟩
  rw [← hr]
  have H := Aside0.mk hr.symm
  clear hr
  go_enter Try.func51, Try.ntmps51
  go_wp2_with fail
  go_loopw [8] (fun i wr => ∃ j : Nat, i = .int .i64 j ∧ Aside0 (j ≤ l0.length ∧ lock_watched_2.pl k (l0.drop j) j = r ∧ Below w.heap.size w wr)) (fun i _ => l0.length - (intOf i).toNat)
  case atStart => exact ⟨0, rfl, ⟨Nat.zero_le _, H.out, Below.refl _ _⟩⟩
  case round =>
    obtain ⟨j, rfl, ⟨hk, hrun, hbl⟩⟩ := hrel
    clear H
    by_cases hlt : j < l0.length
    · obtain ⟨ad, rfl, h0, h1, h2, h3, h4, h5, h6, h7⟩ := at_T49 (Kd.C_below HR0.out hbl) (j : Int) (by omega) (by omega)
      have e1 : rd_T49 l0 (j : Int) = l0[j] := by simp [rd_T49, List.getElem?_eq_getElem hlt]
      rw [e1] at h0 h1 h2 h3 h4 h5 h6 h7
      simp only [Int.toNat_natCast] at h0 h1 h2 h3 h4 h5 h6 h7
      rw [List.drop_eq_getElem_cons hlt] at hrun
      clear e1
      generalize l0[j] = y at *
      have HB := Aside0.mk hbl
      have hz : (j : Int) < (l0.length : Int) := by omega
      have HCG := Aside0.mk ((hbl.cell (p := ⟨g, 4, none⟩) (World.block_lt_of_cell? w _ HG.out)).trans HG.out)
      by_cases hb : lock_watched_2.p k y = true
      · have hr : r = j := by rw [← hrun]; simp [lock_watched_2.pl, hb]
        have HR := Aside0.mk hr
        have HQ := Aside0.mk hb
        clear hr hb hrun hbl
        go_wp2_with (go_at_call 44; (with_reducible refine (lock_watched_2.one y k g _ HCG.out).mono ?_); rw [show (y.f1 && y.f2.f0.toList == k.toList) = true from HQ.out]; rintro e w2 ⟨rfl, hb2⟩; have HB2 := Aside0.mk (below_step HB.out hb2); clear hb2)
        go_ret
        exact ⟨by rw [HR.out]; rfl, HB2.out⟩
      · have HN := Aside0.mk (show lock_watched_2.pl k (l0.drop (j + 1)) ((j : Int) + 1) = r by rw [← hrun]; simp [lock_watched_2.pl, hb])
        have HQ := Aside0.mk (Bool.eq_false_iff.2 hb)
        clear hb hrun hbl
        go_wp2_with (go_at_call 44; (with_reducible refine (lock_watched_2.one y k g _ HCG.out).mono ?_); rw [show (y.f1 && y.f2.f0.toList == k.toList) = false from HQ.out]; rintro e w2 ⟨rfl, hb2⟩; have HB2 := Aside0.mk (below_step HB.out hb2); clear hb2)
        go_roundw
        case rel => exact ⟨j + 1, by go_num, ⟨by omega, HN.out, HB2.out⟩⟩
        case measure => simp [intOf]; omega
    · have he : j = l0.length := by omega
      have hz : ¬ (j : Int) < (l0.length : Int) := by omega
      rw [he, List.drop_length] at hrun
      obtain rfl : -1 = r := hrun
      have HB := Aside0.mk hbl
      clear hbl he
      go_wp2
      go_ret
      exact ⟨rfl, HB.out⟩
theorem lock_watched_2.pl_any (k : ByteArray) : ∀ (l : List S49) (i : Int), 0 ≤ i → decide (lock_watched_2.pl k l i ≥ 0) = l.any (lock_watched_2.p k)
  | [], i, h => by simp [lock_watched_2.pl]
  | x :: l, i, h => by
    unfold lock_watched_2.pl
    by_cases c : lock_watched_2.p k x = true
    · rw [if_pos c, List.any_cons, c]
      simp [h]
    · rw [if_neg c, List.any_cons, Bool.eq_false_iff.2 c, Bool.false_or]
      exact lock_watched_2.pl_any k l (i + 1) (by omega)
/-- slices.ContainsFunc at that closure. -/
theorem lock_watched_2.any (A0 : Option Addr) (c0 : Nat) (l0 : List S49) (k : ByteArray) (g : Nat) (w : World) (hr0 : Kd.C k49 w A0 l0.length l0) (hg : w.cell? ⟨g, 4, none⟩ = some (.string k)) :
    Calls Try.prog 45 #[.slice A0 l0.length c0, .func (.func 44) #[] #[.pointer (some ⟨g, 0, none⟩)]] w fun e w' => e = .returned (.bool (l0.any (lock_watched_2.p k))) ∧ Below w.heap.size w w' := by
  have HR0 := Aside0.mk hr0
  have HG := Aside0.mk hg
  have HD := Aside0.mk (lock_watched_2.pl_any k l0 0 (Int.le_refl 0))
  clear hr0 hg
  go_enter Try.func45, Try.ntmps45
  go_wp2_with (go_at_call 51; (with_reducible refine (lock_watched_2.idx A0 c0 l0 k g _ HR0.out HG.out).mono ?_); rintro e w2 ⟨rfl, hb2⟩; have HB2 := Aside0.mk hb2; clear hb2)
  go_ret
  exact ⟨by rw [← HD.out]; rfl, HB2.out⟩
theorem lock_watched_g.one (x : S49) (w : World) : Calls Try.prog 43 #[.agg #[.int .i64 x.f0, .bool x.f1, .string x.f2.f0, .string x.f2.f1, .int .i64 x.f2.f2, .int .i64 x.f2.f3, .int .i64 x.f2.f4, .int .i64 x.f2.f5]] w fun e w' => e = .returned (.bool x.f1) ∧ Below w.heap.size w w' := by
  have hu := Try.underlying49
  go_enter Try.func43, Try.ntmps43
  go_wp2
  go_ret
  exact ⟨rfl, below_alloc (Below.refl _ _) _⟩
/-- Is an event's key gone, and that one? -/
def lock_watched_g.p (x : S49) : Bool := x.f1
/-- The place of the first such event, from i on; -1. -/
def lock_watched_g.pl : List S49 → Int → Int
  | [], _ => -1
  | x :: l, i => if lock_watched_g.p x = true then i else lock_watched_g.pl l (i + 1)
theorem lock_watched_g.idx (A0 : Option Addr) (c0 : Nat) (l0 : List S49) (w : World) (hr0 : Kd.C k49 w A0 l0.length l0) :
    Calls Try.prog 51 #[.slice A0 l0.length c0, .func (.func 43) #[] #[]] w fun e w' => e = .returned (.int .i64 (lock_watched_g.pl l0 0)) ∧ Below w.heap.size w w' := by
  have HR0 := Aside0.mk hr0
  have hmx : l0.length ≤ 9223372036854775807 := hr0.2.1
  clear hr0
  obtain ⟨r, hr⟩ : ∃ r, r = lock_watched_g.pl l0 0 := ⟨_, rfl⟩
  rw [← hr]
  have H := Aside0.mk hr.symm
  clear hr
  go_enter Try.func51, Try.ntmps51
  go_wp2_with fail
  go_loopw [8] (fun i wr => ∃ j : Nat, i = .int .i64 j ∧ Aside0 (j ≤ l0.length ∧ lock_watched_g.pl (l0.drop j) j = r ∧ Below w.heap.size w wr)) (fun i _ => l0.length - (intOf i).toNat)
  case atStart => exact ⟨0, rfl, ⟨Nat.zero_le _, H.out, Below.refl _ _⟩⟩
  case round =>
    obtain ⟨j, rfl, ⟨hk, hrun, hbl⟩⟩ := hrel
    clear H
    by_cases hlt : j < l0.length
    · obtain ⟨ad, rfl, h0, h1, h2, h3, h4, h5, h6, h7⟩ := at_T49 (Kd.C_below HR0.out hbl) (j : Int) (by omega) (by omega)
      have e1 : rd_T49 l0 (j : Int) = l0[j] := by simp [rd_T49, List.getElem?_eq_getElem hlt]
      rw [e1] at h0 h1 h2 h3 h4 h5 h6 h7
      simp only [Int.toNat_natCast] at h0 h1 h2 h3 h4 h5 h6 h7
      rw [List.drop_eq_getElem_cons hlt] at hrun
      clear e1
      generalize l0[j] = y at *
      have HB := Aside0.mk hbl
      have hz : (j : Int) < (l0.length : Int) := by omega
      by_cases hb : lock_watched_g.p y = true
      · have hr : r = j := by rw [← hrun]; simp [lock_watched_g.pl, hb]
        have HR := Aside0.mk hr
        have HQ := Aside0.mk hb
        clear hr hb hrun hbl
        go_wp2_with (go_at_call 43; (with_reducible refine (lock_watched_g.one y _).mono ?_); rw [show y.f1 = true from HQ.out]; rintro e w2 ⟨rfl, hb2⟩; have HB2 := Aside0.mk (below_step HB.out hb2); clear hb2)
        go_ret
        exact ⟨by rw [HR.out]; rfl, HB2.out⟩
      · have HN := Aside0.mk (show lock_watched_g.pl (l0.drop (j + 1)) ((j : Int) + 1) = r by rw [← hrun]; simp [lock_watched_g.pl, hb])
        have HQ := Aside0.mk (Bool.eq_false_iff.2 hb)
        clear hb hrun hbl
        go_wp2_with (go_at_call 43; (with_reducible refine (lock_watched_g.one y _).mono ?_); rw [show y.f1 = false from HQ.out]; rintro e w2 ⟨rfl, hb2⟩; have HB2 := Aside0.mk (below_step HB.out hb2); clear hb2)
        go_roundw
        case rel => exact ⟨j + 1, by go_num, ⟨by omega, HN.out, HB2.out⟩⟩
        case measure => simp [intOf]; omega
    · have he : j = l0.length := by omega
      have hz : ¬ (j : Int) < (l0.length : Int) := by omega
      rw [he, List.drop_length] at hrun
      obtain rfl : -1 = r := hrun
      have HB := Aside0.mk hbl
      clear hbl he
      go_wp2
      go_ret
      exact ⟨rfl, HB.out⟩
theorem lock_watched_g.pl_any : ∀ (l : List S49) (i : Int), 0 ≤ i → decide (lock_watched_g.pl l i ≥ 0) = l.any lock_watched_g.p
  | [], i, h => by simp [lock_watched_g.pl]
  | x :: l, i, h => by
    unfold lock_watched_g.pl
    by_cases c : lock_watched_g.p x = true
    · rw [if_pos c, List.any_cons, c]
      simp [h]
    · rw [if_neg c, List.any_cons, Bool.eq_false_iff.2 c, Bool.false_or]
      exact lock_watched_g.pl_any l (i + 1) (by omega)
/-- slices.ContainsFunc at that closure. -/
theorem lock_watched_g.any (A0 : Option Addr) (c0 : Nat) (l0 : List S49) (w : World) (hr0 : Kd.C k49 w A0 l0.length l0) :
    Calls Try.prog 45 #[.slice A0 l0.length c0, .func (.func 43) #[] #[]] w fun e w' => e = .returned (.bool (l0.any lock_watched_g.p)) ∧ Below w.heap.size w w' := by
  have HR0 := Aside0.mk hr0
  have HD := Aside0.mk (lock_watched_g.pl_any l0 0 (Int.le_refl 0))
  clear hr0
  go_enter Try.func45, Try.ntmps45
  go_wp2_with (go_at_call 51; (with_reducible refine (lock_watched_g.idx A0 c0 l0 _ HR0.out).mono ?_); rintro e w2 ⟨rfl, hb2⟩; have HB2 := Aside0.mk hb2; clear hb2)
  go_ret
  exact ⟨by rw [← HD.out]; rfl, HB2.out⟩
def lock_watched.f (a0_0 : Int) (a0_1 : ByteArray) (a0_2 : Int) (a0_3 : ByteArray) (a0_4 : ByteArray) (a0_5 : Int) (a0_6 : Int) (a0_7 : Int) (a0_8 : Int) (a0_9 : Int) (a1_0 : Int) (a1_1 : Int) (a1_2 : Int) (a1_3 : Int) (a1_4 : Int) (a1_5 : Int) (a1_6 : Bool) (l1_7 : List (S47)) (l1_8 : List (S49)) : Option (Int × ByteArray × Int × ByteArray × ByteArray × Int × Int × Int × Int × Int) := if l1_8.any (lock_watched_2.p a0_4) = true then some (a0_0, a0_1, a0_2, a0_3, a0_4, a0_5, 8, 0, a0_8, 12) else if l1_8.any lock_watched_g.p = true then some (a0_0, a0_1, a0_2, a0_3, a0_4, a0_5, 2, a0_7, a0_8, a0_9) else some (a0_0, a0_1, a0_2, a0_3, a0_4, a0_5, a0_6, a0_7, a1_3, a0_9)
set_option maxHeartbeats 8000000 in
set_option maxRecDepth 100000 in
theorem lock_watched.calls (a0_0 : Int) (a0_1 : ByteArray) (a0_2 : Int) (a0_3 : ByteArray) (a0_4 : ByteArray) (a0_5 : Int) (a0_6 : Int) (a0_7 : Int) (a0_8 : Int) (a0_9 : Int) (a1_0 : Int) (a1_1 : Int) (a1_2 : Int) (a1_3 : Int) (a1_4 : Int) (a1_5 : Int) (a1_6 : Bool) (A1_7 : Option Addr) (c1_7 : Nat) (l1_7 : List (S47)) (A1_8 : Option Addr) (c1_8 : Nat) (l1_8 : List (S49)) (r1 : Int) (r2 : ByteArray) (r3 : Int) (r4 : ByteArray) (r5 : ByteArray) (r6 : Int) (r7 : Int) (r8 : Int) (r9 : Int) (r10 : Int) (w : World) (hr1_7 : Kd.C k47 w A1_7 l1_7.length l1_7) (hc1_7 : l1_7.length ≤ c1_7) (hr1_8 : Kd.C k49 w A1_8 l1_8.length l1_8) (hc1_8 : l1_8.length ≤ c1_8) (h : lock_watched.f a0_0 a0_1 a0_2 a0_3 a0_4 a0_5 a0_6 a0_7 a0_8 a0_9 a1_0 a1_1 a1_2 a1_3 a1_4 a1_5 a1_6 l1_7 l1_8 = some (r1, r2, r3, r4, r5, r6, r7, r8, r9, r10)) :
    Calls Try.prog 35 #[.agg #[.int .i64 a0_0, .string a0_1, .int .i64 a0_2, .string a0_3, .string a0_4, .int .i64 a0_5, .int .i64 a0_6, .int .i64 a0_7, .int .i64 a0_8, .int .i64 a0_9], .agg #[.int .i64 a1_0, .int .i64 a1_1, .int .i64 a1_2, .int .i64 a1_3, .int .i64 a1_4, .int .i64 a1_5, .bool a1_6, .slice A1_7 l1_7.length c1_7, .slice A1_8 l1_8.length c1_8]] w fun e w' => e = .returned (.agg #[.int .i64 r1, .string r2, .int .i64 r3, .string r4, .string r5, .int .i64 r6, .int .i64 r7, .int .i64 r8, .int .i64 r9, .int .i64 r10]) ∧ Below w.heap.size w w' := by
 have hu1_ := Try.underlying24; have hu2_ := Try.underlying45; have hu3_ := Try.underlying47; have HR1_7 := Aside0.mk hr1_7; have HC1_7 := Aside0.mk hc1_7; clear hr1_7 hc1_7; have HR1_8 := Aside0.mk hr1_8; have HC1_8 := Aside0.mk hc1_8; clear hr1_8 hc1_8; have HB := Aside0.mk (Below.refl w.heap.size w)
 unfold lock_watched.f at h
 by_cases c1 : l1_8.any (lock_watched_2.p a0_4) = true
 · rw [if_pos c1] at h
   simp only [Option.some.injEq, Prod.mk.injEq] at h; obtain ⟨rfl, rfl, rfl, rfl, rfl, rfl, rfl, rfl, rfl, rfl⟩ := h
   have C1 := Aside0.mk c1; clear c1
   go_enter Try.func35, Try.ntmps35
   go_wp2_with (first | ((with_reducible refine gate_dst (N := 2) rfl ?_); refine box_event ?hg (N := 2) ?hd (cs := #[.int .i64 a0_0, .string a0_1, .int .i64 a0_2, .string a0_3, .string a0_4, .int .i64 a0_5, .int .i64 a0_6, .int .i64 a0_7, .int .i64 a0_8, .int .i64 a0_9]) (t := 24) ?hr ?_; (case hd => rfl); (case hg => rfl); (case hr => first | (go_simp; done) | (go_simp; rfl)); intro gb330 hg w49 hbox hb; have n0_ := Aside0.mk (below_step My.bB hb); have n1_ := Aside0.mk (hbox); have n2_ := Aside0.mk ((by rw [hg]; exact (below_size My.bB) : w.heap.size ≤ gb330)); have n3_ := Aside0.mk ((by rw [hg]; exact (below_size My.bB) : w.heap.size ≤ gb330)); clear HB; have HB := n0_; have BK330 := n1_; have GW330 := n2_; have GE330 := n3_; clear n0_ n1_ n2_ n3_; clear hb hbox hg) | ((with_reducible refine gate_dst (N := 3) rfl ?_); refine box_event ?hg (N := 3) ?hd (cs := #[.int .i64 a1_0, .int .i64 a1_1, .int .i64 a1_2, .int .i64 a1_3, .int .i64 a1_4, .int .i64 a1_5, .bool a1_6, .slice A1_7 l1_7.length c1_7, .slice A1_8 l1_8.length c1_8]) (t := 45) ?hr ?_; (case hd => rfl); (case hg => rfl); (case hr => first | (go_simp; done) | (go_simp; rfl)); intro gb331 hg w50 hbox hb; have n0_ := Aside0.mk (My.kb BK330.out hb); have n1_ := Aside0.mk (below_step (My.bG GE330.out) hb); have n2_ := Aside0.mk (hbox); have n3_ := Aside0.mk ((by rw [hg]; exact (below_size (My.bG GE330.out)) : w.heap.size ≤ gb331)); have n4_ := Aside0.mk ((by rw [hg]; exact (below_size (My.bG GE330.out)) : w.heap.size ≤ gb331)); have n5_ := Aside0.mk ((by rw [hg]; exact Nat.ne_of_lt (blk_lt (g := gb330) (o := .cells #[.int .i64 a0_0, .string a0_1, .int .i64 a0_2, .string a0_3, .string a0_4, .int .i64 a0_5, .int .i64 a0_6, .int .i64 a0_7, .int .i64 a0_8, .int .i64 a0_9] 24 (0, 0)) (My.Ka BK330.out)) : gb330 ≠ gb331)); have n6_ := Aside0.mk ((by rw [hg]; exact Nat.ne_of_gt (blk_lt (g := gb330) (o := .cells #[.int .i64 a0_0, .string a0_1, .int .i64 a0_2, .string a0_3, .string a0_4, .int .i64 a0_5, .int .i64 a0_6, .int .i64 a0_7, .int .i64 a0_8, .int .i64 a0_9] 24 (0, 0)) (My.Ka BK330.out)) : gb331 ≠ gb330)); clear BK330; clear HB; have BK330 := n0_; have HB := n1_; have BK331 := n2_; have GW331 := n3_; have GE331 := n4_; have NB330_331 := n5_; have NB331_330 := n6_; clear n0_ n1_ n2_ n3_ n4_ n5_ n6_; clear hb hbox hg) | ((with_reducible refine gate_dst (N := 4) rfl ?_); refine box_event ?hg (N := 4) ?hd (cs := #[.int .i64 0, .string (⟨#[]⟩ : ByteArray), .int .i64 0, .string (⟨#[]⟩ : ByteArray), .string (⟨#[]⟩ : ByteArray), .int .i64 0, .int .i64 0, .int .i64 0, .int .i64 0, .int .i64 0]) (t := 24) ?hr ?_; (case hd => rfl); (case hg => rfl); (case hr => first | (go_simp; done) | (go_simp; rfl)); intro gb332 hg w51 hbox hb; have n0_ := Aside0.mk (My.kb BK330.out hb); have n1_ := Aside0.mk (My.kb BK331.out hb); have n2_ := Aside0.mk (below_step (My.bH GE330.out GE331.out) hb); have n3_ := Aside0.mk (hbox); have n4_ := Aside0.mk ((by rw [hg]; exact (below_size (My.bH GE330.out GE331.out)) : w.heap.size ≤ gb332)); have n5_ := Aside0.mk ((by rw [hg]; exact (below_size (My.bH GE330.out GE331.out)) : w.heap.size ≤ gb332)); have n6_ := Aside0.mk ((by rw [hg]; exact Nat.ne_of_lt (blk_lt (g := gb330) (o := .cells #[.int .i64 a0_0, .string a0_1, .int .i64 a0_2, .string a0_3, .string a0_4, .int .i64 a0_5, .int .i64 a0_6, .int .i64 a0_7, .int .i64 a0_8, .int .i64 a0_9] 24 (0, 0)) (My.Ka BK330.out)) : gb330 ≠ gb332)); have n7_ := Aside0.mk ((by rw [hg]; exact Nat.ne_of_gt (blk_lt (g := gb330) (o := .cells #[.int .i64 a0_0, .string a0_1, .int .i64 a0_2, .string a0_3, .string a0_4, .int .i64 a0_5, .int .i64 a0_6, .int .i64 a0_7, .int .i64 a0_8, .int .i64 a0_9] 24 (0, 0)) (My.Ka BK330.out)) : gb332 ≠ gb330)); have n8_ := Aside0.mk ((by rw [hg]; exact Nat.ne_of_lt (blk_lt (g := gb331) (o := .cells #[.int .i64 a1_0, .int .i64 a1_1, .int .i64 a1_2, .int .i64 a1_3, .int .i64 a1_4, .int .i64 a1_5, .bool a1_6, .slice A1_7 l1_7.length c1_7, .slice A1_8 l1_8.length c1_8] 45 (0, 0)) (My.Ka BK331.out)) : gb331 ≠ gb332)); have n9_ := Aside0.mk ((by rw [hg]; exact Nat.ne_of_gt (blk_lt (g := gb331) (o := .cells #[.int .i64 a1_0, .int .i64 a1_1, .int .i64 a1_2, .int .i64 a1_3, .int .i64 a1_4, .int .i64 a1_5, .bool a1_6, .slice A1_7 l1_7.length c1_7, .slice A1_8 l1_8.length c1_8] 45 (0, 0)) (My.Ka BK331.out)) : gb332 ≠ gb331)); clear BK330; clear BK331; clear HB; have BK330 := n0_; have BK331 := n1_; have HB := n2_; have BK332 := n3_; have GW332 := n4_; have GE332 := n5_; have NB330_332 := n6_; have NB332_330 := n7_; have NB331_332 := n8_; have NB332_331 := n9_; clear n0_ n1_ n2_ n3_ n4_ n5_ n6_ n7_ n8_ n9_; clear hb hbox hg; have q1_ := NB331_330.out; have q2_ := NB330_331.out; have q3_ := NB331_332.out; have q4_ := NB332_331.out; have q5_ := NB330_332.out; have q6_ := NB332_330.out; obtain ⟨p1_0, p1_1, p1_2, p1_3, p1_4, p1_5, p1_6, p1_7, p1_8⟩ := My.qc9 BK331.out; obtain ⟨f1_0, f1_1, f1_2, f1_3, f1_4, f1_5, f1_6, f1_7, f1_8⟩ := My.qf9 BK331.out; obtain ⟨m1_0, m1_1, m1_2, m1_3, m1_4, m1_5, m1_6, m1_7, m1_8, m1_9⟩ := My.qc10 BK330.out; obtain ⟨g1_0, g1_1, g1_2, g1_3, g1_4, g1_5, g1_6, g1_7, g1_8, g1_9⟩ := My.qf10 BK330.out; obtain ⟨r1_0, r1_1, r1_2, r1_3, r1_4, r1_5, r1_6, r1_7, r1_8, r1_9⟩ := My.qc10 BK332.out; obtain ⟨s1_0, s1_1, s1_2, s1_3, s1_4, s1_5, s1_6, s1_7, s1_8, s1_9⟩ := My.qf10 BK332.out) | (go_at_call 45; (with_reducible refine (lock_watched_2.any _ _ l1_8 a0_4 gb330 _ ?side1 ?side2).mono ?_); (case side1 => exact My.Ca (Kd.C_below HR1_8.out HB.out)); (case side2 => exact (blk_cell BK330.out 4).trans rfl); rw [C1.out]; rintro e w57 ⟨rfl, hb⟩; replace BK330 := Aside0.mk (My.kb BK330.out hb); replace BK331 := Aside0.mk (My.kb BK331.out hb); replace BK332 := Aside0.mk (My.kb BK332.out hb); replace HB := Aside0.mk (below_step (My.bI GE330.out GE331.out GE332.out) hb); clear hb; have q1_ := NB331_330.out; have q2_ := NB330_331.out; have q3_ := NB331_332.out; have q4_ := NB332_331.out; have q5_ := NB330_332.out; have q6_ := NB332_330.out; obtain ⟨p3_0, p3_1, p3_2, p3_3, p3_4, p3_5, p3_6, p3_7, p3_8⟩ := My.qc9 BK331.out; obtain ⟨f3_0, f3_1, f3_2, f3_3, f3_4, f3_5, f3_6, f3_7, f3_8⟩ := My.qf9 BK331.out; obtain ⟨m3_0, m3_1, m3_2, m3_3, m3_4, m3_5, m3_6, m3_7, m3_8, m3_9⟩ := My.qc10 BK330.out; obtain ⟨g3_0, g3_1, g3_2, g3_3, g3_4, g3_5, g3_6, g3_7, g3_8, g3_9⟩ := My.qf10 BK330.out; obtain ⟨r3_0, r3_1, r3_2, r3_3, r3_4, r3_5, r3_6, r3_7, r3_8, r3_9⟩ := My.qc10 BK332.out; obtain ⟨s3_0, s3_1, s3_2, s3_3, s3_4, s3_5, s3_6, s3_7, s3_8, s3_9⟩ := My.qf10 BK332.out) | (go_at_call 33; (with_reducible refine (lock_fail.calls a0_0 a0_1 a0_2 a0_3 a0_4 a0_5 a0_6 a0_7 a0_8 a0_9 12 _ _ _ _ _ _ _ _ _ _ _ rfl).mono ?_); rintro e w59 ⟨rfl, hb⟩; replace BK330 := Aside0.mk (My.kb BK330.out hb); replace BK331 := Aside0.mk (My.kb BK331.out hb); replace BK332 := Aside0.mk (My.kb BK332.out hb); replace HB := Aside0.mk (below_step (My.bI GE330.out GE331.out GE332.out) hb); clear hb; have q1_ := NB331_330.out; have q2_ := NB330_331.out; have q3_ := NB331_332.out; have q4_ := NB332_331.out; have q5_ := NB330_332.out; have q6_ := NB332_330.out; obtain ⟨p2_0, p2_1, p2_2, p2_3, p2_4, p2_5, p2_6, p2_7, p2_8⟩ := My.qc9 BK331.out; obtain ⟨f2_0, f2_1, f2_2, f2_3, f2_4, f2_5, f2_6, f2_7, f2_8⟩ := My.qf9 BK331.out; obtain ⟨m2_0, m2_1, m2_2, m2_3, m2_4, m2_5, m2_6, m2_7, m2_8, m2_9⟩ := My.qc10 BK330.out; obtain ⟨g2_0, g2_1, g2_2, g2_3, g2_4, g2_5, g2_6, g2_7, g2_8, g2_9⟩ := My.qf10 BK330.out; obtain ⟨r2_0, r2_1, r2_2, r2_3, r2_4, r2_5, r2_6, r2_7, r2_8, r2_9⟩ := My.qc10 BK332.out; obtain ⟨s2_0, s2_1, s2_2, s2_3, s2_4, s2_5, s2_6, s2_7, s2_8, s2_9⟩ := My.qf10 BK332.out))
   refine bodyPost_ret (results_cell_row rfl _ _ gb332 24 #[.int .i64 a0_0, .string a0_1, .int .i64 a0_2, .string a0_3, .string a0_4, .int .i64 a0_5, .int .i64 8, .int .i64 0, .int .i64 a0_8, .int .i64 12] (0, 0) _ rfl (My.qp10 BK332.out) Try.underlying24 rfl (by kernel_rfl)) rfl ?_; exact ⟨My.q1, (My.bI GE330.out GE331.out GE332.out)⟩
 · rw [if_neg c1] at h
   have C1 := Aside0.mk (Bool.eq_false_iff.2 c1); clear c1
   by_cases c2 : l1_8.any lock_watched_g.p = true
   · rw [if_pos c2] at h
     simp only [Option.some.injEq, Prod.mk.injEq] at h; obtain ⟨rfl, rfl, rfl, rfl, rfl, rfl, rfl, rfl, rfl, rfl⟩ := h
     have C2 := Aside0.mk c2; clear c2
     go_enter Try.func35, Try.ntmps35
     go_wp2_with (first | ((with_reducible refine gate_dst (N := 2) rfl ?_); refine box_event ?hg (N := 2) ?hd (cs := #[.int .i64 a0_0, .string a0_1, .int .i64 a0_2, .string a0_3, .string a0_4, .int .i64 a0_5, .int .i64 a0_6, .int .i64 a0_7, .int .i64 a0_8, .int .i64 a0_9]) (t := 24) ?hr ?_; (case hd => rfl); (case hg => rfl); (case hr => first | (go_simp; done) | (go_simp; rfl)); intro gb330 hg w49 hbox hb; have n0_ := Aside0.mk (below_step My.bB hb); have n1_ := Aside0.mk (hbox); have n2_ := Aside0.mk ((by rw [hg]; exact (below_size My.bB) : w.heap.size ≤ gb330)); have n3_ := Aside0.mk ((by rw [hg]; exact (below_size My.bB) : w.heap.size ≤ gb330)); clear HB; have HB := n0_; have BK330 := n1_; have GW330 := n2_; have GE330 := n3_; clear n0_ n1_ n2_ n3_; clear hb hbox hg) | ((with_reducible refine gate_dst (N := 3) rfl ?_); refine box_event ?hg (N := 3) ?hd (cs := #[.int .i64 a1_0, .int .i64 a1_1, .int .i64 a1_2, .int .i64 a1_3, .int .i64 a1_4, .int .i64 a1_5, .bool a1_6, .slice A1_7 l1_7.length c1_7, .slice A1_8 l1_8.length c1_8]) (t := 45) ?hr ?_; (case hd => rfl); (case hg => rfl); (case hr => first | (go_simp; done) | (go_simp; rfl)); intro gb331 hg w50 hbox hb; have n0_ := Aside0.mk (My.kb BK330.out hb); have n1_ := Aside0.mk (below_step (My.bG GE330.out) hb); have n2_ := Aside0.mk (hbox); have n3_ := Aside0.mk ((by rw [hg]; exact (below_size (My.bG GE330.out)) : w.heap.size ≤ gb331)); have n4_ := Aside0.mk ((by rw [hg]; exact (below_size (My.bG GE330.out)) : w.heap.size ≤ gb331)); have n5_ := Aside0.mk ((by rw [hg]; exact Nat.ne_of_lt (blk_lt (g := gb330) (o := .cells #[.int .i64 a0_0, .string a0_1, .int .i64 a0_2, .string a0_3, .string a0_4, .int .i64 a0_5, .int .i64 a0_6, .int .i64 a0_7, .int .i64 a0_8, .int .i64 a0_9] 24 (0, 0)) (My.Ka BK330.out)) : gb330 ≠ gb331)); have n6_ := Aside0.mk ((by rw [hg]; exact Nat.ne_of_gt (blk_lt (g := gb330) (o := .cells #[.int .i64 a0_0, .string a0_1, .int .i64 a0_2, .string a0_3, .string a0_4, .int .i64 a0_5, .int .i64 a0_6, .int .i64 a0_7, .int .i64 a0_8, .int .i64 a0_9] 24 (0, 0)) (My.Ka BK330.out)) : gb331 ≠ gb330)); clear BK330; clear HB; have BK330 := n0_; have HB := n1_; have BK331 := n2_; have GW331 := n3_; have GE331 := n4_; have NB330_331 := n5_; have NB331_330 := n6_; clear n0_ n1_ n2_ n3_ n4_ n5_ n6_; clear hb hbox hg) | ((with_reducible refine gate_dst (N := 4) rfl ?_); refine box_event ?hg (N := 4) ?hd (cs := #[.int .i64 0, .string (⟨#[]⟩ : ByteArray), .int .i64 0, .string (⟨#[]⟩ : ByteArray), .string (⟨#[]⟩ : ByteArray), .int .i64 0, .int .i64 0, .int .i64 0, .int .i64 0, .int .i64 0]) (t := 24) ?hr ?_; (case hd => rfl); (case hg => rfl); (case hr => first | (go_simp; done) | (go_simp; rfl)); intro gb332 hg w51 hbox hb; have n0_ := Aside0.mk (My.kb BK330.out hb); have n1_ := Aside0.mk (My.kb BK331.out hb); have n2_ := Aside0.mk (below_step (My.bH GE330.out GE331.out) hb); have n3_ := Aside0.mk (hbox); have n4_ := Aside0.mk ((by rw [hg]; exact (below_size (My.bH GE330.out GE331.out)) : w.heap.size ≤ gb332)); have n5_ := Aside0.mk ((by rw [hg]; exact (below_size (My.bH GE330.out GE331.out)) : w.heap.size ≤ gb332)); have n6_ := Aside0.mk ((by rw [hg]; exact Nat.ne_of_lt (blk_lt (g := gb330) (o := .cells #[.int .i64 a0_0, .string a0_1, .int .i64 a0_2, .string a0_3, .string a0_4, .int .i64 a0_5, .int .i64 a0_6, .int .i64 a0_7, .int .i64 a0_8, .int .i64 a0_9] 24 (0, 0)) (My.Ka BK330.out)) : gb330 ≠ gb332)); have n7_ := Aside0.mk ((by rw [hg]; exact Nat.ne_of_gt (blk_lt (g := gb330) (o := .cells #[.int .i64 a0_0, .string a0_1, .int .i64 a0_2, .string a0_3, .string a0_4, .int .i64 a0_5, .int .i64 a0_6, .int .i64 a0_7, .int .i64 a0_8, .int .i64 a0_9] 24 (0, 0)) (My.Ka BK330.out)) : gb332 ≠ gb330)); have n8_ := Aside0.mk ((by rw [hg]; exact Nat.ne_of_lt (blk_lt (g := gb331) (o := .cells #[.int .i64 a1_0, .int .i64 a1_1, .int .i64 a1_2, .int .i64 a1_3, .int .i64 a1_4, .int .i64 a1_5, .bool a1_6, .slice A1_7 l1_7.length c1_7, .slice A1_8 l1_8.length c1_8] 45 (0, 0)) (My.Ka BK331.out)) : gb331 ≠ gb332)); have n9_ := Aside0.mk ((by rw [hg]; exact Nat.ne_of_gt (blk_lt (g := gb331) (o := .cells #[.int .i64 a1_0, .int .i64 a1_1, .int .i64 a1_2, .int .i64 a1_3, .int .i64 a1_4, .int .i64 a1_5, .bool a1_6, .slice A1_7 l1_7.length c1_7, .slice A1_8 l1_8.length c1_8] 45 (0, 0)) (My.Ka BK331.out)) : gb332 ≠ gb331)); clear BK330; clear BK331; clear HB; have BK330 := n0_; have BK331 := n1_; have HB := n2_; have BK332 := n3_; have GW332 := n4_; have GE332 := n5_; have NB330_332 := n6_; have NB332_330 := n7_; have NB331_332 := n8_; have NB332_331 := n9_; clear n0_ n1_ n2_ n3_ n4_ n5_ n6_ n7_ n8_ n9_; clear hb hbox hg; have q1_ := NB331_330.out; have q2_ := NB330_331.out; have q3_ := NB331_332.out; have q4_ := NB332_331.out; have q5_ := NB330_332.out; have q6_ := NB332_330.out; obtain ⟨p1_0, p1_1, p1_2, p1_3, p1_4, p1_5, p1_6, p1_7, p1_8⟩ := My.qc9 BK331.out; obtain ⟨f1_0, f1_1, f1_2, f1_3, f1_4, f1_5, f1_6, f1_7, f1_8⟩ := My.qf9 BK331.out; obtain ⟨m1_0, m1_1, m1_2, m1_3, m1_4, m1_5, m1_6, m1_7, m1_8, m1_9⟩ := My.qc10 BK330.out; obtain ⟨g1_0, g1_1, g1_2, g1_3, g1_4, g1_5, g1_6, g1_7, g1_8, g1_9⟩ := My.qf10 BK330.out; obtain ⟨r1_0, r1_1, r1_2, r1_3, r1_4, r1_5, r1_6, r1_7, r1_8, r1_9⟩ := My.qc10 BK332.out; obtain ⟨s1_0, s1_1, s1_2, s1_3, s1_4, s1_5, s1_6, s1_7, s1_8, s1_9⟩ := My.qf10 BK332.out) | (go_at_call 45; (with_reducible refine (lock_watched_2.any _ _ l1_8 a0_4 gb330 _ ?side1 ?side2).mono ?_); (case side1 => exact My.Ca (Kd.C_below HR1_8.out HB.out)); (case side2 => exact (blk_cell BK330.out 4).trans rfl); rw [C1.out]; rintro e w57 ⟨rfl, hb⟩; replace BK330 := Aside0.mk (My.kb BK330.out hb); replace BK331 := Aside0.mk (My.kb BK331.out hb); replace BK332 := Aside0.mk (My.kb BK332.out hb); replace HB := Aside0.mk (below_step (My.bI GE330.out GE331.out GE332.out) hb); clear hb; have q1_ := NB331_330.out; have q2_ := NB330_331.out; have q3_ := NB331_332.out; have q4_ := NB332_331.out; have q5_ := NB330_332.out; have q6_ := NB332_330.out; obtain ⟨p4_0, p4_1, p4_2, p4_3, p4_4, p4_5, p4_6, p4_7, p4_8⟩ := My.qc9 BK331.out; obtain ⟨f4_0, f4_1, f4_2, f4_3, f4_4, f4_5, f4_6, f4_7, f4_8⟩ := My.qf9 BK331.out; obtain ⟨m4_0, m4_1, m4_2, m4_3, m4_4, m4_5, m4_6, m4_7, m4_8, m4_9⟩ := My.qc10 BK330.out; obtain ⟨g4_0, g4_1, g4_2, g4_3, g4_4, g4_5, g4_6, g4_7, g4_8, g4_9⟩ := My.qf10 BK330.out; obtain ⟨r4_0, r4_1, r4_2, r4_3, r4_4, r4_5, r4_6, r4_7, r4_8, r4_9⟩ := My.qc10 BK332.out; obtain ⟨s4_0, s4_1, s4_2, s4_3, s4_4, s4_5, s4_6, s4_7, s4_8, s4_9⟩ := My.qf10 BK332.out) | (go_at_call 45; (with_reducible refine (lock_watched_g.any _ _ l1_8 _ ?side1).mono ?_); (case side1 => exact My.Ca (Kd.C_below HR1_8.out HB.out)); rw [C2.out]; rintro e w58 ⟨rfl, hb⟩; replace BK330 := Aside0.mk (My.kb BK330.out hb); replace BK331 := Aside0.mk (My.kb BK331.out hb); replace BK332 := Aside0.mk (My.kb BK332.out hb); replace HB := Aside0.mk (below_step (My.bI GE330.out GE331.out GE332.out) hb); clear hb; have q1_ := NB331_330.out; have q2_ := NB330_331.out; have q3_ := NB331_332.out; have q4_ := NB332_331.out; have q5_ := NB330_332.out; have q6_ := NB332_330.out; obtain ⟨p5_0, p5_1, p5_2, p5_3, p5_4, p5_5, p5_6, p5_7, p5_8⟩ := My.qc9 BK331.out; obtain ⟨f5_0, f5_1, f5_2, f5_3, f5_4, f5_5, f5_6, f5_7, f5_8⟩ := My.qf9 BK331.out; obtain ⟨m5_0, m5_1, m5_2, m5_3, m5_4, m5_5, m5_6, m5_7, m5_8, m5_9⟩ := My.qc10 BK330.out; obtain ⟨g5_0, g5_1, g5_2, g5_3, g5_4, g5_5, g5_6, g5_7, g5_8, g5_9⟩ := My.qf10 BK330.out; obtain ⟨r5_0, r5_1, r5_2, r5_3, r5_4, r5_5, r5_6, r5_7, r5_8, r5_9⟩ := My.qc10 BK332.out; obtain ⟨s5_0, s5_1, s5_2, s5_3, s5_4, s5_5, s5_6, s5_7, s5_8, s5_9⟩ := My.qf10 BK332.out))
     refine bodyPost_ret (results_cell_row rfl _ _ gb332 24 #[.int .i64 a0_0, .string a0_1, .int .i64 a0_2, .string a0_3, .string a0_4, .int .i64 a0_5, .int .i64 2, .int .i64 a0_7, .int .i64 a0_8, .int .i64 a0_9] (0, 0) _ rfl (My.qp10 (blk_far BK332.out NB332_330.out _)) Try.underlying24 rfl (by kernel_rfl)) rfl ?_; exact ⟨My.q1, (My.bI GE330.out GE331.out GE332.out)⟩
   · rw [if_neg c2] at h
     simp only [Option.some.injEq, Prod.mk.injEq] at h; obtain ⟨rfl, rfl, rfl, rfl, rfl, rfl, rfl, rfl, rfl, rfl⟩ := h
     have C2 := Aside0.mk (Bool.eq_false_iff.2 c2); clear c2
     go_enter Try.func35, Try.ntmps35
     go_wp2_with (first | ((with_reducible refine gate_dst (N := 2) rfl ?_); refine box_event ?hg (N := 2) ?hd (cs := #[.int .i64 a0_0, .string a0_1, .int .i64 a0_2, .string a0_3, .string a0_4, .int .i64 a0_5, .int .i64 a0_6, .int .i64 a0_7, .int .i64 a0_8, .int .i64 a0_9]) (t := 24) ?hr ?_; (case hd => rfl); (case hg => rfl); (case hr => first | (go_simp; done) | (go_simp; rfl)); intro gb330 hg w49 hbox hb; have n0_ := Aside0.mk (below_step My.bB hb); have n1_ := Aside0.mk (hbox); have n2_ := Aside0.mk ((by rw [hg]; exact (below_size My.bB) : w.heap.size ≤ gb330)); have n3_ := Aside0.mk ((by rw [hg]; exact (below_size My.bB) : w.heap.size ≤ gb330)); clear HB; have HB := n0_; have BK330 := n1_; have GW330 := n2_; have GE330 := n3_; clear n0_ n1_ n2_ n3_; clear hb hbox hg) | ((with_reducible refine gate_dst (N := 3) rfl ?_); refine box_event ?hg (N := 3) ?hd (cs := #[.int .i64 a1_0, .int .i64 a1_1, .int .i64 a1_2, .int .i64 a1_3, .int .i64 a1_4, .int .i64 a1_5, .bool a1_6, .slice A1_7 l1_7.length c1_7, .slice A1_8 l1_8.length c1_8]) (t := 45) ?hr ?_; (case hd => rfl); (case hg => rfl); (case hr => first | (go_simp; done) | (go_simp; rfl)); intro gb331 hg w50 hbox hb; have n0_ := Aside0.mk (My.kb BK330.out hb); have n1_ := Aside0.mk (below_step (My.bG GE330.out) hb); have n2_ := Aside0.mk (hbox); have n3_ := Aside0.mk ((by rw [hg]; exact (below_size (My.bG GE330.out)) : w.heap.size ≤ gb331)); have n4_ := Aside0.mk ((by rw [hg]; exact (below_size (My.bG GE330.out)) : w.heap.size ≤ gb331)); have n5_ := Aside0.mk ((by rw [hg]; exact Nat.ne_of_lt (blk_lt (g := gb330) (o := .cells #[.int .i64 a0_0, .string a0_1, .int .i64 a0_2, .string a0_3, .string a0_4, .int .i64 a0_5, .int .i64 a0_6, .int .i64 a0_7, .int .i64 a0_8, .int .i64 a0_9] 24 (0, 0)) (My.Ka BK330.out)) : gb330 ≠ gb331)); have n6_ := Aside0.mk ((by rw [hg]; exact Nat.ne_of_gt (blk_lt (g := gb330) (o := .cells #[.int .i64 a0_0, .string a0_1, .int .i64 a0_2, .string a0_3, .string a0_4, .int .i64 a0_5, .int .i64 a0_6, .int .i64 a0_7, .int .i64 a0_8, .int .i64 a0_9] 24 (0, 0)) (My.Ka BK330.out)) : gb331 ≠ gb330)); clear BK330; clear HB; have BK330 := n0_; have HB := n1_; have BK331 := n2_; have GW331 := n3_; have GE331 := n4_; have NB330_331 := n5_; have NB331_330 := n6_; clear n0_ n1_ n2_ n3_ n4_ n5_ n6_; clear hb hbox hg) | ((with_reducible refine gate_dst (N := 4) rfl ?_); refine box_event ?hg (N := 4) ?hd (cs := #[.int .i64 0, .string (⟨#[]⟩ : ByteArray), .int .i64 0, .string (⟨#[]⟩ : ByteArray), .string (⟨#[]⟩ : ByteArray), .int .i64 0, .int .i64 0, .int .i64 0, .int .i64 0, .int .i64 0]) (t := 24) ?hr ?_; (case hd => rfl); (case hg => rfl); (case hr => first | (go_simp; done) | (go_simp; rfl)); intro gb332 hg w51 hbox hb; have n0_ := Aside0.mk (My.kb BK330.out hb); have n1_ := Aside0.mk (My.kb BK331.out hb); have n2_ := Aside0.mk (below_step (My.bH GE330.out GE331.out) hb); have n3_ := Aside0.mk (hbox); have n4_ := Aside0.mk ((by rw [hg]; exact (below_size (My.bH GE330.out GE331.out)) : w.heap.size ≤ gb332)); have n5_ := Aside0.mk ((by rw [hg]; exact (below_size (My.bH GE330.out GE331.out)) : w.heap.size ≤ gb332)); have n6_ := Aside0.mk ((by rw [hg]; exact Nat.ne_of_lt (blk_lt (g := gb330) (o := .cells #[.int .i64 a0_0, .string a0_1, .int .i64 a0_2, .string a0_3, .string a0_4, .int .i64 a0_5, .int .i64 a0_6, .int .i64 a0_7, .int .i64 a0_8, .int .i64 a0_9] 24 (0, 0)) (My.Ka BK330.out)) : gb330 ≠ gb332)); have n7_ := Aside0.mk ((by rw [hg]; exact Nat.ne_of_gt (blk_lt (g := gb330) (o := .cells #[.int .i64 a0_0, .string a0_1, .int .i64 a0_2, .string a0_3, .string a0_4, .int .i64 a0_5, .int .i64 a0_6, .int .i64 a0_7, .int .i64 a0_8, .int .i64 a0_9] 24 (0, 0)) (My.Ka BK330.out)) : gb332 ≠ gb330)); have n8_ := Aside0.mk ((by rw [hg]; exact Nat.ne_of_lt (blk_lt (g := gb331) (o := .cells #[.int .i64 a1_0, .int .i64 a1_1, .int .i64 a1_2, .int .i64 a1_3, .int .i64 a1_4, .int .i64 a1_5, .bool a1_6, .slice A1_7 l1_7.length c1_7, .slice A1_8 l1_8.length c1_8] 45 (0, 0)) (My.Ka BK331.out)) : gb331 ≠ gb332)); have n9_ := Aside0.mk ((by rw [hg]; exact Nat.ne_of_gt (blk_lt (g := gb331) (o := .cells #[.int .i64 a1_0, .int .i64 a1_1, .int .i64 a1_2, .int .i64 a1_3, .int .i64 a1_4, .int .i64 a1_5, .bool a1_6, .slice A1_7 l1_7.length c1_7, .slice A1_8 l1_8.length c1_8] 45 (0, 0)) (My.Ka BK331.out)) : gb332 ≠ gb331)); clear BK330; clear BK331; clear HB; have BK330 := n0_; have BK331 := n1_; have HB := n2_; have BK332 := n3_; have GW332 := n4_; have GE332 := n5_; have NB330_332 := n6_; have NB332_330 := n7_; have NB331_332 := n8_; have NB332_331 := n9_; clear n0_ n1_ n2_ n3_ n4_ n5_ n6_ n7_ n8_ n9_; clear hb hbox hg; have q1_ := NB331_330.out; have q2_ := NB330_331.out; have q3_ := NB331_332.out; have q4_ := NB332_331.out; have q5_ := NB330_332.out; have q6_ := NB332_330.out; obtain ⟨p1_0, p1_1, p1_2, p1_3, p1_4, p1_5, p1_6, p1_7, p1_8⟩ := My.qc9 BK331.out; obtain ⟨f1_0, f1_1, f1_2, f1_3, f1_4, f1_5, f1_6, f1_7, f1_8⟩ := My.qf9 BK331.out; obtain ⟨m1_0, m1_1, m1_2, m1_3, m1_4, m1_5, m1_6, m1_7, m1_8, m1_9⟩ := My.qc10 BK330.out; obtain ⟨g1_0, g1_1, g1_2, g1_3, g1_4, g1_5, g1_6, g1_7, g1_8, g1_9⟩ := My.qf10 BK330.out; obtain ⟨r1_0, r1_1, r1_2, r1_3, r1_4, r1_5, r1_6, r1_7, r1_8, r1_9⟩ := My.qc10 BK332.out; obtain ⟨s1_0, s1_1, s1_2, s1_3, s1_4, s1_5, s1_6, s1_7, s1_8, s1_9⟩ := My.qf10 BK332.out) | (go_at_call 45; (with_reducible refine (lock_watched_2.any _ _ l1_8 a0_4 gb330 _ ?side1 ?side2).mono ?_); (case side1 => exact My.Ca (Kd.C_below HR1_8.out HB.out)); (case side2 => exact (blk_cell BK330.out 4).trans rfl); rw [C1.out]; rintro e w57 ⟨rfl, hb⟩; replace BK330 := Aside0.mk (My.kb BK330.out hb); replace BK331 := Aside0.mk (My.kb BK331.out hb); replace BK332 := Aside0.mk (My.kb BK332.out hb); replace HB := Aside0.mk (below_step (My.bI GE330.out GE331.out GE332.out) hb); clear hb; have q1_ := NB331_330.out; have q2_ := NB330_331.out; have q3_ := NB331_332.out; have q4_ := NB332_331.out; have q5_ := NB330_332.out; have q6_ := NB332_330.out; obtain ⟨p6_0, p6_1, p6_2, p6_3, p6_4, p6_5, p6_6, p6_7, p6_8⟩ := My.qc9 BK331.out; obtain ⟨f6_0, f6_1, f6_2, f6_3, f6_4, f6_5, f6_6, f6_7, f6_8⟩ := My.qf9 BK331.out; obtain ⟨m6_0, m6_1, m6_2, m6_3, m6_4, m6_5, m6_6, m6_7, m6_8, m6_9⟩ := My.qc10 BK330.out; obtain ⟨g6_0, g6_1, g6_2, g6_3, g6_4, g6_5, g6_6, g6_7, g6_8, g6_9⟩ := My.qf10 BK330.out; obtain ⟨r6_0, r6_1, r6_2, r6_3, r6_4, r6_5, r6_6, r6_7, r6_8, r6_9⟩ := My.qc10 BK332.out; obtain ⟨s6_0, s6_1, s6_2, s6_3, s6_4, s6_5, s6_6, s6_7, s6_8, s6_9⟩ := My.qf10 BK332.out) | (go_at_call 45; (with_reducible refine (lock_watched_g.any _ _ l1_8 _ ?side1).mono ?_); (case side1 => exact My.Ca (Kd.C_below HR1_8.out HB.out)); rw [C2.out]; rintro e w58 ⟨rfl, hb⟩; replace BK330 := Aside0.mk (My.kb BK330.out hb); replace BK331 := Aside0.mk (My.kb BK331.out hb); replace BK332 := Aside0.mk (My.kb BK332.out hb); replace HB := Aside0.mk (below_step (My.bI GE330.out GE331.out GE332.out) hb); clear hb; have q1_ := NB331_330.out; have q2_ := NB330_331.out; have q3_ := NB331_332.out; have q4_ := NB332_331.out; have q5_ := NB330_332.out; have q6_ := NB332_330.out; obtain ⟨p7_0, p7_1, p7_2, p7_3, p7_4, p7_5, p7_6, p7_7, p7_8⟩ := My.qc9 BK331.out; obtain ⟨f7_0, f7_1, f7_2, f7_3, f7_4, f7_5, f7_6, f7_7, f7_8⟩ := My.qf9 BK331.out; obtain ⟨m7_0, m7_1, m7_2, m7_3, m7_4, m7_5, m7_6, m7_7, m7_8, m7_9⟩ := My.qc10 BK330.out; obtain ⟨g7_0, g7_1, g7_2, g7_3, g7_4, g7_5, g7_6, g7_7, g7_8, g7_9⟩ := My.qf10 BK330.out; obtain ⟨r7_0, r7_1, r7_2, r7_3, r7_4, r7_5, r7_6, r7_7, r7_8, r7_9⟩ := My.qc10 BK332.out; obtain ⟨s7_0, s7_1, s7_2, s7_3, s7_4, s7_5, s7_6, s7_7, s7_8, s7_9⟩ := My.qf10 BK332.out))
     refine bodyPost_ret (results_cell_row rfl _ _ gb332 24 #[.int .i64 a0_0, .string a0_1, .int .i64 a0_2, .string a0_3, .string a0_4, .int .i64 a0_5, .int .i64 a0_6, .int .i64 a0_7, .int .i64 a1_3, .int .i64 a0_9] (0, 0) _ rfl (My.qp10 (blk_far BK332.out NB332_330.out _)) Try.underlying24 rfl (by kernel_rfl)) rfl ?_; exact ⟨My.q1, (My.bI GE330.out GE331.out GE332.out)⟩


end Go.Proofs.Ytpfgmladebgdaaa.PM
