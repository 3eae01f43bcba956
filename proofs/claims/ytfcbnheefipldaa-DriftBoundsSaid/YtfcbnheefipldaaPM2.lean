-- made by a program of this session (wip/tools/myprint.py over the kit's print) out of the translation; Lean checks it
import Derived.Test.YtfcbnheefipldaaPM0
import Derived.Test.YtfcbnheefipldaaPM1
namespace Go.Proofs.Ytfcbnheefipldaa.PM
open Go.RowKit Go.Proofs.YtfcbnheefipldaaW.PrintWords Go.Proofs.YtfcbnheefipldaaW.PrintLast Go.Proofs.YtfcbnheefipldaaW.PrintMore
attribute [local go_sem] max2_int min2_int max_two min_two max_three min_three max_four min_four   -- for this text's walks alone
set_option linter.unusedVariables false
set_option linter.unusedSimpArgs false

/-! ### drift_Run: function 11 -/
-- (by hand)
def clockStep (at_ by_ : Int) (st : Bool) : Option Int := (drift_Rate.f by_ st).bind fun t => drift_bounds_clamp.f 0 1099511627775 (wrap64 (at_ + t))
def clockRun (st : Bool) : List Int → Int → Option Int
  | [], a => some a
  | b :: l, a => (clockStep a b st).bind (clockRun st l)
def ClockPost (w : World) (Bt : Nat) (r : Int) (e : Ending) (w' : World) : Prop := e = .returned (.int .i64 r) ∧ w.grownBy w' (some Bt) ∧ w'.heap[Bt]? = some (.cells #[.int .i64 r] 3 (0, 0))
/-- A clock's three variables: its bounds, where it is, whether it is strict. -/
structure IsClock (W : World) (base B : Nat) (at_ : Int) (st : Bool) : Prop where
  base_le : base ≤ B
  at_blk : W.heap[B]? = some (.cells #[.int .i64 at_] 3 (0, 0))
  st_blk : W.heap[B + 1]? = some (.cells #[.bool st] 4 (0, 0))
  all_blk : W.heap[B + 2]? = some (.cells #[.int .i64 0, .int .i64 1099511627775] 36 (0, 0))
theorem IsClock.grown {W W1 : World} {base B g : Nat} {at_ : Int} {st : Bool} (h : IsClock W base B at_ st) (hg : W.grownBy W1 (some g)) (hne : g < B ∨ B + 2 < g) : IsClock W1 base B at_ st :=
  ⟨h.base_le, My.blk_grown' h.at_blk hg (by omega), My.blk_grown' h.st_blk hg (by omega), My.blk_grown' h.all_blk hg (by omega)⟩
theorem IsClock.step {w W W1 : World} {B : Nat} {at_ r : Int} {st : Bool} (h : IsClock W w.heap.size B at_ st) (hb : Below w.heap.size w W) (hg : W.grownBy W1 (some B)) (ht : W1.heap[B]? = some (.cells #[.int .i64 r] 3 (0, 0))) : IsClock W1 w.heap.size B r st ∧ Below w.heap.size w W1 :=
  ⟨⟨h.base_le, ht, My.blk_grown' h.st_blk hg (by omega), My.blk_grown' h.all_blk hg (by omega)⟩, My.below_grown' hb hg h.base_le⟩
theorem clock_end {w w1 w2 : World} {Bt : Nat} {at_ r : Int} (h1 : Below w.drew.heap.size w.drew w1) (h2 : Below w1.heap.size w1 w2) (ht : w.heap[Bt]? = some (.cells #[.int .i64 at_] 3 (0, 0))) :
    w.grownBy (w2.setCell ⟨Bt, 0, none⟩ (.int .i64 r)) (some Bt) ∧ (w2.setCell ⟨Bt, 0, none⟩ (.int .i64 r)).heap[Bt]? = some (.cells #[.int .i64 r] 3 (0, 0)) := by
  have hb := below_step (My.below_undrew h1) h2
  exact ⟨My.grown_set hb, blk_put (blk_below ht hb) 0 _ rfl⟩
set_option maxHeartbeats 1000000 in
theorem clock_fn (by_ at_ r t : Int) (st : Bool) (Ba Bt Bs : Nat) (w : World) (ha : w.heap[Ba]? = some (.cells #[.int .i64 0, .int .i64 1099511627775] 36 (0, 0))) (ht : w.heap[Bt]? = some (.cells #[.int .i64 at_] 3 (0, 0)))
    (hs : w.heap[Bs]? = some (.cells #[.bool st] 4 (0, 0))) (h1 : drift_Rate.f by_ st = some t) (h2 : drift_bounds_clamp.f 0 1099511627775 (wrap64 (at_ + t)) = some r) :
    Calls Try.prog 22 #[.int .i64 by_, .pointer (some ⟨Ba, 0, none⟩), .pointer (some ⟨Bt, 0, none⟩), .pointer (some ⟨Bs, 0, none⟩)] w (ClockPost w Bt r) := by
  have la := blk_lt ha
  have lt := blk_lt ht
  have ls := blk_lt hs
  have ca0 : w.cell? ⟨Ba, 0, none⟩ = some (.int .i64 0) := blk_cell ha 0
  have ca1 : w.cell? ⟨Ba, 1, none⟩ = some (.int .i64 1099511627775) := blk_cell ha 1
  have ct : w.cell? ⟨Bt, 0, none⟩ = some (.int .i64 at_) := blk_cell ht 0
  have cs : w.cell? ⟨Bs, 0, none⟩ = some (.bool st) := blk_cell hs 0
  have ft : w.frozen? ⟨Bt, 0, none⟩ = false := blk_frozen ht 0
  have H1 := Aside0.mk h1
  have H2 : Aside0 (drift_bounds_clamp.f 0 1099511627775 (IntKind.i64.wrap (at_ + t)) = some r) := ⟨by rw [IntWalk.i64_left]; exact h2⟩
  clear h1 h2
  have HT := Aside0.mk ht
  clear ha ht hs
  go_enter Try.func22, Try.ntmps22
  go_wp2_with fail
  go_region_with (first
    | (go_at_call 9; with_reducible refine (drift_Rate.calls _ _ _ _ H1.out).mono ?_; rintro e w1 ⟨rfl, hb1⟩; obtain ⟨hc1, hf1, hz1⟩ := My.bcellD hb1; have HB1 := Aside0.mk hb1; have la1 := Nat.lt_of_lt_of_le la hz1; have lt1 := Nat.lt_of_lt_of_le lt hz1; have ls1 := Nat.lt_of_lt_of_le ls hz1; clear hb1)
    | (go_at_call 20; with_reducible refine (drift_bounds_clamp.calls _ _ _ _ _ H2.out).mono ?_; rintro e w2 ⟨rfl, hb2⟩; obtain ⟨hc2, hf2, hz2⟩ := My.bcell hb2; have HB2 := Aside0.mk hb2; have ct2 : w2.cell? ⟨Bt, 0, none⟩ = some (.int .i64 at_) := (hc2 _ _ lt1).trans ((hc1 _ _ lt).trans ct); have ft2 : w2.frozen? ⟨Bt, 0, none⟩ = false := (hf2 _ _ lt1).trans ((hf1 _ _ lt).trans ft); clear hb2))
  all_goals
    clear hc1 hf1 hc2 hf2
    go_wp2
    go_ret
    exact ⟨rfl, clock_end HB1.out HB2.out HT.out⟩
/-- One call of a clock. -/
theorem clock_call (by_ at_ r : Int) (st : Bool) (base B : Nat) (w : World) (hk : IsClock w base B at_ st) (h : clockStep at_ by_ st = some r) :
    Calls Try.prog 22 #[.int .i64 by_, .pointer (some ⟨B + 2, 0, none⟩), .pointer (some ⟨B, 0, none⟩), .pointer (some ⟨B + 1, 0, none⟩)] w (ClockPost w B r) := by
  obtain ⟨t, h1, h2⟩ := Option.bind_eq_some_iff.1 h
  exact clock_fn by_ at_ r t st (B + 2) B (B + 1) w hk.all_blk hk.at_blk hk.st_blk h1 h2
/-- A new clock. -/
def ClockNew (w : World) (at_ : Int) (st : Bool) (e : Ending) (w' : World) : Prop := ∃ B, e = .returned (.func (.func 22) #[] #[.pointer (some ⟨B + 2, 0, none⟩), .pointer (some ⟨B, 0, none⟩), .pointer (some ⟨B + 1, 0, none⟩)]) ∧ IsClock w' w.heap.size B at_ st ∧ Below w.heap.size w w' ∧ B + 2 < w'.heap.size
theorem clock_new (at_ : Int) (st : Bool) (w : World) : Calls Try.prog 21 #[.int .i64 at_, .bool st] w (ClockNew w at_ st) := by
  have hmf : ∀ (fn : Fn) (first cap : Array Value) (w : World), (Instr.makeFunc fn first cap).run Try.prog w = .ok (.func fn first cap) w := fun _ _ _ _ => rfl
  go_enter Try.func21, Try.ntmps21
  go_wp2
  go_ret
  exact ⟨w.heap.size, by rfl, ⟨Nat.le_refl _, blk_alloc (blk_alloc (blk_new _ _) _) _, blk_alloc (My.blk_new' _ _ _ (by simp)) _, My.blk_new' _ _ _ (by simp)⟩, below_alloc (below_alloc (below_alloc (Below.refl _ _) _) _) _, by simp⟩
def drift_Run.f (a0 : Int) (l1 : List Int) (a2 : Bool) : Option (Int) := if a0 < 0 then some a0 else if a0 > 1099511627775 then some a0 else clockRun a2 l1 a0
set_option maxHeartbeats 1000000 in
theorem drift_Run.calls (a0 : Int) (A1 : Option Addr) (c1 : Nat) (l1 : List Int) (a2 : Bool) (r : Int) (w : World) (hr1 : Kd.C (Kd.int .i64) w A1 l1.length l1) (hc1 : l1.length ≤ c1) (h : drift_Run.f a0 l1 a2 = some r) :
    Calls Try.prog 11 #[.int .i64 a0, .slice A1 l1.length c1, .bool a2] w fun e w' => e = .returned (.int .i64 r) ∧ Below w.heap.size w w' := by
  have HR1 := Aside0.mk hr1
  clear hr1 hc1
  unfold drift_Run.f at h
  by_cases c1 : a0 < 0
  · rw [if_pos c1] at h
    obtain rfl := Option.some.inj h
    have c1b : decide (a0 < 0) = true := decide_eq_true c1
    clear c1 h
    go_enter Try.func11, Try.ntmps11
    go_wp2
    go_ret
    exact ⟨rfl, Below.refl _ _⟩
  rw [if_neg c1] at h
  have c1b : decide (a0 < 0) = false := decide_eq_false c1
  by_cases c2 : a0 > 1099511627775
  · rw [if_pos c2] at h
    obtain rfl := Option.some.inj h
    have c2b : decide (1099511627775 < a0) = true := decide_eq_true c2
    clear c1 c2 h
    go_enter Try.func11, Try.ntmps11
    go_wp2
    go_ret
    exact ⟨rfl, Below.refl _ _⟩
  rw [if_neg c2] at h
  have c2b : decide (1099511627775 < a0) = false := decide_eq_false c2
  clear c1 c2
  have H := Aside0.mk h
  clear h
  go_enter Try.func11, Try.ntmps11
  go_wp2_with (go_at_call 21; refine (clock_new _ _ _).mono ?_; rintro e w1 ⟨B, rfl, hk, hb, hB⟩; have HK1 := Aside0.mk hk; have HB1 := Aside0.mk hb; clear hk hb hB)
  go_loopw [0, 22] (fun f i wr => ∃ (k : Nat) (a : Int), f = .int .i64 a ∧ i = .int .i64 k ∧ Aside0 (k ≤ l1.length ∧ clockRun a2 (l1.drop k) a = some r ∧ IsClock wr w.heap.size B a a2 ∧ Below w.heap.size w wr)) (fun _ i _ => l1.length - (intOf i).toNat)
  case atStart => exact ⟨0, a0, rfl, rfl, ⟨Nat.zero_le _, H.out, HK1.out, HB1.out⟩⟩
  case round =>
    obtain ⟨k, a, rfl, rfl, ⟨hk, hrun, hck, hbl⟩⟩ := hrel
    by_cases hlt : k < l1.length
    · obtain ⟨ad, rfl, hcell⟩ := (Kd.reads_of_C (d := (0 : Int)) HR1.out).2.2 (by omega)
      have hc := pw_cell_below hbl (hcell k hlt)
      rw [List.drop_eq_getElem_cons hlt] at hrun
      obtain ⟨r1, hs, hrun'⟩ := Option.bind_eq_some_iff.1 hrun
      have hci : wr.cell? (ad.add k) = some (.int .i64 l1[k]) := by rw [hc]; simp [List.getElem?_eq_getElem hlt]
      have HS := Aside0.mk (And.intro hs (And.intro hck (And.intro hbl hrun')))
      clear hc hrun hs hck hbl hrun' hcell
      have hlz : (k : Int) < (l1.length : Int) := by omega
      have hmx : l1.length ≤ 9223372036854775807 := HR1.out.2.1
      generalize l1[k] = y at *
      go_wp2_with (go_at_call 22; (with_reducible refine (clock_call y a r1 a2 w.heap.size B _ HS.out.2.1 HS.out.1).mono ?_); rintro e w2 ⟨rfl, hg2, ht2⟩; have HN := Aside0.mk (HS.out.2.1.step HS.out.2.2.1 hg2 ht2); clear hg2 ht2)
      go_roundw
      case rel => exact ⟨k + 1, r1, rfl, by go_num, ⟨by omega, HS.out.2.2.2, HN.out.1, HN.out.2⟩⟩
      case measure => simp [intOf]; omega
    · have he : k = l1.length := by omega
      have hlz : ¬ (k : Int) < (l1.length : Int) := by omega
      rw [he, List.drop_length] at hrun
      obtain rfl := Option.some.inj hrun
      have HB := Aside0.mk hbl
      clear hrun hck hbl he
      go_wp2
      go_ret
      exact ⟨rfl, HB.out⟩


end Go.Proofs.Ytfcbnheefipldaa.PM
