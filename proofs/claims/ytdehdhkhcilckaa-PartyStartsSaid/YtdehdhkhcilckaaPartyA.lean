/- By hand: party (see wip/by-hand). -/
import Derived.Test.YtdehdhkhcilckaaPM0
import Derived.Laws.EntriesVeiled
import Derived.Laws.Tables
import Derived.Test.YtdehdhkhcilckaaCells
namespace Go.Proofs.Ytdehdhkhcilckaa.PM
open Go.RowKit Go.Proofs.YtdehdhkhcilckaaW.PrintWords Go.Proofs.YtdehdhkhcilckaaW.PrintLast Go.Proofs.YtdehdhkhcilckaaW.PrintMore
set_option linter.unusedVariables false
set_option linter.unusedSimpArgs false
theorem to_made (n : Int) (w : World) : Calls Try.prog 45 #[.int .i64 n] w fun e w' => ∃ g, e = .returned (.func (.func 56) #[] #[.pointer (some ⟨g, 0, none⟩)]) ∧ w.heap.size ≤ g ∧ w'.heap[g]? = some (.cells #[.int .i64 n] 3 (0, 0)) ∧ Below w.heap.size w w' := by
  go_enter Try.func45, Try.ntmps45
  go_wp2
  go_ret
  exact ⟨_, rfl, Nat.le_refl _, blk_new w _, below_alloc (Below.refl _ _) _⟩
abbrev nf : Value := Value.nilFunc
abbrev fu (n : Nat) : Value := .func (.func n) #[] #[]
abbrev cl (g : Nat) : Value := .func (.func 56) #[] #[.pointer (some ⟨g, 0, none⟩)]
abbrev PH (g1 g2 : Nat) : Array Value := #[nf, nf, fu 37, fu 40, fu 36, fu 41, fu 42, fu 43, nf, nf, fu 44, cl g1, fu 36, fu 46, nf, nf, nf, nf, fu 47, cl g2]
theorem store_row {P : Program} {ops : Array Oper} {Q : Exit → Act → World → Prop} {o : Oper} {rest : List Oper} {a : Act} {W : World} (ty : TypeId) (p x : Operand) (g : Nat) (t : TypeId) (old cells : Array Value) (ho : o.op = .store ty p x) (hd : o.dst = none) (hg : o.guard = none) (hp : a.eval p = .pointer (some ⟨g, 0, none⟩)) (hx : a.eval x = .agg cells)
    (hold : W.heap[g]? = some (.cells old t (0, 0))) (hi : (P.info? ty).map (·.size) = some cells.size) (hs : old.size = cells.size) (h1 : cells.all (·.oneCell') = true)
    (h : ∀ w1, w1.heap[g]? = some (.cells cells t (0, 0)) → W.grownBy w1 (some g) → wpList P ops Q rest a w1) : wpList P ops Q (o :: rest) a W := by
  have hr : (execOp a.eval o).run P W = .ok .skip (W.setRow g cells) := by
    unfold execOp
    rw [ho]
    show Sem.run P (Instr.storeAt ty (a.eval p) (a.eval x) >>= fun _ => pure Next.skip) W = _
    rw [hp, hx, Sem.run_bind]
    have : (Instr.storeAt ty (.pointer (some ⟨g, 0, none⟩)) (.agg cells)).run P W = .ok () (W.setRow g cells) := by
      simp only [Instr.storeAt, Instr.sureAddr, Sem.run_bind, Sem.run_pure, Result.andThen]
      exact run_storeVar_row W g t ty old cells hold hi hs h1
    rw [this]
    rfl
  refine wpList_plain hg fun K hK => ?_
  unfold Oper.wp
  rw [hr]
  show K (a.put o.dst undef) _
  rw [hd]
  refine hK _ _ (h _ (setRow_heap W g old cells t (0, 0) hold) ⟨rfl, rfl, rfl, by rw [setRow_size]; exact Nat.le_refl _, fun k hk hne => setRow_other W g k cells (fun e => hne (by rw [e]))⟩)
theorem build_next {P : Program} {ops : Array Oper} {Q : Exit → Act → World → Prop} {o : Oper} {rest : List Oper} {a : Act} {W : World} (v : Value) (hg : o.guard = none) (hr : (execOp a.eval o).run P W = .ok (.value v) W) (h : wpList P ops Q rest (a.put o.dst v) W) : wpList P ops Q (o :: rest) a W := by
  refine wpList_plain hg fun K hK => ?_
  unfold Oper.wp
  rw [hr]
  exact hK _ _ h
set_option maxHeartbeats 8000000 in
set_option maxRecDepth 100000 in
theorem phases_made (w : World) : Calls Try.prog 31 #[] w fun e w' => ∃ g1 g2, e = .returned (.agg (PH g1 g2)) ∧ w.heap.size ≤ g1 ∧ w.heap.size ≤ g2 ∧ w'.heap[g1]? = some (.cells #[.int .i64 6] 3 (0, 0)) ∧ w'.heap[g2]? = some (.cells #[.int .i64 4] 3 (0, 0)) ∧ Below w.heap.size w w' := by
  have hu75 := Try.underlying75
  have HB := My.m (Below.refl w.heap.size w)
  go_enter Try.func31, Try.ntmps31
  go_wp2_with (first | ((with_reducible refine gate_dst (N := 0) rfl ?_); refine My.be 0 75 #[nf, nf, nf, nf, nf, nf, nf, nf, nf, nf, nf, nf, nf, nf, nf, nf, nf, nf, nf, nf] ?_; intro g hg w1 hbox hb; have BK := My.m hbox; have GE := My.m (My.nw w hg My.bB); replace HB := My.m (below_step My.bB hb); clear hb hbox hg) | ((with_reducible refine gate_dst (N := 12) rfl ?_); refine build_next (.agg (PH g1 g2)) rfl ?hr ?hn; (case hr => kernel_rfl); refine store_row 75 (.tmp 0) (.tmp 12) g 75 #[nf, nf, nf, nf, nf, nf, nf, nf, nf, nf, nf, nf, nf, nf, nf, nf, nf, nf, nf, nf] (PH g1 g2) ?ho ?hd ?hg ?hp ?hx ?hold ?hi ?hs ?h1 ?hh; (case ho => rfl); (case hd => rfl); (case hg => rfl); (case hp => rfl); (case hx => rfl); (case hold => exact BK.out); (case hi => kernel_rfl); (case hs => rfl); (case h1 => kernel_rfl); intro w4 hw4 hg4; replace C1 := My.m (My.blk_grown' C1.out hg4 (Ne.symm N1.out)); replace C2 := My.m (My.blk_grown' C2.out hg4 (Ne.symm N2.out)); replace BK := My.m hw4; replace HB := My.m (My.below_grown' HB.out hg4 GE.out); clear hw4 hg4) | (go_at_call 45; first | (have G1_ := G1; (with_reducible refine (to_made 4 _).mono ?_); rintro e w3 ⟨g2, rfl, hg, hc, hb⟩; have N2 := My.m (Nat.ne_of_lt (Nat.lt_of_lt_of_le (blk_lt (My.Ka BK.out)) hg)); have G2 := My.m (Nat.le_trans (below_size My.bA) hg); replace BK := My.m (My.kb BK.out hb); replace C1 := My.m (My.kb C1.out hb); have C2 := My.m hc; replace HB := My.m (below_step My.bA hb); clear hc hb hg) | ((with_reducible refine (to_made 6 _).mono ?_); rintro e w2 ⟨g1, rfl, hg, hc, hb⟩; have N1 := My.m (Nat.ne_of_lt (Nat.lt_of_lt_of_le (blk_lt (My.Ka BK.out)) hg)); have G1 := My.m (Nat.le_trans (below_size My.bA) hg); replace BK := My.m (My.kb BK.out hb); have C1 := My.m hc; replace HB := My.m (below_step My.bA hb); clear hc hb hg)))
  refine bodyPost_ret (results_cell_row rfl _ _ g 75 (PH g1 g2) (0, 0) _ rfl BK.out Try.underlying75 rfl (by kernel_rfl)) rfl ?_
  exact ⟨g1, g2, rfl, G1.out, G2.out, C1.out, C2.out, HB.out⟩
end Go.Proofs.Ytdehdhkhcilckaa.PM
