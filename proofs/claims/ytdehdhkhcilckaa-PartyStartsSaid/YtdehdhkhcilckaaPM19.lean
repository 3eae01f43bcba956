-- made by a program of this session (wip/tools/myprint.py over the kit's print) out of the translation; Lean checks it
import Derived.Test.YtdehdhkhcilckaaPM0
import Derived.Test.YtdehdhkhcilckaaPM8
namespace Go.Proofs.Ytdehdhkhcilckaa.PM
open Go.RowKit Go.Proofs.YtdehdhkhcilckaaW.PrintWords Go.Proofs.YtdehdhkhcilckaaW.PrintLast Go.Proofs.YtdehdhkhcilckaaW.PrintMore
attribute [local go_sem] max2_int min2_int max_two min_two max_three min_three max_four min_four   -- for this text's walks alone
attribute [local go_sem high] Go.Proofs.Ytdehdhkhcilckaa.My.str_leq Go.Proofs.Ytdehdhkhcilckaa.My.str_gtr Go.Proofs.Ytdehdhkhcilckaa.My.str_geq
set_option linter.unusedVariables false
set_option linter.unusedSimpArgs false

/-! ### key_Ticket: function 27 -/
-- (by hand)
/-- A row of bytes, whatever mark the run-time put behind it. -/
def BRow (W : World) (g cap : Nat) (l : List UInt8) : Prop := g < W.heap.size ∧ l.length ≤ cap ∧ (∀ j (h : j < l.length), W.cell? ⟨g, j, none⟩ = some (.int .u8 (l[j].toNat : Int))) ∧ ∀ j, j < cap → (W.cell? ⟨g, j, none⟩).isSome = true ∧ W.frozen? ⟨g, j, none⟩ = false
theorem append_room {W : World} {g cap : Nat} {l : List UInt8} (b : UInt8) (ty : TypeId) (h : BRow W g cap l) (hr : l.length + 1 ≤ cap) :
    (Builtin.append_ #[80, 80] ty #[.slice (some ⟨g, 0, none⟩) l.length cap, .slice (some ⟨W.heap.size, 0, none⟩) 1 1]).run Try.prog (W.alloc (.cells #[.int .u8 (b.toNat : Int)] 5)) =
      .ok (.slice (some ⟨g, 0, none⟩) (l.length + 1) cap) ((W.alloc (.cells #[.int .u8 (b.toNat : Int)] 5)).setCell ⟨g, l.length, none⟩ (.int .u8 (b.toNat : Int))) := by
  obtain ⟨i, hi, hz, hsz, hby⟩ := info_parts info5
  have hbel : Below W.heap.size W (W.alloc (.cells #[.int .u8 (b.toNat : Int)] 5)) := below_alloc (Below.refl _ _) _
  have hf := run_firstCells_some (P := Try.prog) (W.alloc (.cells #[.int .u8 (b.toNat : Int)] 5)) i.size 1 ⟨W.heap.size, 0, none⟩ 1 1 [.int .u8 (b.toNat : Int)] (by simp [hsz]) (fun j v hj => by
    cases j with
    | zero =>
      simp at hj
      subst hj
      exact (World.cell?_alloc_mark W _ _ (0, 0) 0).trans rfl
    | succ j => simp at hj)
  rw [hsz] at hf
  have hst := run_storeCells_cells (P := Try.prog) g l.length [.int .u8 (b.toNat : Int)] 0 (W.alloc (.cells #[.int .u8 (b.toNat : Int)] 5)) (fun j hj => by
      have : j = 0 := by simpa using hj
      subst this
      rw [hbel.cell (p := ⟨g, l.length + 0 + 0, none⟩) h.1]
      exact (h.2.2.2 _ (by omega)).1)
    (fun j hj => by
      have : j = 0 := by simpa using hj
      subst this
      rw [hbel.frozen (p := ⟨g, l.length + 0 + 0, none⟩) h.1]
      exact (h.2.2.2 _ (by omega)).2)
    (fun v hv => by simp at hv; subst hv; rfl)
  simp only [Nat.add_zero] at hst
  simp [Builtin.append_, run_underlying Try.underlying80, sizeOf, typeInfo, hi, Builtin.lenOf, hr, hf, Addr.add_lit, hst, hsz, World.setCells]
theorem append_grow {W : World} {g cap : Nat} {l : List UInt8} (b : UInt8) (ty : TypeId) (h : BRow W g cap l) (hr : ¬ l.length + 1 ≤ cap) (hl : l.length ≤ 1000) :
    (Builtin.append_ #[80, 80] ty #[.slice (some ⟨g, 0, none⟩) l.length cap, .slice (some ⟨W.heap.size, 0, none⟩) 1 1]).run Try.prog (W.alloc (.cells #[.int .u8 (b.toNat : Int)] 5)) =
      .ok (.slice (some ⟨(W.alloc (.cells #[.int .u8 (b.toNat : Int)] 5)).heap.size, 0, none⟩) (l.length + 1) (grownCap (W.alloc (.cells #[.int .u8 (b.toNat : Int)] 5)) (l.length + 1) cap 5))
        ((W.alloc (.cells #[.int .u8 (b.toNat : Int)] 5)).drew.alloc (.cells ((l.map (fun b : UInt8 => Value.int .u8 (b.toNat : Int))).toArray ++ [Value.int .u8 (b.toNat : Int)].toArray ++ Builtin.zeroCells (Value.int .u8 0).cells (grownCap (W.alloc (.cells #[.int .u8 (b.toNat : Int)] 5)) (l.length + 1) cap 5 - (l.length + 1))) 5)) := by
  obtain ⟨i, hi, hz, hsz, hby⟩ := info_parts info5
  have hbel : Below W.heap.size W (W.alloc (.cells #[.int .u8 (b.toNat : Int)] 5)) := below_alloc (Below.refl _ _) _
  refine run_append_grow (P := Try.prog) (W.alloc (.cells #[.int .u8 (b.toNat : Int)] 5)) 80 ty 5 i _ Try.underlying80 hi hz ⟨g, 0, none⟩ l.length cap (l.map (fun b : UInt8 => Value.int .u8 (b.toNat : Int))) (by simp [hsz]) ?_ ⟨W.heap.size, 0, none⟩ 1 1 [.int .u8 (b.toNat : Int)] (by simp [hsz]) ?_ (by omega) (by omega) ?_
  · intro j v hj
    obtain ⟨hlt, hv⟩ := List.getElem?_eq_some_iff.1 hj
    simp only [List.length_map] at hlt
    simp only [List.getElem_map] at hv
    subst hv
    rw [add_plain, hbel.cell (p := ⟨g, j, none⟩) h.1]
    exact h.2.2.1 j hlt
  · intro j v hj
    cases j with
    | zero =>
      simp at hj
      subst hj
      exact (World.cell?_alloc_mark W _ _ (0, 0) 0).trans rfl
    | succ j => simp at hj
  · rw [hby]
    exact growslice_fits (by omega) (by omega)
/-- One byte behind a row of bytes. -/
theorem append_byte {W : World} {g cap : Nat} {l : List UInt8} (b : UInt8) (ty : TypeId) (h : BRow W g cap l) (hl : l.length ≤ 1000) {base : Nat} (hg : base ≤ g) (hb : base ≤ W.heap.size) :
    ∃ g' cap' W', (Builtin.append_ #[80, 80] ty #[.slice (some ⟨g, 0, none⟩) l.length cap, .slice (some ⟨W.heap.size, 0, none⟩) 1 1]).run Try.prog (W.alloc (.cells #[.int .u8 (b.toNat : Int)] 5)) = .ok (.slice (some ⟨g', 0, none⟩) (l.length + 1) cap') W' ∧ BRow W' g' cap' (l ++ [b]) ∧ Below base W W' ∧ base ≤ g' := by
  have hbel : Below W.heap.size W (W.alloc (.cells #[.int .u8 (b.toNat : Int)] 5)) := below_alloc (Below.refl _ _) _
  have hbase : Below base W (W.alloc (.cells #[.int .u8 (b.toNat : Int)] 5)) := ⟨hbel.os, hbel.tape, hbel.output, hbel.size, fun k hk => hbel.block k (by omega)⟩
  by_cases hr : l.length + 1 ≤ cap
  · refine ⟨g, cap, _, append_room b ty h hr, ⟨?_, by simp; omega, ?_, ?_⟩, ?_, hg⟩
    · rw [World.size_setCell]; exact Nat.lt_of_lt_of_le h.1 hbel.size
    · intro j hj
      by_cases e : j = l.length
      · subst e
        have hs : ((W.alloc (.cells #[.int .u8 (b.toNat : Int)] 5)).cell? ⟨g, l.length, none⟩).isSome = true := by
          rw [hbel.cell (p := ⟨g, l.length, none⟩) h.1]
          exact (h.2.2.2 _ (by omega)).1
        obtain ⟨u, hu⟩ := Option.isSome_iff_exists.1 hs
        rw [World.cell?_setCell_same _ _ _ hu]
        simp
      · have hj' : j < l.length := by simp at hj; omega
        rw [World.cell?_setCell_other _ _ _ _ (by first | (simp; done) | (simp; omega)), hbel.cell (p := ⟨g, j, none⟩) h.1, h.2.2.1 j hj']
        simp [List.getElem_append_left hj']
    · intro j hj
      rw [World.frozen?_setCell, hbel.frozen (p := ⟨g, j, none⟩) h.1]
      refine ⟨?_, (h.2.2.2 j hj).2⟩
      by_cases e : j = l.length
      · subst e
        have hs : ((W.alloc (.cells #[.int .u8 (b.toNat : Int)] 5)).cell? ⟨g, l.length, none⟩).isSome = true := by
          rw [hbel.cell (p := ⟨g, l.length, none⟩) h.1]
          exact (h.2.2.2 _ (by omega)).1
        obtain ⟨u, hu⟩ := Option.isSome_iff_exists.1 hs
        rw [World.cell?_setCell_same _ _ _ hu]
        rfl
      · rw [World.cell?_setCell_other _ _ _ _ (by first | (simp; done) | (simp; omega)), hbel.cell (p := ⟨g, j, none⟩) h.1]
        exact (h.2.2.2 j hj).1
    · refine ⟨hbase.os, hbase.tape, hbase.output, by rw [World.size_setCell]; exact hbase.size, fun k hk => ?_⟩
      rw [Below.heap_setCell _ _ _ k (by intro e; have : g = k := (by first | exact e | exact e.symm); omega)]
      exact hbase.block k hk
  · have hcap := grownCap_ge (W.alloc (.cells #[.int .u8 (b.toNat : Int)] 5)) (l.length + 1) cap 5
    refine ⟨_, _, _, append_grow b ty h hr hl, ?_, ?_, Nat.le_trans hb hbel.size⟩
    · generalize grownCap (W.alloc (.cells #[.int .u8 (b.toNat : Int)] 5)) (l.length + 1) cap 5 = C at *
      refine ⟨?_, by simpa using hcap, ?_, ?_⟩
      · show (W.alloc (.cells #[.int .u8 (b.toNat : Int)] 5)).heap.size < ((W.alloc (.cells #[.int .u8 (b.toNat : Int)] 5)).heap.push _).size
        simp
      · intro j hj
        refine (World.cell?_alloc_mark (W.alloc (.cells #[.int .u8 (b.toNat : Int)] 5)).drew _ _ (0, 0) j).trans ?_
        simp only [List.length_append, List.length_singleton] at hj
        rw [Array.getElem?_append_left (by simp; omega)]
        by_cases e : j < l.length
        · rw [Array.getElem?_append_left (by simpa using e)]
          simp [e, List.getElem_append_left e]
        · have e2 : j = l.length := by omega
          subst e2
          simp
      · intro j hj
        refine ⟨?_, ?_⟩
        · rw [show ((W.alloc (.cells #[.int .u8 (b.toNat : Int)] 5)).drew.alloc _).cell? ⟨(W.alloc (.cells #[.int .u8 (b.toNat : Int)] 5)).heap.size, j, none⟩ = _ from World.cell?_alloc_mark (W.alloc (.cells #[.int .u8 (b.toNat : Int)] 5)).drew _ _ (0, 0) j]
          rw [Option.isSome_iff_exists]
          refine ⟨_, Array.getElem?_eq_getElem ?_⟩
          simp [Builtin.zeroCells, Value.cells]
          omega
        · refine (World.frozen?_alloc_mark (W.alloc (.cells #[.int .u8 (b.toNat : Int)] 5)).drew _ _ 0 0 j).trans ?_
          simp
    · have hx : ∀ (X : World) (o : Obj), Below base W X → Below base W (X.drew.alloc o) := fun X o hX =>
        have hy : Below X.drew.heap.size X.drew (X.drew.alloc o) := below_alloc (Below.refl _ _) o
        ⟨hX.os, hX.tape, hX.output, Nat.le_trans hX.size hy.size, fun k hk => (hy.block k (Nat.lt_of_lt_of_le hk (Nat.le_trans hb hX.size))).trans (hX.block k hk)⟩
      exact hx _ _ hbase
theorem append_run {P : Program} {o : Oper} {a : Act} {W w1 : World} {s x : Operand} {t : TypeId} {sv xv v : Value} (ho : o.op = .call { callee := .builtin .append, args := #[s, x], argTypes := #[t, t] }) (hs : a.eval s = sv) (hx : a.eval x = xv)
    (hr : (Builtin.append_ #[t, t] o.type #[sv, xv]).run P W = .ok v w1) : (execOp a.eval o).run P W = .ok (.value v) w1 := by
  unfold execOp
  simp only [ho, resolve, invoke, builtin, Sem.run_bind, Sem.run_pure, Result.andThen_ok, List.map_toArray, List.map_cons, List.map_nil, hs, hx, hr]
theorem below_two {base : Nat} {w W W2 : World} (h : Below base w W) (h2 : Below base W W2) : Below base w W2 := ⟨h2.os.trans h.os, h2.tape.trans h.tape, h2.output.trans h.output, Nat.le_trans h.size h2.size, fun k hk => (h2.block k hk).trans (h.block k hk)⟩
theorem brow_conv (W : World) (s : ByteArray) : BRow (W.alloc (.cells (bytesRow s (grownCap W s.size 0 5)) 5 ((bytesRow s (grownCap W s.size 0 5)).size, (bytesRow s (grownCap W s.size 0 5)).size + 1))).drew W.heap.size (grownCap W s.size 0 5) s.data.toList := by
  have hcap := grownCap_ge W s.size 0 5
  generalize grownCap W s.size 0 5 = C at *
  have hs : (bytesRow s C).size = C := by
    unfold bytesRow
    simp
    have : s.data.size = s.size := rfl
    omega
  refine ⟨?_, ?_, ?_, ?_⟩
  · show W.heap.size < (W.heap.push _).size
    simp
  · simpa using hcap
  · intro j hj
    refine (World.cell?_alloc_mark W _ _ _ j).trans ?_
    rw [bytesRow_at s _ j (by simpa using hj)]
    simp
  · intro j hj
    refine ⟨?_, ?_⟩
    · have e := World.cell?_alloc_mark W (bytesRow s C) 5 ((bytesRow s C).size, (bytesRow s C).size + 1) j
      show ((W.alloc (.cells (bytesRow s C) 5 ((bytesRow s C).size, (bytesRow s C).size + 1))).cell? ⟨W.heap.size, j, none⟩).isSome = true
      rw [e, Array.getElem?_eq_getElem (by omega)]
      rfl
    · refine (World.frozen?_alloc_mark W _ _ _ _ j).trans ?_
      rw [hs]
      simp
      omega
def hexDigits : List UInt8 := [48, 49, 50, 51, 52, 53, 54, 55, 56, 57, 97, 98, 99, 100, 101, 102]
theorem wraps_i64 (n : Int) (h0 : 0 ≤ n) (h1 : n < 2 ^ 63) : IntKind.i64.wrap n = n := by simp [IntKind.wrap, IntKind.bits, IntKind.signed]; omega
theorem and15 (x : Int) (h0 : 0 ≤ x) (h1 : x < 2 ^ 63) : bits BinOp.and IntKind.i64 x 15 = x % 16 := bits_mask .i64 63 (by decide) wraps_i64 4 (by decide) x h0 h1
set_option maxRecDepth 20000 in
theorem digit_at (m : Nat) (hm : m < 16) (W : World) : (Instr.index 9 (.string ⟨#[48, 49, 50, 51, 52, 53, 54, 55, 56, 57, 97, 98, 99, 100, 101, 102]⟩) (.int .i64 (m : Int))).run Try.prog W = .ok (.int .u8 ((hexDigits.getD m 0).toNat : Int)) W := by
  have h : m = 0 ∨ m = 1 ∨ m = 2 ∨ m = 3 ∨ m = 4 ∨ m = 5 ∨ m = 6 ∨ m = 7 ∨ m = 8 ∨ m = 9 ∨ m = 10 ∨ m = 11 ∨ m = 12 ∨ m = 13 ∨ m = 14 ∨ m = 15 := by omega
  rcases h with rfl | rfl | rfl | rfl | rfl | rfl | rfl | rfl | rfl | rfl | rfl | rfl | rfl | rfl | rfl | rfl <;> first | rfl | (show _ = _; kernel_rfl)
/-- The bytes of the digits, from place i - 1 down, behind what stands. -/
def ticketBytes (id : Int) : Nat → List UInt8
  | 0 => []
  | i + 1 => (hexDigits.getD (id / 2 ^ (4 * i) % 16).toNat 0) :: ticketBytes id i
def key_Ticket.f (a0 : Int) (a1 : ByteArray) (a2 : Int) : Option (ByteArray × Bool) := (key_Prefix.f a0 a1).bind fun bt => if bt.2 = true then (if a2 < 0 then some (⟨#[]⟩, false) else if a2 > 1099511627775 then some (⟨#[]⟩, false) else if bt.1.size ≤ 500 then some (⟨(bt.1.data.toList ++ ticketBytes a2 10).toArray⟩, true) else none) else some (⟨#[]⟩, false)
set_option maxHeartbeats 1000000 in
theorem key_Ticket.calls (a0 : Int) (a1 : ByteArray) (a2 : Int) (r1 : ByteArray) (r2 : Bool) (w : World) (h : key_Ticket.f a0 a1 a2 = some (r1, r2)) :
    Calls Try.prog 27 #[.int .i64 a0, .string a1, .int .i64 a2] w fun e w' => e = .returned (.tuple #[.string r1, .bool r2]) ∧ Below w.heap.size w w' := by
  unfold key_Ticket.f at h
  obtain ⟨⟨p, is⟩, hpre, h⟩ := Option.bind_eq_some_iff.1 h
  have HP := Aside0.mk hpre
  clear hpre
  dsimp only at h
  cases is with
  | false =>
    rw [if_neg (by decide)] at h
    obtain ⟨rfl, rfl⟩ := Prod.mk.inj (Option.some.inj h)
    clear h
    go_enter Try.func27, Try.ntmps27
    go_wp2_with (go_at_call 23; (with_reducible refine (key_Prefix.calls a0 a1 p false _ HP.out).mono ?_); rintro e w1 ⟨rfl, hb1⟩; have HB1 := Aside0.mk hb1; clear hb1)
    go_ret2
    exact ⟨rfl, HB1.out⟩
  | true =>
    rw [if_pos rfl] at h
    by_cases c1 : a2 < 0
    · rw [if_pos c1] at h
      obtain ⟨rfl, rfl⟩ := Prod.mk.inj (Option.some.inj h)
      have d1 : decide (a2 < 0) = true := decide_eq_true c1
      clear h c1
      go_enter Try.func27, Try.ntmps27
      go_wp2_with (go_at_call 23; (with_reducible refine (key_Prefix.calls a0 a1 p true _ HP.out).mono ?_); rintro e w1 ⟨rfl, hb1⟩; have HB1 := Aside0.mk hb1; clear hb1)
      go_ret2
      exact ⟨rfl, HB1.out⟩
    rw [if_neg c1] at h
    have d1 : decide (a2 < 0) = false := decide_eq_false c1
    by_cases c2 : a2 > 1099511627775
    · rw [if_pos c2] at h
      obtain ⟨rfl, rfl⟩ := Prod.mk.inj (Option.some.inj h)
      have d2 : decide (1099511627775 < a2) = true := decide_eq_true c2
      clear h c1 c2
      go_enter Try.func27, Try.ntmps27
      go_wp2_with (go_at_call 23; (with_reducible refine (key_Prefix.calls a0 a1 p true _ HP.out).mono ?_); rintro e w1 ⟨rfl, hb1⟩; have HB1 := Aside0.mk hb1; clear hb1)
      go_ret2
      exact ⟨rfl, HB1.out⟩
    rw [if_neg c2] at h
    have d2 : decide (1099511627775 < a2) = false := decide_eq_false c2
    by_cases c3 : p.size ≤ 500
    rotate_left
    · rw [if_neg c3] at h; cases h
    rw [if_pos c3] at h
    obtain ⟨hr1, rfl⟩ := Prod.mk.inj (Option.some.inj h)
    have H := Aside0.mk hr1
    have LIM := Aside0.mk (show p.size ≤ 500 ∧ 0 ≤ a2 ∧ a2 ≤ 1099511627775 by omega)
    clear h c1 c2 c3 hr1
    have kc := fun (W : World) (s : ByteArray) => run_bytes_of_string (P := Try.prog) W 9 80 5 s Try.underlying9 Try.underlying80 Try.underlying5
    go_enter Try.func27, Try.ntmps27
    go_wp2_with (go_at_call 23; (with_reducible refine (key_Prefix.calls a0 a1 p true _ HP.out).mono ?_); rintro e w1 ⟨rfl, hb1⟩; have HB1 := Aside0.mk hb1; clear hb1)
    rename_i w1 K0 hK0
    have hrow := brow_conv w1 p
    have hb1 : Below w.heap.size w (w1.alloc (.cells (bytesRow p (grownCap w1 p.size 0 5)) 5 ((bytesRow p (grownCap w1 p.size 0 5)).size, (bytesRow p (grownCap w1 p.size 0 5)).size + 1))).drew := below_drew1 (below_alloc HB1.out _)
    have HG := Aside0.mk HB1.out.size
    generalize hW1 : (w1.alloc (.cells (bytesRow p (grownCap w1 p.size 0 5)) 5 ((bytesRow p (grownCap w1 p.size 0 5)).size, (bytesRow p (grownCap w1 p.size 0 5)).size + 1))).drew = W1 at *
    have HR := Aside0.mk hrow
    have HB2 := Aside0.mk hb1
    clear hrow hb1 hW1 kc HB1
    have HS := Aside0.mk (show p.size = p.data.toList.length from rfl)
    go_loopw [11, 10] (fun i b wr => ∃ (k : Nat) (q : List UInt8) (g cap : Nat), i = .int .i64 ((k : Int) - 1) ∧ b = .slice (some ⟨g, 0, none⟩) q.length cap ∧ Aside0 (k ≤ 10 ∧ q.length ≤ 510 - k ∧ q ++ ticketBytes a2 k = p.data.toList ++ ticketBytes a2 10 ∧ BRow wr g cap q ∧ w.heap.size ≤ g ∧ Below w.heap.size w wr)) (fun i _ _ => (intOf i + 1).toNat)
    case atStart => exact ⟨10, p.data.toList, _, _, rfl, rfl, ⟨by omega, by have := LIM.out.1; have := HS.out; omega, rfl, HR.out, HG.out, HB2.out⟩⟩
    case round =>
      obtain ⟨k, q, g, cap, rfl, rfl, ⟨hk, hq, he, hrow, hg, hbl⟩⟩ := hrel
      cases k with
      | zero =>
        have e0 : ((0 : Nat) : Int) - 1 = -1 := rfl
        rw [e0]
        have hback := run_convert_bytes_back (P := Try.prog) wr 80 9 5 ⟨g, 0, none⟩ cap q Try.underlying80 Try.underlying5 Try.underlying9 (fun j hj => by rw [add_plain]; simpa using hrow.2.2.1 j hj)
        have HB := Aside0.mk hbl
        have HE := Aside0.mk he
        clear hrow hg he hbl hq hk
        go_wp2
        go_ret2
        refine ⟨?_, HB.out⟩
        have h1 : q = p.data.toList ++ ticketBytes a2 10 := by
          have := HE.out
          rwa [show ticketBytes a2 0 = [] from rfl, List.append_nil] at this
        rw [← H.out, ← h1]
        rfl
      | succ k =>
        have hz : (0 : Int) ≤ ((k + 1 : Nat) : Int) - 1 := by omega
        have e1 : ((k + 1 : Nat) : Int) - 1 = (k : Int) := by omega
        rw [e1] at hz ⊢
        have HB := Aside0.mk hbl
        have HROW := Aside0.mk hrow
        have HGG := Aside0.mk hg
        have HE := Aside0.mk he
        have HQ := Aside0.mk hq
        clear hrow hg he hbl hq
        have hx0 : 0 ≤ a2 / 2 ^ (4 * k) := Int.ediv_nonneg LIM.out.2.1 (Int.pow_nonneg (by decide))
        have hx1 : a2 / 2 ^ (4 * k) < 2 ^ 63 := by
          have := Int.ediv_le_self (2 ^ (4 * k)) LIM.out.2.1
          have := LIM.out.2.2
          omega
        have hbits := and15 _ hx0 hx1
        obtain ⟨m, hm, hmod⟩ : ∃ m : Nat, m < 16 ∧ a2 / 2 ^ (4 * k) % 16 = (m : Int) := ⟨(a2 / 2 ^ (4 * k) % 16).toNat, by omega, by omega⟩
        rw [hmod] at hbits
        have hidx := digit_at m hm
        have HM := Aside0.mk hm
        have HMOD := Aside0.mk hmod
        clear hx0 hx1 hm hmod
        obtain ⟨g2, cap2, W2, hrun, hrow2, hbel2, hg2⟩ := append_byte (hexDigits.getD m 0) 80 HROW.out (by have := HQ.out; omega) HGG.out HB.out.size
        have HRUN := Aside0.mk hrun
        clear hrun
        go_wp2_with ((with_reducible refine gate_dst (N := 42) rfl ?_); refine Kd.event_run rfl (append_run (s := .tmp 34) (x := .tmp 41) rfl rfl rfl HRUN.out) ?_)
        refine ⟨⟨k, q ++ [hexDigits.getD m 0], g2, cap2, rfl, by simp, ⟨by omega, by have := HQ.out; simp; omega, ?_, hrow2, hg2, below_two HB.out hbel2⟩⟩, ?_⟩
        · rw [← HE.out]
          simp only [ticketBytes, HMOD.out, Int.toNat_natCast, List.append_assoc, List.singleton_append]
        · simp only [intOf]
          omega


end Go.Proofs.Ytdehdhkhcilckaa.PM
