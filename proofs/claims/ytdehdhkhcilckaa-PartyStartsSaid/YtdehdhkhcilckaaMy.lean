/- Small lemmas of this session beside the print's words: worlds and blocks; nothing of the program. -/
import Derived.Test.YtdehdhkhcilckaaV
import Derived.Deep.RegionWith
import Derived.ChangeKeysEq
import Derived.OpenShut
import Derived.Lib.SliceRun
import Derived.Lib.Bytealg
namespace Go.Proofs.Ytdehdhkhcilckaa.My
open Go.RowKit Go.Proofs.YtdehdhkhcilckaaW.PrintWords
set_option linter.unusedVariables false

theorem bcell {W w1 : World} (hb : Below W.heap.size W w1) : (∀ b o, b < W.heap.size → w1.cell? ⟨b, o, none⟩ = W.cell? ⟨b, o, none⟩) ∧ (∀ b o, b < W.heap.size → w1.frozen? ⟨b, o, none⟩ = W.frozen? ⟨b, o, none⟩) ∧ W.heap.size ≤ w1.heap.size :=
  ⟨fun b o h => hb.cell (p := ⟨b, o, none⟩) h, fun b o h => hb.frozen (p := ⟨b, o, none⟩) h, hb.size⟩
theorem bcellD {W w1 : World} (hb : Below W.drew.heap.size W.drew w1) : (∀ b o, b < W.heap.size → w1.cell? ⟨b, o, none⟩ = W.cell? ⟨b, o, none⟩) ∧ (∀ b o, b < W.heap.size → w1.frozen? ⟨b, o, none⟩ = W.frozen? ⟨b, o, none⟩) ∧ W.heap.size ≤ w1.heap.size :=
  ⟨fun b o h => hb.cell (p := ⟨b, o, none⟩) h, fun b o h => hb.frozen (p := ⟨b, o, none⟩) h, hb.size⟩
theorem below_undrew {w w1 : World} (h : Below w.drew.heap.size w.drew w1) : Below w.heap.size w w1 := ⟨h.os, h.tape, h.output, h.size, h.block⟩
theorem grown_set {w w2 : World} {B j : Nat} {u : Value} (h : Below w.heap.size w w2) : w.grownBy (w2.setCell ⟨B, j, none⟩ u) (some B) := by
  refine ⟨h.os, h.tape, h.output, by rw [World.size_setCell]; exact h.size, fun k hk hne => ?_⟩
  rw [Below.heap_setCell w2 _ u k (by intro e; exact hne (by rw [e]))]
  exact h.block k hk
theorem below_grown' {w W W1 : World} {g : Nat} (h : Below w.heap.size w W) (hg : W.grownBy W1 (some g)) (hn : w.heap.size ≤ g) : Below w.heap.size w W1 :=
  ⟨hg.os.trans h.os, hg.tape.trans h.tape, hg.output.trans h.output, Nat.le_trans h.size hg.size, fun k hk => (hg.block k (Nat.lt_of_lt_of_le hk h.size) (by intro e; injection e with e; omega)).trans (h.block k hk)⟩
/-- A row that is only read, and is not empty, lies in none of the blocks that its footprint leaves out. -/
theorem V_away {α : Type} {d : Kd α} {e n base c : Nat} {ok : Nat → Prop} {W : World} {ad : Addr} {xs : List α} (h : Kd.V d e W base ok (.slice (some ad) n c) xs) (z : α) (hs : 0 < d.sz) {i : Int} (p : (0 ≤ i) = True) (q : (i < (xs.length : Int)) = True) {g : Nat} (hok : ∀ k, ok k → k ≠ g) : some g ≠ (Value.slice (some ad) n c).ownBlock := by
  have hn := (Kd.V_at h).1
  obtain ⟨ad', cs, he, _, _, _, hin⟩ := Kd.F_get (Kd.V_F h) z i (of_eq_true p) (by have := of_eq_true q; omega)
  injection he with he
  subst he
  have := hok _ (hin hs)
  simp only [Value.ownBlock]
  intro e
  injection e with e
  exact this e.symm
theorem V_at {α : Type} {d : Kd α} {e base m : Nat} {ok : Nat → Prop} {w w' : World} {v : Value} {xs : List α} (hq : w.drewN m = w') (h : Kd.V d e w base ok v xs) : Kd.V d e w' base ok v xs := by subst hq; exact Kd.V_drewN h m
theorem less_or (a : List UInt8) : ∀ b : List UInt8, (Op.bytesLess a b || a == b) = !Op.bytesLess b a := by
  induction a with
  | nil => intro b; cases b <;> simp [Op.bytesLess]
  | cons x a ih =>
    intro b
    cases b with
    | nil => simp [Op.bytesLess]
    | cons y b =>
      have h := ih b
      simp only [Op.bytesLess, List.cons_beq_cons]
      rcases Nat.lt_trichotomy x.toNat y.toNat with c | c | c
      · have h1 : x < y := UInt8.lt_iff_toNat_lt.2 c
        have h2 : ¬ y < x := fun q => by have := UInt8.lt_iff_toNat_lt.1 q; omega
        have h3 : (y == x) = false := by rw [beq_eq_false_iff_ne]; intro q; subst q; omega
        simp [h1, h2, h3]
      · have e : x = y := UInt8.toNat_inj.1 c
        subst e
        simp only [beq_self_eq_true, Bool.true_and, UInt8.lt_irrefl, decide_false, Bool.false_or]
        exact h
      · have h1 : y < x := UInt8.lt_iff_toNat_lt.2 c
        have h2 : ¬ x < y := fun q => by have := UInt8.lt_iff_toNat_lt.1 q; omega
        have h3 : (x == y) = false := by rw [beq_eq_false_iff_ne]; intro q; subst q; omega
        simp [h1, h2, h3]
theorem str_leq (t : TypeId) (a b : ByteArray) : binOp .leq t (.string a) (.string b) = pure (.bool !(Op.bytesLess b.toList a.toList)) := by
  rw [← less_or]
  simp [binOp, Op.stringOp]
theorem str_gtr (t : TypeId) (a b : ByteArray) : binOp .gtr t (.string a) (.string b) = pure (.bool (Op.bytesLess b.toList a.toList)) := by
  rw [← Bool.not_not (Op.bytesLess b.toList a.toList), ← less_or]
  simp [binOp, Op.stringOp]
theorem str_geq (t : TypeId) (a b : ByteArray) : binOp .geq t (.string a) (.string b) = pure (.bool !(Op.bytesLess a.toList b.toList)) := by simp [binOp, Op.stringOp]
theorem size_mk (a : Array UInt8) : (ByteArray.mk a).size = a.size := rfl
theorem blk_grown' {w w1 : World} {g k : Nat} {o : Obj} (h : w.heap[k]? = some o) (hg : w.grownBy w1 (some g)) (hne : k ≠ g) : w1.heap[k]? = some o := blk_grown h hg (by intro e; injection e with e; exact hne e)
section
variable {P : Program} {d i c : Nat} {e : TypeId} {is : List Nat} {xs ys : Array Value} {a b : Value} {r s : Bool} {w : World}
theorem eqi_last (ha : (part e xs (i * c)).run P w = .ok a w) (hb : (part e ys (i * c)).run P w = .ok b w) (he : (Op.equalIn d e a b).run P w = .ok r w) : (Op.eqItems d e c xs ys [i]).run P w = .ok r w := by
  simp only [Op.eqItems, Sem.run_bind, ha, hb, he, Result.andThen_ok]
  cases r <;> simp
theorem eqi_cons (ha : (part e xs (i * c)).run P w = .ok a w) (hb : (part e ys (i * c)).run P w = .ok b w) (he : (Op.equalIn d e a b).run P w = .ok r w) (hr : (Op.eqItems d e c xs ys is).run P w = .ok s w) : (Op.eqItems d e c xs ys (i :: is)).run P w = .ok (r && s) w := by
  rw [Op.eqItems]
  simp only [Sem.run_bind, ha, hb, he, Result.andThen_ok]
  cases r
  · simp
  · simpa using hr
end
/-- The place of the first element of which p holds, from i on; -1. -/
def idxM {α : Type} (p : α → Option Bool) : List α → Int → Option Int
  | [], _ => some (-1)
  | x :: l, i => (p x).bind fun b => if b = true then some i else idxM p l (i + 1)
def anyM {α : Type} (p : α → Option Bool) : List α → Option Bool
  | [] => some false
  | x :: l => (p x).bind fun b => if b = true then some true else anyM p l
theorem any_idx {α : Type} {p : α → Option Bool} : ∀ {l : List α} {i : Int} {b : Bool}, 0 ≤ i → anyM p l = some b → ∃ r, idxM p l i = some r ∧ decide (0 ≤ r) = b
  | [], i, b, hi, h => ⟨-1, rfl, by simp only [anyM, Option.some.injEq] at h; subst h; rfl⟩
  | x :: l, i, b, hi, h => by
    simp only [anyM, idxM] at h ⊢
    cases hp : p x with
    | none => rw [hp] at h; simp at h
    | some c =>
      rw [hp] at h
      simp only [Option.bind_some] at h ⊢
      by_cases hc : c = true
      · rw [if_pos hc] at h ⊢
        exact ⟨i, rfl, by simp only [Option.some.injEq] at h; subst h; simp [hi]⟩
      · rw [if_neg hc] at h ⊢
        exact any_idx (by omega) h
theorem idxM_eq {α : Type} {p : α → Option Bool} {q : α → Bool} : ∀ {l : List α} {i : Int}, (∀ x ∈ l, p x = some (q x)) → idxM p l i = some (if l.any q then i + (l.findIdx q : Nat) else -1)
  | [], i, _ => by simp [idxM]
  | x :: l, i, h => by
    have hx := h x (by simp)
    have hl := idxM_eq (l := l) (i := i + 1) (fun y hy => h y (by simp [hy]))
    simp only [idxM, hx, Option.bind_some]
    by_cases hq : q x = true
    · simp [hq, List.findIdx_cons]
    · rw [if_neg hq, hl]
      simp only [Bool.not_eq_true] at hq
      simp only [List.any_cons, hq, Bool.false_or, List.findIdx_cons, cond_false]
      split
      · congr 1
        omega
      · rfl
theorem anyM_eq {α : Type} {p : α → Option Bool} {q : α → Bool} : ∀ {l : List α}, (∀ x ∈ l, p x = some (q x)) → anyM p l = some (l.any q)
  | [], _ => rfl
  | x :: l, h => by
    have hx := h x (by simp)
    have hl := anyM_eq (l := l) (fun y hy => h y (by simp [hy]))
    simp only [anyM, hx, Option.bind_some, hl, List.any_cons]
    cases q x <;> simp
/-! Pure: 'from some number of rounds on', step by step. -/
section
variable {α β : Type} {r : α} {f g : Nat → Option α} {c : Prop} [Decidable c]
theorem ev_if (h : c) (k : Ev f r) : Ev (fun n => if c then f n else g n) r := Ev.congr (fun n => if_pos h) k
theorem ev_ifn (h : ¬ c) (k : Ev g r) : Ev (fun n => if c then f n else g n) r := Ev.congr (fun n => if_neg h) k
theorem ev_c {o : Option β} {b : β} {F : Nat → β → Option α} (h : o = some b) (k : Ev (fun n => F n b) r) : Ev (fun n => o.bind (F n)) r := Ev.congr (fun n => by rw [h]; rfl) k
theorem ev_b {G : Nat → Option β} {b : β} {F : Nat → β → Option α} (h : Ev G b) (k : Ev (fun n => F n b) r) : Ev (fun n => (G n).bind (F n)) r := Ev.bind h k
theorem ev_now {x : α} (h : x = r) : Ev (fun _ => some x) r := by subst h; exact Ev.now _
end
theorem w64 {n : Int} (h0 : -9223372036854775808 ≤ n) (h1 : n ≤ 9223372036854775807) : wrap64 n = n := by unfold wrap64; omega
theorem wf64 {n : Int} (h : (Lit.int .i64 n).wf = true) : -9223372036854775808 ≤ n ∧ n ≤ 9223372036854775807 := bounds_i64 h
theorem blk_new' (w : World) (o : Obj) (g : Nat) (h : g = w.heap.size) : (w.alloc o).heap[g]? = some o := by subst h; exact blk_new w o
section
open Go.Proofs.YtdehdhkhcilckaaW.PrintLast
variable {P : Program} {Q : Exit → Act → World → Prop} {ops : Array Oper}
/-- A call of a closure: its own variables come behind the arguments. -/
theorem goesD_ {oi : Oper} {N : Option Tmp} {a : Act} {w : World} {K : Act → World → Prop} {f : FuncId} {fn : Func} {q : Operand} {cap : Array Value} {as : Array Operand} {ts : Array TypeId} (hf : P.funcs[f]? = some fn) (hname : (fn.name == "runtime.NumGoroutine") = false) (hb : fn.body.isSome = true) (args : Array Value)
    (hw : Region.wanted oi (yielded ops a.tmps) = true) (hN : oi.dst = N) (hop : oi.op = .call { callee := .value q, args := as, argTypes := ts }) (hq : a.eval q = .func (.func f) #[] cap) (hargs : as.map a.eval ++ cap = args)
    (h : Calls P f args w fun e w' => ∃ v, e = .returned v ∧ K (a.put N v) w') : if Region.wanted oi (yielded ops a.tmps) = true then Oper.wp P oi a w K Q else K (a.put N undef) w := by
  refine call_ f args hw hN ?_ h
  have he := enters_ hf hname hb args w
  unfold execOp
  simp [hop, resolve, hq, Deferred.ofValue, invoke, hargs, he]
end
/-! Short forms of what is written again and again: a step of a region that draws (what has come up is a mask of bits); proofs that are always the same. -/
section
open Go.Proofs.YtdehdhkhcilckaaW.PrintLast
variable {P : Program} {ops : Array Oper} {Q : Exit → Act → World → Prop} {md : Region.Mode} {S : World → Prop} {ds : List Nat} {T : Bool × List (List Nat × List Nat)} {B : List Nat}
def bl (n m : Nat) : Array Bool := ((List.range n).map fun i => m.testBit i).toArray
/-- An operation that yields in every world. -/
theorem pu {n m fuel : Nat} {oi : Oper} {v : Value} {a a' : Act} {w : World} (i N m' : Nat) (HT : Aside0 (rtab md ops = T)) (h : wpAnyLast P md ops Q S ds fuel (bl n m') a' w)
    (hi : ops[i]? = some oi := by rfl) (hN : oi.dst = some N := by rfl) (hc : anyT T (bl n m).toList (bl n m').toList i = true := by kernel_rfl) (hw : Region.wanted oi (yielded ops a.tmps) = true := by rfl)
    (hy : ∀ w', (execOp a.eval oi).run P w' = .ok (.value v) w' := by (intro w'; go_simp; with_reducible rfl)) (ha : a.put (some N) v = a' := by (simp only [Act.put, List.setIfInBounds_toArray, List.set_cons_zero, List.set_cons_succ, i64_w, i32_w]; rfl))
    (hQ : ∀ c a w, Q (.panic c) (a.put oi.dst v) w → Q (.panic c) a w := by exact fun _ _ _ h => h) : wpAnyLast P md ops Q S ds (fuel + 1) (bl n m) a w := pure_ (bl n m') hi hN (any_of HT.out hc) hQ (Or.inl ⟨hw, hy⟩) ha h
/-- One whose guard is off. -/
theorem pz {n m fuel : Nat} {oi : Oper} {a a' : Act} {w : World} (i N m' : Nat) (HT : Aside0 (rtab md ops = T)) (h : wpAnyLast P md ops Q S ds fuel (bl n m') a' w)
    (hi : ops[i]? = some oi := by rfl) (hN : oi.dst = some N := by rfl) (hc : anyT T (bl n m).toList (bl n m').toList i = true := by kernel_rfl) (hw : Region.wanted oi (yielded ops a.tmps) = false := by rfl)
    (ha : a.put (some N) undef = a' := by (simp only [Act.put, List.setIfInBounds_toArray, List.set_cons_zero, List.set_cons_succ, i64_w, i32_w]; rfl))
    (hQ : ∀ c a w, Q (.panic c) (a.put oi.dst undef) w → Q (.panic c) a w := by exact fun _ _ _ h => h) : wpAnyLast P md ops Q S ds (fuel + 1) (bl n m) a w := pure_ (bl n m') hi hN (any_of HT.out hc) hQ (Or.inr ⟨hw, rfl⟩) ha h
/-- A load of what is held. -/
theorem tk {n m fuel : Nat} {oi : Oper} {v : Value} {a a' : Act} {w : World} (i N m' : Nat) (HT : Aside0 (rtab md ops = T)) (HW : Aside0 (waitsOk T.2 B = true)) (hS : S w) (h : wpAnyLast P md ops Q S ds fuel (bl n m') a' w)
    (hi : ops[i]? = some oi := by rfl) (hN : oi.dst = some N := by rfl) (hc : takeW T B ds (bl n m).toList (bl n m').toList i = true := by kernel_rfl) (hw : Region.wanted oi (yielded ops a.tmps) = true := by rfl)
    (hy : ∀ w', S w' → (execOp a.eval oi).run P w' = .ok (.value v) w' := by (intro w' hS_; (repeat (have s_ := hS_.1; replace hS_ := hS_.2)); go_simp; with_reducible rfl)) (ha : a.put (some N) v = a' := by (simp only [Act.put, List.setIfInBounds_toArray, List.set_cons_zero, List.set_cons_succ, i64_w, i32_w]; rfl))
    (hQ : ∀ c a w, Q (.panic c) (a.put oi.dst v) w → Q (.panic c) a w := by exact fun _ _ _ h => h) : wpAnyLast P md ops Q S ds (fuel + 1) (bl n m) a w := take_ (bl n m') hi hN (take_ofW HT.out HW.out hc) hQ (Or.inl ⟨hw, hy⟩) hS ha h
end
theorem dq {w : World} {n : Nat} {g : Nat} {o : Option Obj} (h : w.heap[g]? = o) : (w.drewN n).heap[g]? = o := h
theorem up {w w' : World} {p : Addr} {v : Value} (hb : Below w.heap.size w w') (h : w.cell? p = some v) : w'.cell? p = some v := (hb.cell (World.block_lt_of_cell? w _ h)).trans h
theorem uq {w w' : World} {p : Addr} {v : Value} {q : Prop} (hb : Below w.heap.size w w') (h : w.cell? p = some v) (k : w'.cell? p = some v → q := by (intro h_; first | exact h_ | (refine Eq.trans h_ ?_; simp [*]))) : q := k (up hb h)
/-- What stands in the context. -/
theorem as {p : Prop} (h : p := by first | (with_reducible assumption) | assumption) : p := h
theorem q0 {p : Prop} (h : p := by first | rfl | (simp; done) | (simp [*]; done)) : p := h
theorem q1 {p : Prop} (h : p := by first | rfl | (simp [errW_none, errW_some] <;> rfl) | (simp [*, errW_none, errW_some] <;> rfl)) : p := h
/-- The footprint, behind steps that make or draw. -/
theorem bB {p : Prop} (h : p := by repeat (first | (with_reducible first | exact HB.out | apply below_alloc | apply pw_below_drewN | apply below_drew1) | exact HB.out)) : p := h
theorem kK {p : Prop} (h : p := by repeat (first | (with_reducible first | exact HK.out | apply Kept.alloc | apply Kept.drewN | apply Kept.drew) | exact HK.out)) : p := h
theorem dD {p : Prop} (h : p := by repeat (first | exact Drawn0.refl _ | apply Drawn0.step)) : p := h
/-- A row, behind steps that make or draw. -/
theorem Ra {p q : Prop} (h : p) (k : p → q := by (intro h; (with_reducible repeat (first | apply Kd.R_alloc | apply Kd.R_drewN | apply Kd.R_drew)); exact h)) : q := k h
theorem Ca {p q : Prop} (h : p) (k : p → q := by (intro h; repeat (first | exact h | (with_reducible refine Kd.C_alloc ?_ _) | (with_reducible refine Kd.C_drewN ?_ _) | (with_reducible refine Kd.C_drew ?_)))) : q := k h
theorem ar {p : Prop} (h : p := by (try simp only [List.map_toArray, List.map_cons, List.map_nil]); first | done | rfl | (simp only [List.length_drop, List.length_take]; rfl)) : p := h
theorem no {c : Prop} [Decidable c] {α : Type} {x : α} {f : Option α} (hc : ¬ c) (H : (if c then f else none) = some x) {q : Prop} : q := by
  rw [if_neg hc] at H
  cases H
/-- More rounds give the same answer. -/
theorem mono_ {p : Prop} (h : p := by repeat' first | (with_reducible apply ih0) | (with_reducible exact LeO.refl _) | (with_reducible exact LeO.none _) | (with_reducible refine LeO.ite ?_ ?_) | (with_reducible refine LeO.bind ?_ (fun _ => ?_)) | (with_reducible first | apply ih1 | apply ih2 | apply ih3 | apply ih4 | apply ih5 | apply ih6 | apply ih7 | apply ih8 | apply ih9 | apply ih10 | apply ih11 | apply ic0 | apply ic1 | apply ic2 | apply ic3 | apply ic4 | apply ic5 | apply ic6 | apply ic7 | apply ic8 | apply ic9 | apply ic10 | apply ic11 | apply ic12 | apply ic13 | apply ic14 | apply ic15 | apply ic16 | apply ic17 | apply ic18 | apply ic19) | apply ih0 | exact LeO.none _ | refine LeO.ite ?_ ?_ | refine LeO.bind ?_ (fun _ => ?_) | apply ih1 | apply ih2 | apply ih3 | apply ih4 | apply ih5 | apply ih6 | apply ih7 | apply ih8 | apply ih9 | apply ih10 | apply ih11 | apply ic0 | apply ic1 | apply ic2 | apply ic3 | apply ic4 | apply ic5 | apply ic6 | apply ic7 | apply ic8 | apply ic9 | apply ic10 | apply ic11 | apply ic12 | apply ic13 | apply ic14 | apply ic15 | apply ic16 | apply ic17 | apply ic18 | apply ic19) : p := h
end Go.Proofs.Ytdehdhkhcilckaa.My
