/- A scope with two labels that the run jumps back to: what holds at each, and a measure that every pass lowers. After the library's rule for one label. -/
import Derived.Test.YtaebmmjhokjdbaaMy
import Derived.ScopeJumps
import Derived.WalkMore
namespace Go.Proofs.Ytaebmmjhokjdbaa.My
set_option linter.unusedVariables false
/-! A scope with two labels that the run jumps back to. -/
section
variable {P : Program} {Q : Exit → Act → World → Prop}
/-- As Q; by a goto to label l: J l. -/
def jumps (J : Nat → Act → World → Prop) (Q : Exit → Act → World → Prop) : Exit → Act → World → Prop
  | .goto l, a, w => J l a w
  | e, a, w => Q e a w
theorem jumps_ret (J : Nat → Act → World → Prop) (a : Act) (w : World) : jumps J Q .ret a w = Q .ret a w := rfl
theorem jumps_goto (J : Nat → Act → World → Prop) (l : Nat) (a : Act) (w : World) : jumps J Q (.goto l) a w = J l a w := rfl
def two (J0 J1 : Nat → Act → World → Prop) (n : Nat) (l : Nat) (a : Act) (w : World) : Prop := ∃ m, m < n ∧ ((l = 0 ∧ J0 m a w) ∨ (l = 1 ∧ J1 m a w))
def twoAny (J0 J1 : Nat → Act → World → Prop) (l : Nat) (a : Act) (w : World) : Prop := ∃ m, (l = 0 ∧ J0 m a w) ∨ (l = 1 ∧ J1 m a w)
theorem jumps_mono {c : Code} {J J' : Nat → Act → World → Prop} {a : Act} {w : World} (h : c.wp P (jumps J Q) a w) (hj : ∀ l a w, J l a w → J' l a w) : c.wp P (jumps J' Q) a w := wp_mono h fun e a w q => by
  cases e with
  | goto l => exact hj l a w q
  | _ => exact q
theorem wp_scope_two {c r0 r1 : Code} (J0 J1 : Nat → Act → World → Prop) {a : Act} {w : World} (h0 : findLabel c 0 = some (.seq .skip r0)) (h1 : findLabel c 1 = some (.seq .skip r1))
    (p1 : ∀ n a w, J1 n a w → r1.wp P (jumps (two J0 J1 n) Q) a w)
    (p0 : (∀ m n a w, m ≤ n → J1 m a w → r1.wp P (jumps (two J0 J1 n) Q) a w) → ∀ n a w, J0 n a w → r0.wp P (jumps (two J0 J1 n) Q) a w)
    (first : (∀ n a w, J0 n a w → r0.wp P (jumps (twoAny J0 J1) Q) a w) → c.wp P (jumps (twoAny J0 J1) Q) a w) : (Code.scope c).wp P Q a w := by
  have q1 : ∀ m n a w, m ≤ n → J1 m a w → r1.wp P (jumps (two J0 J1 n) Q) a w := fun m n a w hm h => jumps_mono (p1 m a w h) fun l a w ⟨x, h1, h2⟩ => ⟨x, Nat.lt_of_lt_of_le h1 hm, h2⟩
  have q0 := p0 q1
  have any : ∀ n l a w, two J0 J1 n l a w → twoAny J0 J1 l a w := fun n l a w ⟨x, _, h⟩ => ⟨x, h⟩
  have hs := first fun n a w h => jumps_mono (q0 n a w h) fun l a w => any n l a w
  intro b k cs
  have hg0 : gotoIn 0 (.inScope c :: k) = some (.code (.seq .skip r0) :: .inScope c :: k) := by simp [gotoIn, h0]
  have hg1 : gotoIn 1 (.inScope c :: k) = some (.code (.seq .skip r1) :: .inScope c :: k) := by simp [gotoIn, h1]
  have key : ∀ n l a w, ((l = 0 ∧ J0 n a w) ∨ (l = 1 ∧ J1 n a w)) → ∃ r, gotoIn l (.inScope c :: k) = some (.code r :: .inScope c :: k) ∧ ∃ e a' w', Q e a' w' ∧ Arrives P (lone (b.at a (.code r :: .inScope c :: k)) cs w) b k cs e a' w' := by
    intro n
    induction n using Nat.strongRecOn with
    | _ n ih =>
      intro l a w hJ
      obtain ⟨r, hg, hr⟩ : ∃ r, gotoIn l (.inScope c :: k) = some (.code r :: .inScope c :: k) ∧ r.wp P (jumps (two J0 J1 n) Q) a w := by
        rcases hJ with ⟨rfl, h⟩ | ⟨rfl, h⟩
        · exact ⟨_, hg0, wp_seq (wp_skip (q0 n a w h))⟩
        · exact ⟨_, hg1, wp_seq (wp_skip (p1 n a w h))⟩
      refine ⟨r, hg, ?_⟩
      obtain ⟨e, a₁, w₁, hq, harr⟩ := hr b (.inScope c :: k) cs
      cases e with
      | normal => exact ⟨.normal, a₁, w₁, hq, Steps.trans harr (.one step_inScope)⟩
      | exit id => exact ⟨.exit id, a₁, w₁, hq, fun k' hk => harr k' (by simp [exitTo, hk])⟩
      | goto l' =>
        obtain ⟨m, hlt, hJ'⟩ := hq
        obtain ⟨r', hg', e₂, a₂, w₂, hq₂, harr₂⟩ := ih m hlt l' a₁ w₁ hJ'
        exact ⟨e₂, a₂, w₂, hq₂, .of_steps (harr _ hg') harr₂⟩
      | ret => exact ⟨_, a₁, w₁, hq, harr⟩
      | panic ch => exact ⟨_, a₁, w₁, hq, harr⟩
      | outgrown => exact ⟨_, a₁, w₁, hq, harr⟩
  obtain ⟨e, a₁, w₁, hq, harr⟩ := hs b (.inScope c :: k) cs
  cases e with
  | normal => exact ⟨.normal, a₁, w₁, hq, .head step_scope (Steps.trans harr (.one step_inScope))⟩
  | exit id => exact ⟨.exit id, a₁, w₁, hq, fun k' hk => .head step_scope (harr k' (by simp [exitTo, hk]))⟩
  | goto l' =>
    obtain ⟨m, hJ'⟩ := hq
    obtain ⟨r', hg', e₂, a₂, w₂, hq₂, harr₂⟩ := key m l' a₁ w₁ hJ'
    exact ⟨e₂, a₂, w₂, hq₂, .of_steps (.head step_scope (harr _ hg')) harr₂⟩
  | ret => exact ⟨_, a₁, w₁, hq, .of_steps (.one step_scope) harr⟩
  | panic ch => exact ⟨_, a₁, w₁, hq, .of_steps (.one step_scope) harr⟩
  | outgrown => exact ⟨_, a₁, w₁, hq, .of_steps (.one step_scope) harr⟩
end
end Go.Proofs.Ytaebmmjhokjdbaa.My
