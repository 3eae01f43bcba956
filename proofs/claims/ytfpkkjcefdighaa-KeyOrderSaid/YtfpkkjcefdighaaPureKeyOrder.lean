/- KeyOrder: the pure statement, out of the plain laws of keys. -/
import Derived.Test.YtfpkkjcefdighaaSaidKeyOrder
import Derived.Test.YtfpkkjcefdighaaKey
namespace Go.Proofs.Ytfpkkjcefdighaa.PM.GKeyOrder
open Go.RowKit Go.Proofs.YtfpkkjcefdighaaW.PrintWords Go.Proofs.YtfpkkjcefdighaaW.PrintLast Go.Proofs.YtfpkkjcefdighaaW.PrintMore Go.Proofs.Ytfpkkjcefdighaa.PM Go.Proofs.Ytfpkkjcefdighaa.My
set_option linter.unusedVariables false
theorem pure_holds : Pure := by
  intro k s x _ _ _
  generalize x.f0 = a
  generalize x.f1 = b
  refine Ev.rounds (g := fun n => batonlaw02_KeyOrder.f n k s a b) ?_
  unfold batonlaw02_KeyOrder.f
  by_cases h : (s.size : Int) > 100
  · exact ev_if h (ev_c Key.live (ev_now rfl))
  have hs : s.size ≤ 100 := by omega
  refine ev_ifn h (ev_c (Key.tkt_f k a hs) (ev_c (Key.tkt_f k b hs) ?_))
  by_cases ha : (Key.tkt k s a).2 = true
  · refine ev_if ha (Ev.step (fun k => by apply batonlaw02_KeyOrder.j0.eq_2) ?_)
    by_cases hb : (Key.tkt k s b).2 = true
    · refine ev_ifn (by simp [hb]) ?_
      have ha := Key.tkt_yes ha
      have hb := Key.tkt_yes hb
      rw [Key.tkt_pos ha, Key.tkt_pos hb]
      have ia := (Key.inr_iff a).1 ha.2
      have ib := (Key.inr_iff b).1 hb.2
      obtain ⟨m, rfl⟩ := Int.eq_ofNat_of_zero_le ia.1
      obtain ⟨n, rfl⟩ := Int.eq_ofNat_of_zero_le ib.1
      have e1 : m % 16 ^ 10 = m := Nat.mod_eq_of_lt (by omega)
      have e2 : n % 16 ^ 10 = n := Nat.mod_eq_of_lt (by omega)
      refine ev_if ?_ (ev_if ?_ (ev_if ?_ (ev_c Key.live (ev_now rfl))))
      · rw [Key.tl, Key.tl, Key.less_pre, Key.less_tkb, e1, e2]
        simp
      · rw [Key.tl, Key.tl]
        have hm := Key.hexV_tkb m 10 0
        have hn := Key.hexV_tkb n 10 0
        rw [e1] at hm
        rw [e2] at hn
        rw [beq_iff_eq, Bool.eq_iff_iff]
        simp only [beq_iff_eq, List.append_cancel_left_eq]
        constructor
        · intro c
          rw [c, hn] at hm
          simp at hm
          omega
        · intro c; rw [c]
      · rw [Key.sz, Key.sz]; simp [Key.tkb_len]
    · exact ev_if (by simp [hb]) (ev_c Key.live (ev_now rfl))
  · exact ev_ifn ha (Ev.step (fun k => by apply batonlaw02_KeyOrder.j0.eq_2) (ev_if rfl (ev_c Key.live (ev_now rfl))))
end Go.Proofs.Ytfpkkjcefdighaa.PM.GKeyOrder
