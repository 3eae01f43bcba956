/- KeyBack: the pure statement, out of the plain laws of keys. -/
import Derived.Test.YtfpkkjcefdighaaSaidKeyBack
import Derived.Test.YtfpkkjcefdighaaKey
namespace Go.Proofs.Ytfpkkjcefdighaa.PM.GKeyBack
open Go.RowKit Go.Proofs.YtfpkkjcefdighaaW.PrintWords Go.Proofs.YtfpkkjcefdighaaW.PrintLast Go.Proofs.YtfpkkjcefdighaaW.PrintMore Go.Proofs.Ytfpkkjcefdighaa.PM Go.Proofs.Ytfpkkjcefdighaa.My
set_option linter.unusedVariables false
theorem pure_holds : Pure := by
  intro k s id _ _ _
  unfold batonlaw02_KeyBack.f
  by_cases h : (s.size : Int) > 100
  · rw [if_pos h, Key.live]; rfl
  have hs : s.size ≤ 100 := by omega
  rw [if_neg h, Key.tkt_f k id hs, Key.prf_f k hs, Option.bind_some, Option.bind_some]
  by_cases hm : Key.may k s = true
  · rw [Key.prf_pos hm]
    by_cases hi : Key.inr id = true
    · have hn := ((Key.may_iff k s).1 hm)
      have hk : k ≥ 1 ∧ k ≤ 8 := by
        have := hn.1
        unfold Key.lett at this
        refine ⟨?_, ?_⟩ <;> (apply Decidable.byContradiction; intro c; apply this; rw [if_neg (by omega), if_neg (by omega), if_neg (by omega), if_neg (by omega), if_neg (by omega), if_neg (by omega)])
      rw [Key.tkt_pos ⟨hm, hi⟩, if_pos rfl, Key.id_f, Key.id_cat _ _ hi, Option.bind_some, if_pos rfl, if_pos rfl, if_pos rfl, Key.chk_f, Key.chk_cat hm hi, Option.bind_some, if_pos rfl, Key.und_f, Key.und_cat _ _ (by intro c; have := congrArg List.length c; rw [Key.tkb_len] at this; simp at this), Option.bind_some, if_pos rfl, Key.nam_f, hn.2, Option.bind_some, if_pos rfl, if_pos hk.1, if_pos hk.2, Key.live]
      rfl
    · have := mt (Key.inr_iff id).2 hi
      rw [Key.tkt_neg (fun c => hi c.2), if_neg (by simp), if_pos (by rw [Key.tl]), if_pos rfl, Key.live]
      by_cases c : id < 0
      · rw [if_pos c]; rfl
      · rw [if_neg c, if_pos (by omega)]; rfl
  · rw [Key.prf_neg hm, Key.tkt_neg (fun c => hm c.1), if_neg (by simp), if_pos (by rw [Key.tl]), if_neg (by simp), Key.live]
    rfl
end Go.Proofs.Ytfpkkjcefdighaa.PM.GKeyBack
