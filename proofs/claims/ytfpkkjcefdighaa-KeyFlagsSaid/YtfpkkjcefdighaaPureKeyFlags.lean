/- KeyFlags: the pure statement, out of the plain laws of keys. -/
import Derived.Test.YtfpkkjcefdighaaSaidKeyFlags
import Derived.Test.YtfpkkjcefdighaaKey
namespace Go.Proofs.Ytfpkkjcefdighaa.PM.GKeyFlags
open Go.RowKit Go.Proofs.YtfpkkjcefdighaaW.PrintWords Go.Proofs.YtfpkkjcefdighaaW.PrintLast Go.Proofs.YtfpkkjcefdighaaW.PrintMore Go.Proofs.Ytfpkkjcefdighaa.PM Go.Proofs.Ytfpkkjcefdighaa.My
set_option linter.unusedVariables false
theorem pure_holds : Pure := by
  intro s id _ _
  unfold batonlaw02_KeyFlags.f
  by_cases h : (s.size : Int) > 100
  · rw [if_pos h, Key.live]; rfl
  have hs : s.size ≤ 100 := by omega
  rw [if_neg h, Key.flg_f hs, Key.prf_f 6 hs, Key.tkt_f 6 id hs, Option.bind_some, Option.bind_some, Option.bind_some]
  unfold Key.flg
  by_cases hn : Key.nam s = true
  · have hm : Key.may 6 s = true := by rw [Key.may6, hn]
    have hz := Key.nam_sz hn
    have hl := Key.pre_len (k := 6) (s := s)
    have hll : (Key.lett 6).length = 1 := rfl
    have hc : Key.chk ⟨(Key.pre 6 s ++ [111, 112, 101, 110]).toArray⟩ = true := by
      unfold Key.chk
      rw [Key.sz]
      have e : ([111, 112, 101, 110] : List UInt8).all Key.okB = true := by unfold Key.okB; decide
      simp only [List.length_append, hl, hll, List.all_append, Key.pre_ok hn, e, Bool.and_true, Bool.and_eq_true, decide_eq_true_eq, List.length_cons, List.length_nil]
      omega
    have hi : Key.idr ⟨(Key.pre 6 s).toArray⟩ ⟨(Key.pre 6 s ++ [111, 112, 101, 110]).toArray⟩ = (0, false) := by
      unfold Key.idr
      rw [if_neg]
      rw [Key.sz, Key.sz]
      simp
    rw [if_pos hn, Key.prf_pos hm, if_pos rfl, Key.id_f, hi, Option.bind_some, if_pos rfl, Key.chk_f, hc, Option.bind_some, if_pos rfl, Key.und_f, Key.und_cat _ _ (by simp), Option.bind_some, if_pos rfl, if_neg (by simp), Key.live]
    by_cases ht : Key.inr id = true
    · rw [Key.tkt_pos ⟨hm, ht⟩, if_pos rfl, if_neg]
      · rfl
      · rw [Key.tl, Key.tl]
        intro c
        have := congrArg List.length c
        simp [Key.tkb_len] at this
    · rw [Key.tkt_neg (fun c => ht c.2), if_neg (by simp)]
      rfl
  · have hm : ¬ Key.may 6 s = true := by rw [Key.may6]; exact hn
    rw [if_neg hn, Key.prf_neg hm, if_neg (by simp), if_pos (by rw [Key.tl]), if_neg (by simp), Key.nam_f, Option.bind_some, if_neg hn, Key.live]
    rfl
end Go.Proofs.Ytfpkkjcefdighaa.PM.GKeyFlags
