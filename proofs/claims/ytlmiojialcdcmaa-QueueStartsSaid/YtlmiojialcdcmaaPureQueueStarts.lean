/- QueueStarts: the pure statement, out of the plain laws of keys. -/
import Derived.Test.YtlmiojialcdcmaaSaidQueueStarts
import Derived.Test.YtlmiojialcdcmaaKey
namespace Go.Proofs.Ytlmiojialcdcmaa.PM.GQueueStarts
open Go.RowKit Go.Proofs.YtlmiojialcdcmaaW.PrintWords Go.Proofs.YtlmiojialcdcmaaW.PrintLast Go.Proofs.YtlmiojialcdcmaaW.PrintMore Go.Proofs.Ytlmiojialcdcmaa.PM Go.Proofs.Ytlmiojialcdcmaa.My
set_option linter.unusedVariables false
theorem live : batonlaw19_live.f = some true := by decide +kernel
abbrev E : ByteArray := ⟨#[]⟩
def sta (k : Int) (n v : ByteArray) : Int × ByteArray × Int × ByteArray × ByteArray × Int × Int × Int × Int × Int × Bool :=
  if Key.nam n = true then (if k = 8 then (k, n, 0, E, E, 0, 2, 0, 0, 0, true) else if k = 7 ∧ v.size ≤ 20 then (k, n, 0, v, E, 0, 1, 0, 0, 0, true) else (0, E, 0, E, E, 0, 0, 0, 0, 0, false)) else (0, E, 0, E, E, 0, 0, 0, 0, 0, false)
theorem sta_f (k : Int) (n v : ByteArray) : queue_Start.f k n v = some (sta k n v) := by
  unfold queue_Start.f sta
  rw [Key.nam_f, Option.bind_some]
  by_cases h : Key.nam n = true
  · rw [if_pos h, if_pos h]
    by_cases h8 : k = 8
    · rw [if_pos h8, if_pos h8]
    · rw [if_neg h8, if_neg h8]
      by_cases h7 : k = 7
      · rw [if_pos h7]
        by_cases hv : v.size ≤ 20
        · rw [if_pos (by omega), if_pos ⟨h7, hv⟩]
        · rw [if_neg (by omega), if_neg (fun e => hv e.2)]
      · rw [if_neg h7, if_neg (fun e => h7 e.1)]
  · rw [if_neg h, if_neg h]
theorem sta_r (k : Int) {n : ByteArray} (v : ByteArray) (hn : n.size ≤ 100) : Ev (fun f => batonref19_Start.f f k n v) (sta k n v) := by
  unfold batonref19_Start.f sta
  refine ev_b (Key.nam_ref hn) ?_
  by_cases h : Key.nam n = true
  · refine ev_if h ?_
    rw [if_pos h]
    by_cases h8 : k = 8
    · refine ev_if h8 (ev_now ?_); rw [if_pos h8]
    · refine ev_ifn h8 ?_
      rw [if_neg h8]
      by_cases h7 : k = 7
      · refine ev_if h7 ?_
        by_cases hv : v.size ≤ 20
        · refine ev_ifn (by omega) (ev_now ?_); rw [if_pos ⟨h7, hv⟩]
        · refine ev_if (by omega) (ev_now ?_); rw [if_neg (fun e => hv e.2)]
      · refine ev_ifn h7 (ev_now ?_); rw [if_neg (fun e => h7 e.1)]
  · refine ev_ifn h (ev_now ?_); rw [if_neg h]
abbrev Rq : Type := Int × Int × Int × Bool × ByteArray × ByteArray × Int × Int × Int × Int × List S51 × List S76 × List S76 × Bool
def zr : Rq := (0, 0, 0, false, E, E, 0, 0, 0, 0, [], [], [], false)
def ask (x : S24) : Rq :=
  if Key.may x.f0 x.f1 = true then
    (if x.f0 = 7 ∧ x.f4.toList = [] then zr
     else if x.f0 = 7 ∧ x.f6 = 1 then (2, 0, 0, true, E, E, 0, 0, 0, 0, [⟨x.f4, 1, 1, 0, E⟩], [⟨false, x.f4, x.f3, 0⟩], [], true)
     else if x.f0 = 8 ∧ x.f6 = 2 then (1, 0, 0, false, (Key.prf x.f0 x.f1).1, E, 0, 0, 0, 0, [], [], [], true)
     else if x.f0 = 8 ∧ x.f6 = 3 then (3, 0, 0, false, (Key.prf x.f0 x.f1).1, E, 0, x.f8, 0, 0, [], [], [], true)
     else if x.f0 = 8 ∧ x.f6 = 10 then (2, 0, 0, true, E, E, 0, 0, 0, 0, [⟨x.f4, 1, 1, x.f7, E⟩], [⟨true, x.f4, E, 0⟩], [], true)
     else zr)
  else zr
theorem prf2 (k : Int) (s : ByteArray) : (Key.prf k s).2 = Key.may k s := by
  unfold Key.prf
  by_cases h : Key.may k s = true
  · rw [if_pos h, h]
  · rw [if_neg h]; simpa using h
theorem ask_f (x : S24) (hn : x.f1.size ≤ 100) : queue_Ask.f x.f0 x.f1 x.f2 x.f3 x.f4 x.f5 x.f6 x.f7 x.f8 x.f9 = some (ask x) := by
  unfold queue_Ask.f ask
  rw [Key.prf_f _ hn, Option.bind_some, prf2]
  by_cases h : Key.may x.f0 x.f1 = true
  · rw [if_pos h, if_pos h]
    by_cases h1 : x.f0 = 7 ∧ x.f4.toList = []
    · rw [if_pos h1, if_pos h1]; rfl
    · rw [if_neg h1, if_neg h1]
      show (if x.f0 = 7 ∧ x.f6 = 1 then _ else _) = _
      by_cases h2 : x.f0 = 7 ∧ x.f6 = 1
      · rw [if_pos h2, if_pos h2]
      rw [if_neg h2, if_neg h2]
      by_cases h3 : x.f0 = 8 ∧ x.f6 = 2
      · rw [if_pos h3, if_pos h3]
      rw [if_neg h3, if_neg h3]
      by_cases h4 : x.f0 = 8 ∧ x.f6 = 3
      · rw [if_pos h4, if_pos h4]
      rw [if_neg h4, if_neg h4]
      by_cases h5 : x.f0 = 8 ∧ x.f6 = 10
      · rw [if_pos h5, if_pos h5]
      rw [if_neg h5, if_neg h5]; rfl
  · rw [if_neg h, if_neg h]; rfl
theorem ask_r (x : S24) (hn : x.f1.size ≤ 100) : Ev (fun f => batonref19_Ask.f f x.f0 x.f1 x.f2 x.f3 x.f4 x.f5 x.f6 x.f7 x.f8 x.f9) (ask x) := by
  unfold batonref19_Ask.f ask
  refine ev_b (Key.prf_ref _ hn) ?_
  rw [prf2]
  by_cases h : Key.may x.f0 x.f1 = true
  · refine ev_if h ?_
    rw [if_pos h]
    have J (b : Bool) (r : Rq) (hr : Ev (fun k => if b = true then ((batonref06_Put.f x.f4 x.f3 0).bind fun bt482 => (some (2, 0, 0, true, E, E, 0, 0, 0, 0, bt482.1, bt482.2.1, bt482.2.2, true))) else (if x.f0 = 8 then (if x.f6 = 2 then (some (1, 0, 0, false, (Key.prf x.f0 x.f1).1, E, 0, 0, 0, 0, [], [], [], true)) else (if x.f6 = 3 then (some (3, 0, 0, false, (Key.prf x.f0 x.f1).1, E, 0, x.f8, 0, 0, [], [], [], true)) else (if x.f6 = 10 then ((batonref06_Drop.f x.f4 x.f7).bind fun bt491 => (some (2, 0, 0, true, E, E, 0, 0, 0, 0, bt491.1, bt491.2.1, bt491.2.2, true))) else (some zr)))) else (some zr))) r) : Ev (fun k => batonref19_Ask.j0 k (Key.prf x.f0 x.f1).1 b x.f0 x.f1 x.f2 x.f3 x.f4 x.f5 x.f6 x.f7 x.f8 x.f9) r :=
      Ev.step (fun n => by apply batonref19_Ask.j0.eq_2) hr
    by_cases h7 : x.f0 = 7
    · refine ev_if h7 ?_
      have n8 : ¬ x.f0 = 8 := by omega
      by_cases h6 : x.f6 = 1
      · refine ev_if h6 (J _ _ ?_)
        by_cases h4 : x.f4.toList = []
        · refine ev_ifn (by simp [h4]) (ev_ifn n8 (ev_now ?_))
          rw [if_pos ⟨h7, h4⟩]
        · refine ev_if (by simpa using h4) (ev_now ?_)
          rw [if_neg (fun e => h4 e.2), if_pos ⟨h7, h6⟩]
      · refine ev_ifn h6 (J _ _ (ev_ifn (by simp) (ev_ifn n8 (ev_now ?_))))
        by_cases h4 : x.f4.toList = []
        · rw [if_pos ⟨h7, h4⟩]
        · rw [if_neg (fun e => h4 e.2), if_neg (fun e => h6 e.2), if_neg (fun e => n8 e.1), if_neg (fun e => n8 e.1), if_neg (fun e => n8 e.1)]
    · refine ev_ifn h7 (J _ _ (ev_ifn (by simp) ?_))
      have m1 : ¬ (x.f0 = 7 ∧ x.f4.toList = []) := fun e => h7 e.1
      have m2 : ¬ (x.f0 = 7 ∧ x.f6 = 1) := fun e => h7 e.1
      by_cases h8 : x.f0 = 8
      · refine ev_if h8 ?_
        by_cases h2 : x.f6 = 2
        · refine ev_if h2 (ev_now ?_); rw [if_neg m1, if_neg m2, if_pos ⟨h8, h2⟩]
        refine ev_ifn h2 ?_
        by_cases h3 : x.f6 = 3
        · refine ev_if h3 (ev_now ?_); rw [if_neg m1, if_neg m2, if_neg (fun e => h2 e.2), if_pos ⟨h8, h3⟩]
        refine ev_ifn h3 ?_
        by_cases h10 : x.f6 = 10
        · refine ev_if h10 (ev_now ?_); rw [if_neg m1, if_neg m2, if_neg (fun e => h2 e.2), if_neg (fun e => h3 e.2), if_pos ⟨h8, h10⟩]
        · refine ev_ifn h10 (ev_now ?_); rw [if_neg m1, if_neg m2, if_neg (fun e => h2 e.2), if_neg (fun e => h3 e.2), if_neg (fun e => h10 e.2)]
      · refine ev_ifn h8 (ev_now ?_)
        rw [if_neg m1, if_neg m2, if_neg (fun e => h8 e.1), if_neg (fun e => h8 e.1), if_neg (fun e => h8 e.1)]
  · refine ev_ifn h (ev_now ?_); rw [if_neg h]; rfl
def lab (x : S24) (id : Int) : S24 := if x.f0 = 7 ∧ x.f6 = 1 ∧ x.f4.toList = [] ∧ (Key.tkt 7 x.f1 id).2 = true then { x with f4 := (Key.tkt 7 x.f1 id).1 } else x
abbrev tup (x : S24) : Int × ByteArray × Int × ByteArray × ByteArray × Int × Int × Int × Int × Int := (x.f0, x.f1, x.f2, x.f3, x.f4, x.f5, x.f6, x.f7, x.f8, x.f9)
theorem lab_f (x : S24) (id : Int) (hn : x.f1.size ≤ 100) : queue_Label.f x.f0 x.f1 x.f2 x.f3 x.f4 x.f5 x.f6 x.f7 x.f8 x.f9 id = some (tup (lab x id)) := by
  unfold queue_Label.f lab
  rw [Key.tkt_f _ _ hn, Option.bind_some]
  show (if (Key.tkt 7 x.f1 id).2 = true then (if (x.f0 == 7 && (x.f6 == 1)) = true then _ else _) else _) = _
  by_cases ht : (Key.tkt 7 x.f1 id).2 = true
  · rw [if_pos ht]
    by_cases h7 : x.f0 = 7 ∧ x.f6 = 1
    · rw [if_pos (by simp [h7])]
      by_cases h4 : x.f4.toList = []
      · rw [if_pos h4, if_pos ⟨h7.1, h7.2, h4, ht⟩]
      · rw [if_neg h4, if_neg (fun e => h4 e.2.2.1)]
    · rw [if_neg (by simpa using h7), if_neg (fun e => h7 ⟨e.1, e.2.1⟩)]
  · rw [if_neg ht, if_neg (fun e => ht e.2.2.2)]
theorem lab_r (x : S24) (id : Int) (hn : x.f1.size ≤ 100) : Ev (fun f => batonref19_Label.f f x.f0 x.f1 x.f2 x.f3 x.f4 x.f5 x.f6 x.f7 x.f8 x.f9 id) (tup (lab x id)) := by
  unfold batonref19_Label.f lab
  refine ev_b (Key.tkt_ref 7 id hn) ?_
  by_cases h7 : x.f0 = 7
  · refine ev_if h7 ?_
    by_cases h6 : x.f6 = 1
    · refine ev_if h6 ?_
      by_cases h4 : x.f4.toList = []
      · refine ev_if h4 ?_
        by_cases ht : (Key.tkt 7 x.f1 id).2 = true
        · refine ev_if ht (ev_now ?_); rw [if_pos ⟨h7, h6, h4, ht⟩]
        · refine ev_ifn ht (ev_now ?_); rw [if_neg (fun e => ht e.2.2.2)]
      · refine ev_ifn h4 (ev_now ?_); rw [if_neg (fun e => h4 e.2.2.1)]
    · refine ev_ifn h6 (ev_now ?_); rw [if_neg (fun e => h6 e.2.1)]
  · refine ev_ifn h7 (ev_now ?_); rw [if_neg (fun e => h7 e.1)]
theorem muts0 : Ev (fun k => batonref03_Muts.f k [] []) true := ⟨1, fun k hk => by obtain ⟨m, rfl⟩ : ∃ m, k = m + 1 := ⟨k - 1, by omega⟩; simp [batonref03_Muts.f, batonref03_Muts.l0]⟩
theorem muts1 (y : S76) : Ev (fun k => batonref03_Muts.f k [y] [y]) true := by
  refine ⟨2, fun k hk => ?_⟩
  obtain ⟨m, rfl⟩ : ∃ m, k = m + 2 := ⟨k - 2, by omega⟩
  simp [batonref03_Muts.f, batonref03_Muts.l0, rd_T76, wrap64]
theorem same (a b c : Int) (d : Bool) (e f : ByteArray) (g h i j : Int) (l0 : List S51) (l1 l2 : List S76) (h0 : l0 = [] ∨ ∃ y, l0 = [y]) (h1 : Ev (fun k => batonref03_Muts.f k l1 l1) true) (h2 : Ev (fun k => batonref03_Muts.f k l2 l2) true) :
    Ev (fun k => batonref03_Same.f k a b c d e f g h i j l0 l1 l2 a b c d e f g h i j l0 l1 l2) true := by
  unfold batonref03_Same.f
  refine ev_if rfl (ev_if rfl (ev_if rfl (ev_ifn (by simp) (ev_if rfl (ev_if rfl (ev_if rfl (ev_if rfl (ev_if rfl (ev_if rfl ?_)))))))))
  refine Ev.step (fun n => by apply batonref03_Same.j0.eq_2) (ev_ifn (by simp) ?_)
  rcases h0 with rfl | ⟨y, rfl⟩
  · refine Ev.step (fun n => by apply batonref03_Same.l0.eq_2) (ev_ifn (by simp) (ev_b h1 (ev_if rfl (ev_b h2 (ev_now rfl)))))
  · refine Ev.step (fun n => by apply batonref03_Same.l0.eq_2) (ev_if (by simp) (ev_if (by decide) (ev_if (by simp) (ev_ifn (by simp) ?_))))
    refine Ev.step (fun n => by apply batonref03_Same.l0.eq_2) (ev_ifn (by simp [wrap64]) (ev_b h1 (ev_if rfl (ev_b h2 (ev_now rfl)))))
theorem ask_shape (x : S24) : ((ask x).2.2.2.2.2.2.2.2.2.2.1 = [] ∨ ∃ y, (ask x).2.2.2.2.2.2.2.2.2.2.1 = [y]) ∧ ((ask x).2.2.2.2.2.2.2.2.2.2.2.1 = [] ∨ ∃ y, (ask x).2.2.2.2.2.2.2.2.2.2.2.1 = [y]) ∧ (ask x).2.2.2.2.2.2.2.2.2.2.2.2.1 = [] := by
  unfold ask
  repeat' split
  all_goals simp [zr]
theorem mut_of {l : List S76} (h : l = [] ∨ ∃ y, l = [y]) : Ev (fun k => batonref03_Muts.f k l l) true := by
  rcases h with rfl | ⟨y, rfl⟩
  · exact muts0
  · exact muts1 y
theorem pure_holds : Pure := by
  intro x a v hx ha hv
  refine Ev.rounds (g := fun n => batonlaw19_QueueStarts.f n x.f0 x.f1 x.f2 x.f3 x.f4 x.f5 x.f6 x.f7 x.f8 x.f9 a v) ?_
  unfold batonlaw19_QueueStarts.f
  have no : Ev (fun n => batonlaw19_QueueStarts.j0 n a v true x.f0 x.f1 x.f2 x.f3 x.f4 x.f5 x.f6 x.f7 x.f8 x.f9) true := Ev.step (fun n => by apply batonlaw19_QueueStarts.j0.eq_2) (ev_if rfl (ev_c live (ev_now rfl)))
  by_cases hs : (x.f1.size : Int) ≤ 60 ∧ (x.f3.size : Int) ≤ 60 ∧ (x.f4.size : Int) ≤ 60
  · refine ev_c (b := true) (by unfold batonref16_Short.f; rw [if_pos hs.1, if_pos hs.2.1, decide_eq_true hs.2.2]) (ev_if rfl ?_)
    by_cases hv : (v.size : Int) > 60
    · rw [decide_eq_true hv]; exact no
    rw [decide_eq_false hv]
    have hn : x.f1.size ≤ 100 := by omega
    have hstn : (sta x.f0 x.f1 v).2.1.size ≤ 100 := by
      unfold sta
      repeat' split
      all_goals first | exact hn | decide
    refine Ev.step (fun n => by apply batonlaw19_QueueStarts.j0.eq_2) (ev_ifn (by decide) ?_)
    refine ev_c (sta_f _ _ _) (ev_b (sta_r _ _ hn) (ev_c (ask_f x hn) (ev_b (ask_r x hn) ?_)))
    refine ev_if (by simp) (ev_if (by simp) ?_)
    refine ev_c (lab_f x a hn) (ev_b (lab_r x a hn) (ev_if (by simp) ?_))
    generalize sta x.f0 x.f1 v = s at hstn
    obtain ⟨s0, s1, s2, s3, s4, s5, s6, s7, s8, s9, s10⟩ := s
    refine ev_c (lab_f ⟨s0, s1, s2, s3, s4, s5, s6, s7, s8, s9⟩ a hstn) (ev_b (lab_r ⟨s0, s1, s2, s3, s4, s5, s6, s7, s8, s9⟩ a hstn) (ev_if (by simp) ?_))
    obtain ⟨h0, h1, h2⟩ := ask_shape x
    refine ev_b (same _ _ _ _ _ _ _ _ _ _ _ _ _ h0 (mut_of h1) (mut_of (.inl h2))) (ev_if rfl (ev_if (by simp) (ev_c live (ev_now rfl))))
  · have hs2 : batonref16_Short.f x.f0 x.f1 x.f2 x.f3 x.f4 x.f5 x.f6 x.f7 x.f8 x.f9 = some false := by
      unfold batonref16_Short.f
      by_cases h1 : (x.f1.size : Int) ≤ 60
      · rw [if_pos h1]
        by_cases h3 : (x.f3.size : Int) ≤ 60
        · rw [if_pos h3, decide_eq_false (fun h4 => hs ⟨h1, h3, h4⟩)]
        · rw [if_neg h3]
      · rw [if_neg h1]
    exact ev_c hs2 (ev_ifn (by decide) no)
end Go.Proofs.Ytlmiojialcdcmaa.PM.GQueueStarts
