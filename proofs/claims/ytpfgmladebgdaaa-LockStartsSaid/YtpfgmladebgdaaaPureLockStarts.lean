/- LockStarts: the pure statement, out of the plain laws of keys. -/
import Derived.Test.YtpfgmladebgdaaaSaidLockStarts
import Derived.Test.YtpfgmladebgdaaaKey
namespace Go.Proofs.Ytpfgmladebgdaaa.PM.GLockStarts
open Go.RowKit Go.Proofs.YtpfgmladebgdaaaW.PrintWords Go.Proofs.YtpfgmladebgdaaaW.PrintLast Go.Proofs.YtpfgmladebgdaaaW.PrintMore Go.Proofs.Ytpfgmladebgdaaa.PM Go.Proofs.Ytpfgmladebgdaaa.My
set_option linter.unusedVariables false
theorem live : Ev (fun k => batonlaw16_live.f k) true := Ev.of (fun k => batonlaw16_live.mono k) (k := 60) (by decide +kernel)
abbrev E : ByteArray := ⟨#[]⟩
def sg (k : Int) : ByteArray := if k = 2 then ⟨#[114]⟩ else if k = 3 then ⟨#[119]⟩ else E
theorem sg_f (k : Int) : ticket_Sign.f k = some (sg k) := by
  unfold ticket_Sign.f sg
  by_cases h : k = 2
  · rw [if_pos h, if_pos h]
  · rw [if_neg h, if_neg h]
    by_cases h : k = 3
    · rw [if_pos h, if_pos h]
    · rw [if_neg h, if_neg h]
theorem sg_r (k : Int) : batonref15_Sign.f k = some (sg k) := sg_f k
abbrev Ma : Type := Int × ByteArray × Int × ByteArray × ByteArray × Int × Int × Int × Int × Int × Bool
def zm : Ma := (0, E, 0, E, E, 0, 0, 0, 0, 0, false)
def sta (k : Int) (n : ByteArray) (c : Int) (v : ByteArray) : Ma :=
  if 1 ≤ k ∧ k ≤ 5 ∧ Key.nam n = true ∧ (k = 4 → 1 ≤ c ∧ c ≤ 100) ∧ (k = 5 → v.size ≤ 20) then (k, n, if k = 4 then c else 0, if k = 5 then v else sg k, E, 0, 1, 0, 0, 0, true) else zm
theorem sta_f (k : Int) (n : ByteArray) (c : Int) (v : ByteArray) : Ev (fun f => lock_Start.f f k n c v) (sta k n c v) := by
  unfold lock_Start.f sta
  refine ev_c (sg_f k) (ev_c (Key.nam_f n) ?_)
  by_cases h4 : k = 4
  · subst h4
    refine ev_if rfl ?_
    by_cases hn : Key.nam n = true
    · refine ev_if hn ?_
      by_cases h1 : c ≥ 1
      · refine ev_if h1 ?_
        by_cases h2 : c ≤ 100
        · refine ev_if h2 (ev_now ?_); rw [if_pos ⟨by decide, by decide, hn, fun _ => ⟨h1, h2⟩, fun e => by omega⟩]; rfl
        · refine ev_ifn h2 (ev_now ?_); rw [if_neg (fun e => h2 (e.2.2.2.1 rfl).2)]; rfl
      · refine ev_ifn h1 (ev_now ?_); rw [if_neg (fun e => h1 (e.2.2.2.1 rfl).1)]; rfl
    · refine ev_ifn hn (ev_now ?_); rw [if_neg (fun e => hn e.2.2.1)]; rfl
  refine ev_ifn h4 ?_
  by_cases h5 : k = 5
  · subst h5
    refine ev_if rfl ?_
    by_cases hn : Key.nam n = true
    · refine ev_if hn ?_
      by_cases hv : (v.size : Int) ≤ 20
      · refine ev_if hv (ev_now ?_); rw [if_pos ⟨by decide, by decide, hn, fun e => absurd e (by decide), fun _ => by omega⟩]; rfl
      · refine ev_ifn hv (ev_now ?_); rw [if_neg (fun e => hv (by have := e.2.2.2.2 rfl; omega))]; rfl
    · refine ev_ifn hn (ev_now ?_); rw [if_neg (fun e => hn e.2.2.1)]; rfl
  refine ev_ifn h5 ?_
  have J (b : Bool) (hb : b = true ↔ 1 ≤ k ∧ k ≤ 5) : Ev (fun f => lock_Start.j0 f (Key.nam n) b k n 0 (sg k) E 0 1 0 0 0) (if 1 ≤ k ∧ k ≤ 5 ∧ Key.nam n = true ∧ (k = 4 → 1 ≤ c ∧ c ≤ 100) ∧ (k = 5 → v.size ≤ 20) then (k, n, if k = 4 then c else 0, if k = 5 then v else sg k, E, 0, 1, 0, 0, 0, true) else zm) := by
    refine Ev.step (fun n => by apply lock_Start.j0.eq_2) ?_
    by_cases hb1 : b = true
    · refine ev_if hb1 ?_
      by_cases hn : Key.nam n = true
      · refine ev_if hn (ev_now ?_); rw [if_pos ⟨(hb.1 hb1).1, (hb.1 hb1).2, hn, fun e => absurd e h4, fun e => absurd e h5⟩, if_neg h4, if_neg h5]
      · refine ev_ifn hn (ev_now ?_); rw [if_neg (fun e => hn e.2.2.1)]; rfl
    · refine ev_ifn hb1 (ev_now ?_); rw [if_neg (fun e => hb1 (hb.2 ⟨e.1, e.2.1⟩))]; rfl
  by_cases h1 : k = 1
  · exact ev_if h1 (J _ (by simp; omega))
  refine ev_ifn h1 ?_
  by_cases h2 : k = 2
  · exact ev_if h2 (J _ (by simp; omega))
  refine ev_ifn h2 (J _ (by simp; omega))
theorem sta_r (k : Int) {n : ByteArray} (c : Int) (v : ByteArray) (hnz : n.size ≤ 100) : Ev (fun f => batonref16_Start.f f k n c v) (sta k n c v) := by
  unfold batonref16_Start.f sta
  have JF (r : Ma) (hr : zm = r) : Ev (fun f => batonref16_Start.j0 f k n c v true) r := Ev.step (fun n => by apply batonref16_Start.j0.eq_2) (ev_if rfl (ev_now hr))
  have JT (r : Ma) (hr : (k, n, if k = 4 then c else 0, if k = 5 then v else sg k, E, 0, 1, 0, 0, 0, true) = r) : Ev (fun f => batonref16_Start.j0 f k n c v false) r := by
    refine Ev.step (fun n => by apply batonref16_Start.j0.eq_2) (ev_ifn (by decide) (ev_c (sg_r k) ?_))
    by_cases h4 : k = 4
    · refine ev_if h4 (ev_ifn (by omega) (ev_now ?_)); rw [← hr, if_pos h4, if_neg (by omega)]
    · refine ev_ifn h4 ?_
      by_cases h5 : k = 5
      · refine ev_if h5 (ev_now ?_); rw [← hr, if_neg h4, if_pos h5]
      · refine ev_ifn h5 (ev_now ?_); rw [← hr, if_neg h4, if_neg h5]
  by_cases h0 : k < 1
  · exact ev_if h0 (JF _ (by rw [if_neg (fun e => by omega)]))
  refine ev_ifn h0 ?_
  by_cases h6 : k > 5
  · exact ev_if h6 (JF _ (by rw [if_neg (fun e => by omega)]))
  refine ev_ifn h6 (ev_b (Key.nam_ref hnz) ?_)
  by_cases hn : Key.nam n = true
  · refine ev_if hn ?_
    by_cases h4 : k = 4
    · refine ev_if h4 ?_
      by_cases h1 : c < 1
      · exact ev_if h1 (JF _ (by rw [if_neg (fun e => by have := e.2.2.2.1 h4; omega)]))
      refine ev_ifn h1 ?_
      by_cases h2 : c > 100
      · exact ev_if h2 (JF _ (by rw [if_neg (fun e => by have := e.2.2.2.1 h4; omega)]))
      refine ev_ifn h2 (ev_ifn (by omega) (JT _ ?_))
      rw [if_pos (show 1 ≤ k ∧ k ≤ 5 ∧ Key.nam n = true ∧ (k = 4 → 1 ≤ c ∧ c ≤ 100) ∧ (k = 5 → v.size ≤ 20) from ⟨by omega, by omega, hn, fun _ => by omega, fun e => by omega⟩)]
    · refine ev_ifn h4 ?_
      by_cases h5 : k = 5
      · refine ev_if h5 ?_
        by_cases hv : (v.size : Int) > 20
        · rw [decide_eq_true hv]
          exact JF _ (by rw [if_neg (fun e => by have := e.2.2.2.2 h5; omega)])
        · rw [decide_eq_false hv]
          refine JT _ ?_
          rw [if_pos (show 1 ≤ k ∧ k ≤ 5 ∧ Key.nam n = true ∧ (k = 4 → 1 ≤ c ∧ c ≤ 100) ∧ (k = 5 → v.size ≤ 20) from ⟨by omega, by omega, hn, fun e => absurd e h4, fun e => by omega⟩)]
      · refine ev_ifn h5 (JT _ ?_)
        rw [if_pos (show 1 ≤ k ∧ k ≤ 5 ∧ Key.nam n = true ∧ (k = 4 → 1 ≤ c ∧ c ≤ 100) ∧ (k = 5 → v.size ≤ 20) from ⟨by omega, by omega, hn, fun e => absurd e h4, fun e => absurd e h5⟩)]
  · exact ev_ifn hn (JF _ (by rw [if_neg (fun e => hn e.2.2.1)]))
abbrev Rq : Type := Int × Int × Int × Bool × ByteArray × ByteArray × Int × Int × Int × Int × List S62 × List S58 × List S58 × Bool
def zr : Rq := (0, 0, 0, false, E, E, 0, 0, 0, 0, [], [], [], false)
def ask (x : S24) : Rq :=
  if Key.may x.f0 x.f1 = true then
    (if x.f6 = 1 then (if x.f5 = 0 then zr else (2, 0, 0, true, E, E, 0, 0, 0, 0, [⟨x.f4, 1, 1, 0, E⟩], [⟨false, x.f4, x.f3, x.f5⟩], [], true))
     else if x.f6 = 2 then (1, 0, 0, false, (Key.prf x.f0 x.f1).1, E, 0, 0, 0, 0, [], [], [], true)
     else if x.f6 = 3 then (3, 0, 0, false, (Key.prf x.f0 x.f1).1, E, 0, x.f8, 0, 0, [], [], [], true)
     else if x.f6 = 5 then (2, 0, 0, true, E, E, 0, 0, 0, 0, [], [⟨true, x.f4, E, 0⟩], [], true)
     else if x.f6 = 9 then (2, 0, 0, true, E, E, 0, 0, 0, 0, [⟨x.f4, 1, 1, x.f7, E⟩], [⟨false, x.f4, x.f3, x.f5⟩], [], true)
     else zr)
  else zr
theorem prf2 (k : Int) (s : ByteArray) : (Key.prf k s).2 = Key.may k s := by
  unfold Key.prf
  by_cases h : Key.may k s = true
  · rw [if_pos h, h]
  · rw [if_neg h]; simpa using h
theorem ask_f (x : S24) (hn : x.f1.size ≤ 100) : lock_Ask.f x.f0 x.f1 x.f2 x.f3 x.f4 x.f5 x.f6 x.f7 x.f8 x.f9 = some (ask x) := by
  unfold lock_Ask.f ask
  rw [Key.prf_f _ hn, Option.bind_some, prf2]
  by_cases h : Key.may x.f0 x.f1 = true
  · rw [if_pos h, if_pos h]
    by_cases h1 : x.f6 = 1
    · rw [if_pos h1, if_pos h1]
      by_cases h5 : x.f5 = 0
      · rw [if_pos h5, if_pos h5]; rfl
      · rw [if_neg h5, if_neg h5]; rfl
    rw [if_neg h1, if_neg h1]
    by_cases h2 : x.f6 = 2
    · rw [if_pos h2, if_pos h2]
    rw [if_neg h2, if_neg h2]
    by_cases h3 : x.f6 = 3
    · rw [if_pos h3, if_pos h3]
    rw [if_neg h3, if_neg h3]
    by_cases h4 : x.f6 = 5
    · rw [if_pos h4, if_pos h4]; rfl
    rw [if_neg h4, if_neg h4]
    by_cases h9 : x.f6 = 9
    · rw [if_pos h9, if_pos h9]; rfl
    rw [if_neg h9, if_neg h9]; rfl
  · rw [if_neg h, if_neg h]; rfl
theorem ask_r (x : S24) (hn : x.f1.size ≤ 100) : Ev (fun f => batonref16_Ask.f f x.f0 x.f1 x.f2 x.f3 x.f4 x.f5 x.f6 x.f7 x.f8 x.f9) (ask x) := by
  unfold batonref16_Ask.f ask
  refine ev_b (Key.prf_ref _ hn) ?_
  rw [prf2]
  by_cases h : Key.may x.f0 x.f1 = true
  · refine ev_if h ?_
    by_cases h1 : x.f6 = 1
    · refine ev_if h1 ?_
      by_cases h5 : x.f5 = 0
      · refine ev_if h5 (ev_now ?_); rw [if_pos h, if_pos h1, if_pos h5]; rfl
      · refine ev_ifn h5 (ev_now ?_); rw [if_pos h, if_pos h1, if_neg h5]
    refine ev_ifn h1 ?_
    by_cases h2 : x.f6 = 2
    · refine ev_if h2 (ev_now ?_); rw [if_pos h, if_neg h1, if_pos h2]
    refine ev_ifn h2 ?_
    by_cases h3 : x.f6 = 3
    · refine ev_if h3 (ev_now ?_); rw [if_pos h, if_neg h1, if_neg h2, if_pos h3]
    refine ev_ifn h3 ?_
    by_cases h4 : x.f6 = 5
    · refine ev_if h4 (ev_now ?_); rw [if_pos h, if_neg h1, if_neg h2, if_neg h3, if_pos h4]
    refine ev_ifn h4 ?_
    by_cases h9 : x.f6 = 9
    · refine ev_if h9 (ev_now ?_); rw [if_pos h, if_neg h1, if_neg h2, if_neg h3, if_neg h4, if_pos h9]
    refine ev_ifn h9 (ev_now ?_); rw [if_pos h, if_neg h1, if_neg h2, if_neg h3, if_neg h4, if_neg h9]; rfl
  · refine ev_ifn h (ev_now ?_); rw [if_neg h]; rfl
def joi (x : S24) (id : Int) : S24 := if x.f6 = 1 ∧ x.f5 = 0 ∧ 1 ≤ id ∧ (Key.tkt x.f0 x.f1 id).2 = true then { x with f4 := (Key.tkt x.f0 x.f1 id).1, f5 := id } else x
abbrev tup (x : S24) : Int × ByteArray × Int × ByteArray × ByteArray × Int × Int × Int × Int × Int := (x.f0, x.f1, x.f2, x.f3, x.f4, x.f5, x.f6, x.f7, x.f8, x.f9)
theorem joi_f (x : S24) (id : Int) (hn : x.f1.size ≤ 100) : lock_Join.f x.f0 x.f1 x.f2 x.f3 x.f4 x.f5 x.f6 x.f7 x.f8 x.f9 id = some (tup (joi x id)) := by
  unfold lock_Join.f joi
  rw [Key.tkt_f _ _ hn, Option.bind_some]
  by_cases ht : (Key.tkt x.f0 x.f1 id).2 = true
  · rw [if_pos ht]
    by_cases h1 : id ≥ 1
    · rw [if_pos h1]
      by_cases h6 : x.f6 = 1
      · rw [if_pos h6]
        by_cases h5 : x.f5 = 0
        · rw [if_pos h5, if_pos ⟨h6, h5, h1, ht⟩]
        · rw [if_neg h5, if_neg (fun e => h5 e.2.1)]
      · rw [if_neg h6, if_neg (fun e => h6 e.1)]
    · rw [if_neg h1, if_neg (fun e => h1 e.2.2.1)]
  · rw [if_neg ht, if_neg (fun e => ht e.2.2.2)]
theorem joi_r (x : S24) (id : Int) (hn : x.f1.size ≤ 100) : Ev (fun f => batonref16_Join.f f x.f0 x.f1 x.f2 x.f3 x.f4 x.f5 x.f6 x.f7 x.f8 x.f9 id) (tup (joi x id)) := by
  unfold batonref16_Join.f joi
  refine ev_b (Key.tkt_ref _ id hn) ?_
  by_cases h6 : x.f6 = 1
  · refine ev_if h6 ?_
    by_cases h5 : x.f5 = 0
    · refine ev_if h5 ?_
      by_cases h1 : id < 1
      · refine ev_if h1 (ev_now ?_); rw [if_neg (fun e => by have := e.2.2.1; omega)]
      · refine ev_ifn h1 ?_
        by_cases ht : (Key.tkt x.f0 x.f1 id).2 = true
        · refine ev_if ht (ev_now ?_); rw [if_pos ⟨h6, h5, by omega, ht⟩]
        · refine ev_ifn ht (ev_now ?_); rw [if_neg (fun e => ht e.2.2.2)]
    · refine ev_ifn h5 (ev_now ?_); rw [if_neg (fun e => h5 e.2.1)]
  · refine ev_ifn h6 (ev_now ?_); rw [if_neg (fun e => h6 e.1)]
theorem muts0 : Ev (fun k => batonref03_Muts.f k [] []) true := ⟨1, fun k hk => by obtain ⟨m, rfl⟩ : ∃ m, k = m + 1 := ⟨k - 1, by omega⟩; simp [batonref03_Muts.f, batonref03_Muts.l0]⟩
theorem muts1 (y : S58) : Ev (fun k => batonref03_Muts.f k [y] [y]) true := by
  refine ⟨2, fun k hk => ?_⟩
  obtain ⟨m, rfl⟩ : ∃ m, k = m + 2 := ⟨k - 2, by omega⟩
  simp [batonref03_Muts.f, batonref03_Muts.l0, rd_T58, wrap64]
theorem same (a b c : Int) (d : Bool) (e f : ByteArray) (g h i j : Int) (l0 : List S62) (l1 l2 : List S58) (h0 : l0 = [] ∨ ∃ y, l0 = [y]) (h1 : Ev (fun k => batonref03_Muts.f k l1 l1) true) (h2 : Ev (fun k => batonref03_Muts.f k l2 l2) true) :
    Ev (fun k => batonref03_Same.f k a b c d e f g h i j l0 l1 l2 a b c d e f g h i j l0 l1 l2) true := by
  unfold batonref03_Same.f
  refine ev_if rfl (ev_if rfl (ev_if rfl (ev_ifn (by simp) (ev_if rfl (ev_if rfl (ev_if rfl (ev_if rfl (ev_if rfl (ev_if rfl ?_)))))))))
  refine Ev.step (fun n => by apply batonref03_Same.j0.eq_2) (ev_ifn (by simp) ?_)
  rcases h0 with rfl | ⟨y, rfl⟩
  · refine Ev.step (fun n => by apply batonref03_Same.l0.eq_2) (ev_ifn (by simp) (ev_b h1 (ev_if rfl (ev_b h2 (ev_now rfl)))))
  · refine Ev.step (fun n => by apply batonref03_Same.l0.eq_2) (ev_if (by simp) (ev_if (by decide) (ev_if (by simp) (ev_ifn (by simp) ?_))))
    refine Ev.step (fun n => by apply batonref03_Same.l0.eq_2) (ev_ifn (by simp [wrap64]) (ev_b h1 (ev_if rfl (ev_b h2 (ev_now rfl)))))
theorem ask_shape (x : S24) : ((ask x).2.2.2.2.2.2.2.2.2.2.1 = [] ∨ ∃ y, (ask x).2.2.2.2.2.2.2.2.2.2.1 = [y]) ∧ ((ask x).2.2.2.2.2.2.2.2.2.2.2.1 = [] ∨ ∃ y, (ask x).2.2.2.2.2.2.2.2.2.2.2.1 = [y]) ∧ (ask x).2.2.2.2.2.2.2.2.2.2.2.2.1 = [] := by
  unfold ask
  repeat' split
  all_goals simp [zr]
theorem mut_of {l : List S58} (h : l = [] ∨ ∃ y, l = [y]) : Ev (fun k => batonref03_Muts.f k l l) true := by
  rcases h with rfl | ⟨y, rfl⟩
  · exact muts0
  · exact muts1 y
theorem pure_holds : Pure := by
  intro x y v hx hy hv
  generalize y.f0 = c
  generalize y.f1 = a
  refine Ev.rounds (g := fun n => batonlaw16_LockStarts.f n x.f0 x.f1 x.f2 x.f3 x.f4 x.f5 x.f6 x.f7 x.f8 x.f9 c a v) ?_
  unfold batonlaw16_LockStarts.f
  have no : Ev (fun n => batonlaw16_LockStarts.j0 n v true x.f0 x.f1 x.f2 x.f3 x.f4 x.f5 x.f6 x.f7 x.f8 x.f9 c a) true := Ev.step (fun n => by apply batonlaw16_LockStarts.j0.eq_2) (ev_if rfl (ev_b live (ev_now rfl)))
  by_cases hs : (x.f1.size : Int) ≤ 60 ∧ (x.f3.size : Int) ≤ 60 ∧ (x.f4.size : Int) ≤ 60
  · refine ev_c (b := true) (by unfold batonref16_Short.f; rw [if_pos hs.1, if_pos hs.2.1, decide_eq_true hs.2.2]) (ev_if rfl ?_)
    by_cases hv : (v.size : Int) > 60
    · rw [decide_eq_true hv]; exact no
    rw [decide_eq_false hv]
    have hn : x.f1.size ≤ 100 := by omega
    have hstn : (sta x.f0 x.f1 c v).2.1.size ≤ 100 := by
      unfold sta
      split
      · exact hn
      · decide
    refine Ev.step (fun n => by apply batonlaw16_LockStarts.j0.eq_2) (ev_ifn (by decide) ?_)
    refine ev_b (sta_f _ _ _ _) (ev_b (sta_r _ _ _ hn) (ev_c (ask_f x hn) (ev_b (ask_r x hn) ?_)))
    refine ev_if (by simp) (ev_if (by simp) ?_)
    refine ev_c (joi_f x a hn) (ev_b (joi_r x a hn) (ev_if (by simp) ?_))
    generalize sta x.f0 x.f1 c v = s at hstn
    obtain ⟨s0, s1, s2, s3, s4, s5, s6, s7, s8, s9, s10⟩ := s
    refine ev_c (joi_f ⟨s0, s1, s2, s3, s4, s5, s6, s7, s8, s9⟩ a hstn) (ev_b (joi_r ⟨s0, s1, s2, s3, s4, s5, s6, s7, s8, s9⟩ a hstn) (ev_if (by simp) ?_))
    obtain ⟨h0, h1, h2⟩ := ask_shape x
    refine ev_b (same _ _ _ _ _ _ _ _ _ _ _ _ _ h0 (mut_of h1) (mut_of (.inl h2))) (ev_if rfl (ev_if (by simp) (ev_b live (ev_now rfl))))
  · have hs2 : batonref16_Short.f x.f0 x.f1 x.f2 x.f3 x.f4 x.f5 x.f6 x.f7 x.f8 x.f9 = some false := by
      unfold batonref16_Short.f
      by_cases h1 : (x.f1.size : Int) ≤ 60
      · rw [if_pos h1]
        by_cases h3 : (x.f3.size : Int) ≤ 60
        · rw [if_pos h3, decide_eq_false (fun h4 => hs ⟨h1, h3, h4⟩)]
        · rw [if_neg h3]
      · rw [if_neg h1]
    exact ev_c hs2 (ev_ifn (by decide) no)
end Go.Proofs.Ytpfgmladebgdaaa.PM.GLockStarts
