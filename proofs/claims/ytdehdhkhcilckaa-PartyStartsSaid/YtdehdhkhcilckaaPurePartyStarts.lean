/- PartyStarts: the pure statement, out of the plain laws of keys. -/
import Derived.Test.YtdehdhkhcilckaaSaidPartyStarts
import Derived.Test.YtdehdhkhcilckaaKey
namespace Go.Proofs.Ytdehdhkhcilckaa.PM.GPartyStarts
open Go.RowKit Go.Proofs.YtdehdhkhcilckaaW.PrintWords Go.Proofs.YtdehdhkhcilckaaW.PrintLast Go.Proofs.YtdehdhkhcilckaaW.PrintMore Go.Proofs.Ytdehdhkhcilckaa.PM Go.Proofs.Ytdehdhkhcilckaa.My
set_option linter.unusedVariables false
set_option linter.unusedSimpArgs false
abbrev KV := S43
theorem live : Ev (fun k => batonlaw18_live.f k) true := Ev.of (fun k => batonlaw18_live.mono k) (k := 20) (by decide +kernel)
theorem rd {l : List KV} {i : Nat} (h : i < l.length) : rd_T43 l (i : Int) = l[i] := by simp [rd_T43, List.getElem?_eq_getElem h]
theorem nx {i : Nat} (h : i ≤ 2000) : wrap64 ((i : Int) + 1) = ((i + 1 : Nat) : Int) := by rw [w64 (by omega) (by omega)]; omega
def few (n : Int) (l : List KV) : Bool := decide ((l.length : Int) ≤ n) && l.all (fun x => decide (x.f0.size ≤ 60) && decide (x.f1.size ≤ 60))
theorem few_l (l : List KV) (hl : l.length ≤ 1000) (d : Nat) : ∀ i : Nat, l.length = i + d → Ev (fun n => batonref03_Few.l0 n l (i : Int)) ((l.drop i).all (fun x => decide (x.f0.size ≤ 60) && decide (x.f1.size ≤ 60))) := by
  induction d with
  | zero =>
    intro i hd
    refine Ev.step (fun n => by apply batonref03_Few.l0.eq_2) (ev_ifn (by omega) (ev_now ?_))
    rw [List.drop_of_length_le (by omega)]
    rfl
  | succ d ih =>
    intro i hd
    have hlt : i < l.length := by omega
    rw [List.drop_eq_getElem_cons hlt, List.all_cons]
    refine Ev.step (fun n => by apply batonref03_Few.l0.eq_2) (ev_if (by omega) (ev_if (by omega) ?_))
    rw [rd hlt, nx (by omega)]
    by_cases h : (l[i].f0.size : Int) > 60
    · refine ev_if h (ev_now ?_)
      rw [show decide (l[i].f0.size ≤ 60) = false from decide_eq_false (by omega)]; rfl
    · refine ev_ifn h ?_
      rw [show decide (l[i].f0.size ≤ 60) = true from decide_eq_true (by omega)]
      by_cases h2 : (l[i].f1.size : Int) > 60
      · refine ev_if h2 (ev_now ?_)
        rw [show decide (l[i].f1.size ≤ 60) = false from decide_eq_false (by omega)]; rfl
      · refine ev_ifn h2 ?_
        rw [show decide (l[i].f1.size ≤ 60) = true from decide_eq_true (by omega)]
        exact ih (i + 1) (by omega)
theorem few_f {n : Int} (hn : n ≤ 1000) (l : List KV) : Ev (fun k => batonref03_Few.f k l n) (few n l) := by
  unfold batonref03_Few.f few
  by_cases h : (l.length : Int) > n
  · refine ev_if h (ev_now ?_)
    rw [decide_eq_false (by omega)]; rfl
  · refine ev_ifn h ?_
    rw [decide_eq_true (by omega)]
    have := few_l l (by omega) l.length 0 (by omega)
    exact this
abbrev E : ByteArray := ⟨#[]⟩
def sta (n : ByteArray) (a : Int) : Int × ByteArray × Int × ByteArray × ByteArray × Int × Int × Int × Int × Int × Bool :=
  if Key.nam n = true then (if a < 1 then (0, E, 0, E, E, 0, 0, 0, 0, 0, false) else if a > 100 then (0, E, 0, E, E, 0, 0, 0, 0, 0, false) else (6, n, a, E, E, 0, 1, 0, 0, 0, true)) else (0, E, 0, E, E, 0, 0, 0, 0, 0, false)
theorem sta_f (n : ByteArray) (a : Int) : party_Start.f n a = some (sta n a) := by
  unfold party_Start.f sta
  rw [Key.nam_f, Option.bind_some]
  by_cases h : Key.nam n = true
  · rw [if_pos h, if_pos h]
    by_cases h1 : a < 1
    · rw [if_pos h1, if_pos h1]
    · rw [if_neg h1, if_neg h1]
      by_cases h2 : a > 100
      · rw [if_pos h2, if_pos h2]
      · rw [if_neg h2, if_neg h2]
  · rw [if_neg h, if_neg h]
theorem sta_r {n : ByteArray} (a : Int) (hn : n.size ≤ 100) : Ev (fun f => batonref18_Start.f f n a) (sta n a) := by
  unfold batonref18_Start.f sta
  refine ev_b (Key.nam_ref hn) ?_
  by_cases h : Key.nam n = true
  · refine ev_if h ?_
    rw [if_pos h]
    by_cases h1 : a < 1
    · refine ev_if h1 (ev_now ?_); rw [if_pos h1]
    · refine ev_ifn h1 ?_
      rw [if_neg h1]
      by_cases h2 : a > 100
      · refine ev_if h2 (ev_now ?_); rw [if_pos h2]
      · refine ev_ifn h2 (ev_now ?_); rw [if_neg h2]
  · refine ev_ifn h (ev_now ?_); rw [if_neg h]
abbrev Rq : Type := Int × Int × Int × Bool × ByteArray × ByteArray × Int × Int × Int × Int × List S68 × List S53 × List S53 × Bool
def zr : Rq := (0, 0, 0, false, E, E, 0, 0, 0, 0, [], [], [], false)
def put (k v : ByteArray) (l : Int) : Rq := (2, 0, 0, true, E, E, 0, 0, 0, 0, [⟨k, 1, 1, 0, E⟩], [⟨false, k, v, l⟩], [], true)
def ask (x : S24) : Rq :=
  if Key.nam x.f1 = true ∧ x.f0 = 6 then
    (if x.f6 = 1 then (if x.f5 = 0 then zr else put x.f4 x.f3 x.f5)
     else if x.f6 = 2 then (1, 0, 0, false, (Key.prf 6 x.f1).1, E, 0, 0, 0, 0, [], [], [], true)
     else if x.f6 = 3 then (3, 0, 0, false, (Key.prf 6 x.f1).1, E, 0, x.f8, 0, 0, [], [], [], true)
     else if x.f6 = 5 then (2, 0, 0, true, E, E, 0, 0, 0, 0, [], [⟨true, x.f4, E, 0⟩], [], true)
     else if x.f6 = 6 then (1, 0, 0, false, (Key.prf 6 x.f1).1, E, 0, 0, 0, 0, [], [], [], true)
     else if x.f6 = 9 then put (Key.flg x.f1).1 E 0
     else zr)
  else zr
theorem prf2 (s : ByteArray) : (Key.prf 6 s).2 = Key.nam s := by
  unfold Key.prf
  rw [Key.may6]
  by_cases h : Key.nam s = true
  · rw [if_pos h, h]
  · rw [if_neg h]; simpa using h
theorem put_f (k v : ByteArray) (l : Int) : txn_Put.f k v l = some ([⟨k, 1, 1, 0, E⟩], [⟨false, k, v, l⟩], []) := rfl
theorem put_r (k v : ByteArray) (l : Int) : batonref06_Put.f k v l = some ([⟨k, 1, 1, 0, E⟩], [⟨false, k, v, l⟩], []) := rfl
theorem ask_f (x : S24) (hn : x.f1.size ≤ 100) : party_Ask.f x.f0 x.f1 x.f2 x.f3 x.f4 x.f5 x.f6 x.f7 x.f8 x.f9 = some (ask x) := by
  unfold party_Ask.f ask
  rw [Key.prf_f _ hn, Option.bind_some]
  simp only [prf2]
  by_cases h : Key.nam x.f1 = true ∧ x.f0 = 6
  · rw [if_pos h, if_pos h]
    by_cases h1 : x.f6 = 1
    · rw [if_pos h1, if_pos h1]
      by_cases h5 : x.f5 = 0
      · rw [if_pos h5, if_pos h5]; rfl
      · rw [if_neg h5, if_neg h5]; rfl
    rw [if_neg h1, if_neg h1]
    by_cases h2 : x.f6 = 2
    · rw [if_pos h2, if_pos h2]
    rw [if_neg h2, if_neg h2]
    by_cases h3 : x.f6 = 3
    · rw [if_pos h3, if_pos h3]
    rw [if_neg h3, if_neg h3]
    by_cases h5 : x.f6 = 5
    · rw [if_pos h5, if_pos h5]
    rw [if_neg h5, if_neg h5]
    by_cases h6 : x.f6 = 6
    · rw [if_pos h6, if_pos h6]
    rw [if_neg h6, if_neg h6]
    by_cases h9 : x.f6 = 9
    · rw [if_pos h9, if_pos h9, Key.flg_f hn]; rfl
    rw [if_neg h9, if_neg h9]; rfl
  · rw [if_neg h, if_neg h]; rfl
theorem ask_r (x : S24) (hn : x.f1.size ≤ 100) : Ev (fun f => batonref18_Ask.f f x.f0 x.f1 x.f2 x.f3 x.f4 x.f5 x.f6 x.f7 x.f8 x.f9) (ask x) := by
  have no (p : ByteArray) (h : ask x = zr) : Ev (fun f => batonref18_Ask.j0 f p true x.f0 x.f1 x.f2 x.f3 x.f4 x.f5 x.f6 x.f7 x.f8 x.f9) (ask x) := by
    rw [h]; exact Ev.step (fun n => by apply batonref18_Ask.j0.eq_2) (ev_if rfl (ev_now rfl))
  unfold batonref18_Ask.f
  refine ev_b (Key.prf_ref 6 hn) ?_
  rw [prf2]
  by_cases hm : Key.nam x.f1 = true
  case neg => exact ev_ifn hm (no _ (by unfold ask; rw [if_neg (fun e => hm e.1)]))
  refine ev_if hm ?_
  by_cases h0 : x.f0 = 6
  case neg => rw [show (x.f0 != 6) = true from bne_iff_ne.mpr h0]; exact no _ (by unfold ask; rw [if_neg (fun e => h0 e.2)])
  rw [show (x.f0 != 6) = false from bne_eq_false_iff_eq.mpr h0]
  refine Ev.step (fun n => by apply batonref18_Ask.j0.eq_2) (ev_ifn (by decide) ?_)
  by_cases h1 : x.f6 = 1
  · refine ev_if h1 ?_
    by_cases h5 : x.f5 = 0
    · exact ev_if h5 (ev_now (Eq.symm (by unfold ask; rw [if_pos ⟨hm, h0⟩, if_pos h1, if_pos h5]; rfl)))
    · exact ev_ifn h5 (ev_c (put_r _ _ _) (ev_now (Eq.symm (by unfold ask; rw [if_pos ⟨hm, h0⟩, if_pos h1, if_neg h5]; rfl))))
  refine ev_ifn h1 ?_
  by_cases h2 : x.f6 = 2
  · exact ev_if h2 (Ev.step (fun n => by apply batonref18_Ask.j1.eq_2) (ev_if (by simp [h2]) (ev_now (Eq.symm (by unfold ask; rw [if_pos ⟨hm, h0⟩, if_neg h1, if_pos h2])))))
  refine ev_ifn h2 (Ev.step (fun n => by apply batonref18_Ask.j1.eq_2) ?_)
  by_cases h6 : x.f6 = 6
  · exact ev_if (by simp [h6]) (ev_now (Eq.symm (by unfold ask; rw [if_pos ⟨hm, h0⟩, if_neg h1, if_neg h2, if_neg (by omega), if_neg (by omega), if_pos h6])))
  refine ev_ifn (by simpa using h6) ?_
  by_cases h3 : x.f6 = 3
  · exact ev_if h3 (ev_now (Eq.symm (by unfold ask; rw [if_pos ⟨hm, h0⟩, if_neg h1, if_neg h2, if_pos h3])))
  refine ev_ifn h3 ?_
  by_cases h9 : x.f6 = 9
  · exact ev_if h9 (ev_b (Key.flg_ref hn) (ev_c (put_r _ _ _) (ev_now (Eq.symm (by unfold ask; rw [if_pos ⟨hm, h0⟩, if_neg h1, if_neg h2, if_neg h3, if_neg (by omega), if_neg h6, if_pos h9]; rfl)))))
  refine ev_ifn h9 ?_
  by_cases h5 : x.f6 = 5
  · exact ev_if h5 (ev_now (Eq.symm (by unfold ask; rw [if_pos ⟨hm, h0⟩, if_neg h1, if_neg h2, if_neg h3, if_pos h5])))
  · exact ev_ifn h5 (ev_now (Eq.symm (by unfold ask; rw [if_pos ⟨hm, h0⟩, if_neg h1, if_neg h2, if_neg h3, if_neg h5, if_neg h6, if_neg h9]; rfl)))
def cnt (p : ByteArray) : List KV → Nat
  | [] => 0
  | x :: l => (if (Key.idr p x.f0).2 = true then 1 else 0) + cnt p l
theorem gst_l (p : ByteArray) (l : List KV) (hl : l.length ≤ 1000) (d : Nat) : ∀ i n : Nat, l.length = i + d → n ≤ i → Ev (fun k => party_Guests.l0 k p (n : Int) l (l.length : Int) (i : Int)) (((n + cnt p (l.drop i) : Nat)) : Int) := by
  induction d with
  | zero =>
    intro i n hd hn
    refine Ev.step (fun n => by apply party_Guests.l0.eq_2) (ev_ifn (by omega) (ev_now ?_))
    rw [List.drop_of_length_le (by omega)]
    rfl
  | succ d ih =>
    intro i n hd hn
    have hlt : i < l.length := by omega
    rw [List.drop_eq_getElem_cons hlt]
    refine Ev.step (fun n => by apply party_Guests.l0.eq_2) (ev_if (by omega) (ev_if (by omega) (ev_if (by omega) ?_)))
    rw [rd hlt, nx (by omega), nx (by omega)]
    refine ev_c (Key.id_f _ _) ?_
    by_cases h : (Key.idr p l[i].f0).2 = true
    · refine ev_if h ?_
      have := ih (i + 1) (n + 1) (by omega) (by omega)
      rw [show n + cnt p (l[i] :: l.drop (i + 1)) = n + 1 + cnt p (l.drop (i + 1)) by simp only [cnt, if_pos h]; omega]
      exact this
    · refine ev_ifn h ?_
      have := ih (i + 1) n (by omega) (by omega)
      rw [show n + cnt p (l[i] :: l.drop (i + 1)) = n + cnt p (l.drop (i + 1)) by simp only [cnt, if_neg h]; omega]
      exact this
def gst (l : List KV) (s : ByteArray) : Int := if Key.nam s = true then (cnt (Key.prf 6 s).1 l : Int) else 0
theorem gst_f {l : List KV} {s : ByteArray} (hl : l.length ≤ 1000) (hs : s.size ≤ 100) : Ev (fun k => party_Guests.f k l s) (gst l s) := by
  unfold party_Guests.f gst
  refine ev_c (Key.prf_f 6 hs) ?_
  rw [prf2]
  by_cases h : Key.nam s = true
  · refine ev_if h ?_
    have := gst_l (Key.prf 6 s).1 l hl l.length 0 0 (by omega) (by omega)
    rw [if_pos h]
    simpa using this
  · refine ev_ifn h (ev_now ?_); rw [if_neg h]
theorem gsr_l (p : ByteArray) (l : List KV) (hl : l.length ≤ 1000) (hk : ∀ x ∈ l, x.f0.size ≤ 60) (d : Nat) : ∀ i n : Nat, l.length = i + d → n ≤ i → Ev (fun k => batonref18_Guests.l0 k l p true (n : Int) (i : Int)) (((n + cnt p (l.drop i) : Nat)) : Int) := by
  induction d with
  | zero =>
    intro i n hd hn
    refine Ev.step (fun n => by apply batonref18_Guests.l0.eq_2) (ev_ifn (by omega) (Ev.step (fun n => by apply batonref18_Guests.j1.eq_2) (ev_ifn (by decide) (ev_now ?_))))
    rw [List.drop_of_length_le (by omega)]
    rfl
  | succ d ih =>
    intro i n hd hn
    have hlt : i < l.length := by omega
    rw [List.drop_eq_getElem_cons hlt]
    refine Ev.step (fun n => by apply batonref18_Guests.l0.eq_2) (ev_if (by omega) (Ev.step (fun n => by apply batonref18_Guests.j1.eq_2) (ev_if rfl (ev_if (by omega) (ev_if (by omega) ?_)))))
    rw [rd hlt, nx (by omega), nx (by omega)]
    refine ev_b (Key.id_ref _ (by have := hk _ (List.getElem_mem hlt); omega)) ?_
    by_cases h : (Key.idr p l[i].f0).2 = true
    · refine ev_if h ?_
      have := ih (i + 1) (n + 1) (by omega) (by omega)
      rw [show n + cnt p (l[i] :: l.drop (i + 1)) = n + 1 + cnt p (l.drop (i + 1)) by simp only [cnt, if_pos h]; omega]
      exact this
    · refine ev_ifn h ?_
      have := ih (i + 1) n (by omega) (by omega)
      rw [show n + cnt p (l[i] :: l.drop (i + 1)) = n + cnt p (l.drop (i + 1)) by simp only [cnt, if_neg h]; omega]
      exact this
theorem gst_r {l : List KV} {s : ByteArray} (hl : l.length ≤ 1000) (hk : ∀ x ∈ l, x.f0.size ≤ 60) (hs : s.size ≤ 100) : Ev (fun k => batonref18_Guests.f k l s) (gst l s) := by
  unfold batonref18_Guests.f gst
  refine ev_b (Key.prf_ref 6 hs) ?_
  rw [prf2]
  by_cases h : Key.nam s = true
  · rw [if_pos h, h]
    have := gsr_l (Key.prf 6 s).1 l hl hk l.length 0 0 (by omega) (by omega)
    simpa using this
  · rw [if_neg h, show Key.nam s = false by simpa using h]
    by_cases hz : (0 : Int) < (l.length : Int)
    · exact Ev.step (fun n => by apply batonref18_Guests.l0.eq_2) (ev_if hz (Ev.step (fun n => by apply batonref18_Guests.j1.eq_2) (ev_ifn (by decide) (ev_now rfl))))
    · exact Ev.step (fun n => by apply batonref18_Guests.l0.eq_2) (ev_ifn hz (Ev.step (fun n => by apply batonref18_Guests.j1.eq_2) (ev_ifn (by decide) (ev_now rfl))))
abbrev MU := S53
theorem muts0 : Ev (fun k => batonref03_Muts.f k [] []) true := ⟨1, fun k hk => by obtain ⟨m, rfl⟩ : ∃ m, k = m + 1 := ⟨k - 1, by omega⟩; simp [batonref03_Muts.f, batonref03_Muts.l0]⟩
theorem muts1 (y : MU) : Ev (fun k => batonref03_Muts.f k [y] [y]) true := by
  refine ⟨2, fun k hk => ?_⟩
  obtain ⟨m, rfl⟩ : ∃ m, k = m + 2 := ⟨k - 2, by omega⟩
  simp [batonref03_Muts.f, batonref03_Muts.l0, rd_T53, wrap64]
theorem same (a b c : Int) (d : Bool) (e f : ByteArray) (g h i j : Int) (l0 : List S68) (l1 l2 : List MU) (h0 : l0 = [] ∨ ∃ y, l0 = [y]) (h1 : Ev (fun k => batonref03_Muts.f k l1 l1) true) (h2 : Ev (fun k => batonref03_Muts.f k l2 l2) true) :
    Ev (fun k => batonref03_Same.f k a b c d e f g h i j l0 l1 l2 a b c d e f g h i j l0 l1 l2) true := by
  unfold batonref03_Same.f
  refine ev_if rfl (ev_if rfl (ev_if rfl (ev_ifn (by simp) (ev_if rfl (ev_if rfl (ev_if rfl (ev_if rfl (ev_if rfl (ev_if rfl ?_)))))))))
  refine Ev.step (fun n => by apply batonref03_Same.j0.eq_2) (ev_ifn (by simp) ?_)
  rcases h0 with rfl | ⟨y, rfl⟩
  · refine Ev.step (fun n => by apply batonref03_Same.l0.eq_2) (ev_ifn (by simp) (ev_b h1 (ev_if rfl (ev_b h2 (ev_now rfl)))))
  · refine Ev.step (fun n => by apply batonref03_Same.l0.eq_2) (ev_if (by simp) (ev_if (by decide) (ev_if (by simp) (ev_ifn (by simp) ?_))))
    refine Ev.step (fun n => by apply batonref03_Same.l0.eq_2) (ev_ifn (by simp [wrap64]) (ev_b h1 (ev_if rfl (ev_b h2 (ev_now rfl)))))
theorem ask_shape (x : S24) : ((ask x).2.2.2.2.2.2.2.2.2.2.1 = [] ∨ ∃ y, (ask x).2.2.2.2.2.2.2.2.2.2.1 = [y]) ∧ ((ask x).2.2.2.2.2.2.2.2.2.2.2.1 = [] ∨ ∃ y, (ask x).2.2.2.2.2.2.2.2.2.2.2.1 = [y]) ∧ (ask x).2.2.2.2.2.2.2.2.2.2.2.2.1 = [] := by
  unfold ask
  repeat' split
  all_goals simp [zr, put]
theorem mut_of {l : List MU} (h : l = [] ∨ ∃ y, l = [y]) : Ev (fun k => batonref03_Muts.f k l l) true := by
  rcases h with rfl | ⟨y, rfl⟩
  · exact muts0
  · exact muts1 y
theorem pure_holds : Pure := by
  intro x a l hx ha hl
  refine Ev.rounds (g := fun n => batonlaw18_PartyStarts.f n x.f0 x.f1 x.f2 x.f3 x.f4 x.f5 x.f6 x.f7 x.f8 x.f9 a l) ?_
  unfold batonlaw18_PartyStarts.f
  have no : Ev (fun n => batonlaw18_PartyStarts.j0 n a l true x.f0 x.f1 x.f2 x.f3 x.f4 x.f5 x.f6 x.f7 x.f8 x.f9) true := Ev.step (fun n => by apply batonlaw18_PartyStarts.j0.eq_2) (ev_if rfl (ev_b live (ev_now rfl)))
  by_cases hs : (x.f1.size : Int) ≤ 60 ∧ (x.f3.size : Int) ≤ 60 ∧ (x.f4.size : Int) ≤ 60
  · refine ev_c (b := true) (by unfold batonref16_Short.f; rw [if_pos hs.1, if_pos hs.2.1, decide_eq_true hs.2.2]) (ev_if rfl (ev_b (few_f (by decide) l) ?_))
    by_cases hv : few 40 l = true
    case neg => rw [show few 40 l = false by simpa using hv]; exact no
    rw [hv]
    unfold few at hv
    simp only [Bool.and_eq_true, decide_eq_true_eq, List.all_eq_true] at hv
    have hn : x.f1.size ≤ 100 := by omega
    refine Ev.step (fun n => by apply batonlaw18_PartyStarts.j0.eq_2) (ev_ifn (by decide) ?_)
    refine ev_c (sta_f _ _) (ev_b (sta_r _ hn) (ev_c (ask_f x hn) (ev_b (ask_r x hn) ?_)))
    refine ev_if (by simp) (ev_if (by simp) ?_)
    refine ev_b (gst_f (by omega) hn) (ev_b (gst_r (by omega) (fun y hy => (hv.2 y hy).1) hn) (ev_if rfl ?_))
    obtain ⟨h0, h1, h2⟩ := ask_shape x
    refine ev_b (same _ _ _ _ _ _ _ _ _ _ _ _ _ h0 (mut_of h1) (mut_of (.inl h2))) (ev_if rfl (ev_if (by simp) (ev_b live (ev_now rfl))))
  · have hs2 : batonref16_Short.f x.f0 x.f1 x.f2 x.f3 x.f4 x.f5 x.f6 x.f7 x.f8 x.f9 = some false := by
      unfold batonref16_Short.f
      by_cases h1 : (x.f1.size : Int) ≤ 60
      · rw [if_pos h1]
        by_cases h3 : (x.f3.size : Int) ≤ 60
        · rw [if_pos h3, decide_eq_false (fun h4 => hs ⟨h1, h3, h4⟩)]
        · rw [if_neg h3]
      · rw [if_neg h1]
    exact ev_c hs2 (ev_ifn (by decide) no)
end Go.Proofs.Ytdehdhkhcilckaa.PM.GPartyStarts
