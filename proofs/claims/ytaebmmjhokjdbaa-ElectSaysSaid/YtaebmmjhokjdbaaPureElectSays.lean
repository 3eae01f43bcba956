/- ElectSays: the pure statement, out of the plain laws of elections. -/
import Derived.Test.YtaebmmjhokjdbaaSaidElectSays
import Derived.Test.YtaebmmjhokjdbaaElect1
namespace Go.Proofs.Ytaebmmjhokjdbaa.PM.GElectSays
open Go.RowKit Go.Proofs.YtaebmmjhokjdbaaW.PrintWords Go.Proofs.YtaebmmjhokjdbaaW.PrintLast Go.Proofs.YtaebmmjhokjdbaaW.PrintMore Go.Proofs.Ytaebmmjhokjdbaa.PM Go.Proofs.Ytaebmmjhokjdbaa.My ElectF
set_option linter.unusedVariables false
abbrev KV := S26
theorem eqb (x y : KV) : (x.f0.toList == y.f0.toList && (x.f1.toList == y.f1.toList && (x.f2 == y.f2 && (x.f3 == y.f3 && (x.f4 == y.f4 && (x.f5 == y.f5)))))) = decide (x = y) := by
  have := neq x y
  rw [Bool.eq_iff_iff] at this ⊢
  simp only [Bool.or_eq_true, Bool.not_eq_true', Bool.and_eq_true, beq_iff_eq, decide_eq_true_eq, decide_eq_false_iff_not, beq_eq_false_iff_ne] at this ⊢
  constructor
  · intro h
    apply Decidable.byContradiction
    intro c
    rcases this.2 c with e | e | e | e | e | e
    · exact e h.1
    · exact e h.2.1
    · exact e h.2.2.1
    · exact e h.2.2.2.1
    · exact e h.2.2.2.2.1
    · exact e h.2.2.2.2.2
  · rintro rfl
    exact ⟨rfl, rfl, rfl, rfl, rfl, rfl⟩
theorem no (l : List KV) (v : ByteArray) (rev : Int) : Ev (fun n => batonlaw17_ElectSays.j0 n l v rev true) true := Ev.step (fun n => by apply batonlaw17_ElectSays.j0.eq_2) (ev_if rfl (ev_b live (Ev.now _)))
/-! what is laid, what is taken -/
theorem self_lay (x : KV) : ∀ l : List KV, x ∈ Hist.lay x l
  | [] => by simp [Hist.lay]
  | y :: l => by
    rw [Hist.lay_cons]
    have := self_lay x l
    split
    · exact List.mem_cons_of_mem _ this
    · split <;> simp
theorem mem_lay {x z : KV} (hz : z.f0 ≠ x.f0) : ∀ {l : List KV}, z ∈ l → z ∈ Hist.lay x l
  | [], h => by simp at h
  | y :: l, h => by
    rw [Hist.lay_cons]
    rcases List.mem_cons.1 h with e | e
    · subst e
      split
      · simp
      · first | (rw [if_neg hz]; simp; done) | simp
    · have := mem_lay hz e
      split
      · exact List.mem_cons_of_mem _ this
      · split <;> simp [e]
theorem mem_take {k : ByteArray} {z : KV} (hz : z.f0 ≠ k) : ∀ {l : List KV}, z ∈ l → z ∈ Hist.take k l
  | [], h => by simp at h
  | y :: l, h => by
    rw [Hist.take_cons]
    rcases List.mem_cons.1 h with e | e
    · subst e
      rw [if_neg hz]
      simp
    · split
      · exact e
      · exact List.mem_cons_of_mem _ (mem_take hz e)
theorem srt_inj : ∀ {l : List KV}, Hist.srt l → ∀ {a b : KV}, a ∈ l → b ∈ l → a.f0 = b.f0 → a = b
  | [], _, a, b, h, _, _ => by simp at h
  | y :: l, hs, a, b, ha, hb, e => by
    rcases List.mem_cons.1 ha with h1 | h1 <;> rcases List.mem_cons.1 hb with h2 | h2
    · rw [h1, h2]
    · subst h1
      exact absurd e (Hist.lt_ne (Hist.srt_head hs b h2))
    · subst h2
      exact absurd e.symm (Hist.lt_ne (Hist.srt_head hs a h1))
    · exact srt_inj (Hist.srt_tail hs) h1 h2 e
theorem find_mem {k : ByteArray} {z : KV} (e : z.f0 = k) : ∀ {l : List KV}, z ∈ l → Hist.find k l ≠ none
  | [], h => by simp at h
  | y :: l, h => by
    rw [Hist.find_cons]
    by_cases c : y.f0 = k
    · rw [if_pos c]; simp
    · rw [if_neg c]
      rcases List.mem_cons.1 h with q | q
      · subst q
        exact absurd e c
      · exact find_mem e q
theorem take_no {k : ByteArray} {l : List KV} (hs : Hist.srt l) {z : KV} (h : z ∈ Hist.take k l) : z.f0 ≠ k := fun e => find_mem e h (Hist.find_take k hs)
/-- All things, laid one by one. -/
def laid (l : List KV) : List KV := l.foldl (fun a y => Hist.lay y a) []
theorem laid_snoc (l : List KV) (y : KV) : laid (l ++ [y]) = Hist.lay y (laid l) := by unfold laid; rw [List.foldl_append]; rfl
theorem fold_srt : ∀ (l a : List KV), Hist.srt a → Hist.srt (l.foldl (fun a y => Hist.lay y a) a)
  | [], a, h => h
  | y :: l, a, h => fold_srt l _ (Hist.lay_srt y h)
theorem laid_srt (l : List KV) : Hist.srt (laid l) := fold_srt l [] (by simp [Hist.srt])
theorem fold_mem : ∀ (l a : List KV) {z : KV}, z ∈ l.foldl (fun a y => Hist.lay y a) a → z ∈ a ∨ z ∈ l
  | [], a, z, h => .inl h
  | y :: l, a, z, h => by
    rcases fold_mem l _ h with h | h
    · rcases Hist.lay_mem h with h | h
      · exact .inr (by simp [h])
      · exact .inl h
    · exact .inr (by simp [h])
theorem fold_len : ∀ (l a : List KV), (l.foldl (fun a y => Hist.lay y a) a).length ≤ a.length + l.length
  | [], a => by simp
  | y :: l, a => by
    have h1 := fold_len l (Hist.lay y a)
    have h2 := Hist.lay_len y a
    simp only [List.foldl_cons, List.length_cons]
    omega
theorem laid_len (l : List KV) : (laid l).length ≤ l.length := by have := fold_len l []; simpa [laid] using this
/-- Unlike keys and Creates. -/
def unl (l : List KV) : Prop := ∀ a ∈ l, ∀ b ∈ l, a ≠ b → a.f0 ≠ b.f0 ∧ a.f2 ≠ b.f2
theorem fold_in : ∀ (l a : List KV), (∀ x ∈ l, ∀ y ∈ l, x ≠ y → x.f0 ≠ y.f0) → (∀ x ∈ a, ∀ y ∈ l, x ≠ y → x.f0 ≠ y.f0) → ∀ {z : KV}, z ∈ a ∨ z ∈ l → z ∈ l.foldl (fun a y => Hist.lay y a) a
  | [], a, _, _, z, h => by
    rcases h with h | h
    · exact h
    · simp at h
  | y :: l, a, h1, h2, z, h => by
    refine fold_in l (Hist.lay y a) (fun p hp q hq => h1 p (by simp [hp]) q (by simp [hq])) ?_ ?_
    · intro p hp q hq e
      rcases Hist.lay_mem hp with r | r
      · subst r
        exact h1 p (by simp) q (by simp [hq]) e
      · exact h2 p r q (by simp [hq]) e
    · by_cases c : z = y
      · subst c
        exact .inl (self_lay z a)
      · rcases h with h | h
        · exact .inl (mem_lay (h2 z h y (by simp) c) h)
        · rcases List.mem_cons.1 h with r | r
          · exact absurd r c
          · exact .inr r
theorem laid_mem {l : List KV} (hu : unl l) {z : KV} : z ∈ laid l ↔ z ∈ l := by
  constructor
  · intro h
    rcases fold_mem l [] h with r | r
    · simp at r
    · exact r
  · exact fun h => fold_in l [] (fun x hx y hy e => (hu x hx y hy e).1) (by simp) (.inr h)
/-- The law's end. -/
theorem j4 {x said z : KV} (hz : z.f2 > x.f2) (hs : said.f2 = x.f2) : Ev (fun n => batonlaw17_ElectSays.j4 n [z] [] true false x.f0 x.f1 x.f2 x.f3 x.f4 x.f5 said.f0 said.f1 said.f2 said.f3 said.f4 said.f5 x.f0 x.f1 x.f2 x.f3 x.f4 x.f5) true := by
  refine Ev.step (fun n => by apply batonlaw17_ElectSays.j4.eq_2) ?_
  refine ev_ifn (by decide) (ev_if rfl (ev_if (by simp) (ev_if hz (ev_if rfl (ev_if rfl ?_)))))
  refine ev_if (by rw [eqb]; simp) ?_
  refine ev_b (terms_f (l := [x, said]) (by simp)) (ev_if ?_ (ev_b live (Ev.now _)))
  simp [trm, cpt, cptF, hs]
theorem fin {l : List KV} {v : ByteArray} {rev : Int} {x o : KV} (hl : l.length ≤ 20) (hl2 : 2 ≤ l.length) (hu : unl l) (hx : hdo l = some x) (hy : ∃ y ∈ l, y ≠ x) (ho : o ∈ l) (ho2 : o.f0 ≠ x.f0) :
    Ev (fun n => batonlaw17_ElectSays.l2 n l rev (laid l) (l.length : Int) x.f0 x.f1 x.f2 x.f3 x.f4 x.f5 x.f0 v x.f2 rev x.f4 x.f5 o.f0 o.f1 o.f2 o.f3 o.f4 o.f5) true := by
  obtain ⟨said, hsaid⟩ : ∃ s : KV, s = ⟨x.f0, v, x.f2, rev, x.f4, x.f5⟩ := ⟨_, rfl⟩
  have hxl := hdo_mem hx
  have hm := hdo_min hx
  have hlen := laid_len l
  have hsr := laid_srt l
  have hlt : ∀ y ∈ l, y ≠ x → x.f2 < y.f2 := by
    intro y hy1 hy2
    have h1 := hm y hy1
    have h2 := (hu y hy1 x hxl hy2).2
    omega
  have hall : hdo (laid l) = some x := hdo_of ((laid_mem hu).2 hxl) (fun y hy1 hy2 => hlt y ((laid_mem hu).1 hy1) hy2)
  -- said
  have L1 : hdo (Hist.lay said (laid l)) = some said := by
    refine hdo_of (self_lay _ _) (fun y h1 h2 => ?_)
    have h3 : y.f0 ≠ said.f0 := fun e => h2 (srt_inj (Hist.lay_srt said hsr) h1 (self_lay _ _) e)
    rcases Hist.lay_mem h1 with r | r
    · exact absurd r h2
    · have := hlt y ((laid_mem hu).1 r) (by rintro rfl; exact h3 (by rw [hsaid]))
      rw [hsaid]
      exact this
  have F1 : fol (laid l) [⟨rev, false, said⟩] = (Hist.lay said (laid l), if x = said then [] else [said]) := by
    rw [fol_one]
    show (Hist.lay said (laid l), seen1 (laid l) (Hist.lay said (laid l))) = _
    unfold seen1
    rw [L1, hall]
    simp only [Option.some.injEq]
  -- x goes
  obtain ⟨z, hz⟩ : ∃ z, hdo (Hist.take x.f0 (laid l)) = some z := by
    obtain ⟨y, h1, h2⟩ := hy
    refine hdo_some ?_
    intro c
    have := mem_take (k := x.f0) (hu y h1 x hxl h2).1 ((laid_mem hu).2 h1)
    rw [c] at this
    simp at this
  have hzm := hdo_mem hz
  have hzx : z ≠ x := fun e => take_no hsr hzm (by rw [e])
  have hzl := (laid_mem hu).1 ((Hist.take_sub _ _).subset hzm)
  have F2 : fol (laid l) [⟨rev, true, x⟩] = (Hist.take x.f0 (laid l), [z]) := by
    rw [fol_one]
    show (Hist.take x.f0 (laid l), seen1 (laid l) (Hist.take x.f0 (laid l))) = _
    unfold seen1
    rw [hz, hall]
    simp only [Option.some.injEq, if_neg (fun e : x = z => hzx e.symm)]
  -- another one goes
  have L3 : hdo (Hist.take o.f0 (laid l)) = some x := hdo_of (mem_take (fun e => ho2 e.symm) ((laid_mem hu).2 hxl)) (fun y h1 h2 => hlt y ((laid_mem hu).1 ((Hist.take_sub _ _).subset h1)) h2)
  have F3 : fol (laid l) [⟨rev, true, o⟩] = (Hist.take o.f0 (laid l), []) := by
    rw [fol_one]
    show (Hist.take o.f0 (laid l), seen1 (laid l) (Hist.take o.f0 (laid l))) = _
    unfold seen1
    rw [L3, hall]
    simp
  have ht := Hist.take_len o.f0 (laid l)
  have hk := j4 (x := x) (said := said) (z := z) (hlt z hzl hzx) (by rw [hsaid])
  have hll : (Hist.lay said (laid l)).length ≤ 20 := by
    rw [Hist.lay_len2 said hsr, if_pos]
    · omega
    · have := find_mem (k := said.f0) (z := x) (by rw [hsaid]) ((laid_mem hu).2 hxl)
      cases q : Hist.find said.f0 (laid l) with
      | none => exact absurd q this
      | some _ => rfl
  have htx := Hist.take_len x.f0 (laid l)
  have g1 := follow1 (l := laid l) (e := ⟨rev, false, said⟩) (by omega) hll
  have g2 := follow1 (l := laid l) (e := ⟨rev, true, x⟩) (by omega) (by show (Hist.take x.f0 (laid l)).length ≤ 20; omega)
  have g3 := follow1 (l := laid l) (e := ⟨rev, true, o⟩) (by omega) (by show (Hist.take o.f0 (laid l)).length ≤ 20; omega)
  rw [F1] at g1
  rw [F2] at g2
  rw [F3] at g3
  have hh := head_f (l := Hist.take o.f0 (laid l)) (by omega)
  rw [L3] at hh
  have s0 : x.f0 = said.f0 := by rw [hsaid]
  have s1 : v = said.f1 := by rw [hsaid]
  have s2 : x.f2 = said.f2 := by rw [hsaid]
  have s3 : rev = said.f3 := by rw [hsaid]
  have s4 : x.f4 = said.f4 := by rw [hsaid]
  have s5 : x.f5 = said.f5 := by rw [hsaid]
  have eG : (fun n => batonlaw17_ElectSays.l2 n l rev (laid l) (l.length : Int) x.f0 x.f1 x.f2 x.f3 x.f4 x.f5 x.f0 v x.f2 rev x.f4 x.f5 o.f0 o.f1 o.f2 o.f3 o.f4 o.f5) = (fun n => batonlaw17_ElectSays.l2 n l rev (laid l) (l.length : Int) x.f0 x.f1 x.f2 x.f3 x.f4 x.f5 said.f0 said.f1 said.f2 said.f3 said.f4 said.f5 o.f0 o.f1 o.f2 o.f3 o.f4 o.f5) := by
    rw [hsaid]
  rw [eG]
  refine Ev.step (fun n => by apply batonlaw17_ElectSays.l2.eq_2) ?_
  refine ev_ifn (by omega) (ev_b g1 (ev_b g2 (ev_b g3 (ev_c hh ?_))))
  by_cases c : said = x
  · refine ev_if (by rw [eqb]; exact decide_eq_true c) (ev_if (by rw [if_pos c.symm]; rfl) (ev_ifn (by rw [neq]; simp [c]) ?_))
    exact hk
  · refine ev_ifn (by rw [eqb]; simp [c]) (ev_if (by rw [neq]; simp [c]) ?_)
    rw [if_neg (fun e => c e.symm)]
    refine ev_if rfl (ev_if (by simp) ?_)
    rw [show ((0 : Int)) = ((0 : Nat) : Int) from rfl, Hist.rd (l := [said]) (i := 0) (by simp)]
    show Ev (fun n => batonlaw17_ElectSays.j4 n [z] [] true (!(said.f0.toList == said.f0.toList) || (!(said.f1.toList == said.f1.toList) || (!(said.f2 == said.f2) || (!(said.f3 == said.f3) || (!(said.f4 == said.f4) || (!(said.f5 == said.f5))))))) x.f0 x.f1 x.f2 x.f3 x.f4 x.f5 said.f0 said.f1 said.f2 said.f3 said.f4 said.f5 x.f0 x.f1 x.f2 x.f3 x.f4 x.f5) true
    rw [neq]
    simpa using hk
theorem l2 {l : List KV} {v : ByteArray} {rev : Int} {x : KV} (hl : l.length ≤ 20) (hl2 : 2 ≤ l.length) (hu : unl l) (hx : hdo l = some x) (hy : ∃ y ∈ l, y ≠ x) (d : Nat) : ∀ (i : Nat) (o : KV), l.length = i + d → ((o ∈ l ∧ o.f0 ≠ x.f0) ∨ ∀ y ∈ l.take i, y.f0 = x.f0) →
    Ev (fun n => batonlaw17_ElectSays.l2 n l rev (laid (l.take i)) (i : Int) x.f0 x.f1 x.f2 x.f3 x.f4 x.f5 x.f0 v x.f2 rev x.f4 x.f5 o.f0 o.f1 o.f2 o.f3 o.f4 o.f5) true := by
  induction d with
  | zero =>
    intro i o hd ho
    obtain rfl : i = l.length := by omega
    rw [List.take_length] at ho ⊢
    rcases ho with ho | ho
    · exact fin hl hl2 hu hx hy ho.1 ho.2
    · obtain ⟨y, h1, h2⟩ := hy
      exact absurd (ho y h1) (hu y h1 x (hdo_mem hx) h2).1
  | succ d ih =>
    intro i o hd ho
    have hlt : i < l.length := by omega
    have hlen := laid_len (l.take i)
    rw [List.length_take] at hlen
    refine Ev.step (fun n => by apply batonlaw17_ElectSays.l2.eq_2) ?_
    refine ev_if (by omega) (ev_if (by omega) ?_)
    rw [Hist.rd hlt, Hist.nx (by omega)]
    refine ev_b (Hist.lay_ref (by omega) _) ?_
    have e : Hist.lay l[i] (laid (l.take i)) = laid (l.take (i + 1)) := by rw [List.take_succ_eq_append_getElem hlt, laid_snoc]
    rw [e]
    by_cases c : l[i].f0 = x.f0
    · refine ev_if (by rw [c]) (ih (i + 1) o (by omega) ?_)
      rcases ho with ho | ho
      · exact .inl ho
      · right
        intro y hy
        rw [List.take_succ_eq_append_getElem hlt] at hy
        rcases List.mem_append.1 hy with h | h
        · exact ho y h
        · rw [List.mem_singleton.1 h, c]
    · exact ev_ifn (by rw [Hist.tli]; exact c) (ih (i + 1) l[i] (by omega) (.inl ⟨List.getElem_mem hlt, c⟩))
theorem main {l : List KV} {v : ByteArray} {rev : Int} (hl : l.length ≤ 20) (hl2 : 2 ≤ l.length) (hU : ∀ i k, (hi : i < l.length) → (hk : k < i) → l[i].f0 ≠ (l[k]'(by omega)).f0 ∧ l[i].f2 ≠ (l[k]'(by omega)).f2) : Ev (fun n => batonlaw17_ElectSays.l0 n l v rev (l.length : Int)) true := by
  have hu : unl l := by
    intro a ha b hb hab
    obtain ⟨i, hi, rfl⟩ := List.getElem_of_mem ha
    obtain ⟨k, hk, rfl⟩ := List.getElem_of_mem hb
    rcases Nat.lt_trichotomy i k with c | c | c
    · have := hU k i hk c
      exact ⟨fun e => this.1 e.symm, fun e => this.2 e.symm⟩
    · subst c
      exact absurd rfl hab
    · exact hU i k hi c
  obtain ⟨x, hx⟩ := hdo_some (l := l) (by rintro rfl; simp at hl2)
  have hy : ∃ y ∈ l, y ≠ x := by
    by_cases c : l[0]'(by omega) = x
    · refine ⟨l[1]'(by omega), List.getElem_mem _, fun e => ?_⟩
      exact (hU 1 0 (by omega) (by omega)).1 (by rw [e, c])
    · exact ⟨_, List.getElem_mem _, c⟩
  refine Ev.step (fun n => by apply batonlaw17_ElectSays.l0.eq_2) ?_
  refine ev_ifn (by omega) (ev_c (head_f (by omega)) ?_)
  rw [hx]
  exact l2 hl hl2 hu hx hy l.length 0 ⟨⟨#[]⟩, ⟨#[]⟩, 0, 0, 0, 0⟩ (by omega) (.inr (by simp))
theorem l1 {l : List KV} {v : ByteArray} {rev : Int} (hl : l.length ≤ 20) {i : Nat} (hi : i < l.length)
    (hn : (∀ k, (hk : k < i) → l[i].f0 ≠ (l[k]'(by omega)).f0 ∧ l[i].f2 ≠ (l[k]'(by omega)).f2) → Ev (fun n => batonlaw17_ElectSays.l0 n l v rev ((i + 1 : Nat) : Int)) true) (d : Nat) : ∀ k : Nat, i = k + d → (∀ j, j < k → (hj : j < l.length) → l[i].f0 ≠ (l[j]'hj).f0 ∧ l[i].f2 ≠ (l[j]'hj).f2) →
    Ev (fun n => batonlaw17_ElectSays.l1 n l v rev (i : Int) (k : Int)) true := by
  induction d with
  | zero =>
    intro k hd hq
    refine Ev.step (fun n => by apply batonlaw17_ElectSays.l1.eq_2) ?_
    refine ev_ifn (by omega) ?_
    rw [Hist.nx (by omega)]
    exact hn (fun j hj => hq j (by omega) (by omega))
  | succ d ih =>
    intro k hd hq
    have hk : k < l.length := by omega
    refine Ev.step (fun n => by apply batonlaw17_ElectSays.l1.eq_2) ?_
    refine ev_if (by omega) (ev_if (by omega) (ev_if (by omega) (ev_if (by omega) (ev_if (by omega) ?_))))
    rw [Hist.rd hi, Hist.rd hk, Hist.nx (by omega)]
    by_cases c1 : l[i].f0 = l[k].f0
    · exact ev_if (by rw [c1]) (ev_b live (Ev.now _))
    refine ev_ifn (by rw [Hist.tli]; exact c1) ?_
    by_cases c2 : l[i].f2 = l[k].f2
    · exact ev_if c2 (ev_b live (Ev.now _))
    refine ev_ifn c2 (ih (k + 1) (by omega) ?_)
    intro j hj hjl
    by_cases c : j = k
    · subst c
      exact ⟨c1, c2⟩
    · exact hq j (by omega) hjl
theorem l0 {l : List KV} {v : ByteArray} {rev : Int} (hl : l.length ≤ 20) (hl2 : 2 ≤ l.length) (d : Nat) : ∀ i : Nat, l.length = i + d → (∀ i' k, (hi : i' < l.length) → i' < i → (hk : k < i') → l[i'].f0 ≠ (l[k]'(by omega)).f0 ∧ l[i'].f2 ≠ (l[k]'(by omega)).f2) → Ev (fun n => batonlaw17_ElectSays.l0 n l v rev (i : Int)) true := by
  induction d with
  | zero =>
    intro i hd hq
    obtain rfl : i = l.length := by omega
    exact main hl hl2 (fun i' k hi hk => hq i' k hi hi hk)
  | succ d ih =>
    intro i hd hq
    have hi : i < l.length := by omega
    refine Ev.step (fun n => by apply batonlaw17_ElectSays.l0.eq_2) ?_
    refine ev_if (by omega) ?_
    refine l1 hl hi (fun hn => ih (i + 1) (by omega) ?_) i 0 (by omega) (fun j hj _ => absurd hj (Nat.not_lt_zero _))
    intro i' k hi' h1 hk
    by_cases c : i' = i
    · subst c
      exact hn k hk
    · exact hq i' k hi' (by omega) hk
theorem pure_holds : Pure := by
  intro l v rev _ _ _
  refine Ev.rounds (g := fun n => batonlaw17_ElectSays.f n l v rev) ?_
  unfold batonlaw17_ElectSays.f
  refine ev_b (Hist.few_f (by decide) l) ?_
  by_cases h1 : Hist.few 20 l = true
  · have hl := Hist.few_len h1
    refine ev_if h1 ?_
    by_cases h2 : (l.length : Int) < 2
    · exact ev_if h2 (no l v rev)
    refine ev_ifn h2 ?_
    by_cases h3 : (v.size : Int) > 60
    · rw [decide_eq_true h3]
      exact no l v rev
    rw [decide_eq_false h3]
    refine Ev.step (fun n => by apply batonlaw17_ElectSays.j0.eq_2) ?_
    refine ev_ifn (by decide) ?_
    exact l0 (by omega) (by omega) l.length 0 (by omega) (fun i' k hi h _ => absurd h (Nat.not_lt_zero _))
  · exact ev_ifn h1 (no l v rev)
end Go.Proofs.Ytaebmmjhokjdbaa.PM.GElectSays
