/- Reading data: whatever the form reads at a type is a value of the printed kind: numbers, bools, strings, slices, structs, arrays of them. Plain lemmas, no program in sight. -/
import Derived.OpenShut
import Derived.ChangeArms
import Derived.Deep.Slices
import Derived.WideShapes
import Derived.Test.YtdehdhkhcilckaaV
namespace Go.Proofs.Ytdehdhkhcilckaa.Opens
open Go.RowKit Go.Proofs.YtdehdhkhcilckaaW.PrintWords
set_option linter.unusedVariables false

/-- Whatever reads as data at type t is of kind d, and good. -/
def Opens {α : Type} (P : Program) (t : TypeId) (d : Kd α) (good : α → Prop) : Prop :=
  ∀ {H : Type} (enc : TypeId × Value → H) (w : World) (base : Nat) (spare : Nat → Bool) (held : Bool) (fuel : Nat) (cs : List Value) (x : DataW H × List MemPlace),
    DataW.trod enc P w base spare held fuel t cs = some x → ∃ y : α, d.K w y cs ∧ good y

theorem Opens.int {P : Program} {t : TypeId} (k : IntKind) (ht : P.underlying t = some (.int k)) : Opens P t (Kd.int k) (fun x => (Lit.int k x).wf = true) := by
  intro H enc w base spare held fuel cs x h
  obtain ⟨n, rfl, _, hw⟩ := DataW.trod_int ht h
  exact ⟨n, rfl, hw⟩
theorem Opens.bool {P : Program} {t : TypeId} (ht : P.underlying t = some .bool) : Opens P t Kd.bool (fun _ => True) := by
  intro H enc w base spare held fuel cs x h
  obtain ⟨n, rfl, _⟩ := DataW.trod_bool ht h
  exact ⟨n, rfl, trivial⟩
theorem Opens.string {P : Program} {t : TypeId} (ht : P.underlying t = some .string) : Opens P t Kd.string (fun x => x.size ≤ maxLen) := by
  intro H enc w base spare held fuel cs x h
  obtain ⟨n, rfl, _, hs⟩ := DataW.trod_string ht h
  exact ⟨n, rfl, hs⟩
theorem Opens.imp {P : Program} {t : TypeId} {α : Type} {d : Kd α} {good good' : α → Prop} (h : Opens P t d good) (hi : ∀ x, good x → good' x) : Opens P t d good' := by
  intro H enc w base spare held fuel cs x hx
  obtain ⟨y, hk, hg⟩ := h enc w base spare held fuel cs x hx
  exact ⟨y, hk, hi y hg⟩

theorem Opens.slice {P : Program} {t e : TypeId} {α : Type} [Inhabited α] {d : Kd α} {good : α → Prop} (ht : P.underlying t = some (.slice e)) (hc : P.cellsOf e = d.sz) (he : Opens P e d good) :
    Opens P t (Kd.slice e d) (fun xs => xs.length ≤ maxLen ∧ ∀ x ∈ xs, good x) := by
  intro H enc w base spare held fuel cs x h
  rcases Go.Deep.open_slice ht h with ⟨rfl, _⟩ | ⟨a, len, cap, m, n, D, Pl, rfl, _, hl, hm, hmm, _, hx⟩
  · exact ⟨[], ⟨none, 0, rfl, Nat.le_refl _, Kd.C_nil d w⟩, Nat.zero_le _, fun x hx => by cases hx⟩
  · have hle : len ≤ m := by rw [hmm]; split <;> omega
    have hch : ∃ Y : Nat → α, ∀ i, i < len → (∃ c : List Value, c.length = d.sz ∧ d.K w (Y i) c ∧ ∀ j u, c[j]? = some u → w.cell? (a.add (i * d.sz + j)) = some u) ∧ good (Y i) := by
      obtain ⟨Y, hY⟩ := Go.Deep.choose_lt (α := α) (n := len) (p := fun i y => (∃ c : List Value, c.length = d.sz ∧ d.K w y c ∧ ∀ j u, c[j]? = some u → w.cell? (a.add (i * d.sz + j)) = some u) ∧ good y) (fun i hi => by
        obtain ⟨cs', h1, h2⟩ := hx i (by omega)
        obtain ⟨y, hk, hg⟩ := he enc w base spare held n cs' _ h2
        obtain ⟨_, hlen, hcell⟩ := World.cells?_some h1
        refine ⟨y, ⟨cs', by rw [hlen, hc], hk, fun j u hj => ?_⟩, hg⟩
        have hjl : j < P.cellsOf e := by rw [← hlen]; exact (List.getElem?_eq_some_iff.1 hj).1
        have h3 := hcell j hjl
        rw [Addr.add_add, hc] at h3
        rw [h3, hj])
      exact ⟨Y, hY⟩
    obtain ⟨Y, hY⟩ := hch
    have hlm : len ≤ maxLen := by omega
    refine ⟨(List.range len).map Y, ⟨some a, cap, by simp, by simpa using hl, ⟨by simp, by simpa [maxLen] using hlm, fun _ => ⟨a, rfl, fun j p hj => ?_⟩⟩⟩, by simpa using hlm, fun x hx => ?_⟩
    · have hjl : j < len := by
        have := (List.getElem?_eq_some_iff.1 hj).1
        simpa using this
      have hp : Y j = p := by
        rw [List.getElem?_map, List.getElem?_range hjl] at hj
        exact Option.some.inj hj
      subst hp
      exact (hY j hjl).1
    · obtain ⟨i, hi, rfl⟩ := List.mem_map.1 hx
      exact (hY i (List.mem_range.1 hi)).2

/-- Fields in line: of types ts. -/
def OpensF {α : Type} (P : Program) (ts : List TypeId) (d : Kd α) (good : α → Prop) : Prop :=
  ∀ {H : Type} (enc : TypeId × Value → H) (w : World) (base : Nat) (spare : Nat → Bool) (held : Bool) (fuel : Nat) (cs : List Value),
    cs.length = (ts.map P.cellsOf).sum →
    (∀ i t, ts[i]? = some t → ∃ x, DataW.trod enc P w base spare held fuel t ((cs.drop ((ts.take i).map P.cellsOf).sum).take (P.cellsOf t)) = some x) → ∃ y : α, d.K w y cs ∧ good y
theorem OpensF.one {P : Program} {t : TypeId} {α : Type} {d : Kd α} {good : α → Prop} (h : Opens P t d good) : OpensF P [t] d good := by
  intro H enc w base spare held fuel cs hl hf
  obtain ⟨x, hx⟩ := hf 0 t rfl
  have hl' : cs.length = P.cellsOf t := by simpa using hl
  have e : (cs.drop ((([t] : List TypeId).take 0).map P.cellsOf).sum).take (P.cellsOf t) = cs := by
    simp only [List.take_zero, List.map_nil, List.sum_nil, List.drop_zero]
    rw [← hl', List.take_length]
  rw [e] at hx
  exact h enc w base spare held fuel cs x hx
theorem OpensF.cons {P : Program} {t : TypeId} {ts : List TypeId} {α β : Type} {d : Kd α} {d' : Kd β} {good : α → Prop} {good' : β → Prop} (h : Opens P t d good) (h' : OpensF P ts d' good') : OpensF P (t :: ts) (Kd.pair d d') (fun x => good x.1 ∧ good' x.2) := by
  intro H enc w base spare held fuel cs hl hf
  have hl' : cs.length = P.cellsOf t + (ts.map P.cellsOf).sum := by simpa using hl
  obtain ⟨x, hx⟩ := hf 0 t rfl
  simp only [List.take_zero, List.map_nil, List.sum_nil, List.drop_zero] at hx
  obtain ⟨y, hk, hg⟩ := h enc w base spare held fuel _ x hx
  obtain ⟨z, hk', hg'⟩ := h' enc w base spare held fuel (cs.drop (P.cellsOf t)) (by rw [List.length_drop]; omega) (fun i u hu => by
    obtain ⟨x', hx'⟩ := hf (i + 1) u (by simpa using hu)
    refine ⟨x', ?_⟩
    rw [List.drop_drop]
    simpa [List.take_succ_cons] using hx')
  exact ⟨(y, z), ⟨_, _, (List.take_append_drop _ _).symm, hk, hk'⟩, hg, hg'⟩
/-- A type's fields (or an array's elements) lie in line. -/
def lineB (P : Program) (t : TypeId) (ts : List TypeId) : Bool :=
  decide (P.cellsOf t = (ts.map P.cellsOf).sum) &&
  match P.underlying t with
  | some (.struct fs) => decide (fs.toList.map (fun f => f.type) = ts) && decide (fs.toList.map (fun f => f.offset) = (List.range ts.length).map fun i => ((ts.take i).map P.cellsOf).sum)
  | some (.array n e) => decide (ts = List.replicate n e)
  | _ => false
theorem sum_take_replicate (n i c : Nat) (h : i ≤ n) : ((List.replicate n c).take i).sum = i * c := by
  rw [List.take_replicate, Nat.min_eq_left h]
  simp
theorem OpensF.line {P : Program} {t : TypeId} {ts : List TypeId} {α β : Type} {d : Kd α} {good : α → Prop} (hl : lineB P t ts = true) (h : OpensF P ts d good) (f : β → α) (g : α → β) (hfg : ∀ x, f (g x) = x) : Opens P t (Kd.iso d f) (fun b => good (f b)) := by
  intro H enc w base spare held fuel cs x hx
  unfold lineB at hl
  rw [Bool.and_eq_true, decide_eq_true_eq] at hl
  obtain ⟨hsz, hl⟩ := hl
  suffices hs : ∃ y : α, d.K w y cs ∧ good y by
    obtain ⟨y, hk, hg⟩ := hs
    exact ⟨g y, by show d.K w (f (g y)) cs; rw [hfg]; exact hk, by show good (f (g y)); rw [hfg]; exact hg⟩
  cases hu : P.underlying t with
  | none => rw [hu] at hl; simp at hl
  | some ty =>
    rw [hu] at hl
    cases ty with
    | struct fs =>
      simp only [Bool.and_eq_true, decide_eq_true_eq] at hl
      obtain ⟨ht, ho⟩ := hl
      obtain ⟨xs, n, _, _, hlen, hxl, hf⟩ := DataW.trod_struct hu hx
      refine h enc w base spare held n cs (by rw [hlen, hsz]) (fun i u hiu => ?_)
      have hi : i < ts.length := (List.getElem?_eq_some_iff.1 hiu).1
      have hfs : fs.toList.length = ts.length := by rw [← ht]; simp
      have hif : i < fs.size := by have := hfs; simp at this; omega
      have hq := hf i fs[i] (by simp [hif])
      have et : fs[i].type = u := by
        have : (fs.toList.map (fun f => f.type))[i]? = some u := by rw [ht]; exact hiu
        simpa [hif] using this
      have eo : fs[i].offset = ((ts.take i).map P.cellsOf).sum := by
        have : (fs.toList.map (fun f => f.offset))[i]? = some ((ts.take i).map P.cellsOf).sum := by rw [ho]; simp [hi]
        simpa [hif] using this
      rw [et, eo] at hq
      exact ⟨xs[i]'(by omega), by rw [hq]; simp⟩
    | array n e =>
      simp only [decide_eq_true_eq] at hl
      subst hl
      obtain ⟨xs, m, _, _, hlen, hxl, hf⟩ := DataW.trod_array hu hx
      refine h enc w base spare held m cs (by rw [hlen, hsz]) (fun i u hiu => ?_)
      have hi : i < n := by simpa using (List.getElem?_eq_some_iff.1 hiu).1
      have eu : e = u := by
        rw [List.getElem?_replicate, if_pos hi] at hiu
        exact Option.some.inj hiu
      subst eu
      have hq := hf i hi
      rw [List.map_take, List.map_replicate, sum_take_replicate _ _ _ (Nat.le_of_lt hi)]
      exact ⟨xs[i]'(by omega), by rw [hq]; simp⟩
    | _ => simp at hl
/-- An argument's value: a struct's or an array's. -/
theorem okWide_line {P : Program} {w : World} {r : Reach} {base : Nat} {t : TypeId} {ts : List TypeId} {v : Value} (hl : lineB P t ts = true) (h : Value.okWide P w r base t v) : ∃ cs, v = .agg cs := by
  unfold lineB at hl
  rw [Bool.and_eq_true] at hl
  replace hl := hl.2
  cases hu : P.underlying t with
  | none => rw [hu] at hl; simp at hl
  | some ty =>
    rw [hu] at hl
    cases ty with
    | struct fs =>
      obtain ⟨cs, h1, _⟩ := Go.WideShapes.okWide_struct hu h
      exact ⟨cs, h1⟩
    | array n e =>
      simp only [Value.okWide, hu] at h
      obtain ⟨cs, h1, _⟩ := h
      exact ⟨cs, h1⟩
    | _ => simp at hl
end Go.Proofs.Ytdehdhkhcilckaa.Opens
